/- Plain law of whole roots: no program. No condition. -/
import Derived.Test.YtcebjipekodmpaaDoorMPlain
namespace Go.Proofs.YtcebjipekodmpaaDoor
/-- The greatest number whose square is at most n. -/
def isq : Nat → Nat
  | 0 => 0
  | n + 1 => if (isq n + 1) * (isq n + 1) ≤ n + 1 then isq n + 1 else isq n
theorem isq_spec : ∀ n, isq n * isq n ≤ n ∧ n < (isq n + 1) * (isq n + 1)
  | 0 => by decide
  | n + 1 => by
    obtain ⟨h1, h2⟩ := isq_spec n
    unfold isq
    generalize isq n = r at *
    by_cases h : (r + 1) * (r + 1) ≤ n + 1
    · rw [if_pos h]
      refine ⟨h, ?_⟩
      have e : (r + 1 + 1) * (r + 1 + 1) = (r + 1) * (r + 1) + 2 * r + 3 := by
        simp only [Nat.mul_add, Nat.add_mul]; omega
      omega
    · rw [if_neg h]
      omega
theorem sq_lt {a b : Nat} (h : a * a < b * b) : a < b := by
  rcases Nat.lt_or_ge a b with h1 | h1
  · exact h1
  · have := Nat.mul_le_mul h1 h1
    omega
theorem isq_of (n r : Nat) (h1 : r * r ≤ n) (h2 : n < (r + 1) * (r + 1)) : r = isq n := by
  obtain ⟨a1, a2⟩ := isq_spec n
  have b1 : r < isq n + 1 := sq_lt (by omega)
  have b2 : isq n < r + 1 := sq_lt (by omega)
  omega
theorem sq_le_bd (k N M : Nat) (h : k * k ≤ N) (hN : N < (M + 1) * (M + 1)) : k ≤ M := by
  have : k < M + 1 := sq_lt (by omega)
  omega
theorem isq_mono (m n : Nat) (h : m ≤ n) : isq m ≤ isq n := by
  obtain ⟨a1, _⟩ := isq_spec m
  obtain ⟨_, b2⟩ := isq_spec n
  have : isq m < isq n + 1 := sq_lt (by omega)
  omega
def rootF (a : Int) : Int := if clampF a < 0 then 0 else (isq (clampF a * 1000000).toNat : Int)
def rootE (a : Int) : Int := if clampF a < 0 then 2 else 0
end Go.Proofs.YtcebjipekodmpaaDoor
