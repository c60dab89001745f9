/- Plain laws of what the reference computes: no program. No condition. -/
import Derived.Test.YtcebjipekodmpaaDoorMRootPlain
namespace Go.Proofs.YtcebjipekodmpaaDoor
theorem floorF_ediv (n d : Int) (hd : 0 < d) : floorF n d = n / d := by
  unfold floorF
  exact Int.fdiv_eq_ediv_of_nonneg n (by omega)
theorem tmod_sign (n d : Int) (hd : 0 < d) : n.tmod d < 0 ↔ n.tmod d ≠ 0 ∧ (n < 0 ↔ ¬ d < 0) := by
  by_cases hn : n < 0
  · have h := Int.tmod_nonneg d (a := -n) (by omega)
    rw [Int.neg_tmod] at h
    constructor
    · intro h1; exact ⟨by omega, by omega⟩
    · intro h1; have := h1.1; omega
  · have h := Int.tmod_nonneg d (a := n) (by omega)
    constructor
    · intro h1; omega
    · intro h1; have := h1.2; omega
theorem floorF_low (n d : Int) (hd : 0 < d) (h : n.tmod d < 0) : n.tdiv d - 1 = floorF n d := by
  rw [floorF_eq n d (by omega), if_pos ((tmod_sign n d hd).1 h)]
theorem floorF_high (n d : Int) (hd : 0 < d) (h : ¬ n.tmod d < 0) : n.tdiv d = floorF n d := by
  rw [floorF_eq n d (by omega), if_neg (fun h1 => h ((tmod_sign n d hd).2 h1))]
theorem prod_bd (a b A B : Int) (h1 : -A ≤ a) (h2 : a ≤ A) (h3 : -B ≤ b) (h4 : b ≤ B) : -(A * B) ≤ a * b ∧ a * b ≤ A * B := by
  have e1 : (a * b).natAbs = a.natAbs * b.natAbs := Int.natAbs_mul a b
  have e2 : a.natAbs * b.natAbs ≤ A.natAbs * B.natAbs := Nat.mul_le_mul (by omega) (by omega)
  have e3 : (A * B).natAbs = A.natAbs * B.natAbs := Int.natAbs_mul A B
  have e4 : 0 ≤ A * B := Int.mul_nonneg (by omega) (by omega)
  omega
theorem mul_ref (x y W P : Int) (hW : W = x / 1000000) (hP : P = x - W * 1000000) : W * y + P * y / 1000000 = x * y / 1000000 := by
  have e : x * y = P * y + W * y * 1000000 := by
    have : x = P + W * 1000000 := by omega
    rw [this, Int.add_mul, Int.mul_right_comm]
  rw [e, Int.add_mul_ediv_right _ _ (by omega)]
  omega
theorem div_ref (x y : Int) : floorF (-x * 1000000) (-y) = floorF (x * 1000000) y := by
  unfold floorF
  rw [Int.neg_mul, Int.neg_fdiv_neg]
end Go.Proofs.YtcebjipekodmpaaDoor
