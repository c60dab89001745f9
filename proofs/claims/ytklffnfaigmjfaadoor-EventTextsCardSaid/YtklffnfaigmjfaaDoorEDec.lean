/- Plain laws of decimal numerals: no program. No condition. -/
import Derived.Test.YtklffnfaigmjfaaDoorMTextPlain
namespace Go.Proofs.YtklffnfaigmjfaaDoor
open Go
theorem digit_isD (n : Nat) (h : n < 10) : isD (UInt8.ofNat (48 + n)) = true ∧ (UInt8.ofNat (48 + n)).toNat = 48 + n := by
  have h1 : (UInt8.ofNat (48 + n)).toNat = 48 + n := by rw [UInt8.toNat_ofNat']; omega
  exact ⟨by simp only [isD, h1]; simp; omega, h1⟩
theorem dd_small (n : Nat) (h : n < 10) : Lib.decDigits n = [UInt8.ofNat (48 + n)] := by rw [Lib.decDigits, dif_pos h]
theorem dd_big (n : Nat) (h : ¬ n < 10) : Lib.decDigits n = Lib.decDigits (n / 10) ++ [UInt8.ofNat (48 + n % 10)] := by
  conv => lhs; rw [Lib.decDigits, dif_neg h]
theorem dd_all (n : Nat) : (Lib.decDigits n).all isD = true := by
  induction n using Nat.strongRecOn with
  | ind n ih =>
    by_cases h : n < 10
    · rw [dd_small n h]; simp only [List.all_cons, List.all_nil, Bool.and_true]; exact (digit_isD n h).1
    · rw [dd_big n h, List.all_append, ih (n / 10) (by omega)]; simp only [List.all_cons, List.all_nil, Bool.and_true, Bool.true_and]; exact (digit_isD (n % 10) (by omega)).1
theorem dd_val (n : Nat) : decV 0 (Lib.decDigits n) = n := by
  induction n using Nat.strongRecOn with
  | ind n ih =>
    by_cases h : n < 10
    · rw [dd_small n h, decV_cons, decV_nil, (digit_isD n h).2]; omega
    · rw [dd_big n h, decV_app, ih (n / 10) (by omega), decV_cons, decV_nil, (digit_isD (n % 10) (by omega)).2]; omega
theorem dd_len (k : Nat) : ∀ n, n < 10 ^ (k + 1) → (Lib.decDigits n).length ≤ k + 1 := by
  induction k with
  | zero => intro n h; rw [dd_small n (by simpa using h)]; simp
  | succ k ih =>
    intro n h
    by_cases hn : n < 10
    · rw [dd_small n hn]; simp
    · rw [dd_big n hn]
      have h2 : n / 10 < 10 ^ (k + 1) := by
        rw [Nat.pow_succ] at h
        exact Nat.div_lt_of_lt_mul (by omega)
      have := ih (n / 10) h2
      simp
      omega
theorem dd_ne (n : Nat) : Lib.decDigits n ≠ [] := by
  by_cases h : n < 10
  · rw [dd_small n h]; simp
  · rw [dd_big n h]; simp
theorem dd_head (n : Nat) (h1 : 1 ≤ n) : ∃ c r, Lib.decDigits n = c :: r ∧ c ≠ 48 := by
  induction n using Nat.strongRecOn with
  | ind n ih =>
    by_cases h : n < 10
    · refine ⟨_, _, dd_small n h, ?_⟩
      intro e
      have := (digit_isD n h).2
      rw [e] at this
      have e2 : (48 : UInt8).toNat = 48 := rfl
      omega
    · obtain ⟨c, r, hc, hne⟩ := ih (n / 10) (by omega) (by omega)
      exact ⟨c, r ++ [UInt8.ofNat (48 + n % 10)], by rw [dd_big n h, hc]; rfl, hne⟩
end Go.Proofs.YtklffnfaigmjfaaDoor
