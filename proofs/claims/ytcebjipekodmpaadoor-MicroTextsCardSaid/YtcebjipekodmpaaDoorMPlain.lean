/- Plain laws of numbers within a limit: no program. No condition. -/
import Derived.IntWalk
namespace Go.Proofs.YtcebjipekodmpaaDoor
def clampF (v : Int) : Int := max (-1000000000000) (min v 1000000000000)
theorem clampF_bd (v : Int) : -1000000000000 ≤ clampF v ∧ clampF v ≤ 1000000000000 := by unfold clampF; omega
theorem clampF_id (v : Int) (h1 : -1000000000000 ≤ v) (h2 : v ≤ 1000000000000) : clampF v = v := by unfold clampF; omega
theorem clampF_mono (v w : Int) (h : v ≤ w) : clampF v ≤ clampF w := by unfold clampF; omega
theorem clampF_clampF (v : Int) : clampF (clampF v) = clampF v := clampF_id _ (clampF_bd v).1 (clampF_bd v).2
theorem clampF_neg (v : Int) : clampF (-v) = -clampF v := by unfold clampF; omega
def addF (a b : Int) : Int := clampF (clampF a + clampF b)
def subF (a b : Int) : Int := clampF (clampF a - clampF b)
def mulF (a b : Int) : Int := clampF (clampF a * clampF b / 1000000)
/-- The quotient rounded down. -/
def floorF (n d : Int) : Int := n.fdiv d
def divF (a b : Int) : Int := if clampF b = 0 then 0 else clampF (floorF (clampF a * 1000000) (clampF b))
def divE (b : Int) : Int := if clampF b = 0 then 12 else 0
theorem floorF_eq (n d : Int) (hd : d ≠ 0) : floorF n d = if n.tmod d ≠ 0 ∧ (n < 0 ↔ ¬ d < 0) then n.tdiv d - 1 else n.tdiv d := by
  unfold floorF
  rw [Int.fdiv_eq_tdiv]
  by_cases h : d ∣ n
  · rw [if_pos h, Int.tmod_eq_zero_of_dvd h]
    simp
  · have h1 : n.tmod d ≠ 0 := fun e => h (Int.dvd_of_tmod_eq_zero e)
    rw [if_neg h]
    by_cases h2 : n < 0 <;> by_cases h3 : d < 0
    · rw [if_neg (by omega), if_neg (by omega), Int.sign_eq_neg_one_of_neg h3, if_neg (by simp [h2, h3])]; omega
    · rw [if_neg (by omega), if_pos (by omega), Int.sign_eq_one_of_pos (by omega), if_pos (by simp [h1, h2, h3])]
    · rw [if_pos (by omega), if_neg (by omega), if_pos (by simp [h1, h2, h3])]
    · rw [if_pos (by omega), if_pos (by omega), if_neg (by simp [h2, h3])]; omega
theorem prod_same (a b : Int) (X Y : Nat) (hX : a.natAbs = X) (hY : b.natAbs = Y) (h : a < 0 ↔ b < 0) : a * b = ((X * Y : Nat) : Int) := by
  have h1 : (a * b).natAbs = X * Y := by rw [Int.natAbs_mul, hX, hY]
  have h2 : 0 ≤ a * b := by
    by_cases ha : a < 0
    · exact Int.mul_nonneg_of_nonpos_of_nonpos (by omega) (by have := h.1 ha; omega)
    · exact Int.mul_nonneg (by omega) (by by_cases hb : b < 0 <;> simp_all)
  omega
theorem prod_diff (a b : Int) (X Y : Nat) (hX : a.natAbs = X) (hY : b.natAbs = Y) (h : ¬ (a < 0 ↔ b < 0)) : a * b = -((X * Y : Nat) : Int) := by
  have h1 : (a * b).natAbs = X * Y := by rw [Int.natAbs_mul, hX, hY]
  have h2 : a * b ≤ 0 := by
    by_cases ha : a < 0
    · exact Int.mul_nonpos_of_nonpos_of_nonneg (by omega) (by by_cases hb : b < 0 <;> simp_all)
    · exact Int.mul_nonpos_of_nonneg_of_nonpos (by omega) (by by_cases hb : b < 0 <;> simp_all <;> omega)
  omega
theorem natAbs_clamp (a : Int) : (clampF a).natAbs ≤ 1000000000000 := by have := clampF_bd a; omega
theorem mulF_same (a b : Int) (X Y q : Nat) (hX : (clampF a).natAbs = X) (hY : (clampF b).natAbs = Y) (h : clampF a < 0 ↔ clampF b < 0) (hq : X * Y / 1000000 = q) : mulF a b = clampF q := by
  unfold mulF
  rw [prod_same _ _ X Y hX hY h]
  congr 1
  omega
theorem mulF_diff0 (a b : Int) (X Y q : Nat) (hX : (clampF a).natAbs = X) (hY : (clampF b).natAbs = Y) (h : ¬ (clampF a < 0 ↔ clampF b < 0)) (hq : X * Y / 1000000 = q) (hr : X * Y % 1000000 = 0) : mulF a b = clampF (-(q : Int)) := by
  unfold mulF
  rw [prod_diff _ _ X Y hX hY h]
  congr 1
  omega
theorem mulF_diff1 (a b : Int) (X Y q : Nat) (hX : (clampF a).natAbs = X) (hY : (clampF b).natAbs = Y) (h : ¬ (clampF a < 0 ↔ clampF b < 0)) (hq : X * Y / 1000000 = q) (hr : 0 < X * Y % 1000000) : mulF a b = clampF (-((q : Int) + 1)) := by
  unfold mulF
  rw [prod_diff _ _ X Y hX hY h]
  congr 1
  omega
theorem tdiv_bd (n d : Int) (h0 : -1000000000000000000 ≤ n) (h1 : n ≤ 1000000000000000000) : -1000000000000000000 ≤ n.tdiv d ∧ n.tdiv d ≤ 1000000000000000000 := by
  have h := Int.natAbs_tdiv n d
  have h2 : n.natAbs / d.natAbs ≤ n.natAbs := Nat.div_le_self _ _
  have h3 : (n.tdiv d).natAbs ≤ n.natAbs := by rw [h]; exact h2
  omega
theorem floorF_bd (n d : Int) (hd : d ≠ 0) (h0 : -1000000000000000000 ≤ n) (h1 : n ≤ 1000000000000000000) : -1000000000000000001 ≤ floorF n d ∧ floorF n d ≤ 1000000000000000000 := by
  have h := tdiv_bd n d h0 h1
  rw [floorF_eq n d hd]
  split <;> omega
theorem floorF_yes (n d : Int) (hd : d ≠ 0) (h : ¬ n.tmod d = 0) (h2 : (!decide (n < 0) == decide (d < 0)) = true) : n.tdiv d - 1 = floorF n d := by
  rw [floorF_eq n d hd, if_pos]
  by_cases a : n < 0 <;> by_cases b : d < 0 <;> simp_all
theorem floorF_no (n d : Int) (hd : d ≠ 0) (h2 : n.tmod d = 0 ∨ (!decide (n < 0) == decide (d < 0)) = false) : n.tdiv d = floorF n d := by
  rw [floorF_eq n d hd, if_neg]
  by_cases a : n < 0 <;> by_cases b : d < 0 <;> simp_all
end Go.Proofs.YtcebjipekodmpaaDoor
