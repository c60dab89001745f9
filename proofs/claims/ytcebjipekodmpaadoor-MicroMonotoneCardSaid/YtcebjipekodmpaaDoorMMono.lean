/- The law MicroMonotone, walked: it returns true. -/
import Derived.Test.YtcebjipekodmpaaDoorMRoots
namespace Go.Proofs.YtcebjipekodmpaaDoor
open Go.RowKit
theorem add_mono (x y c : Int) (h : x ≤ y) : addF x c ≤ addF y c := by unfold addF clampF; omega
theorem sub_mono (x y c : Int) (h : x ≤ y) : subF x c ≤ subF y c := by unfold subF clampF; omega
theorem mul_mono (x y k : Int) (h : x ≤ y) (hk : 0 ≤ clampF k) : mulF x k ≤ mulF y k := by
  unfold mulF
  have h1 := Int.mul_le_mul_of_nonneg_right (clampF_mono x y h) hk
  exact clampF_mono _ _ (Int.ediv_le_ediv (by omega) h1)
theorem div_mono (x y k : Int) (h : x ≤ y) (hk : 0 ≤ clampF k) : divF x k ≤ divF y k := by
  unfold divF
  have h1 := clampF_mono x y h
  split
  · omega
  · rw [floorF_ediv _ _ (by omega), floorF_ediv _ _ (by omega)]
    exact clampF_mono _ _ (Int.ediv_le_ediv (by omega) (by omega))
theorem root_mono (x y : Int) (h : x ≤ y) (h0 : 0 ≤ x) : rootF x ≤ rootF y := by
  unfold rootF
  have h1 := clampF_mono x y h
  have h2 := clampF_mono 0 x h0
  rw [clampF_id 0 (by omega) (by omega)] at h2
  rw [if_neg (by omega), if_neg (by omega)]
  have := isq_mono (clampF x * 1000000).toNat (clampF y * 1000000).toNat (by omega)
  omega
set_option maxRecDepth 100000 in
set_option maxHeartbeats 4000000 in
theorem mono_walk (w : World) (a : Int) (_wa : (Lit.int .i64 a).wf = true) (b : Int) (_wb : (Lit.int .i64 b).wf = true) (c : Int) (_wc : (Lit.int .i64 c).wf = true) (htab : Lib.TabIs Tryd.prog w "internal/strconv.uint64pow10" .u64 Lib.pow10Tab) :
    Calls Tryd.prog 8 #[.int .i64 a, .int .i64 b, .int .i64 c] w fun e w' => e = .returned (.bool true) ∧ Below w.heap.size w w' := by
  have HT := hide htab
  clear htab
  obtain ⟨x, hx⟩ : ∃ x, min a b = x := ⟨_, rfl⟩
  obtain ⟨y, hy⟩ : ∃ y, max a b = y := ⟨_, rfl⟩
  have hxy : x ≤ y := by omega
  obtain ⟨x0, hx0⟩ : ∃ x0, max x 0 = x0 := ⟨_, rfl⟩
  obtain ⟨y0, hy0⟩ : ∃ y0, max y 0 = y0 := ⟨_, rfl⟩
  obtain ⟨kc, HC, k1, k2⟩ : ∃ k, Hid (clampF c = k) ∧ -1000000000000 ≤ k ∧ k ≤ 1000000000000 := ⟨_, hide rfl, (clampF_bd c).1, (clampF_bd c).2⟩
  obtain ⟨cx, HCX⟩ : ∃ z, Hid (clampF x = z) := ⟨_, hide rfl⟩
  obtain ⟨cy, HCY⟩ : ∃ z, Hid (clampF y = z) := ⟨_, hide rfl⟩
  obtain ⟨ax, HAX⟩ : ∃ z, Hid (addF x c = z) := ⟨_, hide rfl⟩
  obtain ⟨ay, HAY⟩ : ∃ z, Hid (addF y c = z) := ⟨_, hide rfl⟩
  obtain ⟨sx, HSX⟩ : ∃ z, Hid (subF x c = z) := ⟨_, hide rfl⟩
  obtain ⟨sy, HSY⟩ : ∃ z, Hid (subF y c = z) := ⟨_, hide rfl⟩
  obtain ⟨r, HR⟩ : ∃ z, Hid (rootF x0 = z) := ⟨_, hide rfl⟩
  obtain ⟨s, HS⟩ : ∃ z, Hid (rootF y0 = z) := ⟨_, hide rfl⟩
  have HR0 := Lib.hid (rootE_zero x0 (by omega))
  have HS0 := Lib.hid (rootE_zero y0 (by omega))
  have g1 : cx ≤ cy := by rw [← unhide HCX, ← unhide HCY]; exact clampF_mono x y hxy
  have g2 : ax ≤ ay := by rw [← unhide HAX, ← unhide HAY]; exact add_mono x y c hxy
  have g3 : sx ≤ sy := by rw [← unhide HSX, ← unhide HSY]; exact sub_mono x y c hxy
  have g4 : r ≤ s := by rw [← unhide HR, ← unhide HS]; exact root_mono x0 y0 (by omega) (by omega)
  by_cases hn : kc < 0
  · obtain ⟨K, hK, K1, K2⟩ : ∃ K, -kc = K ∧ 0 ≤ K ∧ K ≤ 1000000000000 := ⟨_, rfl, by omega, by omega⟩
    have hcK : clampF K = K := clampF_id K (by omega) K2
    obtain ⟨p, HP⟩ : ∃ z, Hid (divF x K = z) := ⟨_, hide rfl⟩
    obtain ⟨q, HQ⟩ : ∃ z, Hid (divF y K = z) := ⟨_, hide rfl⟩
    obtain ⟨mx, HMX⟩ : ∃ z, Hid (mulF x K = z) := ⟨_, hide rfl⟩
    obtain ⟨my, HMY⟩ : ∃ z, Hid (mulF y K = z) := ⟨_, hide rfl⟩
    have g5 : mx ≤ my := by rw [← unhide HMX, ← unhide HMY]; exact mul_mono x y K hxy (by omega)
    have g6 : p ≤ q := by rw [← unhide HP, ← unhide HQ]; exact div_mono x y K hxy (by omega)
    by_cases h0 : K = 0
    · have HE : Hid (divE K = 12) := hide (by unfold divE; rw [if_pos (by omega)])
      have t0 : (K != 0) = false := by simpa using h0
      have t1 : (K == 0) = true := by simpa using h0
      clear h0 hcK
      go_enter Tryd.func8, Tryd.ntmps8
      go_wp2_with fail
      refine (clamp_at _ c kc (unhide HC)).mono ?_; rintro e w' ⟨rfl, rfl⟩; go_wp2_with fail
      refine (div_at _ x K p 12 (unhide HP) (unhide HE)).mono ?_; rintro e w' ⟨rfl, rfl⟩; go_wp2_with fail
      refine (div_at _ y K q 12 (unhide HQ) (unhide HE)).mono ?_; rintro e w' ⟨rfl, rfl⟩; go_wp2_with fail
      refine (root_at _ x0 r 0 (unhide HR) (unhide HR0)).mono ?_; rintro e w' ⟨rfl, rfl⟩; go_wp2_with fail
      refine (root_at _ y0 s 0 (unhide HS) (unhide HS0)).mono ?_; rintro e w' ⟨rfl, rfl⟩; go_wp2_with fail
      refine (clamp_at _ x cx (unhide HCX)).mono ?_; rintro e w' ⟨rfl, rfl⟩; go_wp2_with fail
      refine (clamp_at _ y cy (unhide HCY)).mono ?_; rintro e w' ⟨rfl, rfl⟩; go_wp2_with fail
      refine (add_at _ x c ax (unhide HAX)).mono ?_; rintro e w' ⟨rfl, rfl⟩; go_wp2_with fail
      refine (add_at _ y c ay (unhide HAY)).mono ?_; rintro e w' ⟨rfl, rfl⟩; go_wp2_with fail
      refine (sub_at _ x c sx (unhide HSX)).mono ?_; rintro e w' ⟨rfl, rfl⟩; go_wp2_with fail
      refine (sub_at _ y c sy (unhide HSY)).mono ?_; rintro e w' ⟨rfl, rfl⟩; go_wp2_with fail
      refine (mul_at _ x K mx (unhide HMX)).mono ?_; rintro e w' ⟨rfl, n1, rfl⟩; go_wp2_with fail
      refine (mul_at _ y K my (unhide HMY)).mono ?_; rintro e w' ⟨rfl, n2, rfl⟩; go_wp2_with fail
      refine (awake_drew w _ (unhide HT)).mono ?_
      rintro e w2 ⟨rfl, hb⟩
      have HB := hide hb
      clear hb
      go_wp2_with fail
      go_ret
      exact ⟨rfl, unhide HB⟩
    · have HE : Hid (divE K = 0) := hide (by unfold divE; rw [if_neg (by omega)])
      have t0 : (K != 0) = true := by simpa using h0
      have t1 : (K == 0) = false := by simpa using h0
      clear h0 hcK
      go_enter Tryd.func8, Tryd.ntmps8
      go_wp2_with fail
      refine (clamp_at _ c kc (unhide HC)).mono ?_; rintro e w' ⟨rfl, rfl⟩; go_wp2_with fail
      refine (div_at _ x K p 0 (unhide HP) (unhide HE)).mono ?_; rintro e w' ⟨rfl, rfl⟩; go_wp2_with fail
      refine (div_at _ y K q 0 (unhide HQ) (unhide HE)).mono ?_; rintro e w' ⟨rfl, rfl⟩; go_wp2_with fail
      refine (root_at _ x0 r 0 (unhide HR) (unhide HR0)).mono ?_; rintro e w' ⟨rfl, rfl⟩; go_wp2_with fail
      refine (root_at _ y0 s 0 (unhide HS) (unhide HS0)).mono ?_; rintro e w' ⟨rfl, rfl⟩; go_wp2_with fail
      refine (clamp_at _ x cx (unhide HCX)).mono ?_; rintro e w' ⟨rfl, rfl⟩; go_wp2_with fail
      refine (clamp_at _ y cy (unhide HCY)).mono ?_; rintro e w' ⟨rfl, rfl⟩; go_wp2_with fail
      refine (add_at _ x c ax (unhide HAX)).mono ?_; rintro e w' ⟨rfl, rfl⟩; go_wp2_with fail
      refine (add_at _ y c ay (unhide HAY)).mono ?_; rintro e w' ⟨rfl, rfl⟩; go_wp2_with fail
      refine (sub_at _ x c sx (unhide HSX)).mono ?_; rintro e w' ⟨rfl, rfl⟩; go_wp2_with fail
      refine (sub_at _ y c sy (unhide HSY)).mono ?_; rintro e w' ⟨rfl, rfl⟩; go_wp2_with fail
      refine (mul_at _ x K mx (unhide HMX)).mono ?_; rintro e w' ⟨rfl, n1, rfl⟩; go_wp2_with fail
      refine (mul_at _ y K my (unhide HMY)).mono ?_; rintro e w' ⟨rfl, n2, rfl⟩; go_wp2_with fail
      refine (awake_drew w _ (unhide HT)).mono ?_
      rintro e w2 ⟨rfl, hb⟩
      have HB := hide hb
      clear hb
      go_wp2_with fail
      go_ret
      exact ⟨rfl, unhide HB⟩
  · obtain ⟨K, hK, K1, K2⟩ : ∃ K, kc = K ∧ 0 ≤ K ∧ K ≤ 1000000000000 := ⟨_, rfl, by omega, by omega⟩
    subst hK
    have hcK : clampF kc = kc := clampF_id kc (by omega) K2
    obtain ⟨p, HP⟩ : ∃ z, Hid (divF x kc = z) := ⟨_, hide rfl⟩
    obtain ⟨q, HQ⟩ : ∃ z, Hid (divF y kc = z) := ⟨_, hide rfl⟩
    obtain ⟨mx, HMX⟩ : ∃ z, Hid (mulF x kc = z) := ⟨_, hide rfl⟩
    obtain ⟨my, HMY⟩ : ∃ z, Hid (mulF y kc = z) := ⟨_, hide rfl⟩
    have g5 : mx ≤ my := by rw [← unhide HMX, ← unhide HMY]; exact mul_mono x y kc hxy (by omega)
    have g6 : p ≤ q := by rw [← unhide HP, ← unhide HQ]; exact div_mono x y kc hxy (by omega)
    by_cases h0 : kc = 0
    · have HE : Hid (divE kc = 12) := hide (by unfold divE; rw [if_pos (by omega)])
      have t0 : (kc != 0) = false := by simpa using h0
      have t1 : (kc == 0) = true := by simpa using h0
      clear h0 hcK
      go_enter Tryd.func8, Tryd.ntmps8
      go_wp2_with fail
      refine (clamp_at _ c kc (unhide HC)).mono ?_; rintro e w' ⟨rfl, rfl⟩; go_wp2_with fail
      refine (div_at _ x kc p 12 (unhide HP) (unhide HE)).mono ?_; rintro e w' ⟨rfl, rfl⟩; go_wp2_with fail
      refine (div_at _ y kc q 12 (unhide HQ) (unhide HE)).mono ?_; rintro e w' ⟨rfl, rfl⟩; go_wp2_with fail
      refine (root_at _ x0 r 0 (unhide HR) (unhide HR0)).mono ?_; rintro e w' ⟨rfl, rfl⟩; go_wp2_with fail
      refine (root_at _ y0 s 0 (unhide HS) (unhide HS0)).mono ?_; rintro e w' ⟨rfl, rfl⟩; go_wp2_with fail
      refine (clamp_at _ x cx (unhide HCX)).mono ?_; rintro e w' ⟨rfl, rfl⟩; go_wp2_with fail
      refine (clamp_at _ y cy (unhide HCY)).mono ?_; rintro e w' ⟨rfl, rfl⟩; go_wp2_with fail
      refine (add_at _ x c ax (unhide HAX)).mono ?_; rintro e w' ⟨rfl, rfl⟩; go_wp2_with fail
      refine (add_at _ y c ay (unhide HAY)).mono ?_; rintro e w' ⟨rfl, rfl⟩; go_wp2_with fail
      refine (sub_at _ x c sx (unhide HSX)).mono ?_; rintro e w' ⟨rfl, rfl⟩; go_wp2_with fail
      refine (sub_at _ y c sy (unhide HSY)).mono ?_; rintro e w' ⟨rfl, rfl⟩; go_wp2_with fail
      refine (mul_at _ x kc mx (unhide HMX)).mono ?_; rintro e w' ⟨rfl, n1, rfl⟩; go_wp2_with fail
      refine (mul_at _ y kc my (unhide HMY)).mono ?_; rintro e w' ⟨rfl, n2, rfl⟩; go_wp2_with fail
      refine (awake_drew w _ (unhide HT)).mono ?_
      rintro e w2 ⟨rfl, hb⟩
      have HB := hide hb
      clear hb
      go_wp2_with fail
      go_ret
      exact ⟨rfl, unhide HB⟩
    · have HE : Hid (divE kc = 0) := hide (by unfold divE; rw [if_neg (by omega)])
      have t0 : (kc != 0) = true := by simpa using h0
      have t1 : (kc == 0) = false := by simpa using h0
      clear h0 hcK
      go_enter Tryd.func8, Tryd.ntmps8
      go_wp2_with fail
      refine (clamp_at _ c kc (unhide HC)).mono ?_; rintro e w' ⟨rfl, rfl⟩; go_wp2_with fail
      refine (div_at _ x kc p 0 (unhide HP) (unhide HE)).mono ?_; rintro e w' ⟨rfl, rfl⟩; go_wp2_with fail
      refine (div_at _ y kc q 0 (unhide HQ) (unhide HE)).mono ?_; rintro e w' ⟨rfl, rfl⟩; go_wp2_with fail
      refine (root_at _ x0 r 0 (unhide HR) (unhide HR0)).mono ?_; rintro e w' ⟨rfl, rfl⟩; go_wp2_with fail
      refine (root_at _ y0 s 0 (unhide HS) (unhide HS0)).mono ?_; rintro e w' ⟨rfl, rfl⟩; go_wp2_with fail
      refine (clamp_at _ x cx (unhide HCX)).mono ?_; rintro e w' ⟨rfl, rfl⟩; go_wp2_with fail
      refine (clamp_at _ y cy (unhide HCY)).mono ?_; rintro e w' ⟨rfl, rfl⟩; go_wp2_with fail
      refine (add_at _ x c ax (unhide HAX)).mono ?_; rintro e w' ⟨rfl, rfl⟩; go_wp2_with fail
      refine (add_at _ y c ay (unhide HAY)).mono ?_; rintro e w' ⟨rfl, rfl⟩; go_wp2_with fail
      refine (sub_at _ x c sx (unhide HSX)).mono ?_; rintro e w' ⟨rfl, rfl⟩; go_wp2_with fail
      refine (sub_at _ y c sy (unhide HSY)).mono ?_; rintro e w' ⟨rfl, rfl⟩; go_wp2_with fail
      refine (mul_at _ x kc mx (unhide HMX)).mono ?_; rintro e w' ⟨rfl, n1, rfl⟩; go_wp2_with fail
      refine (mul_at _ y kc my (unhide HMY)).mono ?_; rintro e w' ⟨rfl, n2, rfl⟩; go_wp2_with fail
      refine (awake_drew w _ (unhide HT)).mono ?_
      rintro e w2 ⟨rfl, hb⟩
      have HB := hide hb
      clear hb
      go_wp2_with fail
      go_ret
      exact ⟨rfl, unhide HB⟩
end Go.Proofs.YtcebjipekodmpaaDoor
