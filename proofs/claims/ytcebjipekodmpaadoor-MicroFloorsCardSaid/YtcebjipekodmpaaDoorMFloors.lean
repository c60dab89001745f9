/- The law MicroFloors, walked: it returns true. -/
import Derived.Test.YtcebjipekodmpaaDoorMOrder
namespace Go.Proofs.YtcebjipekodmpaaDoor
open Go.RowKit
theorem fl_mul (x y m : Int) (h1 : -2147483648 ≤ x) (h2 : x ≤ 2147483647) (h3 : -2147483648 ≤ y) (h4 : y ≤ 2147483647) (hm : mulF x y = m) (hl : m ≠ 1000000000000) (hg : m ≠ -1000000000000) :
    ¬ m * 1000000 > x * y ∧ ¬ (m + 1) * 1000000 ≤ x * y := by
  unfold mulF at hm
  rw [clampF_id x (by omega) (by omega), clampF_id y (by omega) (by omega)] at hm
  generalize x * y = p at *
  unfold clampF at hm
  omega
theorem fl_div (x y q : Int) (h1 : -2147483648 ≤ x) (h2 : x ≤ 2147483647) (h3 : 0 < y) (h4 : y ≤ 2147483647) (hq : divF x y = q) (hl : q ≠ 1000000000000) (hg : q ≠ -1000000000000) :
    q * y ≤ x * 1000000 ∧ (q + 1) * y > x * 1000000 ∧ x * 1000000 - y < q * y ∧ (q + 1) * y ≤ x * 1000000 + y := by
  unfold divF at hq
  rw [clampF_id x (by omega) (by omega), clampF_id y (by omega) (by omega), if_neg (by omega), floorF_ediv _ _ h3] at hq
  generalize x * 1000000 = p at *
  have e1 := Int.mul_ediv_add_emod p y
  have e2 := Int.emod_nonneg p (show y ≠ 0 by omega)
  have e3 := Int.emod_lt_of_pos p h3
  have hq' : q = p / y := by
    unfold clampF at hq
    omega
  rw [hq', Int.add_mul, Int.mul_comm (p / y) y]
  omega
set_option maxHeartbeats 1000000 in
theorem floors_walk (w : World) (x : Int) (wx : (Lit.int .i32 x).wf = true) (y : Int) (wy : (Lit.int .i32 y).wf = true) (htab : Lib.TabIs Tryd.prog w "internal/strconv.uint64pow10" .u64 Lib.pow10Tab) :
    Calls Tryd.prog 4 #[.int .i32 x, .int .i32 y] w fun e w' => e = .returned (.bool true) ∧ Below w.heap.size w w' := by
  have hx : -2147483648 ≤ x ∧ x ≤ 2147483647 := by simpa [Lit.wf, IntKind.min, IntKind.max, IntKind.signed, IntKind.bits] using wx
  have hy : -2147483648 ≤ y ∧ y ≤ 2147483647 := by simpa [Lit.wf, IntKind.min, IntKind.max, IntKind.signed, IntKind.bits] using wy
  obtain ⟨x1, x2⟩ := hx
  obtain ⟨y1, y2⟩ := hy
  have HT := hide htab
  clear htab wx wy
  obtain ⟨m, HM, m1, m2⟩ : ∃ m, Hid (mulF x y = m) ∧ -1000000000000 ≤ m ∧ m ≤ 1000000000000 := ⟨_, hide rfl, (clampF_bd _).1, (clampF_bd _).2⟩
  by_cases hm : m = 1000000000000
  · have t1 : (m == 1000000000000) = true := by simpa using hm
    have HE := Lib.hid hm
    clear hm
    go_enter Tryd.func4, Tryd.ntmps4
    go_wp2_with fail
    refine (mul_at _ x y m (unhide HM)).mono ?_; rintro e w' ⟨rfl, n1, rfl⟩; go_wp2_with fail
    refine (awake_drew w _ (unhide HT)).mono ?_
    rintro e w2 ⟨rfl, hb⟩
    have HB := hide hb
    clear hb
    go_wp2_with fail
    go_ret
    exact ⟨rfl, unhide HB⟩
  have t1 : (m == 1000000000000) = false := by simpa using hm
  by_cases hg : m = -1000000000000
  · have t2 : (m == -1000000000000) = true := by simpa using hg
    have HE := Lib.hid hg
    clear hg hm
    go_enter Tryd.func4, Tryd.ntmps4
    go_wp2_with fail
    refine (mul_at _ x y m (unhide HM)).mono ?_; rintro e w' ⟨rfl, n1, rfl⟩; go_wp2_with fail
    refine (awake_drew w _ (unhide HT)).mono ?_
    rintro e w2 ⟨rfl, hb⟩
    have HB := hide hb
    clear hb
    go_wp2_with fail
    go_ret
    exact ⟨rfl, unhide HB⟩
  have t2 : (m == -1000000000000) = false := by simpa using hg
  obtain ⟨f1, f2⟩ := fl_mul x y m x1 x2 y1 y2 (unhide HM) hm hg
  obtain ⟨p1, p2⟩ := prod_bd x y 2147483648 2147483648 (by omega) (by omega) (by omega) (by omega)
  have t3 : decide (x * y < m * 1000000) = false := by simpa using f1
  have t4 : decide ((m + 1) * 1000000 ≤ x * y) = false := by simpa using f2
  clear hm hg
  by_cases hy0 : y ≤ 0
  · have t5 : decide (y ≤ 0) = true := by simpa using hy0
    go_enter Tryd.func4, Tryd.ntmps4
    go_wp2_with fail
    refine (mul_at _ x y m (unhide HM)).mono ?_; rintro e w' ⟨rfl, n1, rfl⟩; go_wp2_with fail
    refine (awake_drew w _ (unhide HT)).mono ?_
    rintro e w2 ⟨rfl, hb⟩
    have HB := hide hb
    clear hb
    go_wp2_with fail
    go_ret
    exact ⟨rfl, unhide HB⟩
  have t5 : decide (y ≤ 0) = false := by simpa using hy0
  obtain ⟨q, HQ, q1, q2⟩ : ∃ q, Hid (divF x y = q) ∧ -1000000000000 ≤ q ∧ q ≤ 1000000000000 := ⟨_, hide rfl, by unfold divF; split; (· omega); exact (clampF_bd _).1, by unfold divF; split; (· omega); exact (clampF_bd _).2⟩
  have HE0 : Hid (divE y = 0) := hide (by unfold divE; rw [clampF_id y (by omega) (by omega), if_neg (by omega)])
  by_cases hq : q = 1000000000000
  · have t6 : (q == 1000000000000) = true := by simpa using hq
    have HE := Lib.hid hq
    clear hq
    go_enter Tryd.func4, Tryd.ntmps4
    go_wp2_with fail
    refine (mul_at _ x y m (unhide HM)).mono ?_; rintro e w' ⟨rfl, n1, rfl⟩; go_wp2_with fail
    refine (div_at _ x y q 0 (unhide HQ) (unhide HE0)).mono ?_; rintro e w' ⟨rfl, rfl⟩; go_wp2_with fail
    refine (awake_drew w _ (unhide HT)).mono ?_
    rintro e w2 ⟨rfl, hb⟩
    have HB := hide hb
    clear hb
    go_wp2_with fail
    go_ret
    exact ⟨rfl, unhide HB⟩
  have t6 : (q == 1000000000000) = false := by simpa using hq
  by_cases hr : q = -1000000000000
  · have t7 : (q == -1000000000000) = true := by simpa using hr
    have HE := Lib.hid hr
    clear hr hq
    go_enter Tryd.func4, Tryd.ntmps4
    go_wp2_with fail
    refine (mul_at _ x y m (unhide HM)).mono ?_; rintro e w' ⟨rfl, n1, rfl⟩; go_wp2_with fail
    refine (div_at _ x y q 0 (unhide HQ) (unhide HE0)).mono ?_; rintro e w' ⟨rfl, rfl⟩; go_wp2_with fail
    refine (awake_drew w _ (unhide HT)).mono ?_
    rintro e w2 ⟨rfl, hb⟩
    have HB := hide hb
    clear hb
    go_wp2_with fail
    go_ret
    exact ⟨rfl, unhide HB⟩
  have t7 : (q == -1000000000000) = false := by simpa using hr
  obtain ⟨g1, g2, g3, g4⟩ := fl_div x y q x1 x2 (by omega) y2 (unhide HQ) hq hr
  have t8 : decide (q * y ≤ x * 1000000) = true := by simpa using g1
  have t9 : decide (x * 1000000 < (q + 1) * y) = true := by simpa using g2
  clear hq hr
  go_enter Tryd.func4, Tryd.ntmps4
  go_wp2_with fail
  refine (mul_at _ x y m (unhide HM)).mono ?_; rintro e w' ⟨rfl, n1, rfl⟩; go_wp2_with fail
  refine (div_at _ x y q 0 (unhide HQ) (unhide HE0)).mono ?_; rintro e w' ⟨rfl, rfl⟩; go_wp2_with fail
  refine (awake_drew w _ (unhide HT)).mono ?_
  rintro e w2 ⟨rfl, hb⟩
  have HB := hide hb
  clear hb
  go_wp2_with fail
  go_ret
  exact ⟨rfl, unhide HB⟩
end Go.Proofs.YtcebjipekodmpaaDoor
