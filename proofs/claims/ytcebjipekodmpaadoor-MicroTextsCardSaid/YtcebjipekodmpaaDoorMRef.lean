/- The reference of layer 3: Clamp, floor, Add, Sub, Mul, Div, Root. -/
import Derived.Test.YtcebjipekodmpaaDoorMNum
import Derived.Test.YtcebjipekodmpaaDoorMRefPlain
namespace Go.Proofs.YtcebjipekodmpaaDoor
open Go.RowKit
theorem ref_clamp (w : World) (v : Int) :
    Calls Tryd.prog 24 #[.int .i64 v] w fun e w' => e = .returned (.int .i64 (clampF v)) ∧ w = w' := by
  go_enter Tryd.func24, Tryd.ntmps24
  go_wp2_with fail
  all_goals
    go_ret
    exact ⟨ret_int (by unfold clampF; omega), rfl⟩
theorem ref_floor (w : World) (n d : Int) (hd : 0 < d) (h0 : -1000000000000000000 ≤ n) (h1 : n ≤ 1000000000000000000) :
    Calls Tryd.prog 38 #[.int .i64 n, .int .i64 d] w fun e w' => e = .returned (.int .i64 (floorF n d)) ∧ w = w' := by
  obtain ⟨hb1, hb2⟩ := tdiv_bd n d h0 h1
  by_cases hr : n.tmod d < 0
  · have hr1 : decide (n.tmod d < 0) = true := by simpa using hr
    have HF := Lib.hid (floorF_low n d hd hr)
    go_enter Tryd.func38, Tryd.ntmps38
    go_wp2_with fail
    go_ret
    exact ⟨ret_int HF.out, rfl⟩
  · have hr1 : decide (n.tmod d < 0) = false := by simpa using hr
    have HF := Lib.hid (floorF_high n d hd hr)
    go_enter Tryd.func38, Tryd.ntmps38
    go_wp2_with fail
    go_ret
    exact ⟨ret_int HF.out, rfl⟩
theorem ref_add (w : World) (a b : Int) :
    Calls Tryd.prog 26 #[.int .i64 a, .int .i64 b] w fun e w' => e = .returned (.int .i64 (addF a b)) ∧ w = w' := by
  obtain ⟨a1, a2⟩ := clampF_bd a
  obtain ⟨b1, b2⟩ := clampF_bd b
  go_enter Tryd.func26, Tryd.ntmps26
  go_wp2_with (go_at_call 24; refine (ref_clamp _ _).mono ?_; rintro e w' ⟨rfl, rfl⟩)
  go_ret
  exact ⟨rfl, rfl⟩
theorem ref_sub (w : World) (a b : Int) :
    Calls Tryd.prog 28 #[.int .i64 a, .int .i64 b] w fun e w' => e = .returned (.int .i64 (subF a b)) ∧ w = w' := by
  obtain ⟨a1, a2⟩ := clampF_bd a
  obtain ⟨b1, b2⟩ := clampF_bd b
  go_enter Tryd.func28, Tryd.ntmps28
  go_wp2_with (go_at_call 24; refine (ref_clamp _ _).mono ?_; rintro e w' ⟨rfl, rfl⟩)
  go_ret
  exact ⟨rfl, rfl⟩
theorem ref_mul (w : World) (a b : Int) :
    Calls Tryd.prog 29 #[.int .i64 a, .int .i64 b] w fun e w' => e = .returned (.int .i64 (mulF a b)) ∧ w = w' := by
  unfold mulF
  obtain ⟨a1, a2⟩ := clampF_bd a
  obtain ⟨b1, b2⟩ := clampF_bd b
  generalize hx : clampF a = x at *
  generalize hy : clampF b = y at *
  obtain ⟨W, hW, w1, w2⟩ : ∃ W, floorF x 1000000 = W ∧ -1000000 ≤ W ∧ W ≤ 1000000 := ⟨_, rfl, by rw [floorF_ediv _ _ (by omega)]; omega, by rw [floorF_ediv _ _ (by omega)]; omega⟩
  obtain ⟨P, hP, p1, p2⟩ : ∃ P, x - W * 1000000 = P ∧ 0 ≤ P ∧ P ≤ 999999 := ⟨_, rfl, by rw [← hW, floorF_ediv _ _ (by omega)]; omega, by rw [← hW, floorF_ediv _ _ (by omega)]; omega⟩
  obtain ⟨u1, u2⟩ := prod_bd W y 1000000 1000000000000 (by omega) (by omega) (by omega) (by omega)
  obtain ⟨v1, v2⟩ := prod_bd P y 1000000 1000000000000 (by omega) (by omega) (by omega) (by omega)
  obtain ⟨f1, f2⟩ := floorF_bd (P * y) 1000000 (by omega) (by omega) (by omega)
  have hm := mul_ref x y W P (by rw [← hW, floorF_ediv _ _ (by omega)]) hP.symm
  rw [← floorF_ediv (P * y) 1000000 (by omega)] at hm
  have HM := Lib.hid hm
  clear hm
  go_enter Tryd.func29, Tryd.ntmps29
  go_wp2_with (first
    | (go_at_call 24; refine (ref_clamp _ _).mono ?_; rintro e w' ⟨rfl, rfl⟩)
    | (go_at_call 38; refine (ref_floor _ _ _ (by omega) (by omega) (by omega)).mono ?_; rintro e w' ⟨rfl, rfl⟩))
  go_ret
  rw [← HM.out]
  exact ⟨rfl, rfl⟩
theorem ref_div (w : World) (a b : Int) :
    Calls Tryd.prog 18 #[.int .i64 a, .int .i64 b] w fun e w' => e = .returned (.tuple #[.int .i64 (divF a b), .int .i64 (divE b)]) ∧ w = w' := by
  unfold divF divE
  obtain ⟨a1, a2⟩ := clampF_bd a
  obtain ⟨b1, b2⟩ := clampF_bd b
  generalize hx : clampF a = x at *
  generalize hy : clampF b = y at *
  by_cases hb : y = 0
  · rw [if_pos hb, if_pos hb]
    have hb0 : (y == 0) = true := by simpa using hb
    have HB := Lib.hid hb
    clear hb
    go_enter Tryd.func18, Tryd.ntmps18
    go_wp2_with (go_at_call 24; refine (ref_clamp _ _).mono ?_; rintro e w' ⟨rfl, rfl⟩)
    go_ret2
    exact ⟨rfl, rfl⟩
  · rw [if_neg hb, if_neg hb]
    have hb0 : (y == 0) = false := by simpa using hb
    have HB := hide hb
    by_cases hn : y < 0
    · have hn1 : decide (y < 0) = true := by simpa using hn
      have HD := Lib.hid (div_ref x y)
      clear hb
      go_enter Tryd.func18, Tryd.ntmps18
      go_wp2_with (first
        | (go_at_call 24; refine (ref_clamp _ _).mono ?_; rintro e w' ⟨rfl, rfl⟩)
        | (go_at_call 38; refine (ref_floor _ _ _ (by omega) (by omega) (by omega)).mono ?_; rintro e w' ⟨rfl, rfl⟩))
      go_ret2
      rw [← HD.out]
      exact ⟨rfl, rfl⟩
    · have hn1 : decide (y < 0) = false := by simpa using hn
      have hp : 0 < y := by omega
      clear hb
      go_enter Tryd.func18, Tryd.ntmps18
      go_wp2_with (first
        | (go_at_call 24; refine (ref_clamp _ _).mono ?_; rintro e w' ⟨rfl, rfl⟩)
        | (go_at_call 38; refine (ref_floor _ _ _ (by omega) (by omega) (by omega)).mono ?_; rintro e w' ⟨rfl, rfl⟩))
      go_ret2
      exact ⟨rfl, rfl⟩
end Go.Proofs.YtcebjipekodmpaaDoor
