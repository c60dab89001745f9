/- The reference's Step of a valid host (printed by wip/gen_hrstep.py). No condition. -/
import Derived.Test.YtalhemdlkhkhfaaHRValX
import Derived.Test.YtalhemdlkhkhfaaHStep
namespace Go.Proofs.Ytalhemdlkhkhfaa
open Go.RowKit
set_option maxRecDepth 100000 in
set_option maxHeartbeats 2000000 in
theorem rs_off_0 (w : World) (p r h s l : Bool) (b : Int) (rs : Bool) (hx : validH ⟨p, r, h, s, l, b⟩ = true) (hb : 0 ≤ b) (hb2 : b ≤ 20) :
    Calls Try.prog 10 #[.agg #[.bool p, .bool r, .bool h, .bool s, .bool l, .int .i64 b], .agg #[.bool false, .bool rs, .bool false]] w fun e w' => e = .returned (.tuple #[.agg #[.bool false, .bool false, .bool false, .bool s, .bool l, .int .i64 0], .agg #[.bool false, .bool false, .bool false], .int .i64 0]) ∧ Below w.heap.size w w' := by
  have hx0 : validH ⟨p, r, h, s, l, b⟩ = true := by first | exact hx | rfl | (simp [validH]; omega)
  have HX := Lib.hid hx0
  have HV := hide (ref_valid_x · (p) (r) (h) (s) (l) (b) (by omega) (by omega))
  have HG := hide ref_begin_x
  clear hx0 hx
  go_enter Try.func10, Try.ntmps10
  go_wp2_with fail
  refine (unhide HV _).mono ?_
  rintro e w1 ⟨rfl, hw1⟩
  unfold OneMore at hw1
  subst hw1
  rw [HX.out]
  dsimp only
  go_wp2_with fail
  go_region
  go_wp2_with fail
  exact bodyPost_ret (v := .tuple #[.agg #[.bool false, .bool false, .bool false, .bool s, .bool l, .int .i64 0], .agg #[.bool false, .bool false, .bool false], .int .i64 0]) (by simp [results, Try.results10, go_sem]) rfl ⟨rfl, by repeat (first | exact Below.refl _ _ | (apply Below.drew) | (refine Below.alloc ?_ (by simp; try omega) _))⟩
set_option maxRecDepth 100000 in
set_option maxHeartbeats 2000000 in
theorem rs_beg_00 (w : World) (s rs : Bool)  :
    Calls Try.prog 10 #[.agg #[.bool false, .bool false, .bool false, .bool s, .bool false, .int .i64 0], .agg #[.bool true, .bool rs, .bool false]] w fun e w' => e = .returned (.tuple #[.agg #[.bool true, .bool false, .bool false, .bool s, .bool false, .int .i64 20], .agg #[.bool true, .bool false, .bool false], .int .i64 0]) ∧ Below w.heap.size w w' := by
  have hx0 : validH ⟨false, false, false, s, false, 0⟩ = true := by first | exact hx | rfl | (simp [validH]; omega)
  have HX := Lib.hid hx0
  have HV := hide (ref_valid_x · (false) (false) (false) (s) (false) (0) (by omega) (by omega))
  have HG := hide ref_begin_x
  clear hx0
  go_enter Try.func10, Try.ntmps10
  go_wp2_with fail
  refine (unhide HV _).mono ?_
  rintro e w1 ⟨rfl, hw1⟩
  unfold OneMore at hw1
  subst hw1
  rw [HX.out]
  dsimp only
  go_wp2_with fail
  refine (unhide HG _ _ _ _ _ _ _).mono ?_
  rintro e w' ⟨rfl, rfl⟩
  go_wp2_with fail
  go_region
  go_wp2_with fail
  exact bodyPost_ret (v := .tuple #[.agg #[.bool true, .bool false, .bool false, .bool s, .bool false, .int .i64 20], .agg #[.bool true, .bool false, .bool false], .int .i64 0]) (by simp [results, Try.results10, go_sem]) rfl ⟨rfl, by repeat (first | exact Below.refl _ _ | (apply Below.drew) | (refine Below.alloc ?_ (by simp; try omega) _))⟩
set_option maxRecDepth 100000 in
set_option maxHeartbeats 2000000 in
theorem rs_res_00 (w : World) (r h s : Bool) (b : Int) (hx : validH ⟨true, r, h, s, false, b⟩ = true) (hb : 0 ≤ b) (hb2 : b ≤ 20) :
    Calls Try.prog 10 #[.agg #[.bool true, .bool r, .bool h, .bool s, .bool false, .int .i64 b], .agg #[.bool true, .bool true, .bool false]] w fun e w' => e = .returned (.tuple #[.agg #[.bool true, .bool false, .bool false, .bool s, .bool false, .int .i64 20], .agg #[.bool true, .bool false, .bool false], .int .i64 0]) ∧ Below w.heap.size w w' := by
  have hx0 : validH ⟨true, r, h, s, false, b⟩ = true := by first | exact hx | rfl | (simp [validH]; omega)
  have HX := Lib.hid hx0
  have HV := hide (ref_valid_x · (true) (r) (h) (s) (false) (b) (by omega) (by omega))
  have HG := hide ref_begin_x
  clear hx0 hx
  go_enter Try.func10, Try.ntmps10
  go_wp2_with fail
  refine (unhide HV _).mono ?_
  rintro e w1 ⟨rfl, hw1⟩
  unfold OneMore at hw1
  subst hw1
  rw [HX.out]
  dsimp only
  go_wp2_with fail
  refine (unhide HG _ _ _ _ _ _ _).mono ?_
  rintro e w' ⟨rfl, rfl⟩
  go_wp2_with fail
  go_region
  go_wp2_with fail
  exact bodyPost_ret (v := .tuple #[.agg #[.bool true, .bool false, .bool false, .bool s, .bool false, .int .i64 20], .agg #[.bool true, .bool false, .bool false], .int .i64 0]) (by simp [results, Try.results10, go_sem]) rfl ⟨rfl, by repeat (first | exact Below.refl _ _ | (apply Below.drew) | (refine Below.alloc ?_ (by simp; try omega) _))⟩
set_option maxRecDepth 100000 in
set_option maxHeartbeats 2000000 in
theorem rs_two_00 (w : World) (s : Bool) (b : Int) (hb : 2 ≤ b) (hb2 : b ≤ 20) :
    Calls Try.prog 10 #[.agg #[.bool true, .bool false, .bool false, .bool s, .bool false, .int .i64 b], .agg #[.bool true, .bool false, .bool false]] w fun e w' => e = .returned (.tuple #[.agg #[.bool true, .bool false, .bool false, .bool s, .bool false, .int .i64 (b - 1)], .agg #[.bool true, .bool false, .bool false], .int .i64 0]) ∧ Below w.heap.size w w' := by
  have hx0 : validH ⟨true, false, false, s, false, b⟩ = true := by first | exact hx | rfl | (simp [validH]; omega)
  have HX := Lib.hid hx0
  have HV := hide (ref_valid_x · (true) (false) (false) (s) (false) (b) (by omega) (by omega))
  have HG := hide ref_begin_x
  clear hx0
  have hd : (b - 1 == 0) = false := by simp; omega
  have hd2 : decide (0 < b) = true := by simp; omega
  go_enter Try.func10, Try.ntmps10
  go_wp2_with fail
  refine (unhide HV _).mono ?_
  rintro e w1 ⟨rfl, hw1⟩
  unfold OneMore at hw1
  subst hw1
  rw [HX.out]
  dsimp only
  go_wp2_with fail
  go_region
  go_wp2_with fail
  exact bodyPost_ret (v := .tuple #[.agg #[.bool true, .bool false, .bool false, .bool s, .bool false, .int .i64 (b - 1)], .agg #[.bool true, .bool false, .bool false], .int .i64 0]) (by simp [results, Try.results10, go_sem]) rfl ⟨rfl, by repeat (first | exact Below.refl _ _ | (apply Below.drew) | (refine Below.alloc ?_ (by simp; try omega) _))⟩
set_option maxRecDepth 100000 in
set_option maxHeartbeats 2000000 in
theorem rs_one_00 (w : World) (s : Bool)  :
    Calls Try.prog 10 #[.agg #[.bool true, .bool false, .bool false, .bool s, .bool false, .int .i64 1], .agg #[.bool true, .bool false, .bool false]] w fun e w' => e = .returned (.tuple #[.agg #[.bool true, .bool true, .bool false, .bool s, .bool false, .int .i64 0], .agg #[.bool true, .bool false, .bool true], .int .i64 0]) ∧ Below w.heap.size w w' := by
  have hx0 : validH ⟨true, false, false, s, false, 1⟩ = true := by first | exact hx | rfl | (simp [validH]; omega)
  have HX := Lib.hid hx0
  have HV := hide (ref_valid_x · (true) (false) (false) (s) (false) (1) (by omega) (by omega))
  have HG := hide ref_begin_x
  clear hx0
  go_enter Try.func10, Try.ntmps10
  go_wp2_with fail
  refine (unhide HV _).mono ?_
  rintro e w1 ⟨rfl, hw1⟩
  unfold OneMore at hw1
  subst hw1
  rw [HX.out]
  dsimp only
  go_wp2_with fail
  go_region
  go_wp2_with fail
  exact bodyPost_ret (v := .tuple #[.agg #[.bool true, .bool true, .bool false, .bool s, .bool false, .int .i64 0], .agg #[.bool true, .bool false, .bool true], .int .i64 0]) (by simp [results, Try.results10, go_sem]) rfl ⟨rfl, by repeat (first | exact Below.refl _ _ | (apply Below.drew) | (refine Below.alloc ?_ (by simp; try omega) _))⟩
set_option maxRecDepth 100000 in
set_option maxHeartbeats 2000000 in
theorem rs_run_00000 (w : World)   :
    Calls Try.prog 10 #[.agg #[.bool true, .bool false, .bool false, .bool false, .bool false, .int .i64 0], .agg #[.bool true, .bool false, .bool false]] w fun e w' => e = .returned (.tuple #[.agg #[.bool true, .bool false, .bool false, .bool false, .bool false, .int .i64 0], .agg #[.bool true, .bool false, .bool false], .int .i64 0]) ∧ Below w.heap.size w w' := by
  have hx0 : validH ⟨true, false, false, false, false, 0⟩ = true := by first | exact hx | rfl | (simp [validH]; omega)
  have HX := Lib.hid hx0
  have HV := hide (ref_valid_x · (true) (false) (false) (false) (false) (0) (by omega) (by omega))
  have HG := hide ref_begin_x
  clear hx0
  go_enter Try.func10, Try.ntmps10
  go_wp2_with fail
  refine (unhide HV _).mono ?_
  rintro e w1 ⟨rfl, hw1⟩
  unfold OneMore at hw1
  subst hw1
  rw [HX.out]
  dsimp only
  go_wp2_with fail
  go_region
  go_wp2_with fail
  exact bodyPost_ret (v := .tuple #[.agg #[.bool true, .bool false, .bool false, .bool false, .bool false, .int .i64 0], .agg #[.bool true, .bool false, .bool false], .int .i64 0]) (by simp [results, Try.results10, go_sem]) rfl ⟨rfl, by repeat (first | exact Below.refl _ _ | (apply Below.drew) | (refine Below.alloc ?_ (by simp; try omega) _))⟩
set_option maxRecDepth 100000 in
set_option maxHeartbeats 2000000 in
theorem rs_run_00001 (w : World)   :
    Calls Try.prog 10 #[.agg #[.bool true, .bool false, .bool false, .bool true, .bool false, .int .i64 0], .agg #[.bool true, .bool false, .bool false]] w fun e w' => e = .returned (.tuple #[.agg #[.bool true, .bool false, .bool false, .bool true, .bool false, .int .i64 0], .agg #[.bool true, .bool false, .bool false], .int .i64 0]) ∧ Below w.heap.size w w' := by
  have hx0 : validH ⟨true, false, false, true, false, 0⟩ = true := by first | exact hx | rfl | (simp [validH]; omega)
  have HX := Lib.hid hx0
  have HV := hide (ref_valid_x · (true) (false) (false) (true) (false) (0) (by omega) (by omega))
  have HG := hide ref_begin_x
  clear hx0
  go_enter Try.func10, Try.ntmps10
  go_wp2_with fail
  refine (unhide HV _).mono ?_
  rintro e w1 ⟨rfl, hw1⟩
  unfold OneMore at hw1
  subst hw1
  rw [HX.out]
  dsimp only
  go_wp2_with fail
  go_region
  go_wp2_with fail
  exact bodyPost_ret (v := .tuple #[.agg #[.bool true, .bool false, .bool false, .bool true, .bool false, .int .i64 0], .agg #[.bool true, .bool false, .bool false], .int .i64 0]) (by simp [results, Try.results10, go_sem]) rfl ⟨rfl, by repeat (first | exact Below.refl _ _ | (apply Below.drew) | (refine Below.alloc ?_ (by simp; try omega) _))⟩
set_option maxRecDepth 100000 in
set_option maxHeartbeats 2000000 in
theorem rs_run_00100 (w : World)   :
    Calls Try.prog 10 #[.agg #[.bool true, .bool true, .bool false, .bool false, .bool false, .int .i64 0], .agg #[.bool true, .bool false, .bool false]] w fun e w' => e = .returned (.tuple #[.agg #[.bool true, .bool true, .bool false, .bool false, .bool false, .int .i64 0], .agg #[.bool true, .bool false, .bool true], .int .i64 0]) ∧ Below w.heap.size w w' := by
  have hx0 : validH ⟨true, true, false, false, false, 0⟩ = true := by first | exact hx | rfl | (simp [validH]; omega)
  have HX := Lib.hid hx0
  have HV := hide (ref_valid_x · (true) (true) (false) (false) (false) (0) (by omega) (by omega))
  have HG := hide ref_begin_x
  clear hx0
  go_enter Try.func10, Try.ntmps10
  go_wp2_with fail
  refine (unhide HV _).mono ?_
  rintro e w1 ⟨rfl, hw1⟩
  unfold OneMore at hw1
  subst hw1
  rw [HX.out]
  dsimp only
  go_wp2_with fail
  go_region
  go_wp2_with fail
  exact bodyPost_ret (v := .tuple #[.agg #[.bool true, .bool true, .bool false, .bool false, .bool false, .int .i64 0], .agg #[.bool true, .bool false, .bool true], .int .i64 0]) (by simp [results, Try.results10, go_sem]) rfl ⟨rfl, by repeat (first | exact Below.refl _ _ | (apply Below.drew) | (refine Below.alloc ?_ (by simp; try omega) _))⟩
set_option maxRecDepth 100000 in
set_option maxHeartbeats 2000000 in
theorem rs_run_00101 (w : World)   :
    Calls Try.prog 10 #[.agg #[.bool true, .bool true, .bool false, .bool true, .bool false, .int .i64 0], .agg #[.bool true, .bool false, .bool false]] w fun e w' => e = .returned (.tuple #[.agg #[.bool true, .bool true, .bool false, .bool true, .bool false, .int .i64 0], .agg #[.bool true, .bool false, .bool true], .int .i64 0]) ∧ Below w.heap.size w w' := by
  have hx0 : validH ⟨true, true, false, true, false, 0⟩ = true := by first | exact hx | rfl | (simp [validH]; omega)
  have HX := Lib.hid hx0
  have HV := hide (ref_valid_x · (true) (true) (false) (true) (false) (0) (by omega) (by omega))
  have HG := hide ref_begin_x
  clear hx0
  go_enter Try.func10, Try.ntmps10
  go_wp2_with fail
  refine (unhide HV _).mono ?_
  rintro e w1 ⟨rfl, hw1⟩
  unfold OneMore at hw1
  subst hw1
  rw [HX.out]
  dsimp only
  go_wp2_with fail
  go_region
  go_wp2_with fail
  exact bodyPost_ret (v := .tuple #[.agg #[.bool true, .bool true, .bool false, .bool true, .bool false, .int .i64 0], .agg #[.bool true, .bool false, .bool true], .int .i64 0]) (by simp [results, Try.results10, go_sem]) rfl ⟨rfl, by repeat (first | exact Below.refl _ _ | (apply Below.drew) | (refine Below.alloc ?_ (by simp; try omega) _))⟩
set_option maxRecDepth 100000 in
set_option maxHeartbeats 2000000 in
theorem rs_run_00110 (w : World)   :
    Calls Try.prog 10 #[.agg #[.bool true, .bool true, .bool true, .bool false, .bool false, .int .i64 0], .agg #[.bool true, .bool false, .bool false]] w fun e w' => e = .returned (.tuple #[.agg #[.bool true, .bool true, .bool true, .bool false, .bool false, .int .i64 0], .agg #[.bool true, .bool false, .bool false], .int .i64 0]) ∧ Below w.heap.size w w' := by
  have hx0 : validH ⟨true, true, true, false, false, 0⟩ = true := by first | exact hx | rfl | (simp [validH]; omega)
  have HX := Lib.hid hx0
  have HV := hide (ref_valid_x · (true) (true) (true) (false) (false) (0) (by omega) (by omega))
  have HG := hide ref_begin_x
  clear hx0
  go_enter Try.func10, Try.ntmps10
  go_wp2_with fail
  refine (unhide HV _).mono ?_
  rintro e w1 ⟨rfl, hw1⟩
  unfold OneMore at hw1
  subst hw1
  rw [HX.out]
  dsimp only
  go_wp2_with fail
  go_region
  go_wp2_with fail
  exact bodyPost_ret (v := .tuple #[.agg #[.bool true, .bool true, .bool true, .bool false, .bool false, .int .i64 0], .agg #[.bool true, .bool false, .bool false], .int .i64 0]) (by simp [results, Try.results10, go_sem]) rfl ⟨rfl, by repeat (first | exact Below.refl _ _ | (apply Below.drew) | (refine Below.alloc ?_ (by simp; try omega) _))⟩
set_option maxRecDepth 100000 in
set_option maxHeartbeats 2000000 in
theorem rs_run_00111 (w : World)   :
    Calls Try.prog 10 #[.agg #[.bool true, .bool true, .bool true, .bool true, .bool false, .int .i64 0], .agg #[.bool true, .bool false, .bool false]] w fun e w' => e = .returned (.tuple #[.agg #[.bool true, .bool true, .bool true, .bool true, .bool false, .int .i64 0], .agg #[.bool true, .bool false, .bool false], .int .i64 0]) ∧ Below w.heap.size w w' := by
  have hx0 : validH ⟨true, true, true, true, false, 0⟩ = true := by first | exact hx | rfl | (simp [validH]; omega)
  have HX := Lib.hid hx0
  have HV := hide (ref_valid_x · (true) (true) (true) (true) (false) (0) (by omega) (by omega))
  have HG := hide ref_begin_x
  clear hx0
  go_enter Try.func10, Try.ntmps10
  go_wp2_with fail
  refine (unhide HV _).mono ?_
  rintro e w1 ⟨rfl, hw1⟩
  unfold OneMore at hw1
  subst hw1
  rw [HX.out]
  dsimp only
  go_wp2_with fail
  go_region
  go_wp2_with fail
  exact bodyPost_ret (v := .tuple #[.agg #[.bool true, .bool true, .bool true, .bool true, .bool false, .int .i64 0], .agg #[.bool true, .bool false, .bool false], .int .i64 0]) (by simp [results, Try.results10, go_sem]) rfl ⟨rfl, by repeat (first | exact Below.refl _ _ | (apply Below.drew) | (refine Below.alloc ?_ (by simp; try omega) _))⟩
set_option maxRecDepth 100000 in
set_option maxHeartbeats 2000000 in
theorem rs_beg_01 (w : World) (s rs : Bool)  :
    Calls Try.prog 10 #[.agg #[.bool false, .bool false, .bool false, .bool s, .bool true, .int .i64 0], .agg #[.bool true, .bool rs, .bool false]] w fun e w' => e = .returned (.tuple #[.agg #[.bool true, .bool false, .bool false, .bool s, .bool true, .int .i64 20], .agg #[.bool true, .bool false, .bool true], .int .i64 0]) ∧ Below w.heap.size w w' := by
  have hx0 : validH ⟨false, false, false, s, true, 0⟩ = true := by first | exact hx | rfl | (simp [validH]; omega)
  have HX := Lib.hid hx0
  have HV := hide (ref_valid_x · (false) (false) (false) (s) (true) (0) (by omega) (by omega))
  have HG := hide ref_begin_x
  clear hx0
  go_enter Try.func10, Try.ntmps10
  go_wp2_with fail
  refine (unhide HV _).mono ?_
  rintro e w1 ⟨rfl, hw1⟩
  unfold OneMore at hw1
  subst hw1
  rw [HX.out]
  dsimp only
  go_wp2_with fail
  refine (unhide HG _ _ _ _ _ _ _).mono ?_
  rintro e w' ⟨rfl, rfl⟩
  go_wp2_with fail
  go_region
  go_wp2_with fail
  exact bodyPost_ret (v := .tuple #[.agg #[.bool true, .bool false, .bool false, .bool s, .bool true, .int .i64 20], .agg #[.bool true, .bool false, .bool true], .int .i64 0]) (by simp [results, Try.results10, go_sem]) rfl ⟨rfl, by repeat (first | exact Below.refl _ _ | (apply Below.drew) | (refine Below.alloc ?_ (by simp; try omega) _))⟩
set_option maxRecDepth 100000 in
set_option maxHeartbeats 2000000 in
theorem rs_res_01 (w : World) (r h s : Bool) (b : Int) (hx : validH ⟨true, r, h, s, true, b⟩ = true) (hb : 0 ≤ b) (hb2 : b ≤ 20) :
    Calls Try.prog 10 #[.agg #[.bool true, .bool r, .bool h, .bool s, .bool true, .int .i64 b], .agg #[.bool true, .bool true, .bool false]] w fun e w' => e = .returned (.tuple #[.agg #[.bool true, .bool false, .bool false, .bool s, .bool true, .int .i64 20], .agg #[.bool true, .bool false, .bool true], .int .i64 0]) ∧ Below w.heap.size w w' := by
  have hx0 : validH ⟨true, r, h, s, true, b⟩ = true := by first | exact hx | rfl | (simp [validH]; omega)
  have HX := Lib.hid hx0
  have HV := hide (ref_valid_x · (true) (r) (h) (s) (true) (b) (by omega) (by omega))
  have HG := hide ref_begin_x
  clear hx0 hx
  go_enter Try.func10, Try.ntmps10
  go_wp2_with fail
  refine (unhide HV _).mono ?_
  rintro e w1 ⟨rfl, hw1⟩
  unfold OneMore at hw1
  subst hw1
  rw [HX.out]
  dsimp only
  go_wp2_with fail
  refine (unhide HG _ _ _ _ _ _ _).mono ?_
  rintro e w' ⟨rfl, rfl⟩
  go_wp2_with fail
  go_region
  go_wp2_with fail
  exact bodyPost_ret (v := .tuple #[.agg #[.bool true, .bool false, .bool false, .bool s, .bool true, .int .i64 20], .agg #[.bool true, .bool false, .bool true], .int .i64 0]) (by simp [results, Try.results10, go_sem]) rfl ⟨rfl, by repeat (first | exact Below.refl _ _ | (apply Below.drew) | (refine Below.alloc ?_ (by simp; try omega) _))⟩
set_option maxRecDepth 100000 in
set_option maxHeartbeats 2000000 in
theorem rs_two_01 (w : World) (s : Bool) (b : Int) (hb : 2 ≤ b) (hb2 : b ≤ 20) :
    Calls Try.prog 10 #[.agg #[.bool true, .bool false, .bool false, .bool s, .bool true, .int .i64 b], .agg #[.bool true, .bool false, .bool false]] w fun e w' => e = .returned (.tuple #[.agg #[.bool true, .bool false, .bool false, .bool s, .bool true, .int .i64 (b - 1)], .agg #[.bool true, .bool false, .bool true], .int .i64 0]) ∧ Below w.heap.size w w' := by
  have hx0 : validH ⟨true, false, false, s, true, b⟩ = true := by first | exact hx | rfl | (simp [validH]; omega)
  have HX := Lib.hid hx0
  have HV := hide (ref_valid_x · (true) (false) (false) (s) (true) (b) (by omega) (by omega))
  have HG := hide ref_begin_x
  clear hx0
  have hd : (b - 1 == 0) = false := by simp; omega
  have hd2 : decide (0 < b) = true := by simp; omega
  go_enter Try.func10, Try.ntmps10
  go_wp2_with fail
  refine (unhide HV _).mono ?_
  rintro e w1 ⟨rfl, hw1⟩
  unfold OneMore at hw1
  subst hw1
  rw [HX.out]
  dsimp only
  go_wp2_with fail
  go_region
  go_wp2_with fail
  exact bodyPost_ret (v := .tuple #[.agg #[.bool true, .bool false, .bool false, .bool s, .bool true, .int .i64 (b - 1)], .agg #[.bool true, .bool false, .bool true], .int .i64 0]) (by simp [results, Try.results10, go_sem]) rfl ⟨rfl, by repeat (first | exact Below.refl _ _ | (apply Below.drew) | (refine Below.alloc ?_ (by simp; try omega) _))⟩
set_option maxRecDepth 100000 in
set_option maxHeartbeats 2000000 in
theorem rs_one_01 (w : World) (s : Bool)  :
    Calls Try.prog 10 #[.agg #[.bool true, .bool false, .bool false, .bool s, .bool true, .int .i64 1], .agg #[.bool true, .bool false, .bool false]] w fun e w' => e = .returned (.tuple #[.agg #[.bool true, .bool true, .bool false, .bool s, .bool true, .int .i64 0], .agg #[.bool true, .bool false, .bool true], .int .i64 0]) ∧ Below w.heap.size w w' := by
  have hx0 : validH ⟨true, false, false, s, true, 1⟩ = true := by first | exact hx | rfl | (simp [validH]; omega)
  have HX := Lib.hid hx0
  have HV := hide (ref_valid_x · (true) (false) (false) (s) (true) (1) (by omega) (by omega))
  have HG := hide ref_begin_x
  clear hx0
  go_enter Try.func10, Try.ntmps10
  go_wp2_with fail
  refine (unhide HV _).mono ?_
  rintro e w1 ⟨rfl, hw1⟩
  unfold OneMore at hw1
  subst hw1
  rw [HX.out]
  dsimp only
  go_wp2_with fail
  go_region
  go_wp2_with fail
  exact bodyPost_ret (v := .tuple #[.agg #[.bool true, .bool true, .bool false, .bool s, .bool true, .int .i64 0], .agg #[.bool true, .bool false, .bool true], .int .i64 0]) (by simp [results, Try.results10, go_sem]) rfl ⟨rfl, by repeat (first | exact Below.refl _ _ | (apply Below.drew) | (refine Below.alloc ?_ (by simp; try omega) _))⟩
set_option maxRecDepth 100000 in
set_option maxHeartbeats 2000000 in
theorem rs_run_01000 (w : World)   :
    Calls Try.prog 10 #[.agg #[.bool true, .bool false, .bool false, .bool false, .bool true, .int .i64 0], .agg #[.bool true, .bool false, .bool false]] w fun e w' => e = .returned (.tuple #[.agg #[.bool true, .bool false, .bool false, .bool false, .bool true, .int .i64 0], .agg #[.bool true, .bool false, .bool true], .int .i64 0]) ∧ Below w.heap.size w w' := by
  have hx0 : validH ⟨true, false, false, false, true, 0⟩ = true := by first | exact hx | rfl | (simp [validH]; omega)
  have HX := Lib.hid hx0
  have HV := hide (ref_valid_x · (true) (false) (false) (false) (true) (0) (by omega) (by omega))
  have HG := hide ref_begin_x
  clear hx0
  go_enter Try.func10, Try.ntmps10
  go_wp2_with fail
  refine (unhide HV _).mono ?_
  rintro e w1 ⟨rfl, hw1⟩
  unfold OneMore at hw1
  subst hw1
  rw [HX.out]
  dsimp only
  go_wp2_with fail
  go_region
  go_wp2_with fail
  exact bodyPost_ret (v := .tuple #[.agg #[.bool true, .bool false, .bool false, .bool false, .bool true, .int .i64 0], .agg #[.bool true, .bool false, .bool true], .int .i64 0]) (by simp [results, Try.results10, go_sem]) rfl ⟨rfl, by repeat (first | exact Below.refl _ _ | (apply Below.drew) | (refine Below.alloc ?_ (by simp; try omega) _))⟩
set_option maxRecDepth 100000 in
set_option maxHeartbeats 2000000 in
theorem rs_run_01001 (w : World)   :
    Calls Try.prog 10 #[.agg #[.bool true, .bool false, .bool false, .bool true, .bool true, .int .i64 0], .agg #[.bool true, .bool false, .bool false]] w fun e w' => e = .returned (.tuple #[.agg #[.bool true, .bool false, .bool false, .bool true, .bool true, .int .i64 0], .agg #[.bool true, .bool false, .bool true], .int .i64 0]) ∧ Below w.heap.size w w' := by
  have hx0 : validH ⟨true, false, false, true, true, 0⟩ = true := by first | exact hx | rfl | (simp [validH]; omega)
  have HX := Lib.hid hx0
  have HV := hide (ref_valid_x · (true) (false) (false) (true) (true) (0) (by omega) (by omega))
  have HG := hide ref_begin_x
  clear hx0
  go_enter Try.func10, Try.ntmps10
  go_wp2_with fail
  refine (unhide HV _).mono ?_
  rintro e w1 ⟨rfl, hw1⟩
  unfold OneMore at hw1
  subst hw1
  rw [HX.out]
  dsimp only
  go_wp2_with fail
  go_region
  go_wp2_with fail
  exact bodyPost_ret (v := .tuple #[.agg #[.bool true, .bool false, .bool false, .bool true, .bool true, .int .i64 0], .agg #[.bool true, .bool false, .bool true], .int .i64 0]) (by simp [results, Try.results10, go_sem]) rfl ⟨rfl, by repeat (first | exact Below.refl _ _ | (apply Below.drew) | (refine Below.alloc ?_ (by simp; try omega) _))⟩
set_option maxRecDepth 100000 in
set_option maxHeartbeats 2000000 in
theorem rs_run_01100 (w : World)   :
    Calls Try.prog 10 #[.agg #[.bool true, .bool true, .bool false, .bool false, .bool true, .int .i64 0], .agg #[.bool true, .bool false, .bool false]] w fun e w' => e = .returned (.tuple #[.agg #[.bool true, .bool true, .bool false, .bool false, .bool true, .int .i64 0], .agg #[.bool true, .bool false, .bool true], .int .i64 0]) ∧ Below w.heap.size w w' := by
  have hx0 : validH ⟨true, true, false, false, true, 0⟩ = true := by first | exact hx | rfl | (simp [validH]; omega)
  have HX := Lib.hid hx0
  have HV := hide (ref_valid_x · (true) (true) (false) (false) (true) (0) (by omega) (by omega))
  have HG := hide ref_begin_x
  clear hx0
  go_enter Try.func10, Try.ntmps10
  go_wp2_with fail
  refine (unhide HV _).mono ?_
  rintro e w1 ⟨rfl, hw1⟩
  unfold OneMore at hw1
  subst hw1
  rw [HX.out]
  dsimp only
  go_wp2_with fail
  go_region
  go_wp2_with fail
  exact bodyPost_ret (v := .tuple #[.agg #[.bool true, .bool true, .bool false, .bool false, .bool true, .int .i64 0], .agg #[.bool true, .bool false, .bool true], .int .i64 0]) (by simp [results, Try.results10, go_sem]) rfl ⟨rfl, by repeat (first | exact Below.refl _ _ | (apply Below.drew) | (refine Below.alloc ?_ (by simp; try omega) _))⟩
set_option maxRecDepth 100000 in
set_option maxHeartbeats 2000000 in
theorem rs_run_01101 (w : World)   :
    Calls Try.prog 10 #[.agg #[.bool true, .bool true, .bool false, .bool true, .bool true, .int .i64 0], .agg #[.bool true, .bool false, .bool false]] w fun e w' => e = .returned (.tuple #[.agg #[.bool true, .bool true, .bool false, .bool true, .bool true, .int .i64 0], .agg #[.bool true, .bool false, .bool true], .int .i64 0]) ∧ Below w.heap.size w w' := by
  have hx0 : validH ⟨true, true, false, true, true, 0⟩ = true := by first | exact hx | rfl | (simp [validH]; omega)
  have HX := Lib.hid hx0
  have HV := hide (ref_valid_x · (true) (true) (false) (true) (true) (0) (by omega) (by omega))
  have HG := hide ref_begin_x
  clear hx0
  go_enter Try.func10, Try.ntmps10
  go_wp2_with fail
  refine (unhide HV _).mono ?_
  rintro e w1 ⟨rfl, hw1⟩
  unfold OneMore at hw1
  subst hw1
  rw [HX.out]
  dsimp only
  go_wp2_with fail
  go_region
  go_wp2_with fail
  exact bodyPost_ret (v := .tuple #[.agg #[.bool true, .bool true, .bool false, .bool true, .bool true, .int .i64 0], .agg #[.bool true, .bool false, .bool true], .int .i64 0]) (by simp [results, Try.results10, go_sem]) rfl ⟨rfl, by repeat (first | exact Below.refl _ _ | (apply Below.drew) | (refine Below.alloc ?_ (by simp; try omega) _))⟩
set_option maxRecDepth 100000 in
set_option maxHeartbeats 2000000 in
theorem rs_run_01110 (w : World)   :
    Calls Try.prog 10 #[.agg #[.bool true, .bool true, .bool true, .bool false, .bool true, .int .i64 0], .agg #[.bool true, .bool false, .bool false]] w fun e w' => e = .returned (.tuple #[.agg #[.bool true, .bool true, .bool true, .bool false, .bool true, .int .i64 0], .agg #[.bool true, .bool false, .bool true], .int .i64 0]) ∧ Below w.heap.size w w' := by
  have hx0 : validH ⟨true, true, true, false, true, 0⟩ = true := by first | exact hx | rfl | (simp [validH]; omega)
  have HX := Lib.hid hx0
  have HV := hide (ref_valid_x · (true) (true) (true) (false) (true) (0) (by omega) (by omega))
  have HG := hide ref_begin_x
  clear hx0
  go_enter Try.func10, Try.ntmps10
  go_wp2_with fail
  refine (unhide HV _).mono ?_
  rintro e w1 ⟨rfl, hw1⟩
  unfold OneMore at hw1
  subst hw1
  rw [HX.out]
  dsimp only
  go_wp2_with fail
  go_region
  go_wp2_with fail
  exact bodyPost_ret (v := .tuple #[.agg #[.bool true, .bool true, .bool true, .bool false, .bool true, .int .i64 0], .agg #[.bool true, .bool false, .bool true], .int .i64 0]) (by simp [results, Try.results10, go_sem]) rfl ⟨rfl, by repeat (first | exact Below.refl _ _ | (apply Below.drew) | (refine Below.alloc ?_ (by simp; try omega) _))⟩
set_option maxRecDepth 100000 in
set_option maxHeartbeats 2000000 in
theorem rs_run_01111 (w : World)   :
    Calls Try.prog 10 #[.agg #[.bool true, .bool true, .bool true, .bool true, .bool true, .int .i64 0], .agg #[.bool true, .bool false, .bool false]] w fun e w' => e = .returned (.tuple #[.agg #[.bool true, .bool true, .bool true, .bool true, .bool true, .int .i64 0], .agg #[.bool true, .bool false, .bool true], .int .i64 0]) ∧ Below w.heap.size w w' := by
  have hx0 : validH ⟨true, true, true, true, true, 0⟩ = true := by first | exact hx | rfl | (simp [validH]; omega)
  have HX := Lib.hid hx0
  have HV := hide (ref_valid_x · (true) (true) (true) (true) (true) (0) (by omega) (by omega))
  have HG := hide ref_begin_x
  clear hx0
  go_enter Try.func10, Try.ntmps10
  go_wp2_with fail
  refine (unhide HV _).mono ?_
  rintro e w1 ⟨rfl, hw1⟩
  unfold OneMore at hw1
  subst hw1
  rw [HX.out]
  dsimp only
  go_wp2_with fail
  go_region
  go_wp2_with fail
  exact bodyPost_ret (v := .tuple #[.agg #[.bool true, .bool true, .bool true, .bool true, .bool true, .int .i64 0], .agg #[.bool true, .bool false, .bool true], .int .i64 0]) (by simp [results, Try.results10, go_sem]) rfl ⟨rfl, by repeat (first | exact Below.refl _ _ | (apply Below.drew) | (refine Below.alloc ?_ (by simp; try omega) _))⟩
set_option maxRecDepth 100000 in
set_option maxHeartbeats 2000000 in
theorem rs_off_1 (w : World) (p r h s l : Bool) (b : Int) (rs : Bool) (hx : validH ⟨p, r, h, s, l, b⟩ = true) (hb : 0 ≤ b) (hb2 : b ≤ 20) :
    Calls Try.prog 10 #[.agg #[.bool p, .bool r, .bool h, .bool s, .bool l, .int .i64 b], .agg #[.bool false, .bool rs, .bool true]] w fun e w' => e = .returned (.tuple #[.agg #[.bool false, .bool false, .bool false, .bool s, .bool l, .int .i64 0], .agg #[.bool false, .bool true, .bool false], .int .i64 0]) ∧ Below w.heap.size w w' := by
  have hx0 : validH ⟨p, r, h, s, l, b⟩ = true := by first | exact hx | rfl | (simp [validH]; omega)
  have HX := Lib.hid hx0
  have HV := hide (ref_valid_x · (p) (r) (h) (s) (l) (b) (by omega) (by omega))
  have HG := hide ref_begin_x
  clear hx0 hx
  go_enter Try.func10, Try.ntmps10
  go_wp2_with fail
  refine (unhide HV _).mono ?_
  rintro e w1 ⟨rfl, hw1⟩
  unfold OneMore at hw1
  subst hw1
  rw [HX.out]
  dsimp only
  go_wp2_with fail
  go_region
  go_wp2_with fail
  exact bodyPost_ret (v := .tuple #[.agg #[.bool false, .bool false, .bool false, .bool s, .bool l, .int .i64 0], .agg #[.bool false, .bool true, .bool false], .int .i64 0]) (by simp [results, Try.results10, go_sem]) rfl ⟨rfl, by repeat (first | exact Below.refl _ _ | (apply Below.drew) | (refine Below.alloc ?_ (by simp; try omega) _))⟩
set_option maxRecDepth 100000 in
set_option maxHeartbeats 2000000 in
theorem rs_beg_10 (w : World) (s rs : Bool)  :
    Calls Try.prog 10 #[.agg #[.bool false, .bool false, .bool false, .bool s, .bool false, .int .i64 0], .agg #[.bool true, .bool rs, .bool true]] w fun e w' => e = .returned (.tuple #[.agg #[.bool true, .bool false, .bool false, .bool s, .bool false, .int .i64 20], .agg #[.bool true, .bool false, .bool false], .int .i64 0]) ∧ Below w.heap.size w w' := by
  have hx0 : validH ⟨false, false, false, s, false, 0⟩ = true := by first | exact hx | rfl | (simp [validH]; omega)
  have HX := Lib.hid hx0
  have HV := hide (ref_valid_x · (false) (false) (false) (s) (false) (0) (by omega) (by omega))
  have HG := hide ref_begin_x
  clear hx0
  go_enter Try.func10, Try.ntmps10
  go_wp2_with fail
  refine (unhide HV _).mono ?_
  rintro e w1 ⟨rfl, hw1⟩
  unfold OneMore at hw1
  subst hw1
  rw [HX.out]
  dsimp only
  go_wp2_with fail
  refine (unhide HG _ _ _ _ _ _ _).mono ?_
  rintro e w' ⟨rfl, rfl⟩
  go_wp2_with fail
  go_region
  go_wp2_with fail
  exact bodyPost_ret (v := .tuple #[.agg #[.bool true, .bool false, .bool false, .bool s, .bool false, .int .i64 20], .agg #[.bool true, .bool false, .bool false], .int .i64 0]) (by simp [results, Try.results10, go_sem]) rfl ⟨rfl, by repeat (first | exact Below.refl _ _ | (apply Below.drew) | (refine Below.alloc ?_ (by simp; try omega) _))⟩
set_option maxRecDepth 100000 in
set_option maxHeartbeats 2000000 in
theorem rs_res_10 (w : World) (r h s : Bool) (b : Int) (hx : validH ⟨true, r, h, s, false, b⟩ = true) (hb : 0 ≤ b) (hb2 : b ≤ 20) :
    Calls Try.prog 10 #[.agg #[.bool true, .bool r, .bool h, .bool s, .bool false, .int .i64 b], .agg #[.bool true, .bool true, .bool true]] w fun e w' => e = .returned (.tuple #[.agg #[.bool true, .bool false, .bool false, .bool s, .bool false, .int .i64 20], .agg #[.bool true, .bool false, .bool false], .int .i64 0]) ∧ Below w.heap.size w w' := by
  have hx0 : validH ⟨true, r, h, s, false, b⟩ = true := by first | exact hx | rfl | (simp [validH]; omega)
  have HX := Lib.hid hx0
  have HV := hide (ref_valid_x · (true) (r) (h) (s) (false) (b) (by omega) (by omega))
  have HG := hide ref_begin_x
  clear hx0 hx
  go_enter Try.func10, Try.ntmps10
  go_wp2_with fail
  refine (unhide HV _).mono ?_
  rintro e w1 ⟨rfl, hw1⟩
  unfold OneMore at hw1
  subst hw1
  rw [HX.out]
  dsimp only
  go_wp2_with fail
  refine (unhide HG _ _ _ _ _ _ _).mono ?_
  rintro e w' ⟨rfl, rfl⟩
  go_wp2_with fail
  go_region
  go_wp2_with fail
  exact bodyPost_ret (v := .tuple #[.agg #[.bool true, .bool false, .bool false, .bool s, .bool false, .int .i64 20], .agg #[.bool true, .bool false, .bool false], .int .i64 0]) (by simp [results, Try.results10, go_sem]) rfl ⟨rfl, by repeat (first | exact Below.refl _ _ | (apply Below.drew) | (refine Below.alloc ?_ (by simp; try omega) _))⟩
set_option maxRecDepth 100000 in
set_option maxHeartbeats 2000000 in
theorem rs_two_10 (w : World) (s : Bool) (b : Int) (hb : 2 ≤ b) (hb2 : b ≤ 20) :
    Calls Try.prog 10 #[.agg #[.bool true, .bool false, .bool false, .bool s, .bool false, .int .i64 b], .agg #[.bool true, .bool false, .bool true]] w fun e w' => e = .returned (.tuple #[.agg #[.bool true, .bool false, .bool false, .bool s, .bool false, .int .i64 (b - 1)], .agg #[.bool true, .bool false, .bool false], .int .i64 0]) ∧ Below w.heap.size w w' := by
  have hx0 : validH ⟨true, false, false, s, false, b⟩ = true := by first | exact hx | rfl | (simp [validH]; omega)
  have HX := Lib.hid hx0
  have HV := hide (ref_valid_x · (true) (false) (false) (s) (false) (b) (by omega) (by omega))
  have HG := hide ref_begin_x
  clear hx0
  have hd : (b - 1 == 0) = false := by simp; omega
  have hd2 : decide (0 < b) = true := by simp; omega
  go_enter Try.func10, Try.ntmps10
  go_wp2_with fail
  refine (unhide HV _).mono ?_
  rintro e w1 ⟨rfl, hw1⟩
  unfold OneMore at hw1
  subst hw1
  rw [HX.out]
  dsimp only
  go_wp2_with fail
  go_region
  go_wp2_with fail
  exact bodyPost_ret (v := .tuple #[.agg #[.bool true, .bool false, .bool false, .bool s, .bool false, .int .i64 (b - 1)], .agg #[.bool true, .bool false, .bool false], .int .i64 0]) (by simp [results, Try.results10, go_sem]) rfl ⟨rfl, by repeat (first | exact Below.refl _ _ | (apply Below.drew) | (refine Below.alloc ?_ (by simp; try omega) _))⟩
set_option maxRecDepth 100000 in
set_option maxHeartbeats 2000000 in
theorem rs_one_10 (w : World) (s : Bool)  :
    Calls Try.prog 10 #[.agg #[.bool true, .bool false, .bool false, .bool s, .bool false, .int .i64 1], .agg #[.bool true, .bool false, .bool true]] w fun e w' => e = .returned (.tuple #[.agg #[.bool true, .bool true, .bool false, .bool s, .bool false, .int .i64 0], .agg #[.bool true, .bool false, .bool true], .int .i64 0]) ∧ Below w.heap.size w w' := by
  have hx0 : validH ⟨true, false, false, s, false, 1⟩ = true := by first | exact hx | rfl | (simp [validH]; omega)
  have HX := Lib.hid hx0
  have HV := hide (ref_valid_x · (true) (false) (false) (s) (false) (1) (by omega) (by omega))
  have HG := hide ref_begin_x
  clear hx0
  go_enter Try.func10, Try.ntmps10
  go_wp2_with fail
  refine (unhide HV _).mono ?_
  rintro e w1 ⟨rfl, hw1⟩
  unfold OneMore at hw1
  subst hw1
  rw [HX.out]
  dsimp only
  go_wp2_with fail
  go_region
  go_wp2_with fail
  exact bodyPost_ret (v := .tuple #[.agg #[.bool true, .bool true, .bool false, .bool s, .bool false, .int .i64 0], .agg #[.bool true, .bool false, .bool true], .int .i64 0]) (by simp [results, Try.results10, go_sem]) rfl ⟨rfl, by repeat (first | exact Below.refl _ _ | (apply Below.drew) | (refine Below.alloc ?_ (by simp; try omega) _))⟩
set_option maxRecDepth 100000 in
set_option maxHeartbeats 2000000 in
theorem rs_run_10000 (w : World)   :
    Calls Try.prog 10 #[.agg #[.bool true, .bool false, .bool false, .bool false, .bool false, .int .i64 0], .agg #[.bool true, .bool false, .bool true]] w fun e w' => e = .returned (.tuple #[.agg #[.bool true, .bool false, .bool false, .bool false, .bool false, .int .i64 0], .agg #[.bool true, .bool true, .bool false], .int .i64 0]) ∧ Below w.heap.size w w' := by
  have hx0 : validH ⟨true, false, false, false, false, 0⟩ = true := by first | exact hx | rfl | (simp [validH]; omega)
  have HX := Lib.hid hx0
  have HV := hide (ref_valid_x · (true) (false) (false) (false) (false) (0) (by omega) (by omega))
  have HG := hide ref_begin_x
  clear hx0
  go_enter Try.func10, Try.ntmps10
  go_wp2_with fail
  refine (unhide HV _).mono ?_
  rintro e w1 ⟨rfl, hw1⟩
  unfold OneMore at hw1
  subst hw1
  rw [HX.out]
  dsimp only
  go_wp2_with fail
  go_region
  go_wp2_with fail
  exact bodyPost_ret (v := .tuple #[.agg #[.bool true, .bool false, .bool false, .bool false, .bool false, .int .i64 0], .agg #[.bool true, .bool true, .bool false], .int .i64 0]) (by simp [results, Try.results10, go_sem]) rfl ⟨rfl, by repeat (first | exact Below.refl _ _ | (apply Below.drew) | (refine Below.alloc ?_ (by simp; try omega) _))⟩
set_option maxRecDepth 100000 in
set_option maxHeartbeats 2000000 in
theorem rs_run_10001 (w : World)   :
    Calls Try.prog 10 #[.agg #[.bool true, .bool false, .bool false, .bool true, .bool false, .int .i64 0], .agg #[.bool true, .bool false, .bool true]] w fun e w' => e = .returned (.tuple #[.agg #[.bool true, .bool false, .bool false, .bool true, .bool false, .int .i64 0], .agg #[.bool true, .bool true, .bool false], .int .i64 0]) ∧ Below w.heap.size w w' := by
  have hx0 : validH ⟨true, false, false, true, false, 0⟩ = true := by first | exact hx | rfl | (simp [validH]; omega)
  have HX := Lib.hid hx0
  have HV := hide (ref_valid_x · (true) (false) (false) (true) (false) (0) (by omega) (by omega))
  have HG := hide ref_begin_x
  clear hx0
  go_enter Try.func10, Try.ntmps10
  go_wp2_with fail
  refine (unhide HV _).mono ?_
  rintro e w1 ⟨rfl, hw1⟩
  unfold OneMore at hw1
  subst hw1
  rw [HX.out]
  dsimp only
  go_wp2_with fail
  go_region
  go_wp2_with fail
  exact bodyPost_ret (v := .tuple #[.agg #[.bool true, .bool false, .bool false, .bool true, .bool false, .int .i64 0], .agg #[.bool true, .bool true, .bool false], .int .i64 0]) (by simp [results, Try.results10, go_sem]) rfl ⟨rfl, by repeat (first | exact Below.refl _ _ | (apply Below.drew) | (refine Below.alloc ?_ (by simp; try omega) _))⟩
set_option maxRecDepth 100000 in
set_option maxHeartbeats 2000000 in
theorem rs_run_10100 (w : World)   :
    Calls Try.prog 10 #[.agg #[.bool true, .bool true, .bool false, .bool false, .bool false, .int .i64 0], .agg #[.bool true, .bool false, .bool true]] w fun e w' => e = .returned (.tuple #[.agg #[.bool true, .bool false, .bool false, .bool false, .bool false, .int .i64 0], .agg #[.bool true, .bool true, .bool false], .int .i64 0]) ∧ Below w.heap.size w w' := by
  have hx0 : validH ⟨true, true, false, false, false, 0⟩ = true := by first | exact hx | rfl | (simp [validH]; omega)
  have HX := Lib.hid hx0
  have HV := hide (ref_valid_x · (true) (true) (false) (false) (false) (0) (by omega) (by omega))
  have HG := hide ref_begin_x
  clear hx0
  go_enter Try.func10, Try.ntmps10
  go_wp2_with fail
  refine (unhide HV _).mono ?_
  rintro e w1 ⟨rfl, hw1⟩
  unfold OneMore at hw1
  subst hw1
  rw [HX.out]
  dsimp only
  go_wp2_with fail
  go_region
  go_wp2_with fail
  exact bodyPost_ret (v := .tuple #[.agg #[.bool true, .bool false, .bool false, .bool false, .bool false, .int .i64 0], .agg #[.bool true, .bool true, .bool false], .int .i64 0]) (by simp [results, Try.results10, go_sem]) rfl ⟨rfl, by repeat (first | exact Below.refl _ _ | (apply Below.drew) | (refine Below.alloc ?_ (by simp; try omega) _))⟩
set_option maxRecDepth 100000 in
set_option maxHeartbeats 2000000 in
theorem rs_run_10101 (w : World)   :
    Calls Try.prog 10 #[.agg #[.bool true, .bool true, .bool false, .bool true, .bool false, .int .i64 0], .agg #[.bool true, .bool false, .bool true]] w fun e w' => e = .returned (.tuple #[.agg #[.bool true, .bool true, .bool false, .bool true, .bool false, .int .i64 0], .agg #[.bool true, .bool false, .bool true], .int .i64 0]) ∧ Below w.heap.size w w' := by
  have hx0 : validH ⟨true, true, false, true, false, 0⟩ = true := by first | exact hx | rfl | (simp [validH]; omega)
  have HX := Lib.hid hx0
  have HV := hide (ref_valid_x · (true) (true) (false) (true) (false) (0) (by omega) (by omega))
  have HG := hide ref_begin_x
  clear hx0
  go_enter Try.func10, Try.ntmps10
  go_wp2_with fail
  refine (unhide HV _).mono ?_
  rintro e w1 ⟨rfl, hw1⟩
  unfold OneMore at hw1
  subst hw1
  rw [HX.out]
  dsimp only
  go_wp2_with fail
  go_region
  go_wp2_with fail
  exact bodyPost_ret (v := .tuple #[.agg #[.bool true, .bool true, .bool false, .bool true, .bool false, .int .i64 0], .agg #[.bool true, .bool false, .bool true], .int .i64 0]) (by simp [results, Try.results10, go_sem]) rfl ⟨rfl, by repeat (first | exact Below.refl _ _ | (apply Below.drew) | (refine Below.alloc ?_ (by simp; try omega) _))⟩
set_option maxRecDepth 100000 in
set_option maxHeartbeats 2000000 in
theorem rs_run_10110 (w : World)   :
    Calls Try.prog 10 #[.agg #[.bool true, .bool true, .bool true, .bool false, .bool false, .int .i64 0], .agg #[.bool true, .bool false, .bool true]] w fun e w' => e = .returned (.tuple #[.agg #[.bool true, .bool true, .bool true, .bool false, .bool false, .int .i64 0], .agg #[.bool true, .bool false, .bool false], .int .i64 0]) ∧ Below w.heap.size w w' := by
  have hx0 : validH ⟨true, true, true, false, false, 0⟩ = true := by first | exact hx | rfl | (simp [validH]; omega)
  have HX := Lib.hid hx0
  have HV := hide (ref_valid_x · (true) (true) (true) (false) (false) (0) (by omega) (by omega))
  have HG := hide ref_begin_x
  clear hx0
  go_enter Try.func10, Try.ntmps10
  go_wp2_with fail
  refine (unhide HV _).mono ?_
  rintro e w1 ⟨rfl, hw1⟩
  unfold OneMore at hw1
  subst hw1
  rw [HX.out]
  dsimp only
  go_wp2_with fail
  go_region
  go_wp2_with fail
  exact bodyPost_ret (v := .tuple #[.agg #[.bool true, .bool true, .bool true, .bool false, .bool false, .int .i64 0], .agg #[.bool true, .bool false, .bool false], .int .i64 0]) (by simp [results, Try.results10, go_sem]) rfl ⟨rfl, by repeat (first | exact Below.refl _ _ | (apply Below.drew) | (refine Below.alloc ?_ (by simp; try omega) _))⟩
set_option maxRecDepth 100000 in
set_option maxHeartbeats 2000000 in
theorem rs_run_10111 (w : World)   :
    Calls Try.prog 10 #[.agg #[.bool true, .bool true, .bool true, .bool true, .bool false, .int .i64 0], .agg #[.bool true, .bool false, .bool true]] w fun e w' => e = .returned (.tuple #[.agg #[.bool true, .bool true, .bool true, .bool true, .bool false, .int .i64 0], .agg #[.bool true, .bool false, .bool false], .int .i64 0]) ∧ Below w.heap.size w w' := by
  have hx0 : validH ⟨true, true, true, true, false, 0⟩ = true := by first | exact hx | rfl | (simp [validH]; omega)
  have HX := Lib.hid hx0
  have HV := hide (ref_valid_x · (true) (true) (true) (true) (false) (0) (by omega) (by omega))
  have HG := hide ref_begin_x
  clear hx0
  go_enter Try.func10, Try.ntmps10
  go_wp2_with fail
  refine (unhide HV _).mono ?_
  rintro e w1 ⟨rfl, hw1⟩
  unfold OneMore at hw1
  subst hw1
  rw [HX.out]
  dsimp only
  go_wp2_with fail
  go_region
  go_wp2_with fail
  exact bodyPost_ret (v := .tuple #[.agg #[.bool true, .bool true, .bool true, .bool true, .bool false, .int .i64 0], .agg #[.bool true, .bool false, .bool false], .int .i64 0]) (by simp [results, Try.results10, go_sem]) rfl ⟨rfl, by repeat (first | exact Below.refl _ _ | (apply Below.drew) | (refine Below.alloc ?_ (by simp; try omega) _))⟩
set_option maxRecDepth 100000 in
set_option maxHeartbeats 2000000 in
theorem rs_beg_11 (w : World) (s rs : Bool)  :
    Calls Try.prog 10 #[.agg #[.bool false, .bool false, .bool false, .bool s, .bool true, .int .i64 0], .agg #[.bool true, .bool rs, .bool true]] w fun e w' => e = .returned (.tuple #[.agg #[.bool true, .bool false, .bool false, .bool s, .bool true, .int .i64 20], .agg #[.bool true, .bool true, .bool true], .int .i64 0]) ∧ Below w.heap.size w w' := by
  have hx0 : validH ⟨false, false, false, s, true, 0⟩ = true := by first | exact hx | rfl | (simp [validH]; omega)
  have HX := Lib.hid hx0
  have HV := hide (ref_valid_x · (false) (false) (false) (s) (true) (0) (by omega) (by omega))
  have HG := hide ref_begin_x
  clear hx0
  go_enter Try.func10, Try.ntmps10
  go_wp2_with fail
  refine (unhide HV _).mono ?_
  rintro e w1 ⟨rfl, hw1⟩
  unfold OneMore at hw1
  subst hw1
  rw [HX.out]
  dsimp only
  go_wp2_with fail
  refine (unhide HG _ _ _ _ _ _ _).mono ?_
  rintro e w' ⟨rfl, rfl⟩
  go_wp2_with fail
  go_region
  go_wp2_with fail
  exact bodyPost_ret (v := .tuple #[.agg #[.bool true, .bool false, .bool false, .bool s, .bool true, .int .i64 20], .agg #[.bool true, .bool true, .bool true], .int .i64 0]) (by simp [results, Try.results10, go_sem]) rfl ⟨rfl, by repeat (first | exact Below.refl _ _ | (apply Below.drew) | (refine Below.alloc ?_ (by simp; try omega) _))⟩
set_option maxRecDepth 100000 in
set_option maxHeartbeats 2000000 in
theorem rs_res_11 (w : World) (r h s : Bool) (b : Int) (hx : validH ⟨true, r, h, s, true, b⟩ = true) (hb : 0 ≤ b) (hb2 : b ≤ 20) :
    Calls Try.prog 10 #[.agg #[.bool true, .bool r, .bool h, .bool s, .bool true, .int .i64 b], .agg #[.bool true, .bool true, .bool true]] w fun e w' => e = .returned (.tuple #[.agg #[.bool true, .bool false, .bool false, .bool s, .bool true, .int .i64 20], .agg #[.bool true, .bool true, .bool true], .int .i64 0]) ∧ Below w.heap.size w w' := by
  have hx0 : validH ⟨true, r, h, s, true, b⟩ = true := by first | exact hx | rfl | (simp [validH]; omega)
  have HX := Lib.hid hx0
  have HV := hide (ref_valid_x · (true) (r) (h) (s) (true) (b) (by omega) (by omega))
  have HG := hide ref_begin_x
  clear hx0 hx
  go_enter Try.func10, Try.ntmps10
  go_wp2_with fail
  refine (unhide HV _).mono ?_
  rintro e w1 ⟨rfl, hw1⟩
  unfold OneMore at hw1
  subst hw1
  rw [HX.out]
  dsimp only
  go_wp2_with fail
  refine (unhide HG _ _ _ _ _ _ _).mono ?_
  rintro e w' ⟨rfl, rfl⟩
  go_wp2_with fail
  go_region
  go_wp2_with fail
  exact bodyPost_ret (v := .tuple #[.agg #[.bool true, .bool false, .bool false, .bool s, .bool true, .int .i64 20], .agg #[.bool true, .bool true, .bool true], .int .i64 0]) (by simp [results, Try.results10, go_sem]) rfl ⟨rfl, by repeat (first | exact Below.refl _ _ | (apply Below.drew) | (refine Below.alloc ?_ (by simp; try omega) _))⟩
set_option maxRecDepth 100000 in
set_option maxHeartbeats 2000000 in
theorem rs_two_11 (w : World) (s : Bool) (b : Int) (hb : 2 ≤ b) (hb2 : b ≤ 20) :
    Calls Try.prog 10 #[.agg #[.bool true, .bool false, .bool false, .bool s, .bool true, .int .i64 b], .agg #[.bool true, .bool false, .bool true]] w fun e w' => e = .returned (.tuple #[.agg #[.bool true, .bool false, .bool false, .bool s, .bool true, .int .i64 (b - 1)], .agg #[.bool true, .bool true, .bool true], .int .i64 0]) ∧ Below w.heap.size w w' := by
  have hx0 : validH ⟨true, false, false, s, true, b⟩ = true := by first | exact hx | rfl | (simp [validH]; omega)
  have HX := Lib.hid hx0
  have HV := hide (ref_valid_x · (true) (false) (false) (s) (true) (b) (by omega) (by omega))
  have HG := hide ref_begin_x
  clear hx0
  have hd : (b - 1 == 0) = false := by simp; omega
  have hd2 : decide (0 < b) = true := by simp; omega
  go_enter Try.func10, Try.ntmps10
  go_wp2_with fail
  refine (unhide HV _).mono ?_
  rintro e w1 ⟨rfl, hw1⟩
  unfold OneMore at hw1
  subst hw1
  rw [HX.out]
  dsimp only
  go_wp2_with fail
  go_region
  go_wp2_with fail
  exact bodyPost_ret (v := .tuple #[.agg #[.bool true, .bool false, .bool false, .bool s, .bool true, .int .i64 (b - 1)], .agg #[.bool true, .bool true, .bool true], .int .i64 0]) (by simp [results, Try.results10, go_sem]) rfl ⟨rfl, by repeat (first | exact Below.refl _ _ | (apply Below.drew) | (refine Below.alloc ?_ (by simp; try omega) _))⟩
set_option maxRecDepth 100000 in
set_option maxHeartbeats 2000000 in
theorem rs_one_11 (w : World) (s : Bool)  :
    Calls Try.prog 10 #[.agg #[.bool true, .bool false, .bool false, .bool s, .bool true, .int .i64 1], .agg #[.bool true, .bool false, .bool true]] w fun e w' => e = .returned (.tuple #[.agg #[.bool true, .bool true, .bool false, .bool s, .bool true, .int .i64 0], .agg #[.bool true, .bool true, .bool true], .int .i64 0]) ∧ Below w.heap.size w w' := by
  have hx0 : validH ⟨true, false, false, s, true, 1⟩ = true := by first | exact hx | rfl | (simp [validH]; omega)
  have HX := Lib.hid hx0
  have HV := hide (ref_valid_x · (true) (false) (false) (s) (true) (1) (by omega) (by omega))
  have HG := hide ref_begin_x
  clear hx0
  go_enter Try.func10, Try.ntmps10
  go_wp2_with fail
  refine (unhide HV _).mono ?_
  rintro e w1 ⟨rfl, hw1⟩
  unfold OneMore at hw1
  subst hw1
  rw [HX.out]
  dsimp only
  go_wp2_with fail
  go_region
  go_wp2_with fail
  exact bodyPost_ret (v := .tuple #[.agg #[.bool true, .bool true, .bool false, .bool s, .bool true, .int .i64 0], .agg #[.bool true, .bool true, .bool true], .int .i64 0]) (by simp [results, Try.results10, go_sem]) rfl ⟨rfl, by repeat (first | exact Below.refl _ _ | (apply Below.drew) | (refine Below.alloc ?_ (by simp; try omega) _))⟩
set_option maxRecDepth 100000 in
set_option maxHeartbeats 2000000 in
theorem rs_run_11000 (w : World)   :
    Calls Try.prog 10 #[.agg #[.bool true, .bool false, .bool false, .bool false, .bool true, .int .i64 0], .agg #[.bool true, .bool false, .bool true]] w fun e w' => e = .returned (.tuple #[.agg #[.bool true, .bool false, .bool false, .bool false, .bool true, .int .i64 0], .agg #[.bool true, .bool true, .bool true], .int .i64 0]) ∧ Below w.heap.size w w' := by
  have hx0 : validH ⟨true, false, false, false, true, 0⟩ = true := by first | exact hx | rfl | (simp [validH]; omega)
  have HX := Lib.hid hx0
  have HV := hide (ref_valid_x · (true) (false) (false) (false) (true) (0) (by omega) (by omega))
  have HG := hide ref_begin_x
  clear hx0
  go_enter Try.func10, Try.ntmps10
  go_wp2_with fail
  refine (unhide HV _).mono ?_
  rintro e w1 ⟨rfl, hw1⟩
  unfold OneMore at hw1
  subst hw1
  rw [HX.out]
  dsimp only
  go_wp2_with fail
  go_region
  go_wp2_with fail
  exact bodyPost_ret (v := .tuple #[.agg #[.bool true, .bool false, .bool false, .bool false, .bool true, .int .i64 0], .agg #[.bool true, .bool true, .bool true], .int .i64 0]) (by simp [results, Try.results10, go_sem]) rfl ⟨rfl, by repeat (first | exact Below.refl _ _ | (apply Below.drew) | (refine Below.alloc ?_ (by simp; try omega) _))⟩
set_option maxRecDepth 100000 in
set_option maxHeartbeats 2000000 in
theorem rs_run_11001 (w : World)   :
    Calls Try.prog 10 #[.agg #[.bool true, .bool false, .bool false, .bool true, .bool true, .int .i64 0], .agg #[.bool true, .bool false, .bool true]] w fun e w' => e = .returned (.tuple #[.agg #[.bool true, .bool false, .bool false, .bool true, .bool true, .int .i64 0], .agg #[.bool true, .bool true, .bool true], .int .i64 0]) ∧ Below w.heap.size w w' := by
  have hx0 : validH ⟨true, false, false, true, true, 0⟩ = true := by first | exact hx | rfl | (simp [validH]; omega)
  have HX := Lib.hid hx0
  have HV := hide (ref_valid_x · (true) (false) (false) (true) (true) (0) (by omega) (by omega))
  have HG := hide ref_begin_x
  clear hx0
  go_enter Try.func10, Try.ntmps10
  go_wp2_with fail
  refine (unhide HV _).mono ?_
  rintro e w1 ⟨rfl, hw1⟩
  unfold OneMore at hw1
  subst hw1
  rw [HX.out]
  dsimp only
  go_wp2_with fail
  go_region
  go_wp2_with fail
  exact bodyPost_ret (v := .tuple #[.agg #[.bool true, .bool false, .bool false, .bool true, .bool true, .int .i64 0], .agg #[.bool true, .bool true, .bool true], .int .i64 0]) (by simp [results, Try.results10, go_sem]) rfl ⟨rfl, by repeat (first | exact Below.refl _ _ | (apply Below.drew) | (refine Below.alloc ?_ (by simp; try omega) _))⟩
set_option maxRecDepth 100000 in
set_option maxHeartbeats 2000000 in
theorem rs_run_11100 (w : World)   :
    Calls Try.prog 10 #[.agg #[.bool true, .bool true, .bool false, .bool false, .bool true, .int .i64 0], .agg #[.bool true, .bool false, .bool true]] w fun e w' => e = .returned (.tuple #[.agg #[.bool true, .bool false, .bool false, .bool false, .bool true, .int .i64 0], .agg #[.bool true, .bool true, .bool true], .int .i64 0]) ∧ Below w.heap.size w w' := by
  have hx0 : validH ⟨true, true, false, false, true, 0⟩ = true := by first | exact hx | rfl | (simp [validH]; omega)
  have HX := Lib.hid hx0
  have HV := hide (ref_valid_x · (true) (true) (false) (false) (true) (0) (by omega) (by omega))
  have HG := hide ref_begin_x
  clear hx0
  go_enter Try.func10, Try.ntmps10
  go_wp2_with fail
  refine (unhide HV _).mono ?_
  rintro e w1 ⟨rfl, hw1⟩
  unfold OneMore at hw1
  subst hw1
  rw [HX.out]
  dsimp only
  go_wp2_with fail
  go_region
  go_wp2_with fail
  exact bodyPost_ret (v := .tuple #[.agg #[.bool true, .bool false, .bool false, .bool false, .bool true, .int .i64 0], .agg #[.bool true, .bool true, .bool true], .int .i64 0]) (by simp [results, Try.results10, go_sem]) rfl ⟨rfl, by repeat (first | exact Below.refl _ _ | (apply Below.drew) | (refine Below.alloc ?_ (by simp; try omega) _))⟩
set_option maxRecDepth 100000 in
set_option maxHeartbeats 2000000 in
theorem rs_run_11101 (w : World)   :
    Calls Try.prog 10 #[.agg #[.bool true, .bool true, .bool false, .bool true, .bool true, .int .i64 0], .agg #[.bool true, .bool false, .bool true]] w fun e w' => e = .returned (.tuple #[.agg #[.bool true, .bool true, .bool false, .bool true, .bool true, .int .i64 0], .agg #[.bool true, .bool true, .bool true], .int .i64 0]) ∧ Below w.heap.size w w' := by
  have hx0 : validH ⟨true, true, false, true, true, 0⟩ = true := by first | exact hx | rfl | (simp [validH]; omega)
  have HX := Lib.hid hx0
  have HV := hide (ref_valid_x · (true) (true) (false) (true) (true) (0) (by omega) (by omega))
  have HG := hide ref_begin_x
  clear hx0
  go_enter Try.func10, Try.ntmps10
  go_wp2_with fail
  refine (unhide HV _).mono ?_
  rintro e w1 ⟨rfl, hw1⟩
  unfold OneMore at hw1
  subst hw1
  rw [HX.out]
  dsimp only
  go_wp2_with fail
  go_region
  go_wp2_with fail
  exact bodyPost_ret (v := .tuple #[.agg #[.bool true, .bool true, .bool false, .bool true, .bool true, .int .i64 0], .agg #[.bool true, .bool true, .bool true], .int .i64 0]) (by simp [results, Try.results10, go_sem]) rfl ⟨rfl, by repeat (first | exact Below.refl _ _ | (apply Below.drew) | (refine Below.alloc ?_ (by simp; try omega) _))⟩
set_option maxRecDepth 100000 in
set_option maxHeartbeats 2000000 in
theorem rs_run_11110 (w : World)   :
    Calls Try.prog 10 #[.agg #[.bool true, .bool true, .bool true, .bool false, .bool true, .int .i64 0], .agg #[.bool true, .bool false, .bool true]] w fun e w' => e = .returned (.tuple #[.agg #[.bool true, .bool true, .bool true, .bool false, .bool true, .int .i64 0], .agg #[.bool true, .bool true, .bool true], .int .i64 0]) ∧ Below w.heap.size w w' := by
  have hx0 : validH ⟨true, true, true, false, true, 0⟩ = true := by first | exact hx | rfl | (simp [validH]; omega)
  have HX := Lib.hid hx0
  have HV := hide (ref_valid_x · (true) (true) (true) (false) (true) (0) (by omega) (by omega))
  have HG := hide ref_begin_x
  clear hx0
  go_enter Try.func10, Try.ntmps10
  go_wp2_with fail
  refine (unhide HV _).mono ?_
  rintro e w1 ⟨rfl, hw1⟩
  unfold OneMore at hw1
  subst hw1
  rw [HX.out]
  dsimp only
  go_wp2_with fail
  go_region
  go_wp2_with fail
  exact bodyPost_ret (v := .tuple #[.agg #[.bool true, .bool true, .bool true, .bool false, .bool true, .int .i64 0], .agg #[.bool true, .bool true, .bool true], .int .i64 0]) (by simp [results, Try.results10, go_sem]) rfl ⟨rfl, by repeat (first | exact Below.refl _ _ | (apply Below.drew) | (refine Below.alloc ?_ (by simp; try omega) _))⟩
set_option maxRecDepth 100000 in
set_option maxHeartbeats 2000000 in
theorem rs_run_11111 (w : World)   :
    Calls Try.prog 10 #[.agg #[.bool true, .bool true, .bool true, .bool true, .bool true, .int .i64 0], .agg #[.bool true, .bool false, .bool true]] w fun e w' => e = .returned (.tuple #[.agg #[.bool true, .bool true, .bool true, .bool true, .bool true, .int .i64 0], .agg #[.bool true, .bool true, .bool true], .int .i64 0]) ∧ Below w.heap.size w w' := by
  have hx0 : validH ⟨true, true, true, true, true, 0⟩ = true := by first | exact hx | rfl | (simp [validH]; omega)
  have HX := Lib.hid hx0
  have HV := hide (ref_valid_x · (true) (true) (true) (true) (true) (0) (by omega) (by omega))
  have HG := hide ref_begin_x
  clear hx0
  go_enter Try.func10, Try.ntmps10
  go_wp2_with fail
  refine (unhide HV _).mono ?_
  rintro e w1 ⟨rfl, hw1⟩
  unfold OneMore at hw1
  subst hw1
  rw [HX.out]
  dsimp only
  go_wp2_with fail
  go_region
  go_wp2_with fail
  exact bodyPost_ret (v := .tuple #[.agg #[.bool true, .bool true, .bool true, .bool true, .bool true, .int .i64 0], .agg #[.bool true, .bool true, .bool true], .int .i64 0]) (by simp [results, Try.results10, go_sem]) rfl ⟨rfl, by repeat (first | exact Below.refl _ _ | (apply Below.drew) | (refine Below.alloc ?_ (by simp; try omega) _))⟩
theorem rstep_ok (w : World) (x : HH) (hx : validH x = true) (on rs sf : Bool) :
    Calls Try.prog 10 #[x.v, .agg #[.bool on, .bool rs, .bool sf]] w fun e w' => e = .returned (.tuple #[(stepH x on rs sf).v, repV (stepH x on rs sf) sf, .int .i64 0]) ∧ Below w.heap.size w w' := by
  have hbd := HH.bounds hx
  obtain ⟨p, r, h, s, l, b⟩ := x
  obtain ⟨hb, hb2⟩ := hbd
  dsimp only at hb hb2
  cases on
  · cases sf
    · exact rs_off_0 w p r h s l b rs hx hb hb2
    · exact rs_off_1 w p r h s l b rs hx hb hb2
  · cases p
    · have h3 : r = false ∧ h = false ∧ b = 0 := by revert hx; cases r <;> cases h <;> simp [validH]
      obtain ⟨rfl, rfl, rfl⟩ := h3
      cases sf <;> cases l
      · exact rs_beg_00 w s rs
      · exact rs_beg_01 w s rs
      · exact rs_beg_10 w s rs
      · exact rs_beg_11 w s rs
    · cases rs
      · by_cases h0 : b = 0
        · subst h0
          have h3 : (r = false ∧ h = false) ∨ (r = true ∧ h = false) ∨ (r = true ∧ h = true) := by revert hx; cases r <;> cases h <;> simp [validH]
          rcases h3 with ⟨rfl, rfl⟩ | ⟨rfl, rfl⟩ | ⟨rfl, rfl⟩ <;> cases sf <;> cases l <;> cases s
          · exact rs_run_00000 w
          · exact rs_run_00001 w
          · exact rs_run_01000 w
          · exact rs_run_01001 w
          · exact rs_run_10000 w
          · exact rs_run_10001 w
          · exact rs_run_11000 w
          · exact rs_run_11001 w
          · exact rs_run_00100 w
          · exact rs_run_00101 w
          · exact rs_run_01100 w
          · exact rs_run_01101 w
          · exact rs_run_10100 w
          · exact rs_run_10101 w
          · exact rs_run_11100 w
          · exact rs_run_11101 w
          · exact rs_run_00110 w
          · exact rs_run_00111 w
          · exact rs_run_01110 w
          · exact rs_run_01111 w
          · exact rs_run_10110 w
          · exact rs_run_10111 w
          · exact rs_run_11110 w
          · exact rs_run_11111 w
        · have h3 : r = false ∧ h = false := by revert hx; cases r <;> cases h <;> simp [validH, h0]
          obtain ⟨rfl, rfl⟩ := h3
          by_cases h1 : b = 1
          · subst h1
            cases sf <;> cases l
            · exact rs_one_00 w s
            · exact rs_one_01 w s
            · exact rs_one_10 w s
            · exact rs_one_11 w s
          · have e : stepH ⟨true, false, false, s, l, b⟩ true false sf = ⟨true, false, false, s, l, b - 1⟩ := by
              have h5 : 0 < b := by omega
              simp [stepH, chain, offF, onF, bootF, stopF, h1, h5]
            have e2 : repV ⟨true, false, false, s, l, b - 1⟩ sf = .agg #[.bool true, .bool (sf && l), .bool l] := by
              have h5 : ¬ b - 1 = 0 := by omega
              simp [repV, goodR, doneR, kickR, h5]
            rw [e, e2]
            cases sf <;> cases l
            · exact rs_two_00 w s b (by omega) hb2
            · exact rs_two_01 w s b (by omega) hb2
            · exact rs_two_10 w s b (by omega) hb2
            · exact rs_two_11 w s b (by omega) hb2
      · cases sf <;> cases l
        · exact rs_res_00 w r h s b hx hb hb2
        · exact rs_res_01 w r h s b hx hb hb2
        · exact rs_res_10 w r h s b hx hb hb2
        · exact rs_res_11 w r h s b hx hb hb2
end Go.Proofs.Ytalhemdlkhkhfaa
