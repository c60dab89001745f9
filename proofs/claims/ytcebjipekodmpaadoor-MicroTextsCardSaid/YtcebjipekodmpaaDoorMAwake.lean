/- The law's awake: true; Format at -500000. -/
import Derived.Test.YtcebjipekodmpaaDoorMRoot
import Derived.ShutString
namespace Go.Proofs.YtcebjipekodmpaaDoor
open Go.RowKit Go.Sort
theorem TabIs_drew {W : World} (h : Lib.TabIs Tryd.prog W "internal/strconv.uint64pow10" .u64 Lib.pow10Tab) (n : Nat) : Lib.TabIs Tryd.prog (W.drewN n) "internal/strconv.uint64pow10" .u64 Lib.pow10Tab := h
theorem fmt_zero (w : World) : Calls Tryd.prog 48 #[.int .i64 0, .int .i64 10] w fun e w' => e = .returned (.string ⟨#[48]⟩) ∧ w = w' :=
  (Tryd.strconv_FormatInt_10_small 0 (by omega) w).mono fun _ _ h => ⟨h.1.trans (by rw [Lib.decDigits, dif_pos (by omega)]; rfl), h.2.symm⟩
theorem itoa_big : Lib.itoa 1500000 = [49, 53, 48, 48, 48, 48, 48] := by
  simp [Lib.itoa, Lib.decDigits]
theorem below_grow (w : World) (os : Array Obj) : Below w.heap.size w (grow w os) :=
  ⟨rfl, rfl, rfl, by simp [grow], fun i hi => by simp [grow, Array.getElem?_append_left hi]⟩
theorem fmt_big (w : World) (htab : Lib.TabIs Tryd.prog w "internal/strconv.uint64pow10" .u64 Lib.pow10Tab) : Calls Tryd.prog 48 #[.int .i64 1500000, .int .i64 10] w fun e w' => e = .returned (.string ⟨#[49, 53, 48, 48, 48, 48, 48]⟩) ∧ ∃ k os, w' = grow (w.drewN k) os :=
  (Tryd.strconv_FormatInt_10 1500000 (by omega) (by omega) w htab).mono fun _ _ h => ⟨h.1.trans (by rw [itoa_big]), h.2⟩
theorem trim_five (w : World) : Calls Tryd.prog 49 #[.string ⟨#[53, 48, 48, 48, 48, 48]⟩, .string ⟨#[48]⟩] w fun e w' => e = .returned (.string ⟨#[53]⟩) ∧ w = w' :=
  (Tryd.strings_TrimRight_one ⟨#[53, 48, 48, 48, 48, 48]⟩ 48 (by decide) w (by decide)).mono fun _ _ h => ⟨h.1.trans (by rfl), h.2.symm⟩
theorem format_half (w : World) (htab : Lib.TabIs Tryd.prog w "internal/strconv.uint64pow10" .u64 Lib.pow10Tab) :
    Calls Tryd.prog 34 #[.int .i64 (-500000)] w fun e w' => e = .returned (.string ⟨#[45, 48, 46, 53]⟩) ∧ Below w.heap.size w w' := by
  have HC := hide (fun w => clamp_any w (-500000))
  have HT := hide htab
  clear htab
  go_enter Tryd.func34, Tryd.ntmps34
  go_wp2_with fail
  refine (unhide HC _).mono ?_
  rintro e w' ⟨rfl, rfl⟩
  rw [show clampF (-500000) = -500000 from by unfold clampF; omega]
  go_wp2_with fail
  refine (fmt_zero _).mono ?_
  rintro e w' ⟨rfl, rfl⟩
  go_wp2_with fail
  refine (fmt_big _ (unhide HT)).mono ?_
  rintro e w2 ⟨rfl, k, os, rfl⟩
  go_wp2_with fail
  refine (trim_five _).mono ?_
  rintro e w' ⟨rfl, rfl⟩
  go_wp2_with fail
  go_ret
  exact ⟨rfl, (below_drewN (Below.refl _ _) k).trans (below_grow (w.drewN k) os)⟩
theorem div_third : divF (-1000000) 3000000 = -333334 ∧ divE 3000000 = 0 := by
  unfold divF divE
  rw [clampF_id (-1000000) (by omega) (by omega), clampF_id 3000000 (by omega) (by omega)]
  exact ⟨by decide, by decide⟩
theorem root_two : rootF 2000000 = 1414213 ∧ rootE 2000000 = 0 := by
  unfold rootF rootE
  rw [clampF_id 2000000 (by omega) (by omega), if_neg (by omega), if_neg (by omega)]
  have h := isq_of (2000000 * 1000000) 1414213 (by omega) (by omega)
  refine ⟨?_, rfl⟩
  rw [show ((2000000 : Int) * 1000000).toNat = 2000000 * 1000000 from rfl, ← h]
  rfl
theorem mul_down : mulF 1500000 (-1) = -2 := by
  unfold mulF
  rw [clampF_id 1500000 (by omega) (by omega), clampF_id (-1) (by omega) (by omega)]
  rw [show (1500000 : Int) * -1 / 1000000 = -2 from by decide]
  exact clampF_id _ (by omega) (by omega)
theorem awake_any (w : World) (htab : Lib.TabIs Tryd.prog w "internal/strconv.uint64pow10" .u64 Lib.pow10Tab) :
    Calls Tryd.prog 14 #[] w fun e w' => e = .returned (.bool true) ∧ Below w.heap.size w w' := by
  have HT := hide htab
  clear htab
  go_enter Tryd.func14, Tryd.ntmps14
  go_wp2_with fail
  refine (div_any _ (-1000000) 3000000).mono ?_
  rintro e w' ⟨rfl, rfl⟩
  rw [div_third.1, div_third.2]
  go_wp2_with fail
  refine (root_any _ 2000000).mono ?_
  rintro e w' ⟨rfl, rfl⟩
  rw [root_two.1, root_two.2]
  go_wp2_with fail
  refine (mul_any _ 1500000 (-1)).mono ?_
  rintro e w' ⟨rfl, nd, rfl⟩
  rw [mul_down]
  go_wp2_with fail
  refine (format_half _ (TabIs_drew (unhide HT) nd)).mono ?_
  rintro e w2 ⟨rfl, hb⟩
  have HB := hide ((below_drewN (Below.refl _ _) nd).trans hb)
  clear hb
  go_wp2_with fail
  go_ret
  exact ⟨rfl, unhide HB⟩
theorem awake_drew (w : World) (n : Nat) (htab : Lib.TabIs Tryd.prog w "internal/strconv.uint64pow10" .u64 Lib.pow10Tab) :
    Calls Tryd.prog 14 #[] (w.drewN n) fun e w' => e = .returned (.bool true) ∧ Below w.heap.size w w' :=
  (awake_any (w.drewN n) (TabIs_drew htab n)).mono fun _ _ h => ⟨h.1, (below_drewN (Below.refl _ _) n).trans h.2⟩
end Go.Proofs.YtcebjipekodmpaaDoor
