/- The functions of the package micro that only compute: Clamp, Add, Sub, size, floor. -/
import Derived.Test.YtcebjipekodmpaaDoorBase
import Derived.Test.YtcebjipekodmpaaDoorMPlain
import Derived.Test.YtcebjipekodmpaaDoorProg
import Derived.IntWalk
import Derived.WalkLawsBesides
namespace Go.Proofs.YtcebjipekodmpaaDoor
open Go.RowKit
theorem clamp_any (w : World) (v : Int) :
    Calls Tryd.prog 22 #[.int .i64 v] w fun e w' => e = .returned (.int .i64 (clampF v)) ∧ w = w' := by
  go_enter Tryd.func22, Tryd.ntmps22
  go_wp2_with fail
  all_goals
    go_ret
    exact ⟨ret_int (by unfold clampF; omega), rfl⟩
theorem floor_any (w : World) (n d : Int) (hd : d ≠ 0) (h0 : -1000000000000000000 ≤ n) (h1 : n ≤ 1000000000000000000) :
    Calls Tryd.prog 37 #[.int .i64 n, .int .i64 d] w fun e w' => e = .returned (.int .i64 (floorF n d)) ∧ w = w' := by
  have hb := tdiv_bd n d h0 h1
  obtain ⟨hb1, hb2⟩ := hb
  have HY := hide (floorF_yes n d hd)
  have HN := hide (floorF_no n d hd)
  by_cases hr : n.tmod d = 0
  · have hr1 : (n.tmod d != 0) = false := by simp [hr]
    go_enter Tryd.func37, Tryd.ntmps37
    go_wp2_with fail
    go_ret
    exact ⟨ret_int (unhide HN (.inl hr)), rfl⟩
  · have hr1 : (n.tmod d != 0) = true := by simp [hr]
    have HR := hide hr
    cases hs : (!decide (n < 0) == decide (d < 0))
    · go_enter Tryd.func37, Tryd.ntmps37
      go_wp2_with fail
      go_ret
      exact ⟨ret_int (unhide HN (.inr hs)), rfl⟩
    · go_enter Tryd.func37, Tryd.ntmps37
      go_wp2_with fail
      go_ret
      exact ⟨ret_int (unhide HY (unhide HR) hs), rfl⟩
theorem size_any (w : World) (v : Int) (X : Nat) (hX : v.natAbs = X) (h0 : -1000000000000 ≤ v) (h1 : v ≤ 1000000000000) :
    Calls Tryd.prog 41 #[.int .i64 v] w fun e w' => e = .returned (.int .u64 (X : Int)) ∧ w = w' := by
  go_enter Tryd.func41, Tryd.ntmps41
  go_wp2_with fail
  all_goals
    go_ret
    exact ⟨ret_int (by omega), rfl⟩
theorem add_any (w : World) (a b : Int) :
    Calls Tryd.prog 25 #[.int .i64 a, .int .i64 b] w fun e w' => e = .returned (.int .i64 (addF a b)) ∧ w = w' := by
  obtain ⟨a1, a2⟩ := clampF_bd a
  obtain ⟨b1, b2⟩ := clampF_bd b
  go_enter Tryd.func25, Tryd.ntmps25
  go_wp2_with (go_at_call 22; refine (clamp_any _ _).mono ?_; rintro e w' ⟨rfl, rfl⟩)
  go_ret
  exact ⟨rfl, rfl⟩
theorem sub_any (w : World) (a b : Int) :
    Calls Tryd.prog 27 #[.int .i64 a, .int .i64 b] w fun e w' => e = .returned (.int .i64 (subF a b)) ∧ w = w' := by
  obtain ⟨a1, a2⟩ := clampF_bd a
  obtain ⟨b1, b2⟩ := clampF_bd b
  go_enter Tryd.func27, Tryd.ntmps27
  go_wp2_with (go_at_call 22; refine (clamp_any _ _).mono ?_; rintro e w' ⟨rfl, rfl⟩)
  go_ret
  exact ⟨rfl, rfl⟩
theorem div_zero (w : World) (a b : Int) (hb : clampF b = 0) :
    Calls Tryd.prog 17 #[.int .i64 a, .int .i64 b] w fun e w' => e = .returned (.tuple #[.int .i64 0, .int .i64 12]) ∧ w = w' := by
  have hb0 : (clampF b == 0) = true := by simpa using hb
  have HB := Lib.hid hb
  clear hb
  go_enter Tryd.func17, Tryd.ntmps17
  go_wp2_with (go_at_call 22; refine (clamp_any _ _).mono ?_; rintro e w' ⟨rfl, rfl⟩)
  go_ret2
  exact ⟨rfl, rfl⟩
theorem div_some (w : World) (a b : Int) (hb : clampF b ≠ 0) :
    Calls Tryd.prog 17 #[.int .i64 a, .int .i64 b] w fun e w' => e = .returned (.tuple #[.int .i64 (clampF (floorF (clampF a * 1000000) (clampF b))), .int .i64 0]) ∧ w = w' := by
  have hb0 : (clampF b == 0) = false := by simpa using hb
  obtain ⟨a1, a2⟩ := clampF_bd a
  have HB := hide hb
  clear hb
  go_enter Tryd.func17, Tryd.ntmps17
  go_wp2_with (first
    | (go_at_call 22; refine (clamp_any _ _).mono ?_; rintro e w' ⟨rfl, rfl⟩)
    | (go_at_call 37; refine (floor_any _ _ _ (unhide HB) (by omega) (by omega)).mono ?_; rintro e w' ⟨rfl, rfl⟩))
  go_ret2
  exact ⟨rfl, rfl⟩
theorem div_any (w : World) (a b : Int) :
    Calls Tryd.prog 17 #[.int .i64 a, .int .i64 b] w fun e w' => e = .returned (.tuple #[.int .i64 (divF a b), .int .i64 (divE b)]) ∧ w = w' := by
  unfold divF divE
  by_cases hb : clampF b = 0
  · rw [if_pos hb, if_pos hb]; exact div_zero w a b hb
  · rw [if_neg hb, if_neg hb]; exact div_some w a b hb
end Go.Proofs.YtcebjipekodmpaaDoor
