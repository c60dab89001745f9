/- micro.Mul returns the product rounded down, clamped. -/
import Derived.Test.YtcebjipekodmpaaDoorMDiv
namespace Go.Proofs.YtcebjipekodmpaaDoor
open Go.RowKit
theorem mul64_at (w : World) (x y p hi lo : Nat) (hx : x < 18446744073709551616) (hy : y < 18446744073709551616) (hp : x * y = p) (hh : p / 18446744073709551616 = hi) (hl : p % 18446744073709551616 = lo) :
    Calls Tryd.prog 40 #[.int .u64 x, .int .u64 y] w fun e w' => e = .returned (.tuple #[.int .u64 (hi : Int), .int .u64 (lo : Int)]) ∧ w = w' := by
  have h := mul64_any w x y hx hy
  rw [hp, hh, hl] at h
  exact h
theorem div64_at (w : World) (p hi lo q r : Nat) (hh : p / 18446744073709551616 = hi) (hl : p % 18446744073709551616 = lo) (hp : p ≤ 1000000000000000000000000) (hq : p / 1000000 = q) (hr : p % 1000000 = r) :
    Calls Tryd.prog 42 #[.int .u64 hi, .int .u64 lo, .int .u64 1000000] w fun e w' => e = .returned (.tuple #[.int .u64 (q : Int), .int .u64 (r : Int)]) ∧ ∃ n, w' = w.drewN n := by
  have h := div64_any w hi lo (by omega) (by omega)
  have e : hi * 18446744073709551616 + lo = p := by omega
  rw [e, hq, hr] at h
  exact h
set_option maxHeartbeats 1000000 in
theorem mul_any (w : World) (a b : Int) :
    Calls Tryd.prog 21 #[.int .i64 a, .int .i64 b] w fun e w' => e = .returned (.int .i64 (mulF a b)) ∧ ∃ n, w' = w.drewN n := by
  obtain ⟨a1, a2⟩ := clampF_bd a
  obtain ⟨b1, b2⟩ := clampF_bd b
  obtain ⟨X, HX, hX⟩ : ∃ X, Hid ((clampF a).natAbs = X) ∧ X ≤ 1000000000000 := ⟨_, hide rfl, natAbs_clamp a⟩
  obtain ⟨Y, HY, hY⟩ : ∃ Y, Hid ((clampF b).natAbs = Y) ∧ Y ≤ 1000000000000 := ⟨_, hide rfl, natAbs_clamp b⟩
  obtain ⟨p, HP, hp⟩ : ∃ p, Hid (X * Y = p) ∧ p ≤ 1000000000000000000000000 := ⟨_, hide rfl, Nat.mul_le_mul hX hY⟩
  obtain ⟨hi, HHI⟩ : ∃ hi, Hid (p / 18446744073709551616 = hi) := ⟨_, hide rfl⟩
  obtain ⟨lo, HLO⟩ : ∃ lo, Hid (p % 18446744073709551616 = lo) := ⟨_, hide rfl⟩
  obtain ⟨q, HQ, hq⟩ : ∃ q, Hid (p / 1000000 = q) ∧ q ≤ 1000000000000000000 := ⟨_, hide rfl, by omega⟩
  obtain ⟨r, HR⟩ : ∃ r, Hid (p % 1000000 = r) := ⟨_, hide rfl⟩
  have HPB := hide hp
  clear hp
  have hs := mulF_same a b X Y q (unhide HX) (unhide HY)
  have hd0 := mulF_diff0 a b X Y q (unhide HX) (unhide HY)
  have hd1 := mulF_diff1 a b X Y q (unhide HX) (unhide HY)
  rw [unhide HP, unhide HQ] at hs
  rw [unhide HP, unhide HQ, unhide HR] at hd0 hd1
  have HS := hide hs
  have HD0 := hide hd0
  have HD1 := hide hd1
  clear hs hd0 hd1
  obtain ⟨m, hm⟩ : ∃ m, mulF a b = m := ⟨_, rfl⟩
  rw [hm] at HS HD0 HD1 ⊢
  clear hm
  by_cases ha : clampF a < 0 <;> by_cases hb : clampF b < 0
  · have HF := Lib.hid (unhide HS (by omega) rfl)
    have hda : decide (clampF a < 0) = true := by simp; omega
    have hdb : decide (clampF b < 0) = true := by simp; omega
    go_enter Tryd.func21, Tryd.ntmps21
    go_wp2_with (first
      | (go_at_call 22; refine (clamp_any _ _).mono ?_; rintro e w' ⟨rfl, rfl⟩)
      | (go_at_call 41; (with_reducible refine (size_any _ (clampF a) X (unhide HX) (by omega) (by omega)).mono ?_); rintro e w' ⟨rfl, rfl⟩)
      | (go_at_call 41; (with_reducible refine (size_any _ (clampF b) Y (unhide HY) (by omega) (by omega)).mono ?_); rintro e w' ⟨rfl, rfl⟩)
      | (go_at_call 40; refine (mul64_at _ X Y p hi lo (by omega) (by omega) (unhide HP) (unhide HHI) (unhide HLO)).mono ?_; rintro e w' ⟨rfl, rfl⟩)
      | (go_at_call 42; refine (div64_at _ p hi lo q r (unhide HHI) (unhide HLO) (unhide HPB) (unhide HQ) (unhide HR)).mono ?_; rintro e w' ⟨rfl, nd, rfl⟩))
    go_ret
    exact ⟨ret_int HF.out.symm, nd, rfl⟩
  · have hda : decide (clampF a < 0) = true := by simp; omega
    have hdb : decide (clampF b < 0) = false := by simp; omega
    rcases Nat.eq_zero_or_pos r with hr | hr
    · have HF := Lib.hid (unhide HD0 (by omega) rfl hr)
      have hr1 : r ≤ 0 := by omega
      have hr2 : decide (0 < r) = false := by simp; omega
      have HRR := Lib.hid hr
      clear hr
      go_enter Tryd.func21, Tryd.ntmps21
      go_wp2_with (first
        | (go_at_call 22; refine (clamp_any _ _).mono ?_; rintro e w' ⟨rfl, rfl⟩)
        | (go_at_call 41; (with_reducible refine (size_any _ (clampF a) X (unhide HX) (by omega) (by omega)).mono ?_); rintro e w' ⟨rfl, rfl⟩)
        | (go_at_call 41; (with_reducible refine (size_any _ (clampF b) Y (unhide HY) (by omega) (by omega)).mono ?_); rintro e w' ⟨rfl, rfl⟩)
        | (go_at_call 40; refine (mul64_at _ X Y p hi lo (by omega) (by omega) (unhide HP) (unhide HHI) (unhide HLO)).mono ?_; rintro e w' ⟨rfl, rfl⟩)
        | (go_at_call 42; refine (div64_at _ p hi lo q r (unhide HHI) (unhide HLO) (unhide HPB) (unhide HQ) (unhide HR)).mono ?_; rintro e w' ⟨rfl, nd, rfl⟩))
      go_ret
      refine ⟨ret_int ?_, nd, rfl⟩
      exact HF.out.symm
    · have HF := Lib.hid (unhide HD1 (by omega) rfl hr)
      have hr2 : decide (0 < r) = true := by simp; omega
      go_enter Tryd.func21, Tryd.ntmps21
      go_wp2_with (first
        | (go_at_call 22; refine (clamp_any _ _).mono ?_; rintro e w' ⟨rfl, rfl⟩)
        | (go_at_call 41; (with_reducible refine (size_any _ (clampF a) X (unhide HX) (by omega) (by omega)).mono ?_); rintro e w' ⟨rfl, rfl⟩)
        | (go_at_call 41; (with_reducible refine (size_any _ (clampF b) Y (unhide HY) (by omega) (by omega)).mono ?_); rintro e w' ⟨rfl, rfl⟩)
        | (go_at_call 40; refine (mul64_at _ X Y p hi lo (by omega) (by omega) (unhide HP) (unhide HHI) (unhide HLO)).mono ?_; rintro e w' ⟨rfl, rfl⟩)
        | (go_at_call 42; refine (div64_at _ p hi lo q r (unhide HHI) (unhide HLO) (unhide HPB) (unhide HQ) (unhide HR)).mono ?_; rintro e w' ⟨rfl, nd, rfl⟩))
      go_ret
      refine ⟨ret_int ?_, nd, rfl⟩
      exact HF.out.symm
  · have hda : decide (clampF a < 0) = false := by simp; omega
    have hdb : decide (clampF b < 0) = true := by simp; omega
    rcases Nat.eq_zero_or_pos r with hr | hr
    · have HF := Lib.hid (unhide HD0 (by omega) rfl hr)
      have hr1 : r ≤ 0 := by omega
      have hr2 : decide (0 < r) = false := by simp; omega
      have HRR := Lib.hid hr
      clear hr
      go_enter Tryd.func21, Tryd.ntmps21
      go_wp2_with (first
        | (go_at_call 22; refine (clamp_any _ _).mono ?_; rintro e w' ⟨rfl, rfl⟩)
        | (go_at_call 41; (with_reducible refine (size_any _ (clampF a) X (unhide HX) (by omega) (by omega)).mono ?_); rintro e w' ⟨rfl, rfl⟩)
        | (go_at_call 41; (with_reducible refine (size_any _ (clampF b) Y (unhide HY) (by omega) (by omega)).mono ?_); rintro e w' ⟨rfl, rfl⟩)
        | (go_at_call 40; refine (mul64_at _ X Y p hi lo (by omega) (by omega) (unhide HP) (unhide HHI) (unhide HLO)).mono ?_; rintro e w' ⟨rfl, rfl⟩)
        | (go_at_call 42; refine (div64_at _ p hi lo q r (unhide HHI) (unhide HLO) (unhide HPB) (unhide HQ) (unhide HR)).mono ?_; rintro e w' ⟨rfl, nd, rfl⟩))
      go_ret
      refine ⟨ret_int ?_, nd, rfl⟩
      exact HF.out.symm
    · have HF := Lib.hid (unhide HD1 (by omega) rfl hr)
      have hr2 : decide (0 < r) = true := by simp; omega
      go_enter Tryd.func21, Tryd.ntmps21
      go_wp2_with (first
        | (go_at_call 22; refine (clamp_any _ _).mono ?_; rintro e w' ⟨rfl, rfl⟩)
        | (go_at_call 41; (with_reducible refine (size_any _ (clampF a) X (unhide HX) (by omega) (by omega)).mono ?_); rintro e w' ⟨rfl, rfl⟩)
        | (go_at_call 41; (with_reducible refine (size_any _ (clampF b) Y (unhide HY) (by omega) (by omega)).mono ?_); rintro e w' ⟨rfl, rfl⟩)
        | (go_at_call 40; refine (mul64_at _ X Y p hi lo (by omega) (by omega) (unhide HP) (unhide HHI) (unhide HLO)).mono ?_; rintro e w' ⟨rfl, rfl⟩)
        | (go_at_call 42; refine (div64_at _ p hi lo q r (unhide HHI) (unhide HLO) (unhide HPB) (unhide HQ) (unhide HR)).mono ?_; rintro e w' ⟨rfl, nd, rfl⟩))
      go_ret
      refine ⟨ret_int ?_, nd, rfl⟩
      exact HF.out.symm
  · have HF := Lib.hid (unhide HS (by omega) rfl)
    have hda : decide (clampF a < 0) = false := by simp; omega
    have hdb : decide (clampF b < 0) = false := by simp; omega
    go_enter Tryd.func21, Tryd.ntmps21
    go_wp2_with (first
      | (go_at_call 22; refine (clamp_any _ _).mono ?_; rintro e w' ⟨rfl, rfl⟩)
      | (go_at_call 41; (with_reducible refine (size_any _ (clampF a) X (unhide HX) (by omega) (by omega)).mono ?_); rintro e w' ⟨rfl, rfl⟩)
      | (go_at_call 41; (with_reducible refine (size_any _ (clampF b) Y (unhide HY) (by omega) (by omega)).mono ?_); rintro e w' ⟨rfl, rfl⟩)
      | (go_at_call 40; refine (mul64_at _ X Y p hi lo (by omega) (by omega) (unhide HP) (unhide HHI) (unhide HLO)).mono ?_; rintro e w' ⟨rfl, rfl⟩)
      | (go_at_call 42; refine (div64_at _ p hi lo q r (unhide HHI) (unhide HLO) (unhide HPB) (unhide HQ) (unhide HR)).mono ?_; rintro e w' ⟨rfl, nd, rfl⟩))
    go_ret
    exact ⟨ret_int HF.out.symm, nd, rfl⟩
end Go.Proofs.YtcebjipekodmpaaDoor
