/- math/bits.Div64 at the divisor 1000000. -/
import Derived.Test.YtcebjipekodmpaaDoorMNum
import Derived.Test.YtcebjipekodmpaaDoorMDivPlain
import Derived.Test.YtcebjipekodmpaaDoorShelf
import Derived.BigQuiet
namespace Go.Proofs.YtcebjipekodmpaaDoor
open Go.RowKit
theorem lz_44 (w : World) : Calls Tryd.prog 52 #[.int .u64 1000000] w fun e w' => e = .returned (.int .i64 44) ∧ w = w' :=
  (Tryd.bits_LeadingZeros64 1000000 w (by omega) (by omega)).mono fun _ _ h => ⟨h.1.trans (by rfl), h.2.symm⟩
theorem div64_low (w : World) (lo : Nat) (hl : lo < 18446744073709551616) :
    Calls Tryd.prog 42 #[.int .u64 0, .int .u64 lo, .int .u64 1000000] w fun e w' => e = .returned (.tuple #[.int .u64 ((lo / 1000000 : Nat) : Int), .int .u64 ((lo % 1000000 : Nat) : Int)]) ∧ ∃ n, w' = w.drewN n := by
  go_enter Tryd.func42, Tryd.ntmps42
  go_wp2_with fail
  go_quiet (fail)
  go_wp2_with fail
  go_ret2
  exact ⟨rfl, nq, rfl⟩
theorem div64_high (w : World) (hi lo : Nat) (h0 : 0 < hi) (hh : hi < 65536) (hl : lo < 18446744073709551616) :
    Calls Tryd.prog 42 #[.int .u64 hi, .int .u64 lo, .int .u64 1000000] w fun e w' => e = .returned (.tuple #[.int .u64 (((hi * 18446744073709551616 + lo) / 1000000 : Nat) : Int), .int .u64 (((hi * 18446744073709551616 + lo) % 1000000 : Nat) : Int)]) ∧ w = w' := by
  have hd : ((hi : Int) == 0) = false := by simp; omega
  have hd2 : decide ((1000000 : Int) ≤ (hi : Int)) = false := by simp; omega
  obtain ⟨u, HU, hub, e11⟩ : ∃ u : Nat, Hid (hi * 17592186044416 + lo / 1048576 = u) ∧ u < 17592186044416000000 ∧ bits BinOp.or IntKind.u64 ((hi : Int) * 17592186044416) ((lo : Int) / 1048576) = (u : Int) :=
    ⟨_, hide rfl, by omega, or_split hi lo hh hl⟩
  obtain ⟨t, HT, e12⟩ : ∃ t : Nat, Hid (lo % 1048576 * 17592186044416 = t) ∧ IntKind.u64.wrap ((lo : Int) * 17592186044416) = (t : Int) := ⟨_, hide rfl, wrap_lo lo⟩
  obtain ⟨u1, HU1, hu1, e13⟩ : ∃ u1 : Nat, Hid (lo % 1048576 * 4096 = u1) ∧ u1 < 4294967296 ∧ (t : Int) / 4294967296 = (u1 : Int) := ⟨_, hide rfl, by omega, by have := unhide HT; omega⟩
  have e14 : bits BinOp.and IntKind.u64 (t : Int) 4294967295 = 0 := by rw [← unhide HT]; exact and_low lo
  have e10 := and_y
  have HL := hide hl
  clear hl
  go_enter Tryd.func42, Tryd.ntmps42
  go_wp2_with (go_at_call 52; refine (lz_44 _).mono ?_; rintro e w' ⟨rfl, rfl⟩)
  clear e11 e12 e13 e14
  go_loop [15, 16] (fun a b => a = .int .u64 ((u : Int) / 4096000000) ∧ b = .int .u64 ((u : Int) - (u : Int) / 4096000000 * 4096000000)) (fun _ _ => 0)
  case atStart => exact ⟨rfl, rfl⟩
  case round =>
    obtain ⟨rfl, rfl⟩ := hrel
    have hd3 : decide ((4294967296 : Int) ≤ (u : Int) / 4096000000) = false := by simp; omega
    obtain ⟨v, HV, hvb, e17⟩ : ∃ v : Nat, Hid (u % 4096000000 * 4294967296 + u1 = v) ∧ v < 17592186044416000000 ∧ IntKind.u64.wrap (IntKind.u64.wrap (IntKind.u64.wrap ((u : Int) * 4294967296) + (u1 : Int)) - IntKind.u64.wrap ((u : Int) / 4096000000 * 17592186044416000000)) = (v : Int) := ⟨_, hide rfl, by omega, wrap_v u u1 hu1⟩
    have hd4 : decide ((4294967296 : Int) ≤ (v : Int) / 4096000000) = false := by simp; omega
    obtain ⟨r, HR, e18⟩ : ∃ r : Nat, Hid (v % 4096000000 * 4294967296 = r) ∧ IntKind.u64.wrap (IntKind.u64.wrap (IntKind.u64.wrap ((v : Int) * 4294967296)) - IntKind.u64.wrap ((v : Int) / 4096000000 * 17592186044416000000)) = (r : Int) := ⟨_, hide rfl, wrap_r v⟩
    go_wp2_with fail
    clear e17
    go_loop [18, 16] (fun a b => a = .int .u64 ((v : Int) / 4096000000) ∧ b = .int .u64 ((v : Int) - (v : Int) / 4096000000 * 4096000000)) (fun _ _ => 0)
    case atStart => exact ⟨rfl, rfl⟩
    case round =>
      obtain ⟨rfl, rfl⟩ := hrel
      go_wp2_with fail
      go_ret2
      have e1 := div_long hi lo
      have e2 := mod_long hi lo
      rw [unhide HU, unhide HU1, unhide HV] at e1 e2
      rw [unhide HR] at e2
      have E1 : (u : Int) / 4096000000 * 4294967296 + (v : Int) / 4096000000 = ((hi : Int) * 18446744073709551616 + (lo : Int)) / 1000000 := by omega
      have E2 : (r : Int) / 17592186044416 = ((hi : Int) * 18446744073709551616 + (lo : Int)) % 1000000 := by omega
      refine ⟨?_, rfl⟩
      show Ending.returned (.tuple #[.int .u64 ((u : Int) / 4096000000 * 4294967296 + (v : Int) / 4096000000), .int .u64 ((r : Int) / 17592186044416)]) = _
      rw [E1, E2]
theorem div64_any (w : World) (hi lo : Nat) (hh : hi < 65536) (hl : lo < 18446744073709551616) :
    Calls Tryd.prog 42 #[.int .u64 hi, .int .u64 lo, .int .u64 1000000] w fun e w' => e = .returned (.tuple #[.int .u64 (((hi * 18446744073709551616 + lo) / 1000000 : Nat) : Int), .int .u64 (((hi * 18446744073709551616 + lo) % 1000000 : Nat) : Int)]) ∧ ∃ n, w' = w.drewN n := by
  rcases Nat.eq_zero_or_pos hi with rfl | h0
  · rw [Nat.zero_mul, Nat.zero_add]; exact div64_low w lo hl
  · exact (div64_high w hi lo h0 hh hl).mono fun _ _ h => ⟨h.1, 0, h.2.symm⟩
theorem mul64_any (w : World) (x y : Nat) (hx : x < 18446744073709551616) (hy : y < 18446744073709551616) :
    Calls Tryd.prog 40 #[.int .u64 x, .int .u64 y] w fun e w' => e = .returned (.tuple #[.int .u64 ((x * y / 18446744073709551616 : Nat) : Int), .int .u64 ((x * y % 18446744073709551616 : Nat) : Int)]) ∧ w = w' :=
  (Tryd.bits_Mul64 x y hx hy w).mono fun _ _ h => ⟨h.1, h.2.symm⟩
end Go.Proofs.YtcebjipekodmpaaDoor
