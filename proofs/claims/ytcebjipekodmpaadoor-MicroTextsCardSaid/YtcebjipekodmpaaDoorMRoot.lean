/- micro.Root returns the root rounded down. -/
import Derived.Test.YtcebjipekodmpaaDoorMMul
import Derived.Test.YtcebjipekodmpaaDoorMFloat
import Derived.Test.YtcebjipekodmpaaDoorMRootPlain
import Derived.Laws.Externs
import Derived.Laws.Cover2
namespace Go.Proofs.YtcebjipekodmpaaDoor
open Go.RowKit
theorem sqrt_any (w : World) (x r : Nat) (h : Ieee.double.sqrt x = some r) :
    Calls Tryd.prog 39 #[.float .f64 x] w fun e w' => e = .returned (.float .f64 r) ∧ w = w' := by
  have hx : ∀ w : World, (callFunc 51 #[.float .f64 x]).run Tryd.prog w = .ok (.value (.float .f64 r)) w := by
    intro w
    rw [run_callFunc_extern (e := Extern.MathSqrt.sqrt) Tryd.func51 (by kernel_rfl) rfl (by kernel_rfl) (by kernel_rfl)]
    have h' : FloatKind.f64.format.sqrt x = some r := h
    change (Sem.run Tryd.prog (match FloatKind.f64.format.sqrt x with
      | some r => (pure (.float .f64 r) : Sem Value)
      | none => do pure (.float .f64 (← choose (.nanBits .f64 x x)))) w).andThen _ = _
    rw [h']
    rfl
  have HX := Lib.hid h
  clear h
  go_enter Tryd.func39, Tryd.ntmps39
  go_wp2_with fail
  go_ret
  exact ⟨rfl, rfl⟩
theorem root_neg (w : World) (a : Int) (h : clampF a < 0) :
    Calls Tryd.prog 19 #[.int .i64 a] w fun e w' => e = .returned (.tuple #[.int .i64 0, .int .i64 2]) ∧ w = w' := by
  have hd : decide (clampF a < 0) = true := by simpa using h
  go_enter Tryd.func19, Tryd.ntmps19
  go_wp2_with (go_at_call 22; refine (clamp_any _ _).mono ?_; rintro e w' ⟨rfl, rfl⟩)
  go_ret2
  exact ⟨rfl, rfl⟩
theorem conv_root (x k : Nat) (hk : k ≤ 2147483648) (h : (Ieee.double.read x).toInt .zero = some (k : Int)) (w : World) :
    (convert 54 2 (.float .f64 x)).run Tryd.prog w = .ok (.int .i64 (k : Int)) w := by
  have h' : (FloatKind.f64.decode x).toInt .zero = some (k : Int) := h
  have h1 : IntKind.i64.min ≤ (k : Int) := by show (-9223372036854775808 : Int) ≤ _; omega
  have h2 : ¬ (9223372036854775807 : Int) < (k : Int) := by omega
  simp [convert, run_underlying Tryd.underlying54, run_underlying Tryd.underlying2, Conv.floatToInt, h', h1]
  intro h3
  exact absurd h3 h2
set_option maxHeartbeats 1000000 in
theorem root_pos (w : World) (a : Int) (N : Nat) (h : 0 ≤ clampF a) (hN : clampF a * 1000000 = (N : Int)) :
    Calls Tryd.prog 19 #[.int .i64 a] w fun e w' => e = .returned (.tuple #[.int .i64 (isq N : Int), .int .i64 0]) ∧ w = w' := by
  have hd : decide (clampF a < 0) = false := by simpa using h
  obtain ⟨_, hc2⟩ := clampF_bd a
  have hN2 : N ≤ 1000000000000000000 := by omega
  obtain ⟨r, HS, k, hk, HK⟩ : ∃ r, Hid (Ieee.double.sqrt (Ieee.double.nearest false N 0) = some r) ∧ ∃ k : Nat, k ≤ 2147483648 ∧ Hid ((Ieee.double.read r).toInt .zero = some (k : Int)) := sqrt_to N hN2
  have hF : floatOfInt .f64 (N : Int) = Ieee.double.nearest false N 0 := by
    have e : decide ((N : Int) < 0) = false := by simp
    show Ieee.double.nearest (decide ((N : Int) < 0)) (N : Int).natAbs 0 = _
    rw [e, Int.natAbs_natCast]
  generalize Ieee.double.nearest false N 0 = X at *
  have hcv := conv_root r k hk (unhide HK)
  go_enter Tryd.func19, Tryd.ntmps19
  go_wp2_with (first
    | (go_at_call 22; refine (clamp_any _ _).mono ?_; rintro e w' ⟨rfl, rfl⟩)
    | (go_at_call 39; refine (sqrt_any _ X r (unhide HS)).mono ?_; rintro e w' ⟨rfl, rfl⟩))
  clear hcv hF
  go_loop [5] (fun i => ∃ k : Nat, k ≤ 2147483648 ∧ i = .int .i64 k) (fun i => (intOf i).toNat)
  case atStart => exact ⟨k, hk, rfl⟩
  case round =>
    obtain ⟨k, hk, rfl⟩ := hrel
    have hkk : k * k ≤ 2147483648 * 2147483648 := Nat.mul_le_mul hk hk
    have hk0 : (0 : Int) ≤ (k : Int) * (k : Int) := Int.mul_nonneg (by omega) (by omega)
    have hk1 : (k : Int) * (k : Int) ≤ 4611686018427387904 := by rw [← Int.natCast_mul]; omega
    by_cases hgt : N < k * k
    · have hg : (N : Int) < (k : Int) * (k : Int) := by rw [← Int.natCast_mul]; omega
      have hg' : decide ((N : Int) < (k : Int) * (k : Int)) = true := by simpa using hg
      have hk3 : 1 ≤ k := by rcases Nat.eq_zero_or_pos k with rfl | h; (· omega); exact h
      have HG := hide hgt
      clear hgt
      go_wp2_with fail
      go_round
      case rel => exact ⟨k - 1, by omega, by congr 1; omega⟩
      case measure => simp [intOf]; omega
    · have hg : ¬ (N : Int) < (k : Int) * (k : Int) := by rw [← Int.natCast_mul]; omega
      have hg' : decide ((N : Int) < (k : Int) * (k : Int)) = false := by simpa using hg
      have HG := hide hgt
      clear hgt
      go_wp2_with fail
      clear hg hg' hk0 hk1 hkk
      go_loop [5] (fun i => ∃ k : Nat, k * k ≤ N ∧ i = .int .i64 k) (fun i => 1000000001 - (intOf i).toNat)
      case atStart => exact ⟨k, by have := unhide HG; omega, rfl⟩
      case round =>
        obtain ⟨j, hj, rfl⟩ := hrel
        have hj1 : j ≤ 1000000000 := sq_le_bd j N 1000000000 hj (by omega)
        have hkk : (j + 1) * (j + 1) ≤ 1000000001 * 1000000001 := Nat.mul_le_mul (by omega) (by omega)
        have hk0 : (0 : Int) ≤ ((j : Int) + 1) * ((j : Int) + 1) := Int.mul_nonneg (by omega) (by omega)
        have hcast : (((j + 1) * (j + 1) : Nat) : Int) = ((j : Int) + 1) * ((j : Int) + 1) := by simp
        have hk1 : ((j : Int) + 1) * ((j : Int) + 1) ≤ 4611686018427387904 := by rw [← hcast]; omega
        have HJ := hide hj
        by_cases hle : (j + 1) * (j + 1) ≤ N
        · have hg : ((j : Int) + 1) * ((j : Int) + 1) ≤ (N : Int) := by rw [← hcast]; omega
          have hg' : decide (((j : Int) + 1) * ((j : Int) + 1) ≤ (N : Int)) = true := by simpa using hg
          have HL := hide hle
          have hj2 : j + 1 ≤ 1000000000 := sq_le_bd (j + 1) N 1000000000 hle (by omega)
          clear hle hcast hkk hj
          go_wp2_with fail
          go_round
          case rel => exact ⟨j + 1, unhide HL, by go_num⟩
          case measure => simp [intOf]; omega
        · have hg : ¬ ((j : Int) + 1) * ((j : Int) + 1) ≤ (N : Int) := by rw [← hcast]; omega
          have hg' : decide (((j : Int) + 1) * ((j : Int) + 1) ≤ (N : Int)) = false := by simpa using hg
          have HE := Lib.hid (isq_of N j hj (by omega))
          clear hle hcast hkk hj
          go_wp2_with fail
          go_ret2
          rw [← HE.out]
          exact ⟨rfl, rfl⟩
theorem root_any (w : World) (a : Int) :
    Calls Tryd.prog 19 #[.int .i64 a] w fun e w' => e = .returned (.tuple #[.int .i64 (rootF a), .int .i64 (rootE a)]) ∧ w = w' := by
  unfold rootF rootE
  by_cases h : clampF a < 0
  · rw [if_pos h, if_pos h]; exact root_neg w a h
  · rw [if_neg h, if_neg h]; exact root_pos w a _ (by omega) (by have := clampF_bd a; omega)
end Go.Proofs.YtcebjipekodmpaaDoor
