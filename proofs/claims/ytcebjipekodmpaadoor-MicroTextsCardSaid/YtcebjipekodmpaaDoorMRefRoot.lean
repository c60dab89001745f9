/- The reference's Root: a search by halves. -/
import Derived.Test.YtcebjipekodmpaaDoorMRef
namespace Go.Proofs.YtcebjipekodmpaaDoor
open Go.RowKit
theorem ref_root_neg (w : World) (a : Int) (h : a < 0) :
    Calls Tryd.prog 20 #[.int .i64 a] w fun e w' => e = .returned (.tuple #[.int .i64 0, .int .i64 2]) ∧ w = w' := by
  have hd : decide (a < 0) = true := by simpa using h
  go_enter Tryd.func20, Tryd.ntmps20
  go_wp2_with fail
  go_ret2
  exact ⟨rfl, rfl⟩
set_option maxHeartbeats 1000000 in
theorem ref_root_pos (w : World) (a : Int) (N : Nat) (h : 0 ≤ a) (hN : clampF a * 1000000 = (N : Int)) :
    Calls Tryd.prog 20 #[.int .i64 a] w fun e w' => e = .returned (.tuple #[.int .i64 (isq N : Int), .int .i64 0]) ∧ w = w' := by
  have hd : decide (a < 0) = false := by simpa using h
  obtain ⟨hc1, hc2⟩ := clampF_bd a
  have hN2 : N ≤ 1000000000000000000 := by omega
  go_enter Tryd.func20, Tryd.ntmps20
  go_wp2_with (first
    | (go_at_call 24; refine (ref_clamp _ _).mono ?_; rintro e w' ⟨rfl, rfl⟩))
  go_loop [5, 6] (fun a b => ∃ l u : Nat, l ≤ u ∧ u ≤ 1000000000 ∧ a = .int .i64 l ∧ b = .int .i64 u ∧ l * l ≤ N ∧ N < (u + 1) * (u + 1)) (fun a b => (intOf b - intOf a).toNat)
  case atStart => exact ⟨0, 1000000000, by omega, by omega, rfl, rfl, by omega, by omega⟩
  case round =>
    obtain ⟨l, u, hlu, hu, rfl, rfl, hl2, hu2⟩ := hrel
    by_cases hlt : l < u
    · have hd1 : decide ((l : Int) < (u : Int)) = true := by simp; omega
      obtain ⟨m, hm, hm1, hm2⟩ : ∃ m : Nat, (l + u + 1) / 2 = m ∧ l < m ∧ m ≤ u := ⟨_, rfl, by omega, by omega⟩
      have hmi : ((l : Int) + (u : Int) + 1) / 2 = (m : Int) := by omega
      have hmm : m * m ≤ 1000000000 * 1000000000 := Nat.mul_le_mul (by omega) (by omega)
      have hk0 : (0 : Int) ≤ (m : Int) * (m : Int) := Int.mul_nonneg (by omega) (by omega)
      have hk1 : (m : Int) * (m : Int) ≤ 4611686018427387904 := by rw [← Int.natCast_mul]; omega
      have HL2 := hide hl2
      have HU2 := hide hu2
      clear hl2 hu2 hm
      by_cases hle : m * m ≤ N
      · have hg : (m : Int) * (m : Int) ≤ (N : Int) := by rw [← Int.natCast_mul]; omega
        have hg' : decide ((m : Int) * (m : Int) ≤ (N : Int)) = true := by simpa using hg
        have HE := hide hle
        clear hle hmm
        go_wp2_with fail
        go_round
        case rel => exact ⟨m, u, by omega, by omega, congrArg (Value.int .i64) hmi, rfl, unhide HE, unhide HU2⟩
        case measure => simp [intOf]; omega
      · have hg : ¬ (m : Int) * (m : Int) ≤ (N : Int) := by rw [← Int.natCast_mul]; omega
        have hg' : decide ((m : Int) * (m : Int) ≤ (N : Int)) = false := by simpa using hg
        have HE := hide hle
        clear hle hmm
        go_wp2_with fail
        go_round
        case rel => exact ⟨l, m - 1, by omega, by omega, rfl, by congr 1; omega, unhide HL2, by rw [show m - 1 + 1 = m by omega]; have := unhide HE; omega⟩
        case measure => simp [intOf]; omega
    · obtain rfl : l = u := by omega
      have HE := Lib.hid (isq_of N l hl2 hu2)
      clear hl2 hu2
      go_wp2_with fail
      go_ret2
      rw [← HE.out]
      exact ⟨rfl, rfl⟩
theorem ref_root (w : World) (a : Int) :
    Calls Tryd.prog 20 #[.int .i64 a] w fun e w' => e = .returned (.tuple #[.int .i64 (rootF a), .int .i64 (rootE a)]) ∧ w = w' := by
  unfold rootF rootE
  by_cases h : a < 0
  · have h' : clampF a < 0 := by unfold clampF; omega
    rw [if_pos h', if_pos h']; exact ref_root_neg w a h
  · have h' : ¬ clampF a < 0 := by unfold clampF; omega
    rw [if_neg h', if_neg h']; exact ref_root_pos w a _ (by omega) (by have := clampF_bd a; omega)
end Go.Proofs.YtcebjipekodmpaaDoor
