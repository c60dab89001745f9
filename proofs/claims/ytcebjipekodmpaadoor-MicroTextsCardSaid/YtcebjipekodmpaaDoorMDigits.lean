/- The law's own digits returns the decimal numeral. -/
import Derived.Test.YtcebjipekodmpaaDoorMDecPlain
namespace Go.Proofs.YtcebjipekodmpaaDoor
open Go.RowKit
theorem one_digit (n : Nat) (h : n < 10) : (⟨#[48, 49, 50, 51, 52, 53, 54, 55, 56, 57]⟩ : ByteArray).extract n (n + 1) = ⟨[UInt8.ofNat (48 + n)].toArray⟩ := by
  have : n = 0 ∨ n = 1 ∨ n = 2 ∨ n = 3 ∨ n = 4 ∨ n = 5 ∨ n = 6 ∨ n = 7 ∨ n = 8 ∨ n = 9 := by omega
  rcases this with rfl | rfl | rfl | rfl | rfl | rfl | rfl | rfl | rfl | rfl <;> rfl
set_option maxRecDepth 100000 in
set_option maxHeartbeats 1000000 in
theorem digits_any (w : World) (V : Nat) (hV : V < 10000000) (D : List UInt8) (hD : Lib.decDigits V = D) :
    Calls Tryd.prog 36 #[.int .i64 (V : Int)] w fun e w' => e = .returned (.string ⟨D.toArray⟩) ∧ w = w' := by
  have HD := hide hD
  clear hD
  go_enter Tryd.func36, Tryd.ntmps36
  go_wp2_with fail
  go_loop [0, 3] (fun x y => ∃ (v : Nat) (s : List UInt8), v < 10000000 ∧ x = .int .i64 v ∧ y = .string ⟨s.toArray⟩ ∧ Hid (Lib.decDigits v ++ s = D)) (fun x _ => (intOf x).toNat)
  case atStart => exact ⟨V, [], hV, rfl, rfl, hide (by rw [List.append_nil]; exact unhide HD)⟩
  case round =>
    obtain ⟨v, s, hv, rfl, rfl, hs⟩ := hrel
    have hsl : s.length ≤ 7 := by
      have h1 := congrArg List.length (unhide hs)
      have h2 := congrArg List.length (unhide HD)
      have h3 := dd_len 6 V (by omega)
      rw [List.length_append] at h1
      omega
    have hm0 : (v : Int) % 10 = ((v % 10 : Nat) : Int) := by omega
    have sl : ∀ wx : World, (Instr.slice 9 (.string ⟨#[48, 49, 50, 51, 52, 53, 54, 55, 56, 57]⟩) (some (.int .i64 ((v : Int) % 10))) (some (.int .i64 ((v : Int) % 10 + 1))) none).run Tryd.prog wx = .ok (.string ⟨[UInt8.ofNat (48 + v % 10)].toArray⟩) wx := by
      intro wx
      have := run_slice_string (P := Tryd.prog) wx 9 ⟨#[48, 49, 50, 51, 52, 53, 54, 55, 56, 57]⟩ .i64 .i64 ((v : Int) % 10) ((v : Int) % 10 + 1) Tryd.underlying9 (by omega) (by omega) (by
        have : (⟨#[48, 49, 50, 51, 52, 53, 54, 55, 56, 57]⟩ : ByteArray).size = 10 := rfl
        omega)
      rw [this, ← one_digit (v % 10) (by omega)]
      congr 3
    have hbig : ¬ v < 10 → Lib.decDigits (v / 10) ++ UInt8.ofNat (48 + v % 10) :: s = D := fun h => by
      rw [← unhide hs, dd_big v h, List.append_assoc]
      rfl
    have hsmall : v < 10 → UInt8.ofNat (48 + v % 10) :: s = D := fun h => by
      rw [← unhide hs, dd_small v h, Nat.mod_eq_of_lt h]
      rfl
    generalize UInt8.ofNat (48 + v % 10) = c at sl hbig hsmall
    have HB := hide hbig
    have HS := hide hsmall
    have SL := hide sl
    clear sl hm0 hbig hsmall
    have hz2 : ((⟨s.toArray⟩ : ByteArray)).size ≤ 7 := by simpa [ByteArray.size] using hsl
    by_cases h10 : v < 10
    · have hz : decide ((v : Int).tdiv 10 = 0) = true := by simp; omega
      go_wp2_with (rw [unhide SL])
      go_ret
      refine ⟨?_, rfl⟩
      rw [show (⟨#[c]⟩ : ByteArray) = ⟨[c].toArray⟩ from rfl, app2]
      rw [← unhide HS h10]
      rfl
    · have hz : decide ((v : Int).tdiv 10 = 0) = false := by simp; omega
      go_wp2_with (rw [unhide SL])
      go_round
      case rel =>
        refine ⟨v / 10, c :: s, by omega, by congr 1, ?_, hide (unhide HB h10)⟩
        rw [show (⟨#[c]⟩ : ByteArray) = ⟨[c].toArray⟩ from rfl, app2]
        rfl
      case measure => simp [intOf]; omega
end Go.Proofs.YtcebjipekodmpaaDoor
