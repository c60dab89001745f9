/- siphash.word returns the little-endian number of at most 8 bytes and leaves the world as it was. -/
import Derived.Test.YtfbkkmnkpjgciaaLe
import Derived.Test.YtfbkkmnkpjgciaaProg
namespace Go.Proofs.Ytfbkkmnkpjgciaa
open Go.RowKit
set_option maxHeartbeats 400000 in
theorem word_any (A : Option Addr) (n c : Nat) (bs : List UInt8) (w : World) (B : Nat) (h : Reads w B 1 A n (bsV bs)) (hn : n ≤ 8) :
    Calls Try.prog 54 #[.slice A n c] w fun e w' => e = .returned (.int .u64 (leW bs : Int)) ∧ w = w' := by
  have hlen : bs.length = n := by have := h.1; simpa using this
  have HL := Lib.hid hlen
  clear hlen
  go_enter Try.func54, Try.ntmps54
  go_wp2
  go_loop [3, 7] (fun x i => ∃ k : Nat, k ≤ n ∧ i = .int .i64 k ∧ x = .int .u64 (leW (bs.take k) : Int)) (fun _ i => n - (intOf i).toNat)
  case atStart => exact ⟨0, Nat.zero_le _, rfl, by simp [leW]⟩
  case round =>
    obtain ⟨k, hk, rfl, rfl⟩ := hrel
    by_cases hlt : k < n
    · obtain ⟨ad, u, rfl, _, hx, hc⟩ := h.at_ hlt
      obtain ⟨b, hb, rfl, hb0, hb1⟩ := bsV_get hx
      have HB := Lib.hid hb
      clear hb hx
      go_wp2
      go_round
      case rel => exact ⟨k + 1, by omega, by go_num, by rw [leW_step HB.out (by omega)]⟩
      case measure => simp [intOf]; omega
    · go_wp2
      go_ret
      exact ⟨ret_int (by rw [List.take_of_length_le (by rw [HL.out]; omega)]), rfl⟩
end Go.Proofs.Ytfbkkmnkpjgciaa
