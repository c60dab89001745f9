/- baseboardref01.Number: the number of at most four bytes, and what bytes are decoded to. No condition. -/
import Derived.Test.YtklffnfaigmjfaaDoorESame
namespace Go.Proofs.YtklffnfaigmjfaaDoor
open Go.RowKit
def numL : List Int → Int
  | [] => 0
  | x :: xs => x + 256 * numL xs
def BytesL (l : List Int) : Prop := ∀ x ∈ l, 0 ≤ x ∧ x < 256
theorem numL_pos {l : List Int} (h : BytesL l) : 0 ≤ numL l := by
  induction l with
  | nil => simp [numL]
  | cons x xs ih =>
    have := h x (by simp)
    have := ih (fun y hy => h y (by simp [hy]))
    simp only [numL]
    omega
theorem numL_lt {l : List Int} (h : BytesL l) (hl : l.length ≤ 4) : numL l < 4294967296 := by
  match l, h, hl with
  | [], _, _ => simp [numL]
  | [a], h, _ => have := h a (by simp); simp only [numL]; omega
  | [a, b], h, _ => have := h a (by simp); have := h b (by simp); simp only [numL]; omega
  | [a, b, c], h, _ => have := h a (by simp); have := h b (by simp); have := h c (by simp); simp only [numL]; omega
  | [a, b, c, d], h, _ => have := h a (by simp); have := h b (by simp); have := h c (by simp); have := h d (by simp); simp only [numL]; omega
  | _ :: _ :: _ :: _ :: _ :: _, _, hl => simp at hl
theorem numL_drop (l : List Int) (k : Nat) (x : Int) (h : l[k]? = some x) : numL (l.drop k) = x + 256 * numL (l.drop (k + 1)) := by
  obtain ⟨hk, rfl⟩ := List.getElem?_eq_some_iff.1 h
  rw [List.drop_eq_getElem_cons hk]
  rfl
set_option maxHeartbeats 1000000 in
theorem num_any (w : World) (B : Nat) (A : Option Addr) (n c : Nat) (l : List Int) (hn : n ≤ 4) (hr : Reads w B 1 A n (u8V l)) (hl : BytesL l) (z : Int) (hz : numL l = z) :
    Calls Tryd.prog 44 #[.slice A n c] w fun e w' => e = .returned (.int .u64 z) ∧ w' = w := by
  have hlen : l.length = n := by have := hr.1; simpa [u8V] using this
  have HR := hide hr
  have HZ := hide hz
  have HL := hide hl
  have HN := hide hlen
  clear hr hz hl hlen
  go_enter Tryd.func44, Tryd.ntmps44
  go_wp2_with fail
  go_loopw [3, 4] (fun v i wr => wr = w ∧ ∃ k : Nat, ∃ u j : Int, k ≤ n ∧ i = .int .i64 j ∧ j = (k : Int) - 1 ∧ v = .int .u64 u ∧ numL (l.drop k) = u) (fun _ i _ => (intOf i + 1).toNat)
  case atStart => exact ⟨rfl, n, 0, (n : Int) - 1, by omega, by go_num, rfl, rfl, by rw [List.drop_eq_nil_of_le (by rw [unhide HN]; omega)]; rfl⟩
  case round =>
    obtain ⟨rfl, k, u, j, hk, rfl, hj, rfl, hu⟩ := hrel
    have hu0 : 0 ≤ u := hu ▸ numL_pos (fun x hx => unhide HL x (List.mem_of_mem_drop hx))
    have hu1 : u < 4294967296 := hu ▸ numL_lt (fun x hx => unhide HL x (List.mem_of_mem_drop hx)) (by rw [List.length_drop, unhide HN]; omega)
    have HU := hide hu
    clear hu
    by_cases h0 : k = 0
    · have HK := hide h0
      have hj0 : j = -1 := by omega
      clear hj h0
      subst hj0
      go_wp2_with fail
      go_ret
      have := unhide HU
      rw [unhide HK, List.drop_zero, unhide HZ] at this
      exact ⟨by rw [this]; rfl, rfl⟩
    · obtain ⟨m, rfl⟩ : ∃ m, k = m + 1 := ⟨k - 1, by omega⟩
      have hjm : j = (m : Int) := by omega
      clear hj h0
      subst hjm
      have hmn : m < n := by omega
      obtain ⟨ad, u', rfl, hab, hu', hcell⟩ := (unhide HR).at_ hmn
      obtain ⟨y, hy, rfl⟩ := u8V_at hu'
      have hyb := unhide HL y (List.mem_of_getElem? hy)
      obtain ⟨hy0, hy1⟩ := hyb
      have HY := hide hy
      have wy : IntKind.u64.wrap y = y := IntWalk.u64_in _ (by omega)
      have wm : IntKind.u64.wrap (256 * u) = 256 * u := IntWalk.u64_in _ (by omega)
      have wa : IntKind.u64.wrap (256 * u + y) = 256 * u + y := IntWalk.u64_in _ (by omega)
      have hmi : (m : Int) < (n : Int) := by omega
      have hm0 : (0 : Int) ≤ (m : Int) := by omega
      clear hu' hy
      go_wp2_with fail
      go_roundw
      case rel => exact ⟨trivial, m, 256 * u + y, (m : Int) - 1, by omega, by go_num, rfl, by go_num, by rw [numL_drop l m y (unhide HY), unhide HU]; omega⟩
      case measure => simp [intOf]
end Go.Proofs.YtklffnfaigmjfaaDoor
