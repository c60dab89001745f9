/- string(bytes) of a slice that reads as a list. No condition. -/
import Derived.Test.YtfbkkmnkpjgciaaMem
import Derived.Test.YtfbkkmnkpjgciaaLe
import Derived.Laws.BytesArg
namespace Go.Proofs.Ytfbkkmnkpjgciaa
open Go.RowKit
theorem foldl_push (bs : List UInt8) : ∀ s : ByteArray, (bs.map fun b => (b.toNat : Int)).foldl (fun r n => r.push (UInt8.ofNat n.toNat)) s = ⟨s.data ++ bs.toArray⟩ := by
  intro s
  rw [foldl_push_bytes]
  congr 2
  rw [List.map_map]
  congr 1
  conv => rhs; rw [← List.map_id bs]
  apply List.map_congr_left
  intro b _
  simp [Function.comp]
theorem run_bytes_str {P : Program} {w : World} {B n c : Nat} {A : Option Addr} {bs : List UInt8} (h : Reads w B 1 A n (bsV bs)) (src dst e : TypeId) (hs : P.underlying src = some (.slice e)) (he : P.underlying e = some (.int .u8))
    (hd : P.underlying dst = some .string) : (convert src dst (.slice A n c)).run P w = .ok (.string ⟨bs.toArray⟩) w := by
  rw [run_convert_bytes_string w src dst e A n c hs he hd]
  have hlen : bs.length = n := by have := h.1; simpa using this
  rcases A with _ | a
  · have hn : n = 0 := by
      rcases Nat.eq_zero_or_pos n with h0 | h0
      · exact h0
      · obtain ⟨ad, e, _⟩ := h.2 h0; cases e
    subst hn
    obtain rfl : bs = [] := List.eq_nil_of_length_eq_zero hlen
    simp [Conv.bytesToString]
    rfl
  · have hl : (loadCells a n).run P w = .ok ((bs.map fun b => (b.toNat : Int)).map (Value.int .u8)).toArray w := by
      have := run_loadCells_list (P := P) w a (bsV bs) (fun j v hj => by
        have hn : 0 < n := by
          have := (List.getElem?_eq_some_iff.1 hj).1
          simp at this; omega
        obtain ⟨ad, e, _, hc⟩ := h.2 hn
        injection e with e
        subst e
        exact hc j v hj)
      have e : (bs.map fun b => (b.toNat : Int)).map (Value.int .u8) = bsV bs := by simp [bsV, List.map_map, Function.comp]
      rw [e]
      simpa [hlen] using this
    rw [run_bytesToString w a n c _ hl, foldl_push]
    simp [ByteArray.empty, ByteArray.emptyWithCapacity]
    rfl
end Go.Proofs.Ytfbkkmnkpjgciaa
