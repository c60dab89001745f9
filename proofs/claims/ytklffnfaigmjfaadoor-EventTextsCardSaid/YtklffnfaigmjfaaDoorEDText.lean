/- Dice.Text returns some text of the wanted length. No condition. -/
import Derived.Test.YtklffnfaigmjfaaDoorEDEvent
import Derived.Test.YtklffnfaigmjfaaDoorERNum
import Derived.Deep.CutRange
namespace Go.Proofs.YtklffnfaigmjfaaDoor
open Go.RowKit
theorem cut_byte (al : List UInt8) (j : Nat) (b : UInt8) (hb : al[j]? = some b) : (⟨al.toArray⟩ : ByteArray).extract j (j + 1) = ⟨[b].toArray⟩ := by
  obtain ⟨hj, hb⟩ := List.getElem?_eq_some_iff.1 hb
  apply ByteArray.ext
  apply Array.ext'
  simp only [ByteArray.data_extract, Array.toList_extract, List.extract_eq_take_drop]
  rw [Nat.add_sub_cancel_left, List.drop_eq_getElem_cons hj, hb]
  rfl
theorem cut_at_byte (al : List UInt8) (j : Nat) (b : UInt8) (hb : al[j]? = some b) (wx : World) :
    (Instr.slice 9 (.string ⟨al.toArray⟩) (some (.int .i64 (j : Int))) (some (.int .i64 ((j : Int) + 1))) none).run Tryd.prog wx = .ok (.string ⟨[b].toArray⟩) wx := by
  have hj : j < al.length := (List.getElem?_eq_some_iff.1 hb).1
  have := run_slice_string (P := Tryd.prog) wx 9 ⟨al.toArray⟩ .i64 .i64 (j : Int) ((j : Int) + 1) Tryd.underlying9 (by omega) (by omega) (by simp [ByteArray.size]; omega)
  rw [this, ← cut_byte al j b hb]
  congr 3
theorem text_post (c : UInt8) (l : List UInt8) : (⟨l.toArray⟩ : ByteArray) ++ ⟨#[c]⟩ = ⟨(l ++ [c]).toArray⟩ := by
  apply ByteArray.ext
  apply Array.ext'
  simp
def DText (w : World) (B g m : Nat) (e : Ending) (w' : World) : Prop := ∃ t : List UInt8, t.length = m ∧ e = .returned (.string ⟨t.toArray⟩) ∧ DiceOk w' B g ∧ w.grownBy w' (some g)
set_option maxRecDepth 100000 in
set_option maxHeartbeats 1000000 in
theorem dtext_any (w : World) (B g : Nat) (h : DiceOk w B g) (al : List UInt8) (ha : 1 ≤ al.length) (ha2 : al.length ≤ 100) (m : Nat) (hm : m ≤ 100) :
    Calls Tryd.prog 34 #[.pointer (some ⟨g, 0, none⟩), .string ⟨al.toArray⟩, .int .i64 (m : Int)] w (DText w B g m) := by
  have HD := hide h
  have HG : Hid (w.grownBy w (some g)) := hide (World.grownBy.refl _ _)
  have hza : (⟨al.toArray⟩ : ByteArray).size ≤ 100 := size_list al 100 ha2
  clear h
  go_enter Tryd.func34, Tryd.ntmps34
  go_wp2_with fail
  go_loopw [7, 8] (fun x y wr => ∃ (s : List UInt8) (i : Nat), x = .string ⟨s.toArray⟩ ∧ y = .int .i64 i ∧ s.length = i ∧ i ≤ m ∧ DiceOk wr B g ∧ w.grownBy wr (some g)) (fun _ y _ => m - (intOf y).toNat)
  case atStart => exact ⟨[], 0, rfl, rfl, rfl, by omega, unhide HD, unhide HG⟩
  case round =>
    obtain ⟨s, i, rfl, rfl, hs, hi, hD1, hG1⟩ := hrel
    have D1 := hide hD1
    have G1 := hide hG1
    clear hD1 hG1 HD HG
    by_cases him : i < m
    · have e1 : ((i : Int) < (m : Int)) = True := by simp; omega
      go_wp2_with fail
      refine (dnext_any _ B g (al.length : Int) (by omega) (by omega) (unhide D1)).mono ?_
      rintro e w2 ⟨q, hq, rfl, hd2, hg2⟩
      have D2 := hide hd2
      have G2 := hide (grown_tr (unhide G1) hg2)
      clear hd2 hg2
      obtain ⟨b, hbq⟩ : ∃ b, al[q]? = some b := ⟨al[q]'(by omega), List.getElem?_eq_getElem _⟩
      have HC := hide hbq
      clear hbq
      have hsl : s.length ≤ 100 := by omega
      go_wp2_with (rw [cut_at_byte al q b (unhide HC)])
      refine ⟨⟨s ++ [b], i + 1, congrArg Value.string (text_post b s), by congr 1, by rw [List.length_append, hs]; rfl, by omega, unhide D2, unhide G2⟩, ?_⟩
      simp [intOf]
      omega
    · have e1 : ((i : Int) < (m : Int)) = False := by simp; omega
      go_wp2_with fail
      go_ret
      exact ⟨s, by omega, rfl, unhide D1, unhide G1⟩
end Go.Proofs.YtklffnfaigmjfaaDoor
