/- Dice.Text returns some text of the wanted length. -/
import Derived.Test.YtcebjipekodmpaaDoorMFmtPlain
namespace Go.Proofs.YtcebjipekodmpaaDoor
open Go.RowKit
theorem cut_byte (al : List UInt8) (j : Nat) (b : UInt8) (hb : al[j]? = some b) : (⟨al.toArray⟩ : ByteArray).extract j (j + 1) = ⟨[b].toArray⟩ := by
  obtain ⟨hj, hb⟩ := List.getElem?_eq_some_iff.1 hb
  apply ByteArray.ext
  apply Array.ext'
  simp only [ByteArray.data_extract, Array.toList_extract, List.extract_eq_take_drop]
  rw [Nat.add_sub_cancel_left, List.drop_eq_getElem_cons hj, hb]
  rfl
theorem cut_at_byte (al : List UInt8) (j : Nat) (b : UInt8) (hb : al[j]? = some b) (wx : World) :
    (Instr.slice 9 (.string ⟨al.toArray⟩) (some (.int .i64 (j : Int))) (some (.int .i64 ((j : Int) + 1))) none).run Tryd.prog wx = .ok (.string ⟨[b].toArray⟩) wx := by
  have hj : j < al.length := (List.getElem?_eq_some_iff.1 hb).1
  have := run_slice_string (P := Tryd.prog) wx 9 ⟨al.toArray⟩ .i64 .i64 (j : Int) ((j : Int) + 1) Tryd.underlying9 (by omega) (by omega) (by rw [size_mk]; omega)
  rw [this, ← cut_byte al j b hb]
  congr 3
def TextPost (w : World) (g : Nat) (m : Nat) (A : Option Addr) (n c : Nat) (e : Ending) (w' : World) : Prop :=
  ∃ (t : List UInt8) (k : Nat), t.length = m ∧ k ≤ n ∧ e = .returned (.string ⟨t.toArray⟩) ∧ Blk w' g 52 #[.slice A n c, .int .i64 k] ∧ w.grownBy w' (some g)
set_option maxRecDepth 100000 in
set_option maxHeartbeats 1000000 in
theorem text_at (w : World) (g B : Nat) (A : Option Addr) (n c k : Nat) (zs : List Int) (T : ByteArray) (al : List UInt8) (hT : T = ⟨al.toArray⟩) (ha : 1 ≤ al.length) (ha2 : al.length ≤ 100) (m : Nat) (hm : m ≤ 100) (hk : k ≤ n) (hn : n ≤ 600)
    (hb : Blk w g 52 #[.slice A n c, .int .i64 k]) (hr : Reads w B 1 A n (intV zs)) (hB : B ≤ g) :
    Calls Tryd.prog 30 #[.pointer (some ⟨g, 0, none⟩), .string T, .int .i64 (m : Int)] w (TextPost w g m A n c) := by
  subst hT
  have HR := hide hr
  have HBB := hide hb
  have HG := hide (only_of_below (Below.refl w.heap.size w) (some g))
  have hza : (⟨al.toArray⟩ : ByteArray).size ≤ 100 := size_list al 100 ha2
  clear hr hb
  go_enter Tryd.func30, Tryd.ntmps30
  go_wp2_with fail
  go_loopw [7, 8] (fun x y wr => ∃ (s : List UInt8) (i j : Nat), x = .string ⟨s.toArray⟩ ∧ y = .int .i64 i ∧ s.length = i ∧ i ≤ m ∧ j ≤ n ∧ Hid (Reads wr B 1 A n (intV zs)) ∧ Hid (Blk wr g 52 #[.slice A n c, .int .i64 j]) ∧ Hid (w.grownBy wr (some g))) (fun _ y _ => m - (intOf y).toNat)
  case atStart => exact ⟨[], 0, k, rfl, rfl, rfl, by omega, hk, HR, HBB, HG⟩
  case round =>
    obtain ⟨s, i, j, rfl, rfl, hs, hi, hj, HR1, HB1, HG1⟩ := hrel
    clear HR HBB HG
    by_cases him : i < m
    · have e1 : decide ((i : Int) < (m : Int)) = true := by simpa using him
      go_wp2_with fail
      refine (next_at wr g B A n c j zs (al.length : Int) (by omega) (by omega) hj hn (unhide HB1) (unhide HR1) hB).mono ?_
      rintro e w2 ⟨q, k2, hq, hk2, rfl, hb2, hg2⟩
      have HB2 := hide hb2
      have HG2 := hide (grown_tr (unhide HG1) hg2)
      have hblt : B ≤ wr.heap.size := by have := (unhide HB1).lt; omega
      have HR2 := hide ((unhide HR1).grown hg2 hblt (fun g' e => by injection e with e; omega))
      clear hb2 hg2
      obtain ⟨b, hbq⟩ : ∃ b, al[q]? = some b := ⟨al[q]'(by omega), List.getElem?_eq_getElem _⟩
      have HC := hide hbq
      clear hbq
      have hsl : s.length ≤ 100 := by omega
      go_wp2_with (rw [cut_at_byte al q b (unhide HC)])
      refine ⟨⟨s ++ [b], i + 1, k2, congrArg Value.string (text_post b s), by congr 1, by rw [List.length_append, hs]; rfl, by omega, hk2, HR2, HB2, HG2⟩, ?_⟩
      simp [intOf]
      omega
    · have e1 : decide ((i : Int) < (m : Int)) = false := by simpa using him
      go_wp2_with fail
      go_ret
      exact ⟨s, j, by omega, hj, rfl, unhide HB1, unhide HG1⟩
end Go.Proofs.YtcebjipekodmpaaDoor
