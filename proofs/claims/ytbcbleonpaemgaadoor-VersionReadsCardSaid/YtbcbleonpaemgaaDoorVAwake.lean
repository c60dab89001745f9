/- The law's awake: true. No condition. -/
import Derived.Test.YtbcbleonpaemgaaDoorVCheck
import Derived.Test.YtbcbleonpaemgaaDoorVFmt
namespace Go.Proofs.YtbcbleonpaemgaaDoor
open Go.RowKit
def awL : Nat → Inst
  | 0 => ⟨[98, 105, 111, 115], ⟨1, 2, 0⟩⟩
  | _ => ⟨[109, 101], ⟨2, 0, 0⟩⟩
def awN : NeedS := ⟨[98, 105, 111, 115], ⟨1, 1, 0⟩, [109, 101], ⟨2, 1, 0⟩⟩
theorem aw_check : checkF awL 2 (fun _ => awN) 1 = (0, 0) := by decide
theorem aw_met : metF awL 2 awN = false := by decide
theorem inst_of_blk {w : World} {g : Nat} {t : TypeId} {cs : Array Value} (h : Blk w g t cs) (n : Nat) (L : Nat → Inst) (hL : ∀ i, i < n → (L i).s.length ≤ maxLen ∧ cs[i * 4]? = some (.string ⟨(L i).s.toArray⟩) ∧ cs[i * 4 + 1]? = some (.int .i64 (L i).v.a) ∧ cs[i * 4 + 2]? = some (.int .i64 (L i).v.b) ∧ cs[i * 4 + 3]? = some (.int .i64 (L i).v.c)) :
    InstAt w w.heap.size (some ⟨g, 0, none⟩) n L := by
  intro i hi
  obtain ⟨h0, h1, h2, h3, h4⟩ := hL i hi
  refine ⟨g, 0, rfl, h.lt, h0, ?_, ?_, ?_, ?_⟩ <;> rw [Nat.zero_add, h.cell] <;> assumption
theorem need_of_blk {w : World} {g : Nat} {t : TypeId} (x : NeedS) (hc : x.c.length ≤ maxLen) (ho : x.o.length ≤ maxLen) (h : Blk w g t x.cells) : NeedAt w w.heap.size (some ⟨g, 0, none⟩) 1 (fun _ => x) := by
  intro i hi
  obtain rfl : i = 0 := by omega
  refine ⟨g, 0, rfl, h.lt, hc, ho, ?_, ?_, ?_, ?_, ?_, ?_, ?_, ?_⟩ <;> rw [h.cell] <;> rfl
def awCs : Array Value := #[.string ⟨#[98, 105, 111, 115]⟩, .int .i64 1, .int .i64 2, .int .i64 0, .string ⟨#[109, 101]⟩, .int .i64 2, .int .i64 0, .int .i64 0]
theorem aw_inst {w : World} {g : Nat} {t : TypeId} (h : Blk w g t awCs) : InstAt w w.heap.size (some ⟨g, 0, none⟩) 2 awL := by
  refine inst_of_blk h 2 awL fun i hi => ?_
  have : i = 0 ∨ i = 1 := by omega
  rcases this with rfl | rfl
  · exact ⟨by decide, rfl, rfl, rfl, rfl⟩
  · exact ⟨by decide, rfl, rfl, rfl, rfl⟩
set_option maxRecDepth 100000 in
set_option maxHeartbeats 2000000 in
theorem awake_any (w : World) : Calls Tryd.prog 9 #[] w fun e w' => e = .returned (.bool true) ∧ Below w.heap.size w w' := by
  have HC := hide check_any
  have HF := hide format_120
  have HM := hide met_any
  obtain ⟨W3, hW3⟩ : ∃ W3, ((w.alloc (.cells awCs 42)).alloc (.cells awN.cells 50)).alloc (.cells awN.cells 50) = W3 := ⟨_, rfl⟩
  have HL : Hid (InstAt W3 (w.heap.size + 1) (some ⟨w.heap.size, 0, none⟩) 2 awL) := hide (by
    have h : InstAt (w.alloc (.cells awCs 42)) (w.heap.size + 1) (some ⟨w.heap.size, 0, none⟩) 2 awL := by have := aw_inst (Blk.new w 42 awCs); rwa [size_alloc] at this
    rw [← hW3]
    exact h.below (((Below.refl _ _).alloc (by simp) _).alloc (by simp) _))
  have HB1 : Hid (Blk W3 (w.heap.size + 1) 50 awN.cells) := hide (hW3 ▸ (Blk.new' (by simp)).alloc _)
  have HB2 : Hid (Blk W3 (w.heap.size + 1 + 1) 50 awN.cells) := hide (hW3 ▸ Blk.new' (by simp))
  have HB0 : Hid (Blk W3 w.heap.size 42 awCs) := hide (hW3 ▸ ((Blk.new w _ _).alloc _).alloc _)
  have B3 : Hid (Below w.heap.size w W3) := hide (hW3 ▸ (((Below.refl w.heap.size w).alloc (Nat.le_refl _) _).alloc (by simp) _).alloc (by simp; omega) _)
  have hsz : w.heap.size + 1 ≤ W3.heap.size := by have := (unhide HB1).lt; omega
  have HW := hide hW3
  clear hW3
  go_enter Tryd.func9, Tryd.ntmps9
  go_wp2_with fail
  have hw := unhide HW
  rw [show awCs = #[.string ⟨#[98, 105, 111, 115]⟩, .int .i64 1, .int .i64 2, .int .i64 0, .string ⟨#[109, 101]⟩, .int .i64 2, .int .i64 0, .int .i64 0] from rfl, show awN.cells = #[.string ⟨#[98, 105, 111, 115]⟩, .int .i64 1, .int .i64 1, .int .i64 0, .string ⟨#[109, 101]⟩, .int .i64 2, .int .i64 1, .int .i64 0] from rfl] at hw
  rw [hw]
  clear hw HW
  refine (unhide HC W3 _ 2 2 (by omega) (by decide) awL ((unhide HL).more hsz) _ 1 1 (by omega) (by decide) (fun _ => awN) (need_of_blk awN (by decide) (by decide) (unhide HB2)) 0 0 aw_check).mono ?_
  rintro e w4 ⟨rfl, hb4⟩
  have B4 := hide ((unhide B3).trans (hb4.mono (unhide B3).size))
  have b0 := (unhide HB0).below hb4 (unhide HB0).lt
  have c1 : w4.cell? ⟨w.heap.size, 1, none⟩ = some (.int .i64 1) := b0.cell 1
  have c2 : w4.cell? ⟨w.heap.size, 2, none⟩ = some (.int .i64 2) := b0.cell 2
  have c3 : w4.cell? ⟨w.heap.size, 3, none⟩ = some (.int .i64 0) := b0.cell 3
  have HN4 := hide ((unhide HB1).below hb4 (unhide HB1).lt)
  have HL4 := hide ((unhide HL).below (hb4.mono hsz))
  have hsz4 : w.heap.size + 1 ≤ w4.heap.size := by have := hb4.size; omega
  clear hb4 b0
  go_wp2_with fail
  refine (unhide HF _).mono ?_
  rintro e w5 ⟨rfl, hb5⟩
  have B5 := hide ((unhide B4).trans (hb5.mono (unhide B4).size))
  have n5 := (unhide HN4).below hb5 (unhide HN4).lt
  have d0 : w5.cell? ⟨w.heap.size + 1, 0, none⟩ = some (.string ⟨#[98, 105, 111, 115]⟩) := n5.cell 0
  have d1 : w5.cell? ⟨w.heap.size + 1, 1, none⟩ = some (.int .i64 1) := n5.cell 1
  have d2 : w5.cell? ⟨w.heap.size + 1, 2, none⟩ = some (.int .i64 1) := n5.cell 2
  have d3 : w5.cell? ⟨w.heap.size + 1, 3, none⟩ = some (.int .i64 0) := n5.cell 3
  have d4 : w5.cell? ⟨w.heap.size + 1, 4, none⟩ = some (.string ⟨#[109, 101]⟩) := n5.cell 4
  have d5 : w5.cell? ⟨w.heap.size + 1, 5, none⟩ = some (.int .i64 2) := n5.cell 5
  have d6 : w5.cell? ⟨w.heap.size + 1, 6, none⟩ = some (.int .i64 1) := n5.cell 6
  have d7 : w5.cell? ⟨w.heap.size + 1, 7, none⟩ = some (.int .i64 0) := n5.cell 7
  have HL5 := hide ((unhide HL4).below (hb5.mono hsz4))
  have hsz5 : w.heap.size + 1 ≤ w5.heap.size := by have := hb5.size; omega
  clear hb5 n5 c1 c2 c3
  go_wp2_with fail
  refine (unhide HM w5 _ 2 2 (by omega) (by decide) awL ((unhide HL5).more hsz5) awN (by decide) (by decide) false aw_met).mono ?_
  rintro e w6 ⟨rfl, hb6⟩
  have B6 := hide ((unhide B5).trans (hb6.mono (unhide B5).size))
  clear hb6 d0 d1 d2 d3 d4 d5 d6 d7
  go_wp2_with fail
  go_ret
  exact ⟨rfl, unhide B6⟩
end Go.Proofs.YtbcbleonpaemgaaDoor
