/- baseboardfield's Name: a short name. No condition. -/
import Derived.Test.YtbcbleonpaemgaaDoorVNeedM
namespace Go.Proofs.YtbcbleonpaemgaaDoor
open Go.RowKit
/-- What Name leaves. -/
def CNamePost (w : World) (B g : Nat) (e : Ending) (w' : World) : Prop :=
  ∃ s : List UInt8, e = .returned (.string ⟨s.toArray⟩) ∧ s.length ≤ 17 ∧ CodesAt w' B g ∧ w.grownBy w' (some g)
set_option maxRecDepth 100000 in
set_option maxHeartbeats 8000000 in
theorem cname_any (w : World) (B g : Nat) (h : CodesAt w B g) : Calls Tryd.prog 20 #[.pointer (some ⟨g, 0, none⟩)] w (CNamePost w B g) := by
  have hg := h.lt
  have C1 := hide h
  have CALL := hide next_any
  clear h
  go_enter Tryd.func20, Tryd.ntmps20
  go_wp2_with fail
  refine (unhide CALL _ B g 24 (unhide C1) (by omega) (by omega)).mono ?_
  rintro e w5 ⟨r5, rfl, hr0, hr1, hc5, hg5⟩
  have S5 := hide hc5
  have T5 := hide hg5
  clear hc5 hg5 hr0 hr1
  have hg6 : g < w5.heap.size := (unhide S5).lt
  by_cases h5 : r5 = 23
  · have he5 : (r5 == 23) = true := by simpa using h5
    clear h5
    obtain ⟨W6, hW6⟩ : ∃ W6, w5.alloc (.cells #[.string ⟨#[]⟩, .string ⟨#[66, 105, 111, 115]⟩, .string ⟨#[49, 97]⟩, .string ⟨#[97, 95, 98]⟩, .string ⟨#[97, 98, 99, 100, 101, 102, 103, 104, 105, 106, 107, 108, 109, 110, 111, 112, 113]⟩, .string ⟨#[45, 97]⟩] 9) = W6 := ⟨_, rfl⟩
    have L6 : Hid (Blk W6 w5.heap.size 9 #[.string ⟨#[]⟩, .string ⟨#[66, 105, 111, 115]⟩, .string ⟨#[49, 97]⟩, .string ⟨#[97, 95, 98]⟩, .string ⟨#[97, 98, 99, 100, 101, 102, 103, 104, 105, 106, 107, 108, 109, 110, 111, 112, 113]⟩, .string ⟨#[45, 97]⟩]) := hide (hW6 ▸ Blk.new w5 _ _)
    have S6 := hide (hW6 ▸ codes_far (unhide S5) (World.grownBy_alloc w5 (.cells #[.string ⟨#[]⟩, .string ⟨#[66, 105, 111, 115]⟩, .string ⟨#[49, 97]⟩, .string ⟨#[97, 95, 98]⟩, .string ⟨#[97, 98, 99, 100, 101, 102, 103, 104, 105, 106, 107, 108, 109, 110, 111, 112, 113]⟩, .string ⟨#[45, 97]⟩] 9) none) (fun j e => by cases e))
    have T6 : Hid (w.grownBy W6 (some g)) := hide (grown_trans_some (unhide T5) (hW6 ▸ World.grownBy_alloc w5 (.cells #[.string ⟨#[]⟩, .string ⟨#[66, 105, 111, 115]⟩, .string ⟨#[49, 97]⟩, .string ⟨#[97, 95, 98]⟩, .string ⟨#[97, 98, 99, 100, 101, 102, 103, 104, 105, 106, 107, 108, 109, 110, 111, 112, 113]⟩, .string ⟨#[45, 97]⟩] 9) (some g)))
    have HW6 := hide hW6
    clear hW6
    go_wp2_with fail
    rw [unhide HW6]
    refine (unhide CALL _ B g 6 (unhide S6) (by omega) (by omega)).mono ?_
    rintro e w7 ⟨r7, rfl, hr0, hr1, hc7, hg7⟩
    obtain ⟨k, rfl⟩ := Int.eq_ofNat_of_zero_le hr0
    have L7 := (unhide L6).grown hg7 (by intro e; injection e with e; omega)
    obtain ⟨s, hs, hcl⟩ : ∃ s : List UInt8, s.length ≤ 17 ∧ w7.cell? ⟨w5.heap.size, k, none⟩ = some (.string ⟨s.toArray⟩) := by
        have hk : k = 0 ∨ k = 1 ∨ k = 2 ∨ k = 3 ∨ k = 4 ∨ k = 5 := by omega
        rcases hk with rfl | rfl | rfl | rfl | rfl | rfl
        · exact ⟨[], by decide, L7.cell 0⟩
        · exact ⟨[66, 105, 111, 115], by decide, L7.cell 1⟩
        · exact ⟨[49, 97], by decide, L7.cell 2⟩
        · exact ⟨[97, 95, 98], by decide, L7.cell 3⟩
        · exact ⟨[97, 98, 99, 100, 101, 102, 103, 104, 105, 106, 107, 108, 109, 110, 111, 112, 113], by decide, L7.cell 4⟩
        · exact ⟨[45, 97], by decide, L7.cell 5⟩
    have T7 := hide (grown_trans_some (unhide T6) hg7)
    have S7 := hide hc7
    have hz := size_list s 17 hs
    clear hc7 hg7 L7 hr0
    go_wp2_with fail
    go_ret
    exact ⟨s, rfl, hs, unhide S7, unhide T7⟩
  · have he5 : (r5 == 23) = false := by simpa using h5
    clear h5
    obtain ⟨W6, hW6⟩ : ∃ W6, w5.alloc (.cells nmCs 9) = W6 := ⟨_, rfl⟩
    have L6 : Hid (Blk W6 w5.heap.size 9 nmCs) := hide (hW6 ▸ Blk.new w5 _ _)
    have S6 := hide (hW6 ▸ codes_far (unhide S5) (World.grownBy_alloc w5 (.cells nmCs 9) none) (fun j e => by cases e))
    have T6 : Hid (w.grownBy W6 (some g)) := hide (grown_trans_some (unhide T5) (hW6 ▸ World.grownBy_alloc w5 (.cells nmCs 9) (some g)))
    have HW6 := hide hW6
    clear hW6
    go_wp2_with fail
    refine (names_any _).mono ?_
    rintro e w6 ⟨rfl, rfl⟩
    rw [unhide HW6]
    go_wp2_with fail
    refine (unhide CALL _ B g 6 (unhide S6) (by omega) (by omega)).mono ?_
    rintro e w7 ⟨r7, rfl, hr0, hr1, hc7, hg7⟩
    obtain ⟨k, rfl⟩ := Int.eq_ofNat_of_zero_le hr0
    have hk6 : k < 6 := by omega
    have L7 := (unhide L6).grown hg7 (by intro e; injection e with e; omega)
    obtain ⟨s, hs, hcl⟩ : ∃ s : List UInt8, s.length ≤ 17 ∧ w7.cell? ⟨w5.heap.size, k, none⟩ = some (.string ⟨s.toArray⟩) :=
      ⟨nmL.getD k [], Nat.le_trans (nm_at k hk6).2 (by omega), (L7.cell k).trans (nm_at k hk6).1⟩
    have T7 := hide (grown_trans_some (unhide T6) hg7)
    have S7 := hide hc7
    have hz := size_list s 17 hs
    clear hc7 hg7 L7 hr0
    go_wp2_with fail
    go_ret
    exact ⟨s, rfl, hs, unhide S7, unhide T7⟩
end Go.Proofs.YtbcbleonpaemgaaDoor
