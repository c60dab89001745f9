/- baseboardfield's names and plain: what the maker of versions gives. No condition. -/
import Derived.Test.YtbcbleonpaemgaaDoorField
import Derived.Test.YtbcbleonpaemgaaDoorHEnd
import Derived.Test.YtbcbleonpaemgaaDoorVRow
namespace Go.Proofs.YtbcbleonpaemgaaDoor
open Go.RowKit
def nmL : List (List UInt8) := [[98, 105, 111, 115], [99, 112, 108, 100], [109, 101], [112, 115, 117], [120, 45, 49], [122, 122]]
def nmCs : Array Value := #[.string ⟨#[98, 105, 111, 115]⟩, .string ⟨#[99, 112, 108, 100]⟩, .string ⟨#[109, 101]⟩, .string ⟨#[112, 115, 117]⟩, .string ⟨#[120, 45, 49]⟩, .string ⟨#[122, 122]⟩]
theorem nm_at (k : Nat) (hk : k < 6) : nmCs[k]? = some (.string ⟨(nmL.getD k []).toArray⟩) ∧ (nmL.getD k []).length ≤ 4 := by
  have : k = 0 ∨ k = 1 ∨ k = 2 ∨ k = 3 ∨ k = 4 ∨ k = 5 := by omega
  rcases this with rfl | rfl | rfl | rfl | rfl | rfl <;> exact ⟨rfl, by decide⟩
theorem names_any (w : World) : Calls Tryd.prog 35 #[] w fun e w' => e = .returned (.slice (some ⟨w.heap.size, 0, none⟩) 6 6) ∧ w' = w.alloc (.cells nmCs 9) := by
  go_enter Tryd.func35, Tryd.ntmps35
  go_wp2_with fail
  go_ret
  exact ⟨rfl, rfl⟩
/-- What plain leaves. -/
def PlainPost (w : World) (B g : Nat) (e : Ending) (w' : World) : Prop :=
  ∃ a b : Int, e = .returned (.agg #[.int .i64 a, .int .i64 b, .int .i64 0]) ∧ 1 ≤ a ∧ a ≤ 3 ∧ 0 ≤ b ∧ b ≤ 1 ∧ CodesAt w' B g ∧ w.grownBy w' (some g)
theorem grown_trans_some {a b c : World} {g : Nat} (h : a.grownBy b (some g)) (k : b.grownBy c (some g)) : a.grownBy c (some g) :=
  ⟨k.os.trans h.os, k.tape.trans h.tape, k.output.trans h.output, Nat.le_trans h.size k.size, fun i hi hn => (k.block i (Nat.lt_of_lt_of_le hi h.size) hn).trans (h.block i hi hn)⟩
set_option maxHeartbeats 1000000 in
theorem plain_any (w : World) (B g : Nat) (h : CodesAt w B g) : Calls Tryd.prog 36 #[.pointer (some ⟨g, 0, none⟩)] w (PlainPost w B g) := by
  have hg := h.lt
  have HC : Hid (CodesAt (w.alloc (.cells #[.int .i64 0, .int .i64 0, .int .i64 0] 26)) B g) := hide (h.keep fun b hb => Below.heap_alloc w _ b (by omega))
  have HZ : Hid (Blk (w.alloc (.cells #[.int .i64 0, .int .i64 0, .int .i64 0] 26)) w.heap.size 26 #[.int .i64 0, .int .i64 0, .int .i64 0]) := hide (Blk.new w _ _)
  have G0 : Hid (w.grownBy (w.alloc (.cells #[.int .i64 0, .int .i64 0, .int .i64 0] 26)) (some g)) := hide (World.grownBy_alloc w _ _)
  have hne : some w.heap.size ≠ some g := by intro e; injection e with e; omega
  clear h
  go_enter Tryd.func36, Tryd.ntmps36
  go_wp2_with fail
  refine (next_any _ B g 3 (unhide HC) (by omega) (by omega)).mono ?_
  rintro e w1 ⟨r, rfl, hr0, hr1, hc1, hg1⟩
  have hr2 : r ≤ 2 := by omega
  have Z1 := hide ((unhide HZ).grown hg1 hne)
  have C1 := hide hc1
  have G1 := hide (grown_trans_some (unhide G0) hg1)
  clear hc1 hg1 hr1
  go_wp2_with fail
  refine (next_any _ B g 5 (unhide C1) (by omega) (by omega)).mono ?_
  rintro e w2 ⟨s, rfl, hs0, hs1, hc2, hg2⟩
  have hs2 : s ≤ 4 := by omega
  have Z2 := hide ((unhide Z1).grown hg2 hne)
  have G2 := hide (grown_trans_some (unhide G1) hg2)
  have C2 := hide hc2
  clear hc2 hg2 hs1
  have hwr : IntKind.i64.wrap (1 + r) = 1 + r := IntWalk.i64_in _ (by omega)
  go_wp2_with (first
    | (refine wpList_store_blk rfl 26 (.tmp 2) (.tmp 9) rfl w.heap.size 26 _ #[.int .i64 (1 + r), .int .i64 (s / 4), .int .i64 0] rfl rfl (unhide Z2) rfl (by kernel_rfl) (by intro u hu; simp at hu; rcases hu with rfl | rfl | rfl <;> rfl) ?_
       intro w3 hb3 hg3
       have Z3 := hide hb3
       have C3 := hide ((unhide C2).keep fun b hb => hg3.block b (by have := (unhide C2).lt; omega) (fun e => by injection e with e; omega))
       have G3 : Hid (w.grownBy w3 (some g)) := hide ⟨hg3.os.trans (unhide G2).os, hg3.tape.trans (unhide G2).tape, hg3.output.trans (unhide G2).output, Nat.le_trans (unhide G2).size hg3.size, fun i hi hn => (hg3.block i (Nat.lt_of_lt_of_le hi (unhide G2).size) (fun e => by injection e with e; omega)).trans ((unhide G2).block i hi hn)⟩
       clear hb3 hg3)
    | fail)
  exact bodyPost_ret (v := .agg #[.int .i64 (1 + r), .int .i64 (s / 4), .int .i64 0]) (res1 rfl _ w.heap.size 26 #[.int .i64 (1 + r), .int .i64 (s / 4), .int .i64 0] _ rfl (unhide Z3) Tryd.underlying26 rfl (by kernel_rfl)) rfl ⟨1 + r, s / 4, rfl, by omega, by omega, by omega, by omega, unhide C3, unhide G3⟩
end Go.Proofs.YtbcbleonpaemgaaDoor
