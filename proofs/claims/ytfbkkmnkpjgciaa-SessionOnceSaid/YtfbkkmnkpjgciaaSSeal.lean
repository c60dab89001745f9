/- Printed by wip/gen_s35.py from XSeal: the same without the reference of chapter 33. -/
import Derived.Test.YtfbkkmnkpjgciaaSSum
import Derived.Test.YtfbkkmnkpjgciaaSBytes
import Derived.Test.YtfbkkmnkpjgciaaApp
import Derived.Deep.RegionHeld3
import Derived.Deep.RegionLaw
import Derived.IntWalk
namespace Go.Proofs.Ytfbkkmnkpjgciaa
open Go.RowKit
theorem range_of_blk {w : World} {b : Nat} {t : TypeId} {cs : List Value} (h : Blk w b t cs.toArray) : w.rangeAt b 0 cs := fun j v hv => by
  rw [h.cell]; simpa using hv
/-- Nothing below block N has turned since w0, and the cells cs lie at the head of block b: kept over what turns nothing below B. -/
theorem held_below {N : Nat} {w0 : World} {b : Nat} {cs : List Value} {w w' : World} {B : Nat} (h : Below N w0 w ∧ w.rangeAt b 0 cs) (hb : Below B w w') (hB : N ≤ B) (hbN : b < N) : Below N w0 w' ∧ w'.rangeAt b 0 cs :=
  ⟨h.1.trans (hb.mono hB), fun j v hv => (hb.cell (p := ⟨b, 0 + j, none⟩) (Nat.lt_of_lt_of_le hbN hB)).trans (h.2 j v hv)⟩
theorem held_alloc {N : Nat} {w0 : World} {b : Nat} {cs : List Value} {w : World} (h : Below N w0 w ∧ w.rangeAt b 0 cs) (hbN : b < N) (hN : N ≤ w0.heap.size) (o : Obj) : Below N w0 (w.alloc o) ∧ (w.alloc o).rangeAt b 0 cs :=
  held_below (B := w.heap.size) h ((Below.refl _ _).alloc (Nat.le_refl _) o) (Nat.le_trans hN h.1.size) hbN
theorem madeCells_size (z : Array Value) (n : Nat) (h : z.size = 1) : (madeCells z n).size = n := by
  simp [madeCells, h]
theorem own_more {w : World} {base base' : Nat} {e : TypeId} {size n : Nat} {v : Value} {xs : List Value} (h : w.ownsRow base e size v n xs) (hb : base' ≤ base) : w.ownsRow base' e size v n xs := by
  refine ⟨h.1, ?_⟩
  rcases h.2 with h2 | ⟨g, cap, cur, h2, h3, h4⟩
  · exact .inl h2
  · exact .inr ⟨g, cap, cur, h2, Nat.le_trans hb h3, h4⟩
theorem rotl_nonneg (x : Int) (k : Nat) : 0 ≤ rotl x k := by
  unfold rotl; rw [show ∀ a b, bits .or .u64 a b = IntKind.u64.wrap _ from fun _ _ => rfl, IntKind.wrap_u64]; omega
theorem xor64_nonneg (x y : Int) : 0 ≤ xor64 x y := by
  rw [show xor64 x y = IntKind.u64.wrap _ from rfl, IntKind.wrap_u64]; omega
theorem sumF_nonneg (ks bs : List UInt8) : 0 ≤ sumF ks bs := xor64_nonneg _ _
set_option maxRecDepth 100000 in
set_option maxHeartbeats 2000000 in
theorem seal_any (ks bs : List UInt8) (hk : ks.length = 16) (A : Option Addr) (n c : Nat) (w : World) (h : Reads w w.heap.size 1 A n (bsV bs)) (hn : n ≤ c) (hc : c ≤ maxLen) (hlen : n ≤ 1000000) :
    Calls Try.prog 51 #[.agg (bsV ks).toArray, .slice A n c] w
      fun e w' => ∃ v, e = .returned v ∧ w'.ownsRow w.heap.size 5 1 v (n + 8) (bsV bs ++ bsV (leB (sumF ks bs) 8)) ∧ Below w.heap.size w w' := by
  obtain ⟨i0, hi, hz0, hz1, hz2⟩ := info_parts info_b
  have hmk : ∀ W : World, (Instr.makeSlice 32 (.int .i64 0) (.int .i64 ((n : Int) + 8))).run Try.prog W = .ok (.slice (some ⟨W.heap.size, 0, none⟩) 0 (n + 8)) (W.alloc (.cells (madeCells #[.int .u8 0] (n + 8)) 5)) := by
    have := run_make_rowN (P := Try.prog) 32 5 i0 (.int .u8 0) Try.underlying32 hi hz0 .i64 .i64 0 (n + 8) (by omega) (by rw [hz2]; omega) (by omega)
    rw [hz1, Nat.mul_one] at this
    simpa [Value.cells] using this
  have hwr : IntKind.i64.wrap ((n : Int) + 8) = (n : Int) + 8 := IntWalk.i64_in _ (by omega)
  have hKB := Blk.new w 36 (bsV ks).toArray
  have hS0 : Below (w.heap.size + 1) (w.alloc (.cells (bsV ks).toArray 36)) (w.alloc (.cells (bsV ks).toArray 36)).drew ∧ (w.alloc (.cells (bsV ks).toArray 36)).drew.rangeAt w.heap.size 0 (bsV ks) :=
    ⟨(Below.refl _ _).drew, range_of_blk hKB⟩
  have hu23 := Try.underlying36
  have hsz23 : (Try.prog.info? 36).map (·.size) = some (bsV ks).length := by
    have e : (bsV ks).length = 16 := by simp [hk]
    rw [e]
    exact (by kernel_rfl : (Try.prog.info? 36).map (·.size) = some 16)
  have hM : (madeCells #[.int .u8 0] (n + 8)).size = (n + 8) * 1 := by rw [madeCells_size _ _ rfl, Nat.mul_one]
  have hO5 : (((w.alloc (.cells (bsV ks).toArray 36)).alloc (.cells (madeCells #[.int .u8 0] (n + 8)) 5)).drew).ownsRow (w.heap.size + 1) 5 1 (.slice (some ⟨w.heap.size + 1, 0, none⟩) 0 (n + 8)) 0 [] := by
    have := World.ownsRow_made (base := w.heap.size + 1) (e := 5) (size := 1) (w.alloc (.cells (bsV ks).toArray 36)) (madeCells #[.int .u8 0] (n + 8)) (n + 8) (by rw [size_alloc]; exact Nat.le_refl _) (by unfold maxLen; omega) hM
    rw [size_alloc] at this
    exact this
  have hR0 := (h.alloc (Nat.le_refl _) (.cells (bsV ks).toArray 36))
  have hR5 := (hR0.alloc (by rw [size_alloc]; omega) (.cells (madeCells #[.int .u8 0] (n + 8)) 5)).drew
  have hbel0 := (Below.refl w.heap.size w).alloc (Nat.le_refl _) (.cells (bsV ks).toArray 36)
  have HBEL0 := hide hbel0
  have HO5 := hide hO5
  have HR0 := hide hR0
  have HR5 := hide hR5
  have HK := hide hk
  clear hKB h hk hO5 hR0 hR5 hM hbel0
  go_enter Try.func51, Try.ntmps51
  go_wp2_with fail
  go_region_held3 (fun W => Below (w.heap.size + 1) (w.alloc (.cells (bsV ks).toArray 36)) W ∧ W.rangeAt w.heap.size 0 (bsV ks)) (first | assumption | exact held_alloc (by assumption) (Nat.lt_succ_self _) (by simp) _) (first
    | (refine step_append_b _ (.tmp 8) (.tmp 9) 32 (.slice (some ⟨w.heap.size + 1, 0, none⟩) 0 (n + 8)) A n c rfl rfl rfl rfl (w.heap.size + 1) 5 i0 (.int .u8 0) 1 Try.underlying32 hi hz0 hz1 hz2 rfl 0 [] (unhide HO5) w.heap.size (bsV bs) (unhide HR5) (bsV_one _) (by unfold maxLen; omega) (by omega) (by simp) ?_
       intro v1 w5 hown5 hb5
       have hS5 : Below (w.heap.size + 1) (w.alloc (.cells (bsV ks).toArray 36)) w5 ∧ w5.rangeAt w.heap.size 0 (bsV ks) := held_below (by assumption) hb5 (Nat.le_refl _) (Nat.lt_succ_self _)
       have HO6 := hide hown5
       have HR6 := hide (((unhide HR0).keep (fun p hp => hS5.1.cell (by omega))).more (show w.heap.size ≤ w5.heap.size by have := hS5.1.size; simp at this; omega))
       clear hown5 hb5)
    | (go_simp; go_at_call 48; refine (sum_any ks bs (unhide HK) A n c w5 (unhide HR6) hn hc).mono ?_
       rintro e w6 ⟨rfl, hb6⟩
       have hS6 : Below (w.heap.size + 1) (w.alloc (.cells (bsV ks).toArray 36)) w6 ∧ w6.rangeAt w.heap.size 0 (bsV ks) := held_below (by assumption) hb6 (by have := hS5.1.size; simp at this; omega) (Nat.lt_succ_self _)
       have HO7 := hide (own_below (unhide HO6) hb6)
       clear hb6)
    | (go_simp; go_at_call 47; refine (bytes_any (sumF ks bs) (sumF_nonneg ks bs) w6).mono ?_
       rintro e w7 ⟨v2, rfl, hown7, hb7⟩
       have hS7 : Below (w.heap.size + 1) (w.alloc (.cells (bsV ks).toArray 36)) w7 ∧ w7.rangeAt w.heap.size 0 (bsV ks) := held_below (by assumption) hb7 (by have := hS6.1.size; simp at this; omega) (Nat.lt_succ_self _)
       have HO8 := hide (own_below (unhide HO7) hb7)
       obtain ⟨A2, c2, rfl, hc2, hm2⟩ := slice_of_own hown7
       have HR8 := hide (Reads.of_own hown7)
       clear hb7 hown7)
    | (refine step_append_b _ (.tmp 10) (.tmp 14) 32 v1 A2 8 c2 rfl rfl rfl rfl (w.heap.size + 1) 5 i0 (.int .u8 0) 1 Try.underlying32 hi hz0 hz1 hz2 rfl (0 + n) ([] ++ bsV bs) (unhide HO8) w7.heap.size (bsV (leB (sumF ks bs) 8)) (unhide HR8) (bsV_one _) (by unfold maxLen; omega) (by omega) (by have := hS7.1.size; simp at this; omega) ?_
       intro v3 w8 hown9 hb9
       have hS8 : Below (w.heap.size + 1) (w.alloc (.cells (bsV ks).toArray 36)) w8 ∧ w8.rangeAt w.heap.size 0 (bsV ks) := held_below (by assumption) hb9 (Nat.le_refl _) (Nat.lt_succ_self _)
       have HO9 := hide hown9
       clear hb9 hown9))
  have HE := hide hS8
  clear hS8 hS7 hS6 hS5
  go_wp2_with fail
  go_ret
  refine ⟨v3, rfl, ?_, (unhide HBEL0).trans ((unhide HE).1.mono (by omega))⟩
  have := unhide HO9
  rw [Nat.zero_add, List.nil_append] at this
  exact own_more this (by omega)
end Go.Proofs.Ytfbkkmnkpjgciaa
