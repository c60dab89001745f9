/- host.Act on a valid host. -/
import Derived.Test.YtalhemdlkhkhfaaHVal
import Derived.Test.YtalhemdlkhkhfaaHEnd
import Derived.Test.YtalhemdlkhkhfaaRow
namespace Go.Proofs.Ytalhemdlkhkhfaa
open Go.RowKit
def actH (x : HH) : Nat → HH
  | 1 => { x with h := x.r }
  | 2 => { x with h := false }
  | 3 => { x with s := true }
  | 4 => { x with s := false }
  | 5 => { x with l := true }
  | 6 => { x with l := false }
  | _ => x
theorem act_0 (w : World) (p r h s l : Bool) (b : Int) (hx : validH ⟨p, r, h, s, l, b⟩ = true) :
    Calls Try.prog 7 #[.agg #[.bool p, .bool r, .bool h, .bool s, .bool l, .int .i64 b], .int .i64 0] w fun e w' => e = .returned (.tuple #[.agg #[.bool p, .bool r, .bool h, .bool s, .bool l, .int .i64 b], .int .i64 0]) ∧ Below w.heap.size w w' := by
  have HX := Lib.hid hx
  have HV := hide (valid_any · ⟨p, r, h, s, l, b⟩)
  clear hx
  go_enter Try.func7, Try.ntmps7
  go_wp2_with fail
  refine (unhide HV _).mono ?_
  rintro e w1 ⟨rfl, hb1⟩
  have h2 : Blk w1 w.heap.size 23 #[.bool p, .bool r, .bool h, .bool s, .bool l, .int .i64 b] := ((Blk.new w _ _).alloc _).below hb1 (by simp only [size_alloc]; omega)
  have h4 : Blk w1 (w.heap.size + 1) 23 #[.bool false, .bool false, .bool false, .bool false, .bool false, .int .i64 0] := (Blk.new' (by simp)).below hb1 (by simp)
  have hb : Below w.heap.size w w1 := (((Below.refl w.heap.size w).alloc (Nat.le_refl _) _).alloc (by simp only [size_alloc]; omega) _).trans (hb1.mono (by rw [size_alloc, size_alloc]; omega))
  have H2 := hide h2
  have H4 := hide h4
  have HB := hide hb
  clear h2 h4 hb hb1 
  rw [HX.out]
  go_wp2_with (first
    | (refine wpList_load_row rfl 23 _ rfl w.heap.size rfl 23 _ _ _ (unhide H2) Try.underlying23 rfl (by kernel_rfl) ?_)
    | (refine wpList_store_blk rfl 23 (.tmp 4) (.tmp 34) rfl (w.heap.size + 1) 23 _ #[.bool p, .bool r, .bool h, .bool s, .bool l, .int .i64 b] rfl rfl (unhide H4) rfl (by kernel_rfl) (by intro v hv; simp at hv; rcases hv with rfl | rfl | rfl | rfl | rfl | rfl <;> rfl) ?_
       intro w2 hb2 hg2
       have K4 := hide hb2
       have KB := hide ((unhide HB).grown hg2 (unhide HB).size (fun g e => by injection e; omega))
       clear hb2 hg2)
    | fail)
  exact bodyPost_ret (v := .tuple #[.agg #[.bool p, .bool r, .bool h, .bool s, .bool l, .int .i64 b], .int .i64 0]) (res2 rfl _ (w.heap.size + 1) 23 #[.bool p, .bool r, .bool h, .bool s, .bool l, .int .i64 b] _ _ rfl rfl (unhide K4) Try.underlying23 rfl (by kernel_rfl)) rfl ⟨rfl, unhide KB⟩
theorem act_1 (w : World) (p r h s l : Bool) (b : Int) (hx : validH ⟨p, r, h, s, l, b⟩ = true) :
    Calls Try.prog 7 #[.agg #[.bool p, .bool r, .bool h, .bool s, .bool l, .int .i64 b], .int .i64 1] w fun e w' => e = .returned (.tuple #[.agg #[.bool p, .bool r, .bool r, .bool s, .bool l, .int .i64 b], .int .i64 0]) ∧ Below w.heap.size w w' := by
  have HX := Lib.hid hx
  have HV := hide (valid_any · ⟨p, r, h, s, l, b⟩)
  clear hx
  go_enter Try.func7, Try.ntmps7
  go_wp2_with fail
  refine (unhide HV _).mono ?_
  rintro e w1 ⟨rfl, hb1⟩
  have h2 : Blk w1 w.heap.size 23 #[.bool p, .bool r, .bool h, .bool s, .bool l, .int .i64 b] := ((Blk.new w _ _).alloc _).below hb1 (by simp only [size_alloc]; omega)
  have h4 : Blk w1 (w.heap.size + 1) 23 #[.bool false, .bool false, .bool false, .bool false, .bool false, .int .i64 0] := (Blk.new' (by simp)).below hb1 (by simp)
  have hb : Below w.heap.size w w1 := (((Below.refl w.heap.size w).alloc (Nat.le_refl _) _).alloc (by simp only [size_alloc]; omega) _).trans (hb1.mono (by rw [size_alloc, size_alloc]; omega))
  have hf := h2.frozen 2
  have hc : w1.cell? ⟨w.heap.size, 2, none⟩ = some (.bool h) := h2.cell 2
  have hc1 : w1.cell? ⟨w.heap.size, 1, none⟩ = some (.bool r) := h2.cell 1
  have h2' := h2.set_ 2 (.bool r)
  have h4' := h4.far (p := ⟨w.heap.size, 2, none⟩) (show w.heap.size + 1 ≠ w.heap.size by omega) (.bool r)
  have hb' := hb.setCell (p := ⟨w.heap.size, 2, none⟩) (show w.heap.size ≤ w.heap.size from Nat.le_refl _) (.bool r)
  have H2 := hide h2'
  have H4 := hide h4'
  have HB := hide hb'
  clear h2 h4 hb hb1 h2' h4' hb'
  rw [HX.out]
  go_wp2_with (first
    | (refine wpList_load_row rfl 23 _ rfl w.heap.size rfl 23 _ _ _ (unhide H2) Try.underlying23 rfl (by kernel_rfl) ?_)
    | (refine wpList_store_blk rfl 23 (.tmp 4) (.tmp 34) rfl (w.heap.size + 1) 23 _ #[.bool p, .bool r, .bool r, .bool s, .bool l, .int .i64 b] rfl rfl (unhide H4) rfl (by kernel_rfl) (by intro v hv; simp at hv; rcases hv with rfl | rfl | rfl | rfl | rfl | rfl <;> rfl) ?_
       intro w2 hb2 hg2
       have K4 := hide hb2
       have KB := hide ((unhide HB).grown hg2 (unhide HB).size (fun g e => by injection e; omega))
       clear hb2 hg2)
    | fail)
  exact bodyPost_ret (v := .tuple #[.agg #[.bool p, .bool r, .bool r, .bool s, .bool l, .int .i64 b], .int .i64 0]) (res2 rfl _ (w.heap.size + 1) 23 #[.bool p, .bool r, .bool r, .bool s, .bool l, .int .i64 b] _ _ rfl rfl (unhide K4) Try.underlying23 rfl (by kernel_rfl)) rfl ⟨rfl, unhide KB⟩
theorem act_2 (w : World) (p r h s l : Bool) (b : Int) (hx : validH ⟨p, r, h, s, l, b⟩ = true) :
    Calls Try.prog 7 #[.agg #[.bool p, .bool r, .bool h, .bool s, .bool l, .int .i64 b], .int .i64 2] w fun e w' => e = .returned (.tuple #[.agg #[.bool p, .bool r, .bool false, .bool s, .bool l, .int .i64 b], .int .i64 0]) ∧ Below w.heap.size w w' := by
  have HX := Lib.hid hx
  have HV := hide (valid_any · ⟨p, r, h, s, l, b⟩)
  clear hx
  go_enter Try.func7, Try.ntmps7
  go_wp2_with fail
  refine (unhide HV _).mono ?_
  rintro e w1 ⟨rfl, hb1⟩
  have h2 : Blk w1 w.heap.size 23 #[.bool p, .bool r, .bool h, .bool s, .bool l, .int .i64 b] := ((Blk.new w _ _).alloc _).below hb1 (by simp only [size_alloc]; omega)
  have h4 : Blk w1 (w.heap.size + 1) 23 #[.bool false, .bool false, .bool false, .bool false, .bool false, .int .i64 0] := (Blk.new' (by simp)).below hb1 (by simp)
  have hb : Below w.heap.size w w1 := (((Below.refl w.heap.size w).alloc (Nat.le_refl _) _).alloc (by simp only [size_alloc]; omega) _).trans (hb1.mono (by rw [size_alloc, size_alloc]; omega))
  have hf := h2.frozen 2
  have hc : w1.cell? ⟨w.heap.size, 2, none⟩ = some (.bool h) := h2.cell 2
  have hc1 : w1.cell? ⟨w.heap.size, 1, none⟩ = some (.bool r) := h2.cell 1
  have h2' := h2.set_ 2 (.bool false)
  have h4' := h4.far (p := ⟨w.heap.size, 2, none⟩) (show w.heap.size + 1 ≠ w.heap.size by omega) (.bool false)
  have hb' := hb.setCell (p := ⟨w.heap.size, 2, none⟩) (show w.heap.size ≤ w.heap.size from Nat.le_refl _) (.bool false)
  have H2 := hide h2'
  have H4 := hide h4'
  have HB := hide hb'
  clear h2 h4 hb hb1 h2' h4' hb'
  rw [HX.out]
  go_wp2_with (first
    | (refine wpList_load_row rfl 23 _ rfl w.heap.size rfl 23 _ _ _ (unhide H2) Try.underlying23 rfl (by kernel_rfl) ?_)
    | (refine wpList_store_blk rfl 23 (.tmp 4) (.tmp 34) rfl (w.heap.size + 1) 23 _ #[.bool p, .bool r, .bool false, .bool s, .bool l, .int .i64 b] rfl rfl (unhide H4) rfl (by kernel_rfl) (by intro v hv; simp at hv; rcases hv with rfl | rfl | rfl | rfl | rfl | rfl <;> rfl) ?_
       intro w2 hb2 hg2
       have K4 := hide hb2
       have KB := hide ((unhide HB).grown hg2 (unhide HB).size (fun g e => by injection e; omega))
       clear hb2 hg2)
    | fail)
  exact bodyPost_ret (v := .tuple #[.agg #[.bool p, .bool r, .bool false, .bool s, .bool l, .int .i64 b], .int .i64 0]) (res2 rfl _ (w.heap.size + 1) 23 #[.bool p, .bool r, .bool false, .bool s, .bool l, .int .i64 b] _ _ rfl rfl (unhide K4) Try.underlying23 rfl (by kernel_rfl)) rfl ⟨rfl, unhide KB⟩
theorem act_3 (w : World) (p r h s l : Bool) (b : Int) (hx : validH ⟨p, r, h, s, l, b⟩ = true) :
    Calls Try.prog 7 #[.agg #[.bool p, .bool r, .bool h, .bool s, .bool l, .int .i64 b], .int .i64 3] w fun e w' => e = .returned (.tuple #[.agg #[.bool p, .bool r, .bool h, .bool true, .bool l, .int .i64 b], .int .i64 0]) ∧ Below w.heap.size w w' := by
  have HX := Lib.hid hx
  have HV := hide (valid_any · ⟨p, r, h, s, l, b⟩)
  clear hx
  go_enter Try.func7, Try.ntmps7
  go_wp2_with fail
  refine (unhide HV _).mono ?_
  rintro e w1 ⟨rfl, hb1⟩
  have h2 : Blk w1 w.heap.size 23 #[.bool p, .bool r, .bool h, .bool s, .bool l, .int .i64 b] := ((Blk.new w _ _).alloc _).below hb1 (by simp only [size_alloc]; omega)
  have h4 : Blk w1 (w.heap.size + 1) 23 #[.bool false, .bool false, .bool false, .bool false, .bool false, .int .i64 0] := (Blk.new' (by simp)).below hb1 (by simp)
  have hb : Below w.heap.size w w1 := (((Below.refl w.heap.size w).alloc (Nat.le_refl _) _).alloc (by simp only [size_alloc]; omega) _).trans (hb1.mono (by rw [size_alloc, size_alloc]; omega))
  have hf := h2.frozen 3
  have hc : w1.cell? ⟨w.heap.size, 3, none⟩ = some (.bool s) := h2.cell 3
  have hc1 : w1.cell? ⟨w.heap.size, 1, none⟩ = some (.bool r) := h2.cell 1
  have h2' := h2.set_ 3 (.bool true)
  have h4' := h4.far (p := ⟨w.heap.size, 3, none⟩) (show w.heap.size + 1 ≠ w.heap.size by omega) (.bool true)
  have hb' := hb.setCell (p := ⟨w.heap.size, 3, none⟩) (show w.heap.size ≤ w.heap.size from Nat.le_refl _) (.bool true)
  have H2 := hide h2'
  have H4 := hide h4'
  have HB := hide hb'
  clear h2 h4 hb hb1 h2' h4' hb'
  rw [HX.out]
  go_wp2_with (first
    | (refine wpList_load_row rfl 23 _ rfl w.heap.size rfl 23 _ _ _ (unhide H2) Try.underlying23 rfl (by kernel_rfl) ?_)
    | (refine wpList_store_blk rfl 23 (.tmp 4) (.tmp 34) rfl (w.heap.size + 1) 23 _ #[.bool p, .bool r, .bool h, .bool true, .bool l, .int .i64 b] rfl rfl (unhide H4) rfl (by kernel_rfl) (by intro v hv; simp at hv; rcases hv with rfl | rfl | rfl | rfl | rfl | rfl <;> rfl) ?_
       intro w2 hb2 hg2
       have K4 := hide hb2
       have KB := hide ((unhide HB).grown hg2 (unhide HB).size (fun g e => by injection e; omega))
       clear hb2 hg2)
    | fail)
  exact bodyPost_ret (v := .tuple #[.agg #[.bool p, .bool r, .bool h, .bool true, .bool l, .int .i64 b], .int .i64 0]) (res2 rfl _ (w.heap.size + 1) 23 #[.bool p, .bool r, .bool h, .bool true, .bool l, .int .i64 b] _ _ rfl rfl (unhide K4) Try.underlying23 rfl (by kernel_rfl)) rfl ⟨rfl, unhide KB⟩
theorem act_4 (w : World) (p r h s l : Bool) (b : Int) (hx : validH ⟨p, r, h, s, l, b⟩ = true) :
    Calls Try.prog 7 #[.agg #[.bool p, .bool r, .bool h, .bool s, .bool l, .int .i64 b], .int .i64 4] w fun e w' => e = .returned (.tuple #[.agg #[.bool p, .bool r, .bool h, .bool false, .bool l, .int .i64 b], .int .i64 0]) ∧ Below w.heap.size w w' := by
  have HX := Lib.hid hx
  have HV := hide (valid_any · ⟨p, r, h, s, l, b⟩)
  clear hx
  go_enter Try.func7, Try.ntmps7
  go_wp2_with fail
  refine (unhide HV _).mono ?_
  rintro e w1 ⟨rfl, hb1⟩
  have h2 : Blk w1 w.heap.size 23 #[.bool p, .bool r, .bool h, .bool s, .bool l, .int .i64 b] := ((Blk.new w _ _).alloc _).below hb1 (by simp only [size_alloc]; omega)
  have h4 : Blk w1 (w.heap.size + 1) 23 #[.bool false, .bool false, .bool false, .bool false, .bool false, .int .i64 0] := (Blk.new' (by simp)).below hb1 (by simp)
  have hb : Below w.heap.size w w1 := (((Below.refl w.heap.size w).alloc (Nat.le_refl _) _).alloc (by simp only [size_alloc]; omega) _).trans (hb1.mono (by rw [size_alloc, size_alloc]; omega))
  have hf := h2.frozen 3
  have hc : w1.cell? ⟨w.heap.size, 3, none⟩ = some (.bool s) := h2.cell 3
  have hc1 : w1.cell? ⟨w.heap.size, 1, none⟩ = some (.bool r) := h2.cell 1
  have h2' := h2.set_ 3 (.bool false)
  have h4' := h4.far (p := ⟨w.heap.size, 3, none⟩) (show w.heap.size + 1 ≠ w.heap.size by omega) (.bool false)
  have hb' := hb.setCell (p := ⟨w.heap.size, 3, none⟩) (show w.heap.size ≤ w.heap.size from Nat.le_refl _) (.bool false)
  have H2 := hide h2'
  have H4 := hide h4'
  have HB := hide hb'
  clear h2 h4 hb hb1 h2' h4' hb'
  rw [HX.out]
  go_wp2_with (first
    | (refine wpList_load_row rfl 23 _ rfl w.heap.size rfl 23 _ _ _ (unhide H2) Try.underlying23 rfl (by kernel_rfl) ?_)
    | (refine wpList_store_blk rfl 23 (.tmp 4) (.tmp 34) rfl (w.heap.size + 1) 23 _ #[.bool p, .bool r, .bool h, .bool false, .bool l, .int .i64 b] rfl rfl (unhide H4) rfl (by kernel_rfl) (by intro v hv; simp at hv; rcases hv with rfl | rfl | rfl | rfl | rfl | rfl <;> rfl) ?_
       intro w2 hb2 hg2
       have K4 := hide hb2
       have KB := hide ((unhide HB).grown hg2 (unhide HB).size (fun g e => by injection e; omega))
       clear hb2 hg2)
    | fail)
  exact bodyPost_ret (v := .tuple #[.agg #[.bool p, .bool r, .bool h, .bool false, .bool l, .int .i64 b], .int .i64 0]) (res2 rfl _ (w.heap.size + 1) 23 #[.bool p, .bool r, .bool h, .bool false, .bool l, .int .i64 b] _ _ rfl rfl (unhide K4) Try.underlying23 rfl (by kernel_rfl)) rfl ⟨rfl, unhide KB⟩
theorem act_5 (w : World) (p r h s l : Bool) (b : Int) (hx : validH ⟨p, r, h, s, l, b⟩ = true) :
    Calls Try.prog 7 #[.agg #[.bool p, .bool r, .bool h, .bool s, .bool l, .int .i64 b], .int .i64 5] w fun e w' => e = .returned (.tuple #[.agg #[.bool p, .bool r, .bool h, .bool s, .bool true, .int .i64 b], .int .i64 0]) ∧ Below w.heap.size w w' := by
  have HX := Lib.hid hx
  have HV := hide (valid_any · ⟨p, r, h, s, l, b⟩)
  clear hx
  go_enter Try.func7, Try.ntmps7
  go_wp2_with fail
  refine (unhide HV _).mono ?_
  rintro e w1 ⟨rfl, hb1⟩
  have h2 : Blk w1 w.heap.size 23 #[.bool p, .bool r, .bool h, .bool s, .bool l, .int .i64 b] := ((Blk.new w _ _).alloc _).below hb1 (by simp only [size_alloc]; omega)
  have h4 : Blk w1 (w.heap.size + 1) 23 #[.bool false, .bool false, .bool false, .bool false, .bool false, .int .i64 0] := (Blk.new' (by simp)).below hb1 (by simp)
  have hb : Below w.heap.size w w1 := (((Below.refl w.heap.size w).alloc (Nat.le_refl _) _).alloc (by simp only [size_alloc]; omega) _).trans (hb1.mono (by rw [size_alloc, size_alloc]; omega))
  have hf := h2.frozen 4
  have hc : w1.cell? ⟨w.heap.size, 4, none⟩ = some (.bool l) := h2.cell 4
  have hc1 : w1.cell? ⟨w.heap.size, 1, none⟩ = some (.bool r) := h2.cell 1
  have h2' := h2.set_ 4 (.bool true)
  have h4' := h4.far (p := ⟨w.heap.size, 4, none⟩) (show w.heap.size + 1 ≠ w.heap.size by omega) (.bool true)
  have hb' := hb.setCell (p := ⟨w.heap.size, 4, none⟩) (show w.heap.size ≤ w.heap.size from Nat.le_refl _) (.bool true)
  have H2 := hide h2'
  have H4 := hide h4'
  have HB := hide hb'
  clear h2 h4 hb hb1 h2' h4' hb'
  rw [HX.out]
  go_wp2_with (first
    | (refine wpList_load_row rfl 23 _ rfl w.heap.size rfl 23 _ _ _ (unhide H2) Try.underlying23 rfl (by kernel_rfl) ?_)
    | (refine wpList_store_blk rfl 23 (.tmp 4) (.tmp 34) rfl (w.heap.size + 1) 23 _ #[.bool p, .bool r, .bool h, .bool s, .bool true, .int .i64 b] rfl rfl (unhide H4) rfl (by kernel_rfl) (by intro v hv; simp at hv; rcases hv with rfl | rfl | rfl | rfl | rfl | rfl <;> rfl) ?_
       intro w2 hb2 hg2
       have K4 := hide hb2
       have KB := hide ((unhide HB).grown hg2 (unhide HB).size (fun g e => by injection e; omega))
       clear hb2 hg2)
    | fail)
  exact bodyPost_ret (v := .tuple #[.agg #[.bool p, .bool r, .bool h, .bool s, .bool true, .int .i64 b], .int .i64 0]) (res2 rfl _ (w.heap.size + 1) 23 #[.bool p, .bool r, .bool h, .bool s, .bool true, .int .i64 b] _ _ rfl rfl (unhide K4) Try.underlying23 rfl (by kernel_rfl)) rfl ⟨rfl, unhide KB⟩
theorem act_6 (w : World) (p r h s l : Bool) (b : Int) (hx : validH ⟨p, r, h, s, l, b⟩ = true) :
    Calls Try.prog 7 #[.agg #[.bool p, .bool r, .bool h, .bool s, .bool l, .int .i64 b], .int .i64 6] w fun e w' => e = .returned (.tuple #[.agg #[.bool p, .bool r, .bool h, .bool s, .bool false, .int .i64 b], .int .i64 0]) ∧ Below w.heap.size w w' := by
  have HX := Lib.hid hx
  have HV := hide (valid_any · ⟨p, r, h, s, l, b⟩)
  clear hx
  go_enter Try.func7, Try.ntmps7
  go_wp2_with fail
  refine (unhide HV _).mono ?_
  rintro e w1 ⟨rfl, hb1⟩
  have h2 : Blk w1 w.heap.size 23 #[.bool p, .bool r, .bool h, .bool s, .bool l, .int .i64 b] := ((Blk.new w _ _).alloc _).below hb1 (by simp only [size_alloc]; omega)
  have h4 : Blk w1 (w.heap.size + 1) 23 #[.bool false, .bool false, .bool false, .bool false, .bool false, .int .i64 0] := (Blk.new' (by simp)).below hb1 (by simp)
  have hb : Below w.heap.size w w1 := (((Below.refl w.heap.size w).alloc (Nat.le_refl _) _).alloc (by simp only [size_alloc]; omega) _).trans (hb1.mono (by rw [size_alloc, size_alloc]; omega))
  have hf := h2.frozen 4
  have hc : w1.cell? ⟨w.heap.size, 4, none⟩ = some (.bool l) := h2.cell 4
  have hc1 : w1.cell? ⟨w.heap.size, 1, none⟩ = some (.bool r) := h2.cell 1
  have h2' := h2.set_ 4 (.bool false)
  have h4' := h4.far (p := ⟨w.heap.size, 4, none⟩) (show w.heap.size + 1 ≠ w.heap.size by omega) (.bool false)
  have hb' := hb.setCell (p := ⟨w.heap.size, 4, none⟩) (show w.heap.size ≤ w.heap.size from Nat.le_refl _) (.bool false)
  have H2 := hide h2'
  have H4 := hide h4'
  have HB := hide hb'
  clear h2 h4 hb hb1 h2' h4' hb'
  rw [HX.out]
  go_wp2_with (first
    | (refine wpList_load_row rfl 23 _ rfl w.heap.size rfl 23 _ _ _ (unhide H2) Try.underlying23 rfl (by kernel_rfl) ?_)
    | (refine wpList_store_blk rfl 23 (.tmp 4) (.tmp 34) rfl (w.heap.size + 1) 23 _ #[.bool p, .bool r, .bool h, .bool s, .bool false, .int .i64 b] rfl rfl (unhide H4) rfl (by kernel_rfl) (by intro v hv; simp at hv; rcases hv with rfl | rfl | rfl | rfl | rfl | rfl <;> rfl) ?_
       intro w2 hb2 hg2
       have K4 := hide hb2
       have KB := hide ((unhide HB).grown hg2 (unhide HB).size (fun g e => by injection e; omega))
       clear hb2 hg2)
    | fail)
  exact bodyPost_ret (v := .tuple #[.agg #[.bool p, .bool r, .bool h, .bool s, .bool false, .int .i64 b], .int .i64 0]) (res2 rfl _ (w.heap.size + 1) 23 #[.bool p, .bool r, .bool h, .bool s, .bool false, .int .i64 b] _ _ rfl rfl (unhide K4) Try.underlying23 rfl (by kernel_rfl)) rfl ⟨rfl, unhide KB⟩
theorem act_ok (w : World) (x : HH) (hx : validH x = true) (k : Nat) (hk : k ≤ 6) :
    Calls Try.prog 7 #[x.v, .int .i64 (k : Int)] w fun e w' => e = .returned (.tuple #[(actH x k).v, .int .i64 0]) ∧ Below w.heap.size w w' := by
  obtain ⟨p, r, h, s, l, b⟩ := x
  have hk' : k = 0 ∨ k = 1 ∨ k = 2 ∨ k = 3 ∨ k = 4 ∨ k = 5 ∨ k = 6 := by omega
  rcases hk' with rfl | rfl | rfl | rfl | rfl | rfl | rfl
  · exact act_0 w p r h s l b hx
  · exact act_1 w p r h s l b hx
  · exact act_2 w p r h s l b hx
  · exact act_3 w p r h s l b hx
  · exact act_4 w p r h s l b hx
  · exact act_5 w p r h s l b hx
  · exact act_6 w p r h s l b hx
end Go.Proofs.Ytalhemdlkhkhfaa
