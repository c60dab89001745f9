/- The links of host.Step: off, on, boot, stop. No condition. -/
import Derived.Test.YtalhemdlkhkhfaaHVal
import Derived.Test.YtalhemdlkhkhfaaHEnd
import Derived.Test.YtalhemdlkhkhfaaRow
namespace Go.Proofs.Ytalhemdlkhkhfaa
open Go.RowKit
/-- A host in a tick. -/
structure CH where
  x : HH
  on : Bool
  rs : Bool
  sf : Bool
  st : Bool
def CH.cells (c : CH) : Array Value := #[.bool c.x.p, .bool c.x.r, .bool c.x.h, .bool c.x.s, .bool c.x.l, .int .i64 c.x.b, .bool c.on, .bool c.rs, .bool c.sf, .bool c.st]
def offF (c : CH) : CH := if c.on then c else { c with x := { c.x with p := false, r := false, h := false, b := 0 }, st := true }
def beginF (x : HH) : HH := { x with p := true, r := false, h := false, b := 20 }
def onF (c : CH) : CH := if !c.st && (!c.x.p || c.rs) then { c with x := beginF c.x, st := true } else c
def bootF (c : CH) : CH := if !c.st && decide (0 < c.x.b) then { c with x := { c.x with b := c.x.b - 1, r := decide (c.x.b = 1) }, st := true } else c
def stopF (c : CH) : CH := if !c.st && (c.sf && (c.x.r && (!c.x.h && !c.x.s))) then { c with x := { c.x with r := false } } else c
theorem off_any (w : World) (c : CH) :
    Calls Try.prog 13 #[.agg c.cells] w fun e w' => e = .returned (.agg (offF c).cells) ∧ Below w.heap.size w w' := by
  obtain ⟨⟨p, r, h, s, l, b⟩, on, rs, sf, st⟩ := c
  show Calls Try.prog 13 #[.agg #[.bool p, .bool r, .bool h, .bool s, .bool l, .int .i64 b, .bool on, .bool rs, .bool sf, .bool st]] w _
  cases on <;>
  (go_enter Try.func13, Try.ntmps13
   go_wp2_with fail
   refine bodyPost_ret (v := .agg (offF _).cells) (res1 rfl _ (w.heap.size + 1) 43 _ _ rfl (Blk.new' (by simp)) Try.underlying43 rfl (by kernel_rfl)) rfl ⟨rfl, below2 _ _ _⟩)
def begC (c : CH) : CH := { c with x := beginF c.x, st := true }
theorem begin_any (w : World) (c : CH) :
    Calls Try.prog 18 #[.agg c.cells] w fun e w' => e = .returned (.agg (begC c).cells) ∧ Below w.heap.size w w' := by
  obtain ⟨⟨p, r, h, s, l, b⟩, on, rs, sf, st⟩ := c
  show Calls Try.prog 18 #[.agg #[.bool p, .bool r, .bool h, .bool s, .bool l, .int .i64 b, .bool on, .bool rs, .bool sf, .bool st]] w _
  go_enter Try.func18, Try.ntmps18
  go_wp2_with fail
  refine bodyPost_ret (v := .agg (begC _).cells) (res1 rfl _ (w.heap.size + 1) 43 _ _ rfl (Blk.new' (by simp)) Try.underlying43 rfl (by kernel_rfl)) rfl ⟨rfl, below2 _ _ _⟩
theorem boot_any (w : World) (c : CH) (hb : 0 ≤ c.x.b) (hb2 : c.x.b ≤ 20) :
    Calls Try.prog 15 #[.agg c.cells] w fun e w' => e = .returned (.agg (bootF c).cells) ∧ Below w.heap.size w w' := by
  obtain ⟨⟨p, r, h, s, l, b⟩, on, rs, sf, st⟩ := c
  show Calls Try.prog 15 #[.agg #[.bool p, .bool r, .bool h, .bool s, .bool l, .int .i64 b, .bool on, .bool rs, .bool sf, .bool st]] w _
  dsimp only at hb hb2
  cases st
  · by_cases h0 : 0 < b
    · have h1 : decide (0 < b) = true := by simpa using h0
      have h2 : IntKind.i64.wrap (b - 1) = b - 1 := IntWalk.i64_in _ (by omega)
      by_cases h3 : b = 1
      · subst h3
        go_enter Try.func15, Try.ntmps15
        go_wp2_with fail
        refine bodyPost_ret (v := .agg (bootF _).cells) (res1 rfl _ (w.heap.size + 1) 43 _ _ rfl (Blk.new' (by simp)) Try.underlying43 rfl (by kernel_rfl)) rfl ⟨rfl, below2 _ _ _⟩
      · have h4 : (b - 1 == 0) = false := by simp; omega
        have e : (bootF ⟨⟨p, r, h, s, l, b⟩, on, rs, sf, false⟩) = ⟨⟨p, false, h, s, l, b - 1⟩, on, rs, sf, true⟩ := by simp [bootF, h0, h3]
        rw [e]
        go_enter Try.func15, Try.ntmps15
        go_wp2_with fail
        refine bodyPost_ret (v := .agg (CH.cells _)) (res1 rfl _ (w.heap.size + 1) 43 _ _ rfl (Blk.new' (by simp)) Try.underlying43 rfl (by kernel_rfl)) rfl ⟨rfl, below2 _ _ _⟩
    · have h1 : decide (0 < b) = false := by simpa using h0
      have e : (bootF ⟨⟨p, r, h, s, l, b⟩, on, rs, sf, false⟩) = ⟨⟨p, r, h, s, l, b⟩, on, rs, sf, false⟩ := by simp [bootF, h0]
      rw [e]
      go_enter Try.func15, Try.ntmps15
      go_wp2_with fail
      refine bodyPost_ret (v := .agg (CH.cells _)) (res1 rfl _ (w.heap.size + 1) 43 _ _ rfl (Blk.new' (by simp)) Try.underlying43 rfl (by kernel_rfl)) rfl ⟨rfl, below2 _ _ _⟩
  ·
    go_enter Try.func15, Try.ntmps15
    go_wp2_with fail
    refine bodyPost_ret (v := .agg (bootF _).cells) (res1 rfl _ (w.heap.size + 1) 43 _ _ rfl (Blk.new' (by simp)) Try.underlying43 rfl (by kernel_rfl)) rfl ⟨rfl, below2 _ _ _⟩
theorem stop_any (w : World) (c : CH) :
    Calls Try.prog 16 #[.agg c.cells] w fun e w' => e = .returned (.agg (stopF c).cells) ∧ Below w.heap.size w w' := by
  obtain ⟨⟨p, r, h, s, l, b⟩, on, rs, sf, st⟩ := c
  show Calls Try.prog 16 #[.agg #[.bool p, .bool r, .bool h, .bool s, .bool l, .int .i64 b, .bool on, .bool rs, .bool sf, .bool st]] w _
  cases st
  · cases sf
    ·
      go_enter Try.func16, Try.ntmps16
      go_wp2_with fail
      refine bodyPost_ret (v := .agg (stopF _).cells) (res1 rfl _ (w.heap.size + 1) 43 _ _ rfl (Blk.new' (by simp)) Try.underlying43 rfl (by kernel_rfl)) rfl ⟨rfl, below2 _ _ _⟩
    · cases r
      ·
        go_enter Try.func16, Try.ntmps16
        go_wp2_with fail
        refine bodyPost_ret (v := .agg (stopF _).cells) (res1 rfl _ (w.heap.size + 1) 43 _ _ rfl (Blk.new' (by simp)) Try.underlying43 rfl (by kernel_rfl)) rfl ⟨rfl, below2 _ _ _⟩
      · cases h
        · cases s
          ·
            go_enter Try.func16, Try.ntmps16
            go_wp2_with fail
            refine bodyPost_ret (v := .agg (stopF _).cells) (res1 rfl _ (w.heap.size + 1) 43 _ _ rfl (Blk.new' (by simp)) Try.underlying43 rfl (by kernel_rfl)) rfl ⟨rfl, below2 _ _ _⟩
          ·
            go_enter Try.func16, Try.ntmps16
            go_wp2_with fail
            refine bodyPost_ret (v := .agg (stopF _).cells) (res1 rfl _ (w.heap.size + 1) 43 _ _ rfl (Blk.new' (by simp)) Try.underlying43 rfl (by kernel_rfl)) rfl ⟨rfl, below2 _ _ _⟩
        ·
          go_enter Try.func16, Try.ntmps16
          go_wp2_with fail
          refine bodyPost_ret (v := .agg (stopF _).cells) (res1 rfl _ (w.heap.size + 1) 43 _ _ rfl (Blk.new' (by simp)) Try.underlying43 rfl (by kernel_rfl)) rfl ⟨rfl, below2 _ _ _⟩
  ·
    go_enter Try.func16, Try.ntmps16
    go_wp2_with fail
    refine bodyPost_ret (v := .agg (stopF _).cells) (res1 rfl _ (w.heap.size + 1) 43 _ _ rfl (Blk.new' (by simp)) Try.underlying43 rfl (by kernel_rfl)) rfl ⟨rfl, below2 _ _ _⟩
theorem on_any (w : World) (c : CH) :
    Calls Try.prog 14 #[.agg c.cells] w fun e w' => e = .returned (.agg (onF c).cells) ∧ Below w.heap.size w w' := by
  obtain ⟨⟨p, r, h, s, l, b⟩, on, rs, sf, st⟩ := c
  show Calls Try.prog 14 #[.agg #[.bool p, .bool r, .bool h, .bool s, .bool l, .int .i64 b, .bool on, .bool rs, .bool sf, .bool st]] w _
  cases st
  · cases p
    ·
      go_enter Try.func14, Try.ntmps14
      go_wp2_with fail
      refine (begin_any _ ⟨⟨false, r, h, s, l, b⟩, on, rs, sf, false⟩).mono ?_
      rintro e w3 ⟨rfl, hb3⟩
      have hz := hide ((Blk.new' (w := (w.alloc (.cells (CH.cells ⟨⟨false, r, h, s, l, b⟩, on, rs, sf, false⟩) 43))) (g := w.heap.size + 1) (t := 43) (cs := #[.bool false, .bool false, .bool false, .bool false, .bool false, .int .i64 0, .bool false, .bool false, .bool false, .bool false]) (by simp)).below hb3 (by simp))
      have hb4 := hide ((below2 w (.cells (CH.cells ⟨⟨false, r, h, s, l, b⟩, on, rs, sf, false⟩) 43) (.cells #[.bool false, .bool false, .bool false, .bool false, .bool false, .int .i64 0, .bool false, .bool false, .bool false, .bool false] 43)).trans (hb3.mono (by rw [size_alloc, size_alloc]; omega)))
      have hs3 : w.heap.size + 2 ≤ w3.heap.size := by have := hb3.size; simpa using this
      clear hb3
      go_wp2_with (first
        | (refine wpList_store_blk rfl 43 (.tmp 2) (.tmp 18) rfl (w.heap.size + 1) 43 _ (CH.cells (begC ⟨⟨false, r, h, s, l, b⟩, on, rs, sf, false⟩)) rfl rfl (unhide hz) rfl (by kernel_rfl) (by intro v hv; simp [CH.cells] at hv; rcases hv with rfl | rfl | rfl | rfl | rfl | rfl | rfl | rfl | rfl | rfl <;> rfl) ?_
           intro w5 hb5 hg5
           have HB5 := hide hb5
           have HG5 := hide ((unhide hb4).grown hg5 (by omega) (fun g e => by injection e; omega))
           clear hb5 hg5)
        | fail)
      refine bodyPost_ret (v := .agg (CH.cells _)) (res1 rfl _ (w.heap.size + 1) 43 _ _ rfl (unhide HB5) Try.underlying43 rfl (by kernel_rfl)) rfl ⟨rfl, unhide HG5⟩
    · cases rs
      ·
        go_enter Try.func14, Try.ntmps14
        go_wp2_with fail
        refine bodyPost_ret (v := .agg (onF _).cells) (res1 rfl _ (w.heap.size + 1) 43 _ _ rfl (Blk.new' (by simp)) Try.underlying43 rfl (by kernel_rfl)) rfl ⟨rfl, below2 _ _ _⟩
      ·
        go_enter Try.func14, Try.ntmps14
        go_wp2_with fail
        refine (begin_any _ ⟨⟨true, r, h, s, l, b⟩, on, true, sf, false⟩).mono ?_
        rintro e w3 ⟨rfl, hb3⟩
        have hz := hide ((Blk.new' (w := (w.alloc (.cells (CH.cells ⟨⟨true, r, h, s, l, b⟩, on, true, sf, false⟩) 43))) (g := w.heap.size + 1) (t := 43) (cs := #[.bool false, .bool false, .bool false, .bool false, .bool false, .int .i64 0, .bool false, .bool false, .bool false, .bool false]) (by simp)).below hb3 (by simp))
        have hb4 := hide ((below2 w (.cells (CH.cells ⟨⟨true, r, h, s, l, b⟩, on, true, sf, false⟩) 43) (.cells #[.bool false, .bool false, .bool false, .bool false, .bool false, .int .i64 0, .bool false, .bool false, .bool false, .bool false] 43)).trans (hb3.mono (by rw [size_alloc, size_alloc]; omega)))
        have hs3 : w.heap.size + 2 ≤ w3.heap.size := by have := hb3.size; simpa using this
        clear hb3
        go_wp2_with (first
          | (refine wpList_store_blk rfl 43 (.tmp 2) (.tmp 18) rfl (w.heap.size + 1) 43 _ (CH.cells (begC ⟨⟨true, r, h, s, l, b⟩, on, true, sf, false⟩)) rfl rfl (unhide hz) rfl (by kernel_rfl) (by intro v hv; simp [CH.cells] at hv; rcases hv with rfl | rfl | rfl | rfl | rfl | rfl | rfl | rfl | rfl | rfl <;> rfl) ?_
             intro w5 hb5 hg5
             have HB5 := hide hb5
             have HG5 := hide ((unhide hb4).grown hg5 (by omega) (fun g e => by injection e; omega))
             clear hb5 hg5)
          | fail)
        refine bodyPost_ret (v := .agg (CH.cells _)) (res1 rfl _ (w.heap.size + 1) 43 _ _ rfl (unhide HB5) Try.underlying43 rfl (by kernel_rfl)) rfl ⟨rfl, unhide HG5⟩
  ·
    go_enter Try.func14, Try.ntmps14
    go_wp2_with fail
    refine bodyPost_ret (v := .agg (onF _).cells) (res1 rfl _ (w.heap.size + 1) 43 _ _ rfl (Blk.new' (by simp)) Try.underlying43 rfl (by kernel_rfl)) rfl ⟨rfl, below2 _ _ _⟩
end Go.Proofs.Ytalhemdlkhkhfaa
