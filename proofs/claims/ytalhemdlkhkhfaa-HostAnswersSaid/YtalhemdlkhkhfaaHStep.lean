/- host.Step of a valid host: the links one after the other. -/
import Derived.Test.YtalhemdlkhkhfaaHLinks
import Derived.Test.YtalhemdlkhkhfaaHHeld
import Derived.Deep.RegionHeld3
import Derived.Deep.CutRange
namespace Go.Proofs.Ytalhemdlkhkhfaa
open Go.RowKit
def chain (c : CH) : Nat → CH
  | 0 => c
  | 1 => offF c
  | 2 => onF (offF c)
  | 3 => bootF (onF (offF c))
  | _ => stopF (bootF (onF (offF c)))
def stepH (x : HH) (on rs sf : Bool) : HH := (chain ⟨x, on, rs, sf, false⟩ 4).x
def goodR (y : HH) : Bool := y.p
def doneR (y : HH) (sf : Bool) : Bool := sf && ((!y.r && decide (y.b = 0)) || (y.p && y.l))
def kickR (y : HH) : Bool := (y.r && !y.h) || (y.p && y.l)
def repV (y : HH) (sf : Bool) : Value := .agg #[.bool (goodR y), .bool (doneR y sf), .bool (kickR y)]
theorem HH.bounds {x : HH} (h : validH x = true) : 0 ≤ x.b ∧ x.b ≤ 20 := by
  simp only [validH, Bool.and_eq_true, decide_eq_true_eq] at h
  exact ⟨h.1.1.1.1, h.1.1.1.2⟩
theorem off_bounds {c : CH} (h : 0 ≤ c.x.b ∧ c.x.b ≤ 20) : 0 ≤ (offF c).x.b ∧ (offF c).x.b ≤ 20 := by
  unfold offF
  split
  · exact h
  · exact ⟨Int.le_refl 0, by simp⟩
theorem on_bounds {c : CH} (h : 0 ≤ c.x.b ∧ c.x.b ≤ 20) : 0 ≤ (onF c).x.b ∧ (onF c).x.b ≤ 20 := by
  unfold onF
  split
  · exact ⟨by simp [beginF], by simp [beginF]⟩
  · exact h
/-- What lies in memory while the links are gone through. -/
structure EnvS (w w1 : World) (x : HH) (on rs sf : Bool) (j : Nat) (W : World) : Prop where
  x2 : Blk W w.heap.size 23 #[.bool x.p, .bool x.r, .bool x.h, .bool x.s, .bool x.l, .int .i64 x.b]
  s3 : Blk W (w.heap.size + 1) 33 #[.bool on, .bool rs, .bool sf]
  z4 : Blk W (w.heap.size + 2) 23 #[.bool false, .bool false, .bool false, .bool false, .bool false, .int .i64 0]
  z5 : Blk W (w.heap.size + 3) 35 #[.bool false, .bool false, .bool false]
  ch : Blk W w1.heap.size 43 (chain ⟨x, on, rs, sf, false⟩ j).cells
  sl : Blk W (w1.heap.size + 1) 44 #[.func (.func 13) #[] #[], .func (.func 14) #[] #[], .func (.func 15) #[] #[], .func (.func 16) #[] #[]]
  bel : Below w.heap.size w W
  sz : w.heap.size + 4 ≤ w1.heap.size
theorem EnvS.below {w w1 W W' : World} {x : HH} {on rs sf : Bool} {j : Nat} (h : EnvS w w1 x on rs sf j W) (hb : Below W.heap.size W W') : EnvS w w1 x on rs sf j W' :=
  ⟨h.x2.below hb h.x2.lt, h.s3.below hb h.s3.lt, h.z4.below hb h.z4.lt, h.z5.below hb h.z5.lt, h.ch.below hb h.ch.lt, h.sl.below hb h.sl.lt, h.bel.trans (hb.mono h.bel.size), h.sz⟩
theorem EnvS.store {w w1 W W' : World} {x : HH} {on rs sf : Bool} {j k : Nat} (h : EnvS w w1 x on rs sf j W) (hc : Blk W' w1.heap.size 43 (chain ⟨x, on, rs, sf, false⟩ k).cells) (hg : W.grownBy W' (some w1.heap.size)) : EnvS w w1 x on rs sf k W' := by
  have hz := h.sz
  exact ⟨h.x2.grown hg (fun e => by injection e; omega), h.s3.grown hg (fun e => by injection e; omega), h.z4.grown hg (fun e => by injection e; omega), h.z5.grown hg (fun e => by injection e; omega), hc, h.sl.grown hg (fun e => by injection e; omega), h.bel.grown hg h.bel.size (fun g e => by injection e; omega), hz⟩
theorem CH.one (c : CH) : ∀ v ∈ c.cells.toList, v.oneCell' = true := by
  intro v hv
  simp [CH.cells] at hv
  rcases hv with rfl | rfl | rfl | rfl | rfl | rfl | rfl | rfl | rfl | rfl <;> rfl
set_option maxRecDepth 100000 in
set_option maxHeartbeats 2000000 in
theorem step_ok (w : World) (x : HH) (hx : validH x = true) (on rs sf : Bool) :
    Calls Try.prog 9 #[x.v, .agg #[.bool on, .bool rs, .bool sf]] w fun e w' => e = .returned (.tuple #[(stepH x on rs sf).v, repV (stepH x on rs sf) sf, .int .i64 0]) ∧ Below w.heap.size w w' := by
  have HX := Lib.hid hx
  have hbd := HH.bounds hx
  obtain ⟨p, r, h, s, l, b⟩ := x
  have HV := hide (valid_any · ⟨p, r, h, s, l, b⟩)
  have HBD := hide hbd
  clear hx hbd
  show Calls Try.prog 9 #[.agg #[.bool p, .bool r, .bool h, .bool s, .bool l, .int .i64 b], .agg #[.bool on, .bool rs, .bool sf]] w _
  go_enter Try.func9, Try.ntmps9
  go_wp2_with fail
  refine (unhide HV _).mono ?_
  rintro e w1 ⟨rfl, hb1⟩
  have H2 : Hid (Blk w1 w.heap.size 23 #[.bool p, .bool r, .bool h, .bool s, .bool l, .int .i64 b]) := hide (((((Blk.new w _ _).alloc _).alloc _).alloc _).below hb1 (by simp only [size_alloc]; omega))
  have H3 : Hid (Blk w1 (w.heap.size + 1) 33 #[.bool on, .bool rs, .bool sf]) := hide ((((Blk.new' (by simp)).alloc _).alloc _).below hb1 (by simp only [size_alloc]; omega))
  have H4 : Hid (Blk w1 (w.heap.size + 2) 23 #[.bool false, .bool false, .bool false, .bool false, .bool false, .int .i64 0]) := hide (((Blk.new' (by simp)).alloc _).below hb1 (by simp))
  have H5 : Hid (Blk w1 (w.heap.size + 3) 35 #[.bool false, .bool false, .bool false]) := hide ((Blk.new' (by simp)).below hb1 (by simp))
  have HB1 : Hid (Below w.heap.size w w1) := hide ((((((Below.refl w.heap.size w).alloc (Nat.le_refl _) _).alloc (by simp only [size_alloc]; omega) _).alloc (by simp only [size_alloc]; omega) _).alloc (by simp only [size_alloc]; omega) _).trans (hb1.mono (by rw [size_alloc, size_alloc, size_alloc, size_alloc]; omega)))
  have hs1 : w.heap.size + 4 ≤ w1.heap.size := by have := hb1.size; simpa using this
  clear hb1
  rw [HX.out]
  go_wp2_with (first
    | (refine wpList_load_row rfl 23 _ rfl w.heap.size rfl 23 _ _ _ (unhide H2) Try.underlying23 rfl (by kernel_rfl) ?_)
    | (refine wpList_load_row rfl 33 _ rfl (w.heap.size + 1) rfl 33 _ _ _ (unhide H3) Try.underlying33 rfl (by kernel_rfl) ?_)
    | fail)
  have hE0 : EnvS w w1 ⟨p, r, h, s, l, b⟩ on rs sf 0 ((w1.alloc (.cells (CH.cells ⟨⟨p, r, h, s, l, b⟩, on, rs, sf, false⟩) 43)).alloc (.cells #[.func (.func 13) #[] #[], .func (.func 14) #[] #[], .func (.func 15) #[] #[], .func (.func 16) #[] #[]] 44)) :=
    ⟨((unhide H2).alloc _).alloc _, ((unhide H3).alloc _).alloc _, ((unhide H4).alloc _).alloc _, ((unhide H5).alloc _).alloc _, (Blk.new w1 _ _).alloc _, Blk.new' (by simp), ((unhide HB1).alloc (by omega) _).alloc (by simp only [size_alloc]; omega) _, hs1⟩
  have HE0 := hide hE0
  clear hE0
  go_loopw [22] (fun i wr => ∃ j : Nat, j ≤ 4 ∧ i = .int .i64 j ∧ EnvS w w1 ⟨p, r, h, s, l, b⟩ on rs sf j wr)
    (fun i _ => 4 - (intOf i).toNat)
  case atStart => exact ⟨0, by omega, rfl, unhide HE0⟩
  case round =>
    obtain ⟨j, hj, rfl, he⟩ := hrel
    have HE := hide he
    by_cases hlt : j < 4
    · have hbd := unhide HBD
      have hoff := off_bounds (c := ⟨⟨p, r, h, s, l, b⟩, on, rs, sf, false⟩) hbd
      have HON := hide (on_bounds hoff)
      have h4 : j = 0 ∨ j = 1 ∨ j = 2 ∨ j = 3 := by omega
      clear he hbd hoff hj hlt
      rcases h4 with rfl | rfl | rfl | rfl
      · have hc : wr.cell? ⟨w1.heap.size + 1, 0, none⟩ = some (.func (.func 13) #[] #[]) := by
          rw [(unhide HE).sl.cell]
          rfl
        go_wp2_with (first
          | (refine wpList_load_row rfl 43 _ rfl w1.heap.size rfl 43 _ _ _ (unhide HE).ch Try.underlying43 rfl (by kernel_rfl) ?_)
          | fail)
        refine (off_any wr (chain ⟨⟨p, r, h, s, l, b⟩, on, rs, sf, false⟩ 0)).mono ?_
        rintro e w2 ⟨rfl, hb2⟩
        have HE2 := hide ((unhide HE).below hb2)
        clear hb2 hc
        go_wp2_with (first
          | (refine wpList_store_blk rfl 43 (.tmp 7) (.tmp 28) rfl w1.heap.size 43 _ (CH.cells (chain ⟨⟨p, r, h, s, l, b⟩, on, rs, sf, false⟩ 1)) rfl rfl (unhide HE2).ch rfl (by kernel_rfl) (CH.one _) ?_
             intro w3 hb3 hg3
             have HE3 := hide ((unhide HE2).store hb3 hg3)
             clear hb3 hg3)
          | fail)
        go_roundw
        case rel => exact ⟨1, by omega, rfl, unhide HE3⟩
        case measure => simp [intOf]
      · have hc : wr.cell? ⟨w1.heap.size + 1, 1, none⟩ = some (.func (.func 14) #[] #[]) := by
          rw [(unhide HE).sl.cell]
          rfl
        go_wp2_with (first
          | (refine wpList_load_row rfl 43 _ rfl w1.heap.size rfl 43 _ _ _ (unhide HE).ch Try.underlying43 rfl (by kernel_rfl) ?_)
          | fail)
        refine (on_any wr (chain ⟨⟨p, r, h, s, l, b⟩, on, rs, sf, false⟩ 1)).mono ?_
        rintro e w2 ⟨rfl, hb2⟩
        have HE2 := hide ((unhide HE).below hb2)
        clear hb2 hc
        go_wp2_with (first
          | (refine wpList_store_blk rfl 43 (.tmp 7) (.tmp 28) rfl w1.heap.size 43 _ (CH.cells (chain ⟨⟨p, r, h, s, l, b⟩, on, rs, sf, false⟩ 2)) rfl rfl (unhide HE2).ch rfl (by kernel_rfl) (CH.one _) ?_
             intro w3 hb3 hg3
             have HE3 := hide ((unhide HE2).store hb3 hg3)
             clear hb3 hg3)
          | fail)
        go_roundw
        case rel => exact ⟨2, by omega, rfl, unhide HE3⟩
        case measure => simp [intOf]
      · have hc : wr.cell? ⟨w1.heap.size + 1, 2, none⟩ = some (.func (.func 15) #[] #[]) := by
          rw [(unhide HE).sl.cell]
          rfl
        go_wp2_with (first
          | (refine wpList_load_row rfl 43 _ rfl w1.heap.size rfl 43 _ _ _ (unhide HE).ch Try.underlying43 rfl (by kernel_rfl) ?_)
          | fail)
        refine (boot_any wr (chain ⟨⟨p, r, h, s, l, b⟩, on, rs, sf, false⟩ 2) (unhide HON).1 (unhide HON).2).mono ?_
        rintro e w2 ⟨rfl, hb2⟩
        have HE2 := hide ((unhide HE).below hb2)
        clear hb2 hc
        go_wp2_with (first
          | (refine wpList_store_blk rfl 43 (.tmp 7) (.tmp 28) rfl w1.heap.size 43 _ (CH.cells (chain ⟨⟨p, r, h, s, l, b⟩, on, rs, sf, false⟩ 3)) rfl rfl (unhide HE2).ch rfl (by kernel_rfl) (CH.one _) ?_
             intro w3 hb3 hg3
             have HE3 := hide ((unhide HE2).store hb3 hg3)
             clear hb3 hg3)
          | fail)
        go_roundw
        case rel => exact ⟨3, by omega, rfl, unhide HE3⟩
        case measure => simp [intOf]
      · have hc : wr.cell? ⟨w1.heap.size + 1, 3, none⟩ = some (.func (.func 16) #[] #[]) := by
          rw [(unhide HE).sl.cell]
          rfl
        go_wp2_with (first
          | (refine wpList_load_row rfl 43 _ rfl w1.heap.size rfl 43 _ _ _ (unhide HE).ch Try.underlying43 rfl (by kernel_rfl) ?_)
          | fail)
        refine (stop_any wr (chain ⟨⟨p, r, h, s, l, b⟩, on, rs, sf, false⟩ 3)).mono ?_
        rintro e w2 ⟨rfl, hb2⟩
        have HE2 := hide ((unhide HE).below hb2)
        clear hb2 hc
        go_wp2_with (first
          | (refine wpList_store_blk rfl 43 (.tmp 7) (.tmp 28) rfl w1.heap.size 43 _ (CH.cells (chain ⟨⟨p, r, h, s, l, b⟩, on, rs, sf, false⟩ 4)) rfl rfl (unhide HE2).ch rfl (by kernel_rfl) (CH.one _) ?_
             intro w3 hb3 hg3
             have HE3 := hide ((unhide HE2).store hb3 hg3)
             clear hb3 hg3)
          | fail)
        go_roundw
        case rel => exact ⟨4, by omega, rfl, unhide HE3⟩
        case measure => simp [intOf]
    · obtain rfl : j = 4 := by omega
      rw [show ((4 : Nat) : Int) = 4 from rfl]
      have hcell : ∀ k, wr.cell? ⟨w1.heap.size, k, none⟩ = (CH.cells (chain ⟨⟨p, r, h, s, l, b⟩, on, rs, sf, false⟩ 4))[k]? := fun k => he.ch.cell k
      have hy : (chain ⟨⟨p, r, h, s, l, b⟩, on, rs, sf, false⟩ 4).x = stepH ⟨p, r, h, s, l, b⟩ on rs sf := rfl
      obtain ⟨y, hyy⟩ : ∃ y, stepH ⟨p, r, h, s, l, b⟩ on rs sf = y := ⟨_, rfl⟩
      rw [hyy] at hy
      obtain ⟨yp, yr, yh, ys, yl, yb⟩ := y
      have HY := Lib.hid hyy
      have c0 : wr.cell? ⟨w1.heap.size, 0, none⟩ = some (.bool yp) := by rw [hcell]; simp [CH.cells, hy]
      have c1 : wr.cell? ⟨w1.heap.size, 1, none⟩ = some (.bool yr) := by rw [hcell]; simp [CH.cells, hy]
      have c2 : wr.cell? ⟨w1.heap.size, 2, none⟩ = some (.bool yh) := by rw [hcell]; simp [CH.cells, hy]
      have c3 : wr.cell? ⟨w1.heap.size, 3, none⟩ = some (.bool ys) := by rw [hcell]; simp [CH.cells, hy]
      have c4 : wr.cell? ⟨w1.heap.size, 4, none⟩ = some (.bool yl) := by rw [hcell]; simp [CH.cells, hy]
      have c5 : wr.cell? ⟨w1.heap.size, 5, none⟩ = some (.int .i64 yb) := by rw [hcell]; simp [CH.cells, hy]
      have hsz := he.sz
      clear he hcell hy hyy
      go_upto_region 10 with (first
        | (refine wpList_store_blk rfl 23 (.tmp 2) (.tmp 31) rfl w.heap.size 23 _ #[.bool yp, .bool yr, .bool yh, .bool ys, .bool yl, .int .i64 yb] rfl rfl (unhide HE).x2 rfl (by kernel_rfl) (by intro v hv; simp at hv; rcases hv with rfl | rfl | rfl | rfl | rfl | rfl <;> rfl) ?_
           intro w9 hb9 hg9
           have G2 := hide hb9
           have G3 := hide ((unhide HE).s3.grown hg9 (fun e => by injection e; omega))
           have G4 := hide ((unhide HE).z4.grown hg9 (fun e => by injection e; omega))
           have G5 := hide ((unhide HE).z5.grown hg9 (fun e => by injection e; omega))
           have GB := hide ((unhide HE).bel.grown hg9 (unhide HE).bel.size (fun g e => by injection e; omega))
           have d0 : w9.cell? ⟨w.heap.size, 0, none⟩ = some (.bool yp) := (by rw [hb9.cell]; rfl)
           have d1 : w9.cell? ⟨w.heap.size, 1, none⟩ = some (.bool yr) := (by rw [hb9.cell]; rfl)
           have d2 : w9.cell? ⟨w.heap.size, 2, none⟩ = some (.bool yh) := (by rw [hb9.cell]; rfl)
           have d4 : w9.cell? ⟨w.heap.size, 4, none⟩ = some (.bool yl) := (by rw [hb9.cell]; rfl)
           have d5 : w9.cell? ⟨w.heap.size, 5, none⟩ = some (.int .i64 yb) := (by rw [hb9.cell]; rfl)
           have f2 : w9.cell? ⟨w.heap.size + 1, 2, none⟩ = some (.bool sf) := (by rw [(unhide G3).cell]; rfl)
           clear hb9 hg9)
        | fail)
      clear c0 c1 c2 c3 c4 c5
      simp only [Act.put]
      go_cut [10] from 12 to 67 (fun v wx => v = .bool (yp && yl) ∧ wx = w9)
      case first =>
        cases yp <;> (go_wp2_with fail; go_meet; exact ⟨rfl, rfl⟩)
      case rest =>
        obtain ⟨rfl, rfl⟩ := hcut
        generalize hly : (yp && yl) = ly
        go_upto_region 11 with fail
        go_cut [11] from 12 to 67 (fun v wx => v = .pointer (some ⟨wc.heap.size, 0, none⟩) ∧ wx = wc.alloc (.cells #[.bool (goodR ⟨yp, yr, yh, ys, yl, yb⟩), .bool (doneR ⟨yp, yr, yh, ys, yl, yb⟩ sf), .bool (kickR ⟨yp, yr, yh, ys, yl, yb⟩)] 35))
        case first =>
          have leaf : ∀ a b c : Bool, a = goodR ⟨yp, yr, yh, ys, yl, yb⟩ → b = doneR ⟨yp, yr, yh, ys, yl, yb⟩ sf → c = kickR ⟨yp, yr, yh, ys, yl, yb⟩ → wc.alloc (.cells #[.bool a, .bool b, .bool c] 35) = wc.alloc (.cells #[.bool (goodR ⟨yp, yr, yh, ys, yl, yb⟩), .bool (doneR ⟨yp, yr, yh, ys, yl, yb⟩ sf), .bool (kickR ⟨yp, yr, yh, ys, yl, yb⟩)] 35) := by
            rintro _ _ _ rfl rfl rfl
            rfl
          have LF := hide leaf
          have HLY := Lib.hid hly
          clear leaf hly
          by_cases h0 : yb = 0
          · subst h0
            cases sf <;> cases yr <;> cases yh <;>
            (go_wp2_with fail
             go_meet
             exact ⟨rfl, unhide LF _ _ _ rfl (by simp [doneR, HLY.out]) (by simp [kickR, HLY.out])⟩)
          · have h1 : (yb == 0) = false := by simpa using h0
            cases sf <;> cases yr <;> cases yh <;>
            (go_wp2_with fail
             go_meet
             exact ⟨rfl, unhide LF _ _ _ rfl (by simp [doneR, HLY.out, h0]) (by simp [kickR, HLY.out])⟩)
        case rest =>
          obtain ⟨rfl, rfl⟩ := hcut
          have hw4 : w.heap.size + 4 ≤ wc.heap.size := by have := (unhide G5).lt; omega
          have A4 := hide (((unhide G4).alloc (.cells #[.bool (goodR ⟨yp, yr, yh, ys, yl, yb⟩), .bool (doneR ⟨yp, yr, yh, ys, yl, yb⟩ sf), .bool (kickR ⟨yp, yr, yh, ys, yl, yb⟩)] 35)).drew)
          have A5 := hide (((unhide G5).alloc (.cells #[.bool (goodR ⟨yp, yr, yh, ys, yl, yb⟩), .bool (doneR ⟨yp, yr, yh, ys, yl, yb⟩ sf), .bool (kickR ⟨yp, yr, yh, ys, yl, yb⟩)] 35)).drew)
          have AB := hide (((unhide GB).alloc (unhide GB).size (.cells #[.bool (goodR ⟨yp, yr, yh, ys, yl, yb⟩), .bool (doneR ⟨yp, yr, yh, ys, yl, yb⟩ sf), .bool (kickR ⟨yp, yr, yh, ys, yl, yb⟩)] 35)).drew)
          have hS0 : Blk (wc.alloc (.cells #[.bool (goodR ⟨yp, yr, yh, ys, yl, yb⟩), .bool (doneR ⟨yp, yr, yh, ys, yl, yb⟩ sf), .bool (kickR ⟨yp, yr, yh, ys, yl, yb⟩)] 35)).drew w.heap.size 23 #[.bool yp, .bool yr, .bool yh, .bool ys, .bool yl, .int .i64 yb] ∧ Blk (wc.alloc (.cells #[.bool (goodR ⟨yp, yr, yh, ys, yl, yb⟩), .bool (doneR ⟨yp, yr, yh, ys, yl, yb⟩ sf), .bool (kickR ⟨yp, yr, yh, ys, yl, yb⟩)] 35)).drew wc.heap.size 35 #[.bool (goodR ⟨yp, yr, yh, ys, yl, yb⟩), .bool (doneR ⟨yp, yr, yh, ys, yl, yb⟩ sf), .bool (kickR ⟨yp, yr, yh, ys, yl, yb⟩)] := ⟨((unhide G2).alloc _).drew, (Blk.new wc _ _).drew⟩
          go_upto_region 12 with fail
          refine wp_region_noPanic (wp_region_held_drew (S := fun W => Blk W w.heap.size 23 #[.bool yp, .bool yr, .bool yh, .bool ys, .bool yl, .int .i64 yb] ∧ Blk W wc.heap.size 35 #[.bool (goodR ⟨yp, yr, yh, ys, yl, yb⟩), .bool (doneR ⟨yp, yr, yh, ys, yl, yb⟩ sf), .bool (kickR ⟨yp, yr, yh, ys, yl, yb⟩)]) (by kernel_rfl) hS0 (fun _ => ?_))
          refine th_take (i := 0) rfl (by kernel_rfl) (by kernel_rfl) (by kernel_rfl) (y_loadblk 23 (.tmp 2) (by rfl) rfl w.heap.size rfl 23 #[.bool yp, .bool yr, .bool yh, .bool ys, .bool yl, .int .i64 yb] _ (fun _ h => h.1) Try.underlying23 rfl (by kernel_rfl)) hS0 ?_
          simp only [Act.put, List.setIfInBounds_toArray, List.set_cons_zero, List.set_cons_succ]
          refine th_take (i := 1) rfl (by kernel_rfl) (by kernel_rfl) (by kernel_rfl) (y_loadblk 35 (.tmp 11) (by rfl) rfl wc.heap.size rfl 35 #[.bool (goodR ⟨yp, yr, yh, ys, yl, yb⟩), .bool (doneR ⟨yp, yr, yh, ys, yl, yb⟩ sf), .bool (kickR ⟨yp, yr, yh, ys, yl, yb⟩)] _ (fun _ h => h.2) Try.underlying35 rfl (by kernel_rfl)) hS0 ?_
          simp only [Act.put, List.setIfInBounds_toArray, List.set_cons_zero, List.set_cons_succ]
          refine th_one (i := 2) rfl (by kernel_rfl) (fun K hK => ?_)
          refine step_store_blk (by rfl) 23 (.tmp 4) (.tmp 66) rfl (w.heap.size + 2) 23 _ #[.bool yp, .bool yr, .bool yh, .bool ys, .bool yl, .int .i64 yb] rfl rfl (unhide A4) rfl (by kernel_rfl) (by intro v hv; simp at hv; rcases hv with rfl | rfl | rfl | rfl | rfl | rfl <;> rfl) ?_
          intro w12 hb12 hg12
          have hS1 : Blk w12 w.heap.size 23 #[.bool yp, .bool yr, .bool yh, .bool ys, .bool yl, .int .i64 yb] ∧ Blk w12 wc.heap.size 35 #[.bool (goodR ⟨yp, yr, yh, ys, yl, yb⟩), .bool (doneR ⟨yp, yr, yh, ys, yl, yb⟩ sf), .bool (kickR ⟨yp, yr, yh, ys, yl, yb⟩)] := ⟨hS0.1.grown hg12 (fun e => by injection e; omega), hS0.2.grown hg12 (fun e => by injection e; omega)⟩
          have B4 := hide hb12
          have B5 := hide ((unhide A5).grown hg12 (fun e => by injection e; omega))
          have BB := hide ((unhide AB).grown hg12 (unhide AB).size (fun g e => by injection e; omega))
          clear hb12 hg12
          refine hK.out _ _ hS1 (fun _ => ?_)
          clear hK K
          simp only [Act.put]
          refine th_one (i := 3) rfl (by kernel_rfl) (fun K hK => ?_)
          refine step_store_blk (by rfl) 35 (.tmp 5) (.tmp 67) rfl (w.heap.size + 3) 35 _ #[.bool (goodR ⟨yp, yr, yh, ys, yl, yb⟩), .bool (doneR ⟨yp, yr, yh, ys, yl, yb⟩ sf), .bool (kickR ⟨yp, yr, yh, ys, yl, yb⟩)] rfl rfl (unhide B5) rfl (by kernel_rfl) (by intro v hv; simp at hv; rcases hv with rfl | rfl | rfl <;> rfl) ?_
          intro w13 hb13 hg13
          have hS2 : Blk w13 w.heap.size 23 #[.bool yp, .bool yr, .bool yh, .bool ys, .bool yl, .int .i64 yb] ∧ Blk w13 wc.heap.size 35 #[.bool (goodR ⟨yp, yr, yh, ys, yl, yb⟩), .bool (doneR ⟨yp, yr, yh, ys, yl, yb⟩ sf), .bool (kickR ⟨yp, yr, yh, ys, yl, yb⟩)] := ⟨hS1.1.grown hg13 (fun e => by injection e; omega), hS1.2.grown hg13 (fun e => by injection e; omega)⟩
          have C4 := hide ((unhide B4).grown hg13 (fun e => by injection e; omega))
          have C5 := hide hb13
          have CB := hide ((unhide BB).grown hg13 (unhide BB).size (fun g e => by injection e; omega))
          clear hb13 hg13
          refine hK.out _ _ hS2 (fun _ => ?_)
          clear hK K
          simp only [Act.put]
          refine th_take (i := 4) rfl (by kernel_rfl) (by kernel_rfl) (by kernel_rfl) (y_assign (v := .int .i64 0) _ (by rfl) rfl rfl) hS2 ?_
          simp only [Act.put, List.setIfInBounds_toArray, List.set_cons_zero, List.set_cons_succ]
          refine wpAnyH_done (by kernel_rfl) (NoPanic.normal ?_) _
          go_wp2_with fail
          refine bodyPost_ret (v := .tuple #[.agg #[.bool yp, .bool yr, .bool yh, .bool ys, .bool yl, .int .i64 yb], .agg #[.bool (goodR ⟨yp, yr, yh, ys, yl, yb⟩), .bool (doneR ⟨yp, yr, yh, ys, yl, yb⟩ sf), .bool (kickR ⟨yp, yr, yh, ys, yl, yb⟩)], .int .i64 0]) (res3 rfl _ (w.heap.size + 2) (w.heap.size + 3) 23 35 #[.bool yp, .bool yr, .bool yh, .bool ys, .bool yl, .int .i64 yb] #[.bool (goodR ⟨yp, yr, yh, ys, yl, yb⟩), .bool (doneR ⟨yp, yr, yh, ys, yl, yb⟩ sf), .bool (kickR ⟨yp, yr, yh, ys, yl, yb⟩)] _ _ _ rfl rfl rfl (unhide C4) (unhide C5) Try.underlying23 rfl (by kernel_rfl) Try.underlying35 rfl (by kernel_rfl)) rfl ⟨?_, unhide CB⟩
          rw [HY.out]
          rfl
end Go.Proofs.Ytalhemdlkhkhfaa
