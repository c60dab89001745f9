/- The law VersionNeeds, walked: it returns true (printed by wip/gen_needs.py). No condition. -/
import Derived.Test.YtbcbleonpaemgaaDoorVAwake
import Derived.Test.YtbcbleonpaemgaaDoorVRow
import Derived.Deep.CutRange
namespace Go.Proofs.YtbcbleonpaemgaaDoor
open Go.RowKit
theorem info_inst : (Tryd.prog.info? 42).map (fun i => (i.zero, i.size, i.bytes)) = some (some (.agg #[.string ⟨#[]⟩, .int .i64 0, .int .i64 0, .int .i64 0]), 4, 40) := by kernel_rfl
theorem parts_of {P : Program} {t : TypeId} {z : Option Value} {s b : Nat} (h : (P.info? t).map (fun i => (i.zero, i.size, i.bytes)) = some (z, s, b)) : ∃ i, P.info? t = some i ∧ i.zero = z ∧ i.size = s ∧ i.bytes = b := by
  rcases hp : P.info? t with _ | i
  · rw [hp] at h; cases h
  · rw [hp] at h
    injection h with h
    injection h with h1 h
    injection h with h2 h3
    exact ⟨i, rfl, h1, h2, h3⟩
theorem reads_row {w : World} {g : Nat} {t : TypeId} {x : Inst} (h : Blk w g t x.cs.toArray) : Reads w (g + 1) 4 (some ⟨g, 0, none⟩) 1 x.cs := by
  refine ⟨rfl, fun _ => ⟨_, rfl, Nat.lt_succ_self _, fun j u hu => ?_⟩⟩
  rw [add_mk, Nat.zero_add, h.cell]
  simpa using hu
theorem one_inst (x : Inst) : ∀ u ∈ x.cs, u.oneCell' = true := by
  intro u hu
  simp [Inst.cs] at hu
  rcases hu with rfl | rfl | rfl | rfl <;> rfl
def lstOf (there both : Bool) (x y : Ver) : List Inst := (if there = true then [⟨[97], x⟩] else []) ++ (if both = true then [⟨[98], y⟩] else [])
def needOf (f t : Ver) : NeedS := ⟨[97], f, [98], t⟩
def wantOf (there both : Bool) (x f y t : Ver) : Bool := there && (decide (0 ≤ cmp3 x f) && (!both || decide (cmp3 y t < 0)))
theorem met_needs (there both : Bool) (x f y t : Ver) : metF (instOf (lstOf there both x y)) (lstOf there both x y).length (needOf f t) = !wantOf there both x f y t := by
  by_cases h : cmp3 x f < 0
  · have h0 : ¬ 0 ≤ cmp3 x f := by omega
    cases there <;> cases both <;> simp [lstOf, needOf, wantOf, metF, findF, findG, instOf, h]
  · have h0 : 0 ≤ cmp3 x f := by omega
    by_cases h2 : cmp3 y t < 0
    · cases there <;> cases both <;> simp [lstOf, needOf, wantOf, metF, findF, findG, instOf, h2, h0, Int.not_lt.2 h0, Int.not_le.2 h2]
    · have h3 : 0 ≤ cmp3 y t := by omega
      cases there <;> cases both <;> simp [lstOf, needOf, wantOf, metF, findF, findG, instOf, h3, h0, Int.not_lt.2 h0, Int.not_lt.2 h3]
theorem need_small (f t : Ver) : (needOf f t).c.length ≤ maxLen ∧ (needOf f t).o.length ≤ maxLen := ⟨by show 1 ≤ maxLen; unfold maxLen; omega, by show 1 ≤ maxLen; unfold maxLen; omega⟩
set_option maxRecDepth 100000 in
set_option maxHeartbeats 4000000 in
theorem needs_false_false (w : World) (x f y t : Ver) :
    Calls Tryd.prog 7 #[.agg #[.int .i64 x.a, .int .i64 x.b, .int .i64 x.c], .agg #[.int .i64 f.a, .int .i64 f.b, .int .i64 f.c], .agg #[.int .i64 y.a, .int .i64 y.b, .int .i64 y.c], .agg #[.int .i64 t.a, .int .i64 t.b, .int .i64 t.c], .bool false, .bool false] w fun e w' => e = .returned (.bool true) ∧ Below w.heap.size w w' := by
  obtain ⟨s1, hs1⟩ : ∃ q, cmp3 x f = q := ⟨_, rfl⟩
  obtain ⟨s2, hs2⟩ : ∃ q, cmp3 y t = q := ⟨_, rfl⟩
  obtain ⟨m, hm⟩ : ∃ q, metF (instOf (lstOf false false x y)) (lstOf false false x y).length (needOf f t) = q := ⟨_, rfl⟩
  have hmw := met_needs false false x f y t
  rw [hm, wantOf, hs1, hs2] at hmw
  have FA := hide awake_any
  have FM := hide met_any
  have C1 := hide fun W => cmp_any W x f s1 hs1
  have C2 := hide fun W => cmp_any W y t s2 hs2
  have HMET := hide hm
  have HMW := hide hmw
  obtain ⟨W4, hW4⟩ : ∃ W4, ((((w.alloc (.cells x.c3 26)).alloc (.cells f.c3 26)).alloc (.cells y.c3 26)).alloc (.cells t.c3 26)) = W4 := ⟨_, rfl⟩
  have H0 : Hid (Blk W4 w.heap.size 26 x.c3) := hide (hW4 ▸ (((Blk.new w _ _).alloc _).alloc _).alloc _)
  have H1 : Hid (Blk W4 (w.heap.size + 1) 26 f.c3) := hide (hW4 ▸ ((Blk.new' (by simp)).alloc _).alloc _)
  have H2 : Hid (Blk W4 (w.heap.size + 1 + 1) 26 y.c3) := hide (hW4 ▸ (Blk.new' (by simp)).alloc _)
  have H3 : Hid (Blk W4 (w.heap.size + 1 + 1 + 1) 26 t.c3) := hide (hW4 ▸ Blk.new' (by simp))
  have B0 : Hid (Below w.heap.size w W4) := hide (hW4 ▸ ((((Below.refl w.heap.size w).alloc (Nat.le_refl _) _).alloc (by simp) _).alloc (by simp; omega) _).alloc (by simp; omega) _)
  have HW := hide hW4
  clear hs1 hs2 hm hmw hW4
  go_enter Tryd.func7, Tryd.ntmps7
  go_wp2_with fail
  have hw := unhide HW
  simp only [Ver.c3] at hw
  rw [hw]
  clear hw HW
  refine (unhide FA _).mono ?_
  rintro e w1 ⟨rfl, hb1⟩
  have B1 := hide ((unhide B0).trans (hb1.mono (unhide B0).size))
  have K0 := hide ((unhide H0).below hb1 (unhide H0).lt)
  have K1 := hide ((unhide H1).below hb1 (unhide H1).lt)
  have K2 := hide ((unhide H2).below hb1 (unhide H2).lt)
  have K3 := hide ((unhide H3).below hb1 (unhide H3).lt)
  have hz1 := (unhide K3).lt
  clear hb1 H0 H1 H2 H3 B0
  obtain ⟨i0, hi0, hz0, hi1, hi2⟩ := parts_of info_inst
  have HI := hide hi0
  have HZ0 := hide hz0
  have HI1 := hide hi1
  have HI2 := hide hi2
  clear hi0 hz0 hi1 hi2
  have OW := hide (World.ownsRow_nil w1 w1.heap.size 42 4)
  have BW := hide (Below.refl w1.heap.size w1)
  obtain ⟨A, cc, hA, hcc⟩ : ∃ (A : Option Addr) (cc : Nat), A = none ∧ cc = 0 := ⟨_, _, rfl, rfl⟩
  have hnc : 0 ≤ cc := by omega
  have hcm : cc ≤ maxLen := by unfold maxLen; omega
  have hin : InstAt w1 w1.heap.size A 0 (instOf (lstOf false false x y)) := fun i hi => by omega
  subst hA hcc
  have HIN := hide hin
  clear hin
  have f0 : w1.cell? ⟨w.heap.size + 1, 0, none⟩ = some (.int .i64 f.a) := (unhide K1).cell 0
  have f1 : w1.cell? ⟨w.heap.size + 1, 1, none⟩ = some (.int .i64 f.b) := (unhide K1).cell 1
  have f2 : w1.cell? ⟨w.heap.size + 1, 2, none⟩ = some (.int .i64 f.c) := (unhide K1).cell 2
  have t0 : w1.cell? ⟨w.heap.size + 1 + 1 + 1, 0, none⟩ = some (.int .i64 t.a) := (unhide K3).cell 0
  have t1 : w1.cell? ⟨w.heap.size + 1 + 1 + 1, 1, none⟩ = some (.int .i64 t.b) := (unhide K3).cell 1
  have t2 : w1.cell? ⟨w.heap.size + 1 + 1 + 1, 2, none⟩ = some (.int .i64 t.c) := (unhide K3).cell 2
  have x0 : w1.cell? ⟨w.heap.size, 0, none⟩ = some (.int .i64 x.a) := (unhide K0).cell 0
  have x1 : w1.cell? ⟨w.heap.size, 1, none⟩ = some (.int .i64 x.b) := (unhide K0).cell 1
  have x2 : w1.cell? ⟨w.heap.size, 2, none⟩ = some (.int .i64 x.c) := (unhide K0).cell 2
  have y0 : w1.cell? ⟨w.heap.size + 1 + 1, 0, none⟩ = some (.int .i64 y.a) := (unhide K2).cell 0
  have y1 : w1.cell? ⟨w.heap.size + 1 + 1, 1, none⟩ = some (.int .i64 y.b) := (unhide K2).cell 1
  have y2 : w1.cell? ⟨w.heap.size + 1 + 1, 2, none⟩ = some (.int .i64 y.c) := (unhide K2).cell 2
  have hl0 : w.heap.size + 1 + 1 + 1 < w1.heap.size := (unhide K3).lt
  have HNC := hide hnc
  have HCM := hide hcm
  clear hnc hcm
  have BN := hide ((unhide BW).alloc (unhide BW).size (.cells (needOf f t).cells 50))
  have NB := hide (Blk.new w1 50 (needOf f t).cells)
  have IN := hide (((unhide HIN).below ((Below.refl w1.heap.size w1).alloc (Nat.le_refl _) (.cells (needOf f t).cells 50))))
  obtain rfl : true = m := by rw [unhide HMW]; simp
  go_wp2_with fail
  refine (unhide FM _ none 0 0 (unhide HNC) (unhide HCM) _ ((unhide IN).more (by rw [size_alloc]; omega)) (needOf f t) (need_small f t).1 (need_small f t).2 _ (unhide HMET)).mono ?_
  rintro e w9 ⟨rfl, hb9⟩
  have B9 := hide ((unhide B1).trans (((unhide BN).trans (hb9.mono (unhide BN).size)).mono (unhide B1).size))
  clear hb9
  go_wp2_with fail
  go_ret
  exact ⟨rfl, unhide B9⟩
set_option maxRecDepth 100000 in
set_option maxHeartbeats 4000000 in
theorem needs_false_true (w : World) (x f y t : Ver) :
    Calls Tryd.prog 7 #[.agg #[.int .i64 x.a, .int .i64 x.b, .int .i64 x.c], .agg #[.int .i64 f.a, .int .i64 f.b, .int .i64 f.c], .agg #[.int .i64 y.a, .int .i64 y.b, .int .i64 y.c], .agg #[.int .i64 t.a, .int .i64 t.b, .int .i64 t.c], .bool false, .bool true] w fun e w' => e = .returned (.bool true) ∧ Below w.heap.size w w' := by
  obtain ⟨s1, hs1⟩ : ∃ q, cmp3 x f = q := ⟨_, rfl⟩
  obtain ⟨s2, hs2⟩ : ∃ q, cmp3 y t = q := ⟨_, rfl⟩
  obtain ⟨m, hm⟩ : ∃ q, metF (instOf (lstOf false true x y)) (lstOf false true x y).length (needOf f t) = q := ⟨_, rfl⟩
  have hmw := met_needs false true x f y t
  rw [hm, wantOf, hs1, hs2] at hmw
  have FA := hide awake_any
  have FM := hide met_any
  have C1 := hide fun W => cmp_any W x f s1 hs1
  have C2 := hide fun W => cmp_any W y t s2 hs2
  have HMET := hide hm
  have HMW := hide hmw
  obtain ⟨W4, hW4⟩ : ∃ W4, ((((w.alloc (.cells x.c3 26)).alloc (.cells f.c3 26)).alloc (.cells y.c3 26)).alloc (.cells t.c3 26)) = W4 := ⟨_, rfl⟩
  have H0 : Hid (Blk W4 w.heap.size 26 x.c3) := hide (hW4 ▸ (((Blk.new w _ _).alloc _).alloc _).alloc _)
  have H1 : Hid (Blk W4 (w.heap.size + 1) 26 f.c3) := hide (hW4 ▸ ((Blk.new' (by simp)).alloc _).alloc _)
  have H2 : Hid (Blk W4 (w.heap.size + 1 + 1) 26 y.c3) := hide (hW4 ▸ (Blk.new' (by simp)).alloc _)
  have H3 : Hid (Blk W4 (w.heap.size + 1 + 1 + 1) 26 t.c3) := hide (hW4 ▸ Blk.new' (by simp))
  have B0 : Hid (Below w.heap.size w W4) := hide (hW4 ▸ ((((Below.refl w.heap.size w).alloc (Nat.le_refl _) _).alloc (by simp) _).alloc (by simp; omega) _).alloc (by simp; omega) _)
  have HW := hide hW4
  clear hs1 hs2 hm hmw hW4
  go_enter Tryd.func7, Tryd.ntmps7
  go_wp2_with fail
  have hw := unhide HW
  simp only [Ver.c3] at hw
  rw [hw]
  clear hw HW
  refine (unhide FA _).mono ?_
  rintro e w1 ⟨rfl, hb1⟩
  have B1 := hide ((unhide B0).trans (hb1.mono (unhide B0).size))
  have K0 := hide ((unhide H0).below hb1 (unhide H0).lt)
  have K1 := hide ((unhide H1).below hb1 (unhide H1).lt)
  have K2 := hide ((unhide H2).below hb1 (unhide H2).lt)
  have K3 := hide ((unhide H3).below hb1 (unhide H3).lt)
  have hz1 := (unhide K3).lt
  clear hb1 H0 H1 H2 H3 B0
  obtain ⟨i0, hi0, hz0, hi1, hi2⟩ := parts_of info_inst
  have HI := hide hi0
  have HZ0 := hide hz0
  have HI1 := hide hi1
  have HI2 := hide hi2
  clear hi0 hz0 hi1 hi2
  have OW := hide (World.ownsRow_nil w1 w1.heap.size 42 4)
  have BW := hide (Below.refl w1.heap.size w1)
  have c0 : w1.cell? ⟨w.heap.size + 1 + 1, 0, none⟩ = some (.int .i64 y.a) := (unhide K2).cell 0
  have c1 : w1.cell? ⟨w.heap.size + 1 + 1, 1, none⟩ = some (.int .i64 y.b) := (unhide K2).cell 1
  have c2 : w1.cell? ⟨w.heap.size + 1 + 1, 2, none⟩ = some (.int .i64 y.c) := (unhide K2).cell 2
  have hr : Reads (w1.alloc (.cells (Inst.cs ⟨[98], y⟩).toArray 42)) (w1.heap.size + 1) 4 (some ⟨w1.heap.size, 0, none⟩) 1 (Inst.cs ⟨[98], y⟩) := reads_row (Blk.new w1 _ _)
  have HRD := hide hr
  clear hr
  have hlt0 : w.heap.size + 1 + 1 < w1.heap.size := (unhide K2).lt
  go_wp2_with (refine wpList_append_any _ rfl (.tmp 25) (.tmp 28) 23 rfl w1.heap.size 42 i0 _ 4 40 Tryd.underlying23 (unhide HI) (unhide HZ0) (unhide HI1) (unhide HI2) rfl (by omega) (.slice none 0 0) 0 _ rfl ((unhide OW).alloc _) _ _ 1 1 _ rfl (unhide HRD) (one_inst _) (by decide) (by decide) (by rw [size_alloc]; have := (unhide BW).size; omega) ?_; intro v2 w2 hown hg hv; have OW2 := hide hown; have BW2 := hide (((unhide BW).alloc (unhide BW).size _).grown hg (by rw [size_alloc]; have := (unhide BW).size; omega) (own_ge (unhide OW))); clear hown hg hv; have K0w2 := hide ((unhide K0).below (unhide BW2) (unhide K0).lt); have K1w2 := hide ((unhide K1).below (unhide BW2) (unhide K1).lt); have K2w2 := hide ((unhide K2).below (unhide BW2) (unhide K2).lt); have K3w2 := hide ((unhide K3).below (unhide BW2) (unhide K3).lt); have f0w2 : w2.cell? ⟨w.heap.size + 1, 0, none⟩ = some (.int .i64 f.a) := (unhide K1w2).cell 0; have f1w2 : w2.cell? ⟨w.heap.size + 1, 1, none⟩ = some (.int .i64 f.b) := (unhide K1w2).cell 1; have f2w2 : w2.cell? ⟨w.heap.size + 1, 2, none⟩ = some (.int .i64 f.c) := (unhide K1w2).cell 2; have t0w2 : w2.cell? ⟨w.heap.size + 1 + 1 + 1, 0, none⟩ = some (.int .i64 t.a) := (unhide K3w2).cell 0; have t1w2 : w2.cell? ⟨w.heap.size + 1 + 1 + 1, 1, none⟩ = some (.int .i64 t.b) := (unhide K3w2).cell 1; have t2w2 : w2.cell? ⟨w.heap.size + 1 + 1 + 1, 2, none⟩ = some (.int .i64 t.c) := (unhide K3w2).cell 2; have x0w2 : w2.cell? ⟨w.heap.size, 0, none⟩ = some (.int .i64 x.a) := (unhide K0w2).cell 0; have x1w2 : w2.cell? ⟨w.heap.size, 1, none⟩ = some (.int .i64 x.b) := (unhide K0w2).cell 1; have x2w2 : w2.cell? ⟨w.heap.size, 2, none⟩ = some (.int .i64 x.c) := (unhide K0w2).cell 2; have y0w2 : w2.cell? ⟨w.heap.size + 1 + 1, 0, none⟩ = some (.int .i64 y.a) := (unhide K2w2).cell 0; have y1w2 : w2.cell? ⟨w.heap.size + 1 + 1, 1, none⟩ = some (.int .i64 y.b) := (unhide K2w2).cell 1; have y2w2 : w2.cell? ⟨w.heap.size + 1 + 1, 2, none⟩ = some (.int .i64 y.c) := (unhide K2w2).cell 2; have hl0w2 : w.heap.size < w2.heap.size := (unhide K0w2).lt; have hl1w2 : w.heap.size + 1 < w2.heap.size := (unhide K1w2).lt; have hl2w2 : w.heap.size + 1 + 1 < w2.heap.size := (unhide K2w2).lt; have hl3w2 : w.heap.size + 1 + 1 + 1 < w2.heap.size := (unhide K3w2).lt)
  clear c0 c1 c2 HRD OW hlt0
  have OW := OW2
  have BW' := BW2
  clear OW2 BW2 BW
  have BW := BW'
  clear BW'
  have hin := inst_of_own (l := lstOf false true x y) (n := 1) rfl (unhide OW) (by intro q hq; simp [lstOf] at hq; subst hq; simp [maxLen])
  obtain ⟨A, cc, hv, hnc, hcm, hin⟩ := hin
  subst hv
  have HIN := hide hin
  clear hin
  have hl0 : w.heap.size + 1 + 1 + 1 < w2.heap.size := (unhide K3w2).lt
  have HNC := hide hnc
  have HCM := hide hcm
  clear hnc hcm
  have BN := hide ((unhide BW).alloc (unhide BW).size (.cells (needOf f t).cells 50))
  have NB := hide (Blk.new w2 50 (needOf f t).cells)
  have IN := hide (((unhide HIN).below ((Below.refl w2.heap.size w2).alloc (Nat.le_refl _) (.cells (needOf f t).cells 50))))
  obtain rfl : true = m := by rw [unhide HMW]; simp
  go_wp2_with fail
  refine (unhide FM _ A 1 cc (unhide HNC) (unhide HCM) _ ((unhide IN).more (by rw [size_alloc]; omega)) (needOf f t) (need_small f t).1 (need_small f t).2 _ (unhide HMET)).mono ?_
  rintro e w9 ⟨rfl, hb9⟩
  have B9 := hide ((unhide B1).trans (((unhide BN).trans (hb9.mono (unhide BN).size)).mono (unhide B1).size))
  clear hb9
  go_wp2_with fail
  go_ret
  exact ⟨rfl, unhide B9⟩
set_option maxRecDepth 100000 in
set_option maxHeartbeats 4000000 in
theorem needs_true_false (w : World) (x f y t : Ver) :
    Calls Tryd.prog 7 #[.agg #[.int .i64 x.a, .int .i64 x.b, .int .i64 x.c], .agg #[.int .i64 f.a, .int .i64 f.b, .int .i64 f.c], .agg #[.int .i64 y.a, .int .i64 y.b, .int .i64 y.c], .agg #[.int .i64 t.a, .int .i64 t.b, .int .i64 t.c], .bool true, .bool false] w fun e w' => e = .returned (.bool true) ∧ Below w.heap.size w w' := by
  obtain ⟨s1, hs1⟩ : ∃ q, cmp3 x f = q := ⟨_, rfl⟩
  obtain ⟨s2, hs2⟩ : ∃ q, cmp3 y t = q := ⟨_, rfl⟩
  obtain ⟨m, hm⟩ : ∃ q, metF (instOf (lstOf true false x y)) (lstOf true false x y).length (needOf f t) = q := ⟨_, rfl⟩
  have hmw := met_needs true false x f y t
  rw [hm, wantOf, hs1, hs2] at hmw
  have FA := hide awake_any
  have FM := hide met_any
  have C1 := hide fun W => cmp_any W x f s1 hs1
  have C2 := hide fun W => cmp_any W y t s2 hs2
  have HMET := hide hm
  have HMW := hide hmw
  obtain ⟨W4, hW4⟩ : ∃ W4, ((((w.alloc (.cells x.c3 26)).alloc (.cells f.c3 26)).alloc (.cells y.c3 26)).alloc (.cells t.c3 26)) = W4 := ⟨_, rfl⟩
  have H0 : Hid (Blk W4 w.heap.size 26 x.c3) := hide (hW4 ▸ (((Blk.new w _ _).alloc _).alloc _).alloc _)
  have H1 : Hid (Blk W4 (w.heap.size + 1) 26 f.c3) := hide (hW4 ▸ ((Blk.new' (by simp)).alloc _).alloc _)
  have H2 : Hid (Blk W4 (w.heap.size + 1 + 1) 26 y.c3) := hide (hW4 ▸ (Blk.new' (by simp)).alloc _)
  have H3 : Hid (Blk W4 (w.heap.size + 1 + 1 + 1) 26 t.c3) := hide (hW4 ▸ Blk.new' (by simp))
  have B0 : Hid (Below w.heap.size w W4) := hide (hW4 ▸ ((((Below.refl w.heap.size w).alloc (Nat.le_refl _) _).alloc (by simp) _).alloc (by simp; omega) _).alloc (by simp; omega) _)
  have HW := hide hW4
  clear hs1 hs2 hm hmw hW4
  go_enter Tryd.func7, Tryd.ntmps7
  go_wp2_with fail
  have hw := unhide HW
  simp only [Ver.c3] at hw
  rw [hw]
  clear hw HW
  refine (unhide FA _).mono ?_
  rintro e w1 ⟨rfl, hb1⟩
  have B1 := hide ((unhide B0).trans (hb1.mono (unhide B0).size))
  have K0 := hide ((unhide H0).below hb1 (unhide H0).lt)
  have K1 := hide ((unhide H1).below hb1 (unhide H1).lt)
  have K2 := hide ((unhide H2).below hb1 (unhide H2).lt)
  have K3 := hide ((unhide H3).below hb1 (unhide H3).lt)
  have hz1 := (unhide K3).lt
  clear hb1 H0 H1 H2 H3 B0
  obtain ⟨i0, hi0, hz0, hi1, hi2⟩ := parts_of info_inst
  have HI := hide hi0
  have HZ0 := hide hz0
  have HI1 := hide hi1
  have HI2 := hide hi2
  clear hi0 hz0 hi1 hi2
  have OW := hide (World.ownsRow_nil w1 w1.heap.size 42 4)
  have BW := hide (Below.refl w1.heap.size w1)
  have c0 : w1.cell? ⟨w.heap.size, 0, none⟩ = some (.int .i64 x.a) := (unhide K0).cell 0
  have c1 : w1.cell? ⟨w.heap.size, 1, none⟩ = some (.int .i64 x.b) := (unhide K0).cell 1
  have c2 : w1.cell? ⟨w.heap.size, 2, none⟩ = some (.int .i64 x.c) := (unhide K0).cell 2
  have hr : Reads (w1.alloc (.cells (Inst.cs ⟨[97], x⟩).toArray 42)) (w1.heap.size + 1) 4 (some ⟨w1.heap.size, 0, none⟩) 1 (Inst.cs ⟨[97], x⟩) := reads_row (Blk.new w1 _ _)
  have HRD := hide hr
  clear hr
  have hlt0 : w.heap.size < w1.heap.size := (unhide K0).lt
  go_wp2_with (refine wpList_append_any _ rfl (.tmp 19) (.tmp 22) 23 rfl w1.heap.size 42 i0 _ 4 40 Tryd.underlying23 (unhide HI) (unhide HZ0) (unhide HI1) (unhide HI2) rfl (by omega) (.slice none 0 0) 0 _ rfl ((unhide OW).alloc _) _ _ 1 1 _ rfl (unhide HRD) (one_inst _) (by decide) (by decide) (by rw [size_alloc]; have := (unhide BW).size; omega) ?_; intro v2 w2 hown hg hv; have OW2 := hide hown; have BW2 := hide (((unhide BW).alloc (unhide BW).size _).grown hg (by rw [size_alloc]; have := (unhide BW).size; omega) (own_ge (unhide OW))); clear hown hg hv; have K0w2 := hide ((unhide K0).below (unhide BW2) (unhide K0).lt); have K1w2 := hide ((unhide K1).below (unhide BW2) (unhide K1).lt); have K2w2 := hide ((unhide K2).below (unhide BW2) (unhide K2).lt); have K3w2 := hide ((unhide K3).below (unhide BW2) (unhide K3).lt); have f0w2 : w2.cell? ⟨w.heap.size + 1, 0, none⟩ = some (.int .i64 f.a) := (unhide K1w2).cell 0; have f1w2 : w2.cell? ⟨w.heap.size + 1, 1, none⟩ = some (.int .i64 f.b) := (unhide K1w2).cell 1; have f2w2 : w2.cell? ⟨w.heap.size + 1, 2, none⟩ = some (.int .i64 f.c) := (unhide K1w2).cell 2; have t0w2 : w2.cell? ⟨w.heap.size + 1 + 1 + 1, 0, none⟩ = some (.int .i64 t.a) := (unhide K3w2).cell 0; have t1w2 : w2.cell? ⟨w.heap.size + 1 + 1 + 1, 1, none⟩ = some (.int .i64 t.b) := (unhide K3w2).cell 1; have t2w2 : w2.cell? ⟨w.heap.size + 1 + 1 + 1, 2, none⟩ = some (.int .i64 t.c) := (unhide K3w2).cell 2; have x0w2 : w2.cell? ⟨w.heap.size, 0, none⟩ = some (.int .i64 x.a) := (unhide K0w2).cell 0; have x1w2 : w2.cell? ⟨w.heap.size, 1, none⟩ = some (.int .i64 x.b) := (unhide K0w2).cell 1; have x2w2 : w2.cell? ⟨w.heap.size, 2, none⟩ = some (.int .i64 x.c) := (unhide K0w2).cell 2; have y0w2 : w2.cell? ⟨w.heap.size + 1 + 1, 0, none⟩ = some (.int .i64 y.a) := (unhide K2w2).cell 0; have y1w2 : w2.cell? ⟨w.heap.size + 1 + 1, 1, none⟩ = some (.int .i64 y.b) := (unhide K2w2).cell 1; have y2w2 : w2.cell? ⟨w.heap.size + 1 + 1, 2, none⟩ = some (.int .i64 y.c) := (unhide K2w2).cell 2; have hl0w2 : w.heap.size < w2.heap.size := (unhide K0w2).lt; have hl1w2 : w.heap.size + 1 < w2.heap.size := (unhide K1w2).lt; have hl2w2 : w.heap.size + 1 + 1 < w2.heap.size := (unhide K2w2).lt; have hl3w2 : w.heap.size + 1 + 1 + 1 < w2.heap.size := (unhide K3w2).lt)
  clear c0 c1 c2 HRD OW hlt0
  have OW := OW2
  have BW' := BW2
  clear OW2 BW2 BW
  have BW := BW'
  clear BW'
  have hin := inst_of_own (l := lstOf true false x y) (n := 1) rfl (unhide OW) (by intro q hq; simp [lstOf] at hq; subst hq; simp [maxLen])
  obtain ⟨A, cc, hv, hnc, hcm, hin⟩ := hin
  subst hv
  have HIN := hide hin
  clear hin
  have hl0 : w.heap.size + 1 + 1 + 1 < w2.heap.size := (unhide K3w2).lt
  have HNC := hide hnc
  have HCM := hide hcm
  clear hnc hcm
  have BN := hide ((unhide BW).alloc (unhide BW).size (.cells (needOf f t).cells 50))
  have NB := hide (Blk.new w2 50 (needOf f t).cells)
  have IN := hide (((unhide HIN).below ((Below.refl w2.heap.size w2).alloc (Nat.le_refl _) (.cells (needOf f t).cells 50))))
  go_wp2_with fail
  refine (unhide C1 _).mono ?_
  rintro e w8 ⟨rfl, hb8⟩
  have B8 := hide ((unhide BN).trans (hb8.mono (unhide BN).size))
  have I8 := hide ((unhide IN).below (hb8.mono (by rw [size_alloc]; omega)))
  have N8 := hide ((unhide NB).below hb8 (unhide NB).lt)
  have hs8 : w2.heap.size + 1 ≤ w8.heap.size := by have := hb8.size; rwa [size_alloc] at this
  clear hb8
  by_cases h1 : 0 ≤ s1
  · skip
    obtain rfl : false = m := by rw [unhide HMW]; simp [h1]
    have nb := unhide N8
    have n0 : w8.cell? ⟨w2.heap.size, 0, none⟩ = some (.string ⟨#[97]⟩) := nb.cell 0
    have n1 : w8.cell? ⟨w2.heap.size, 1, none⟩ = some (.int .i64 f.a) := nb.cell 1
    have n2 : w8.cell? ⟨w2.heap.size, 2, none⟩ = some (.int .i64 f.b) := nb.cell 2
    have n3 : w8.cell? ⟨w2.heap.size, 3, none⟩ = some (.int .i64 f.c) := nb.cell 3
    have n4 : w8.cell? ⟨w2.heap.size, 4, none⟩ = some (.string ⟨#[98]⟩) := nb.cell 4
    have n5 : w8.cell? ⟨w2.heap.size, 5, none⟩ = some (.int .i64 t.a) := nb.cell 5
    have n6 : w8.cell? ⟨w2.heap.size, 6, none⟩ = some (.int .i64 t.b) := nb.cell 6
    have n7 : w8.cell? ⟨w2.heap.size, 7, none⟩ = some (.int .i64 t.c) := nb.cell 7
    clear nb
    go_wp2_with fail
    refine (unhide FM w8 A 1 cc (unhide HNC) (unhide HCM) _ ((unhide I8).more (by omega)) (needOf f t) (need_small f t).1 (need_small f t).2 _ (unhide HMET)).mono ?_
    rintro e w9 ⟨rfl, hb9⟩
    have B9 := hide ((unhide B1).trans (((unhide B8).trans (hb9.mono (unhide B8).size)).mono (unhide B1).size))
    clear hb9 n0 n1 n2 n3 n4 n5 n6 n7
    go_wp2_with fail
    go_ret
    exact ⟨rfl, unhide B9⟩
  · have h1b : s1 < 0 := by omega
    obtain rfl : true = m := by rw [unhide HMW]; simp [h1]
    have nb := unhide N8
    have n0 : w8.cell? ⟨w2.heap.size, 0, none⟩ = some (.string ⟨#[97]⟩) := nb.cell 0
    have n1 : w8.cell? ⟨w2.heap.size, 1, none⟩ = some (.int .i64 f.a) := nb.cell 1
    have n2 : w8.cell? ⟨w2.heap.size, 2, none⟩ = some (.int .i64 f.b) := nb.cell 2
    have n3 : w8.cell? ⟨w2.heap.size, 3, none⟩ = some (.int .i64 f.c) := nb.cell 3
    have n4 : w8.cell? ⟨w2.heap.size, 4, none⟩ = some (.string ⟨#[98]⟩) := nb.cell 4
    have n5 : w8.cell? ⟨w2.heap.size, 5, none⟩ = some (.int .i64 t.a) := nb.cell 5
    have n6 : w8.cell? ⟨w2.heap.size, 6, none⟩ = some (.int .i64 t.b) := nb.cell 6
    have n7 : w8.cell? ⟨w2.heap.size, 7, none⟩ = some (.int .i64 t.c) := nb.cell 7
    clear nb
    go_wp2_with fail
    refine (unhide FM w8 A 1 cc (unhide HNC) (unhide HCM) _ ((unhide I8).more (by omega)) (needOf f t) (need_small f t).1 (need_small f t).2 _ (unhide HMET)).mono ?_
    rintro e w9 ⟨rfl, hb9⟩
    have B9 := hide ((unhide B1).trans (((unhide B8).trans (hb9.mono (unhide B8).size)).mono (unhide B1).size))
    clear hb9 n0 n1 n2 n3 n4 n5 n6 n7
    go_wp2_with fail
    go_ret
    exact ⟨rfl, unhide B9⟩
set_option maxRecDepth 100000 in
set_option maxHeartbeats 4000000 in
theorem needs_true_true (w : World) (x f y t : Ver) :
    Calls Tryd.prog 7 #[.agg #[.int .i64 x.a, .int .i64 x.b, .int .i64 x.c], .agg #[.int .i64 f.a, .int .i64 f.b, .int .i64 f.c], .agg #[.int .i64 y.a, .int .i64 y.b, .int .i64 y.c], .agg #[.int .i64 t.a, .int .i64 t.b, .int .i64 t.c], .bool true, .bool true] w fun e w' => e = .returned (.bool true) ∧ Below w.heap.size w w' := by
  obtain ⟨s1, hs1⟩ : ∃ q, cmp3 x f = q := ⟨_, rfl⟩
  obtain ⟨s2, hs2⟩ : ∃ q, cmp3 y t = q := ⟨_, rfl⟩
  obtain ⟨m, hm⟩ : ∃ q, metF (instOf (lstOf true true x y)) (lstOf true true x y).length (needOf f t) = q := ⟨_, rfl⟩
  have hmw := met_needs true true x f y t
  rw [hm, wantOf, hs1, hs2] at hmw
  have FA := hide awake_any
  have FM := hide met_any
  have C1 := hide fun W => cmp_any W x f s1 hs1
  have C2 := hide fun W => cmp_any W y t s2 hs2
  have HMET := hide hm
  have HMW := hide hmw
  obtain ⟨W4, hW4⟩ : ∃ W4, ((((w.alloc (.cells x.c3 26)).alloc (.cells f.c3 26)).alloc (.cells y.c3 26)).alloc (.cells t.c3 26)) = W4 := ⟨_, rfl⟩
  have H0 : Hid (Blk W4 w.heap.size 26 x.c3) := hide (hW4 ▸ (((Blk.new w _ _).alloc _).alloc _).alloc _)
  have H1 : Hid (Blk W4 (w.heap.size + 1) 26 f.c3) := hide (hW4 ▸ ((Blk.new' (by simp)).alloc _).alloc _)
  have H2 : Hid (Blk W4 (w.heap.size + 1 + 1) 26 y.c3) := hide (hW4 ▸ (Blk.new' (by simp)).alloc _)
  have H3 : Hid (Blk W4 (w.heap.size + 1 + 1 + 1) 26 t.c3) := hide (hW4 ▸ Blk.new' (by simp))
  have B0 : Hid (Below w.heap.size w W4) := hide (hW4 ▸ ((((Below.refl w.heap.size w).alloc (Nat.le_refl _) _).alloc (by simp) _).alloc (by simp; omega) _).alloc (by simp; omega) _)
  have HW := hide hW4
  clear hs1 hs2 hm hmw hW4
  go_enter Tryd.func7, Tryd.ntmps7
  go_wp2_with fail
  have hw := unhide HW
  simp only [Ver.c3] at hw
  rw [hw]
  clear hw HW
  refine (unhide FA _).mono ?_
  rintro e w1 ⟨rfl, hb1⟩
  have B1 := hide ((unhide B0).trans (hb1.mono (unhide B0).size))
  have K0 := hide ((unhide H0).below hb1 (unhide H0).lt)
  have K1 := hide ((unhide H1).below hb1 (unhide H1).lt)
  have K2 := hide ((unhide H2).below hb1 (unhide H2).lt)
  have K3 := hide ((unhide H3).below hb1 (unhide H3).lt)
  have hz1 := (unhide K3).lt
  clear hb1 H0 H1 H2 H3 B0
  obtain ⟨i0, hi0, hz0, hi1, hi2⟩ := parts_of info_inst
  have HI := hide hi0
  have HZ0 := hide hz0
  have HI1 := hide hi1
  have HI2 := hide hi2
  clear hi0 hz0 hi1 hi2
  have OW := hide (World.ownsRow_nil w1 w1.heap.size 42 4)
  have BW := hide (Below.refl w1.heap.size w1)
  have c0 : w1.cell? ⟨w.heap.size, 0, none⟩ = some (.int .i64 x.a) := (unhide K0).cell 0
  have c1 : w1.cell? ⟨w.heap.size, 1, none⟩ = some (.int .i64 x.b) := (unhide K0).cell 1
  have c2 : w1.cell? ⟨w.heap.size, 2, none⟩ = some (.int .i64 x.c) := (unhide K0).cell 2
  have hr : Reads (w1.alloc (.cells (Inst.cs ⟨[97], x⟩).toArray 42)) (w1.heap.size + 1) 4 (some ⟨w1.heap.size, 0, none⟩) 1 (Inst.cs ⟨[97], x⟩) := reads_row (Blk.new w1 _ _)
  have HRD := hide hr
  clear hr
  have hlt0 : w.heap.size < w1.heap.size := (unhide K0).lt
  go_upto_region 7 with (refine wpList_append_any _ rfl (.tmp 19) (.tmp 22) 23 rfl w1.heap.size 42 i0 _ 4 40 Tryd.underlying23 (unhide HI) (unhide HZ0) (unhide HI1) (unhide HI2) rfl (by omega) (.slice none 0 0) 0 _ rfl ((unhide OW).alloc _) _ _ 1 1 _ rfl (unhide HRD) (one_inst _) (by decide) (by decide) (by rw [size_alloc]; have := (unhide BW).size; omega) ?_; intro v2 w2 hown hg hv; have OW2 := hide hown; have BW2 := hide (((unhide BW).alloc (unhide BW).size _).grown hg (by rw [size_alloc]; have := (unhide BW).size; omega) (own_ge (unhide OW))); clear hown hg hv; have K0w2 := hide ((unhide K0).below (unhide BW2) (unhide K0).lt); have K1w2 := hide ((unhide K1).below (unhide BW2) (unhide K1).lt); have K2w2 := hide ((unhide K2).below (unhide BW2) (unhide K2).lt); have K3w2 := hide ((unhide K3).below (unhide BW2) (unhide K3).lt); have f0w2 : w2.cell? ⟨w.heap.size + 1, 0, none⟩ = some (.int .i64 f.a) := (unhide K1w2).cell 0; have f1w2 : w2.cell? ⟨w.heap.size + 1, 1, none⟩ = some (.int .i64 f.b) := (unhide K1w2).cell 1; have f2w2 : w2.cell? ⟨w.heap.size + 1, 2, none⟩ = some (.int .i64 f.c) := (unhide K1w2).cell 2; have t0w2 : w2.cell? ⟨w.heap.size + 1 + 1 + 1, 0, none⟩ = some (.int .i64 t.a) := (unhide K3w2).cell 0; have t1w2 : w2.cell? ⟨w.heap.size + 1 + 1 + 1, 1, none⟩ = some (.int .i64 t.b) := (unhide K3w2).cell 1; have t2w2 : w2.cell? ⟨w.heap.size + 1 + 1 + 1, 2, none⟩ = some (.int .i64 t.c) := (unhide K3w2).cell 2; have x0w2 : w2.cell? ⟨w.heap.size, 0, none⟩ = some (.int .i64 x.a) := (unhide K0w2).cell 0; have x1w2 : w2.cell? ⟨w.heap.size, 1, none⟩ = some (.int .i64 x.b) := (unhide K0w2).cell 1; have x2w2 : w2.cell? ⟨w.heap.size, 2, none⟩ = some (.int .i64 x.c) := (unhide K0w2).cell 2; have y0w2 : w2.cell? ⟨w.heap.size + 1 + 1, 0, none⟩ = some (.int .i64 y.a) := (unhide K2w2).cell 0; have y1w2 : w2.cell? ⟨w.heap.size + 1 + 1, 1, none⟩ = some (.int .i64 y.b) := (unhide K2w2).cell 1; have y2w2 : w2.cell? ⟨w.heap.size + 1 + 1, 2, none⟩ = some (.int .i64 y.c) := (unhide K2w2).cell 2; have hl0w2 : w.heap.size < w2.heap.size := (unhide K0w2).lt; have hl1w2 : w.heap.size + 1 < w2.heap.size := (unhide K1w2).lt; have hl2w2 : w.heap.size + 1 + 1 < w2.heap.size := (unhide K2w2).lt; have hl3w2 : w.heap.size + 1 + 1 + 1 < w2.heap.size := (unhide K3w2).lt)
  clear c0 c1 c2 HRD OW hlt0
  have OW := OW2
  have BW' := BW2
  clear OW2 BW2 BW
  have BW := BW'
  clear BW'
  have hr : Reads (w2.alloc (.cells (Inst.cs ⟨[98], y⟩).toArray 42)) (w2.heap.size + 1) 4 (some ⟨w2.heap.size, 0, none⟩) 1 (Inst.cs ⟨[98], y⟩) := reads_row (Blk.new w2 _ _)
  have HRD := hide hr
  clear hr
  have hlt0 : w.heap.size + 1 + 1 < w2.heap.size := (unhide K2w2).lt
  go_wp2_with (refine wpList_append_any _ rfl (.tmp 25) (.tmp 28) 23 rfl w1.heap.size 42 i0 _ 4 40 Tryd.underlying23 (unhide HI) (unhide HZ0) (unhide HI1) (unhide HI2) rfl (by omega) v2 1 _ rfl ((unhide OW).alloc _) _ _ 1 1 _ rfl (unhide HRD) (one_inst _) (by decide) (by decide) (by rw [size_alloc]; have := (unhide BW).size; omega) ?_; intro v3 w3 hown hg hv; have OW3 := hide hown; have BW3 := hide (((unhide BW).alloc (unhide BW).size _).grown hg (by rw [size_alloc]; have := (unhide BW).size; omega) (own_ge (unhide OW))); clear hown hg hv; have K0w3 := hide ((unhide K0).below (unhide BW3) (unhide K0).lt); have K1w3 := hide ((unhide K1).below (unhide BW3) (unhide K1).lt); have K2w3 := hide ((unhide K2).below (unhide BW3) (unhide K2).lt); have K3w3 := hide ((unhide K3).below (unhide BW3) (unhide K3).lt); have f0w3 : w3.cell? ⟨w.heap.size + 1, 0, none⟩ = some (.int .i64 f.a) := (unhide K1w3).cell 0; have f1w3 : w3.cell? ⟨w.heap.size + 1, 1, none⟩ = some (.int .i64 f.b) := (unhide K1w3).cell 1; have f2w3 : w3.cell? ⟨w.heap.size + 1, 2, none⟩ = some (.int .i64 f.c) := (unhide K1w3).cell 2; have t0w3 : w3.cell? ⟨w.heap.size + 1 + 1 + 1, 0, none⟩ = some (.int .i64 t.a) := (unhide K3w3).cell 0; have t1w3 : w3.cell? ⟨w.heap.size + 1 + 1 + 1, 1, none⟩ = some (.int .i64 t.b) := (unhide K3w3).cell 1; have t2w3 : w3.cell? ⟨w.heap.size + 1 + 1 + 1, 2, none⟩ = some (.int .i64 t.c) := (unhide K3w3).cell 2; have x0w3 : w3.cell? ⟨w.heap.size, 0, none⟩ = some (.int .i64 x.a) := (unhide K0w3).cell 0; have x1w3 : w3.cell? ⟨w.heap.size, 1, none⟩ = some (.int .i64 x.b) := (unhide K0w3).cell 1; have x2w3 : w3.cell? ⟨w.heap.size, 2, none⟩ = some (.int .i64 x.c) := (unhide K0w3).cell 2; have y0w3 : w3.cell? ⟨w.heap.size + 1 + 1, 0, none⟩ = some (.int .i64 y.a) := (unhide K2w3).cell 0; have y1w3 : w3.cell? ⟨w.heap.size + 1 + 1, 1, none⟩ = some (.int .i64 y.b) := (unhide K2w3).cell 1; have y2w3 : w3.cell? ⟨w.heap.size + 1 + 1, 2, none⟩ = some (.int .i64 y.c) := (unhide K2w3).cell 2; have hl0w3 : w.heap.size < w3.heap.size := (unhide K0w3).lt; have hl1w3 : w.heap.size + 1 < w3.heap.size := (unhide K1w3).lt; have hl2w3 : w.heap.size + 1 + 1 < w3.heap.size := (unhide K2w3).lt; have hl3w3 : w.heap.size + 1 + 1 + 1 < w3.heap.size := (unhide K3w3).lt)
  clear HRD OW hlt0
  have OW := OW3
  have BW' := BW3
  clear OW3 BW3 BW
  have BW := BW'
  clear BW'
  have hin := inst_of_own (l := lstOf true true x y) (n := 2) rfl (unhide OW) (by intro q hq; simp [lstOf] at hq; rcases hq with rfl | rfl <;> simp [maxLen])
  obtain ⟨A, cc, hv, hnc, hcm, hin⟩ := hin
  subst hv
  have HIN := hide hin
  clear hin
  have hl0 : w.heap.size + 1 + 1 + 1 < w3.heap.size := (unhide K3w3).lt
  have HNC := hide hnc
  have HCM := hide hcm
  clear hnc hcm
  have BN := hide ((unhide BW).alloc (unhide BW).size (.cells (needOf f t).cells 50))
  have NB := hide (Blk.new w3 50 (needOf f t).cells)
  have IN := hide (((unhide HIN).below ((Below.refl w3.heap.size w3).alloc (Nat.le_refl _) (.cells (needOf f t).cells 50))))
  go_wp2_with fail
  refine (unhide C1 _).mono ?_
  rintro e w8 ⟨rfl, hb8⟩
  have B8 := hide ((unhide BN).trans (hb8.mono (unhide BN).size))
  have I8 := hide ((unhide IN).below (hb8.mono (by rw [size_alloc]; omega)))
  have N8 := hide ((unhide NB).below hb8 (unhide NB).lt)
  have hy8 := (unhide K2).below (unhide B8) (unhide K2).lt
  have ht8 := (unhide K3).below (unhide B8) (unhide K3).lt
  have yy0 : w8.cell? ⟨w.heap.size + 1 + 1, 0, none⟩ = some (.int .i64 y.a) := hy8.cell 0
  have tt0 : w8.cell? ⟨w.heap.size + 1 + 1 + 1, 0, none⟩ = some (.int .i64 t.a) := ht8.cell 0
  have yy1 : w8.cell? ⟨w.heap.size + 1 + 1, 1, none⟩ = some (.int .i64 y.b) := hy8.cell 1
  have tt1 : w8.cell? ⟨w.heap.size + 1 + 1 + 1, 1, none⟩ = some (.int .i64 t.b) := ht8.cell 1
  have yy2 : w8.cell? ⟨w.heap.size + 1 + 1, 2, none⟩ = some (.int .i64 y.c) := hy8.cell 2
  have tt2 : w8.cell? ⟨w.heap.size + 1 + 1 + 1, 2, none⟩ = some (.int .i64 t.c) := ht8.cell 2
  clear hy8 ht8
  have hs8 : w3.heap.size + 1 ≤ w8.heap.size := by have := hb8.size; rwa [size_alloc] at this
  clear hb8
  by_cases h1 : 0 ≤ s1
  · go_wp2_with fail
    refine (unhide C2 _).mono ?_
    rintro e w10 ⟨rfl, hb10⟩
    have B10 := hide ((unhide B8).trans (hb10.mono (unhide B8).size))
    have I10 := hide ((unhide I8).below (hb10.mono (by omega)))
    have N10 := hide ((unhide N8).below hb10 (unhide N8).lt)
    have hs10 : w3.heap.size + 1 ≤ w10.heap.size := by have := hb10.size; omega
    clear hb10 yy0 yy1 yy2 tt0 tt1 tt2
    by_cases h2 : s2 < 0
    · skip
      obtain rfl : false = m := by rw [unhide HMW]; simp [h1, h2]
      have nb := unhide N10
      have n0 : w10.cell? ⟨w3.heap.size, 0, none⟩ = some (.string ⟨#[97]⟩) := nb.cell 0
      have n1 : w10.cell? ⟨w3.heap.size, 1, none⟩ = some (.int .i64 f.a) := nb.cell 1
      have n2 : w10.cell? ⟨w3.heap.size, 2, none⟩ = some (.int .i64 f.b) := nb.cell 2
      have n3 : w10.cell? ⟨w3.heap.size, 3, none⟩ = some (.int .i64 f.c) := nb.cell 3
      have n4 : w10.cell? ⟨w3.heap.size, 4, none⟩ = some (.string ⟨#[98]⟩) := nb.cell 4
      have n5 : w10.cell? ⟨w3.heap.size, 5, none⟩ = some (.int .i64 t.a) := nb.cell 5
      have n6 : w10.cell? ⟨w3.heap.size, 6, none⟩ = some (.int .i64 t.b) := nb.cell 6
      have n7 : w10.cell? ⟨w3.heap.size, 7, none⟩ = some (.int .i64 t.c) := nb.cell 7
      clear nb
      go_wp2_with fail
      refine (unhide FM w10 A 2 cc (unhide HNC) (unhide HCM) _ ((unhide I10).more (by omega)) (needOf f t) (need_small f t).1 (need_small f t).2 _ (unhide HMET)).mono ?_
      rintro e w9 ⟨rfl, hb9⟩
      have B9 := hide ((unhide B1).trans (((unhide B10).trans (hb9.mono (unhide B10).size)).mono (unhide B1).size))
      clear hb9 n0 n1 n2 n3 n4 n5 n6 n7
      go_wp2_with fail
      go_ret
      exact ⟨rfl, unhide B9⟩
    · have h2b : 0 ≤ s2 := by omega
      have h2c : decide (s2 < 0) = false := by simp; omega
      obtain rfl : true = m := by rw [unhide HMW]; simp [h2]
      have nb := unhide N10
      have n0 : w10.cell? ⟨w3.heap.size, 0, none⟩ = some (.string ⟨#[97]⟩) := nb.cell 0
      have n1 : w10.cell? ⟨w3.heap.size, 1, none⟩ = some (.int .i64 f.a) := nb.cell 1
      have n2 : w10.cell? ⟨w3.heap.size, 2, none⟩ = some (.int .i64 f.b) := nb.cell 2
      have n3 : w10.cell? ⟨w3.heap.size, 3, none⟩ = some (.int .i64 f.c) := nb.cell 3
      have n4 : w10.cell? ⟨w3.heap.size, 4, none⟩ = some (.string ⟨#[98]⟩) := nb.cell 4
      have n5 : w10.cell? ⟨w3.heap.size, 5, none⟩ = some (.int .i64 t.a) := nb.cell 5
      have n6 : w10.cell? ⟨w3.heap.size, 6, none⟩ = some (.int .i64 t.b) := nb.cell 6
      have n7 : w10.cell? ⟨w3.heap.size, 7, none⟩ = some (.int .i64 t.c) := nb.cell 7
      clear nb
      go_wp2_with fail
      refine (unhide FM w10 A 2 cc (unhide HNC) (unhide HCM) _ ((unhide I10).more (by omega)) (needOf f t) (need_small f t).1 (need_small f t).2 _ (unhide HMET)).mono ?_
      rintro e w9 ⟨rfl, hb9⟩
      have B9 := hide ((unhide B1).trans (((unhide B10).trans (hb9.mono (unhide B10).size)).mono (unhide B1).size))
      clear hb9 n0 n1 n2 n3 n4 n5 n6 n7
      go_wp2_with fail
      go_ret
      exact ⟨rfl, unhide B9⟩
  · have h1b : s1 < 0 := by omega
    obtain rfl : true = m := by rw [unhide HMW]; simp [h1]
    have nb := unhide N8
    have n0 : w8.cell? ⟨w3.heap.size, 0, none⟩ = some (.string ⟨#[97]⟩) := nb.cell 0
    have n1 : w8.cell? ⟨w3.heap.size, 1, none⟩ = some (.int .i64 f.a) := nb.cell 1
    have n2 : w8.cell? ⟨w3.heap.size, 2, none⟩ = some (.int .i64 f.b) := nb.cell 2
    have n3 : w8.cell? ⟨w3.heap.size, 3, none⟩ = some (.int .i64 f.c) := nb.cell 3
    have n4 : w8.cell? ⟨w3.heap.size, 4, none⟩ = some (.string ⟨#[98]⟩) := nb.cell 4
    have n5 : w8.cell? ⟨w3.heap.size, 5, none⟩ = some (.int .i64 t.a) := nb.cell 5
    have n6 : w8.cell? ⟨w3.heap.size, 6, none⟩ = some (.int .i64 t.b) := nb.cell 6
    have n7 : w8.cell? ⟨w3.heap.size, 7, none⟩ = some (.int .i64 t.c) := nb.cell 7
    clear nb
    go_wp2_with fail
    refine (unhide FM w8 A 2 cc (unhide HNC) (unhide HCM) _ ((unhide I8).more (by omega)) (needOf f t) (need_small f t).1 (need_small f t).2 _ (unhide HMET)).mono ?_
    rintro e w9 ⟨rfl, hb9⟩
    have B9 := hide ((unhide B1).trans (((unhide B8).trans (hb9.mono (unhide B8).size)).mono (unhide B1).size))
    clear hb9 n0 n1 n2 n3 n4 n5 n6 n7
    go_wp2_with fail
    go_ret
    exact ⟨rfl, unhide B9⟩
theorem needs_walk (w : World) (x f y t : Ver) (there both : Bool) :
    Calls Tryd.prog 7 #[.agg #[.int .i64 x.a, .int .i64 x.b, .int .i64 x.c], .agg #[.int .i64 f.a, .int .i64 f.b, .int .i64 f.c], .agg #[.int .i64 y.a, .int .i64 y.b, .int .i64 y.c], .agg #[.int .i64 t.a, .int .i64 t.b, .int .i64 t.c], .bool there, .bool both] w fun e w' => e = .returned (.bool true) ∧ Below w.heap.size w w' := by
  cases there <;> cases both
  · exact needs_false_false w x f y t
  · exact needs_false_true w x f y t
  · exact needs_true_false w x f y t
  · exact needs_true_true w x f y t
end Go.Proofs.YtbcbleonpaemgaaDoor
