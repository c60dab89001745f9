/- The law VersionAnswers, walked: it returns true (printed by wip/gen_vansw.py). No condition but the table of powers. -/
import Derived.Test.YtbcbleonpaemgaaDoorVFormat
import Derived.Test.YtbcbleonpaemgaaDoorVRCheck
import Derived.Test.YtbcbleonpaemgaaDoorVCVer
import Derived.Test.YtbcbleonpaemgaaDoorVCName
import Derived.Test.YtbcbleonpaemgaaDoorVFirst
import Derived.Test.YtbcbleonpaemgaaDoorVAwake
import Derived.Deep.CutRange
namespace Go.Proofs.YtbcbleonpaemgaaDoor
open Go.RowKit
theorem NSt.below {w1 W W' : World} {B g : Nat} (h : NSt w1 B g W) (hb : Below W.heap.size W W') : NSt w1 B g W' :=
  ⟨h.1.keep fun b hb' => hb.block b (by have := h.1.lt; omega), ⟨hb.os.trans h.2.os, hb.tape.trans h.2.tape, hb.output.trans h.2.output, Nat.le_trans h.2.size hb.size, fun i hi hn => (hb.block i (Nat.lt_of_lt_of_le hi h.2.size)).trans (h.2.block i hi hn)⟩⟩
theorem InstAt.grown_ {w w' : World} {B mb n : Nat} {row : Option Nat} {L : Nat → Inst} (h : InstAt w B (some ⟨mb, 0, none⟩) n L) (hB : B ≤ w.heap.size) (hg : w.grownBy w' row) (hne : some mb ≠ row) : InstAt w' w'.heap.size (some ⟨mb, 0, none⟩) n L := by
  intro i hi
  obtain ⟨gb, go, e, hl, h0, h1, h2, h3, h4⟩ := h i hi
  injection e with e
  injection e with e1 e2
  subst e1
  have k : ∀ j, w'.cell? ⟨mb, j, none⟩ = w.cell? ⟨mb, j, none⟩ := fun j => World.cell?_of_block (w := w) (hg.block mb (by omega) hne)
  exact ⟨mb, go, by rw [e2], by have := hg.size; omega, h0, (k _).trans h1, (k _).trans h2, (k _).trans h3, (k _).trans h4⟩
theorem made_own {w : World} {base : Nat} {e : TypeId} {v : Value} {l : List Inst} (h1 : 1 ≤ l.length) (h : w.ownsRow base e 4 v l.length (l.flatMap Inst.cs)) (hs : ∀ x ∈ l, x.s.length ≤ maxLen) :
    ∃ mb cap cur, v = .slice (some ⟨mb, 0, none⟩) l.length cap ∧ base ≤ mb ∧ l.length ≤ cap ∧ cap ≤ maxLen ∧ Blk w mb e cur ∧ InstAt w w.heap.size (some ⟨mb, 0, none⟩) l.length (instOf l) := by
  obtain ⟨A, c, rfl, hnc, hcm, hI⟩ := inst_of_own rfl h hs
  rcases h.2 with ⟨_, h0⟩ | ⟨mb, cap, cur, hv, hb, hg, _⟩
  · omega
  · injection hv with hA hl hc
    subst hA hc
    exact ⟨mb, c, cur, rfl, hb, hnc, hcm, hg, hI⟩
def renL (L : Nat → Inst) (s : List UInt8) (i : Nat) : Inst := if i = 0 then ⟨s, (L 0).v⟩ else L i
theorem inst_named {W : World} {mb n : Nat} {L : Nat → Inst} (s : List UInt8) (hs : s.length ≤ maxLen) (h : InstAt W W.heap.size (some ⟨mb, 0, none⟩) n L) : InstAt (W.setCell ⟨mb, 0, none⟩ (.string ⟨s.toArray⟩)) (W.setCell ⟨mb, 0, none⟩ (.string ⟨s.toArray⟩)).heap.size (some ⟨mb, 0, none⟩) n (renL L s) := by
  have gs : W.grownBy (W.setCell ⟨mb, 0, none⟩ (.string ⟨s.toArray⟩)) (some mb) := only_setCell (World.grownBy.refl W _) (.inl rfl) _
  intro i hi
  obtain ⟨gb, go, e, hl, h0, h1, h2, h3, h4⟩ := h i hi
  injection e with e
  injection e with e1 e2
  subst e1
  subst e2
  have k : ∀ j, j ≠ 0 → (W.setCell ⟨mb, 0, none⟩ (.string ⟨s.toArray⟩)).cell? ⟨mb, j, none⟩ = W.cell? ⟨mb, j, none⟩ := fun j hj => World.cell?_setCell_other W ⟨mb, 0, none⟩ ⟨mb, j, none⟩ _ (by intro e; apply hj; injection e with _ e2; exact e2.symm)
  refine ⟨mb, 0, rfl, Nat.lt_of_lt_of_le hl gs.size, ?_, ?_, ?_, ?_, ?_⟩
  · unfold renL; split <;> assumption
  · by_cases hi0 : i = 0
    · subst hi0
      exact World.cell?_setCell_same W _ _ h1
    · rw [k _ (by omega), h1]; simp [renL, hi0]
  · rw [k _ (by omega), h2]; unfold renL; split <;> simp_all
  · rw [k _ (by omega), h3]; unfold renL; split <;> simp_all
  · rw [k _ (by omega), h4]; unfold renL; split <;> simp_all
theorem NSt.more {w1 w2 W : World} {B g : Nat} (h : NSt w1 B g w2) (k : NSt w2 B g W) : NSt w1 B g W := ⟨k.1, grown_trans_some h.2 k.2⟩
def fmtR (x : Ver) : List UInt8 × Int := if validV x = true then (fmtV x.a.toNat x.b.toNat x.c.toNat, 0) else ([], 2)
theorem nat_of_valid {x : Ver} (h : validV x = true) : ∃ a b c : Nat, x = ⟨a, b, c⟩ ∧ a < 1000 ∧ b < 1000 ∧ c < 1000 := by
  obtain ⟨a, b, c⟩ := x
  simp [validV, validR, inN] at h
  exact ⟨a.toNat, b.toNat, c.toNat, by congr 1 <;> omega, by omega, by omega, by omega⟩
theorem format_any (w : World) (hP : Pow10At w) (x : Ver) (D : List UInt8) (e : Int) (h : fmtR x = (D, e)) :
    Calls Tryd.prog 12 #[.agg #[.int .i64 x.a, .int .i64 x.b, .int .i64 x.c]] w fun en w' => en = .returned (.tuple #[.string ⟨D.toArray⟩, .int .i64 e]) ∧ Below w.heap.size w w' := by
  by_cases hv : validV x = true
  · obtain ⟨p, q, r, rfl, hp, hq, hr⟩ := nat_of_valid hv
    rw [fmtR, if_pos hv] at h
    injection h with h1 h2
    subst h2
    exact fmt_ok w hP p q r hp hq hr D h1
  · have hv' : validV x = false := by simpa using hv
    rw [fmtR, if_neg hv] at h
    injection h with h1 h2
    subst h1 h2
    exact fmt_bad w x hv'
theorem rformat_any (w : World) (x : Ver) (D : List UInt8) (e : Int) (h : fmtR x = (D, e)) :
    Calls Tryd.prog 13 #[.agg #[.int .i64 x.a, .int .i64 x.b, .int .i64 x.c]] w fun en w' => en = .returned (.tuple #[.string ⟨D.toArray⟩, .int .i64 e]) ∧ Below w.heap.size w w' := by
  by_cases hv : validV x = true
  · obtain ⟨p, q, r, rfl, hp, hq, hr⟩ := nat_of_valid hv
    rw [fmtR, if_pos hv] at h
    injection h with h1 h2
    subst h2
    exact rfmt_ok w p q r hp hq hr D h1
  · have hv' : validV x = false := by simpa using hv
    rw [fmtR, if_neg hv] at h
    injection h with h1 h2
    subst h1 h2
    exact rfmt_bad w x hv'
set_option maxRecDepth 100000 in
set_option maxHeartbeats 16000000 in
theorem answers_walk (w : World) (A0 : Option Addr) (n0 c0 : Nat) (bs : List UInt8) (hn0 : n0 ≤ c0) (hc0 : c0 ≤ maxLen) (hr0 : Reads w w.heap.size 1 A0 n0 (bsV bs))
    (A1 : Option Addr) (n1 c1 : Nat) (L1 : Nat → Inst) (hn1 : n1 ≤ c1) (hc1 : c1 ≤ maxLen) (hL1 : InstAt w w.heap.size A1 n1 L1)
    (A2 : Option Addr) (n2 c2 : Nat) (N2 : Nat → NeedS) (hn2 : n2 ≤ c2) (hc2 : c2 ≤ maxLen) (hN2 : NeedAt w w.heap.size A2 n2 N2)
    (x y : Ver) (nm : List UInt8) (hnm : nm.length ≤ maxLen) (hP : Pow10At w) :
    Calls Tryd.prog 3 #[.slice A0 n0 c0, .slice A1 n1 c1, .slice A2 n2 c2, .agg #[.int .i64 x.a, .int .i64 x.b, .int .i64 x.c], .agg #[.int .i64 y.a, .int .i64 y.b, .int .i64 y.c], .string ⟨nm.toArray⟩] w fun e w' => e = .returned (.bool true) ∧ Below w.heap.size w w' := by
  have HA := hide awake_any
  have HRD := hide hr0
  have HNEW := hide new_any
  have HN0 := hide hn0
  have HC0 := hide hc0
  have HN1 := hide hn1
  have HC1 := hide hc1
  have HN2 := hide hn2
  have HC2 := hide hc2
  have HL1 := hide hL1
  have HN2A := hide hN2
  have HNM := hide hnm
  have HP := hide hP
  have CVER := hide cver_any
  have CFM := hide format_any
  have CIN := hide installed_any
  have CNX := hide next_any
  have CNM := hide cname_any
  have CND := hide needs_any
  have CKA := hide check_any
  have CKB := hide rcheck_any
  have CMA := hide met_any
  have CMB := hide rmet_any
  have CNA := hide name_any
  have CNB := hide rname_any
  have CRF := hide rformat_any
  have CVL := hide val_any
  have CRV := hide rval_any
  have CCP := hide cmp_any
  have CRC := hide rcmp_any
  obtain ⟨W0, hW0⟩ : ∃ W0, (w.alloc (.cells #[.int .i64 x.a, .int .i64 x.b, .int .i64 x.c] 26)).alloc (.cells #[.int .i64 y.a, .int .i64 y.b, .int .i64 y.c] 26) = W0 := ⟨_, rfl⟩
  have X0 : Hid (Blk W0 w.heap.size 26 #[.int .i64 x.a, .int .i64 x.b, .int .i64 x.c]) := hide (hW0 ▸ (Blk.new w _ _).alloc _)
  have Y0 : Hid (Blk W0 (w.heap.size + 1) 26 #[.int .i64 y.a, .int .i64 y.b, .int .i64 y.c]) := hide (hW0 ▸ Blk.new' (by simp))
  have B0 : Hid (Below w.heap.size w W0) := hide (hW0 ▸ ((Below.refl w.heap.size w).alloc (Nat.le_refl _) _).alloc (by simp) _)
  have HW0 := hide hW0
  have hz0 : w.heap.size + 1 < W0.heap.size := (unhide Y0).lt
  have HZ0 := hide hz0
  clear hr0 hn0 hc0 hn1 hc1 hn2 hc2 hL1 hN2 hnm hP hW0 hz0
  go_enter Tryd.func3, Tryd.ntmps3
  go_wp2_with fail
  rw [unhide HW0]
  refine (unhide HA _).mono ?_
  rintro e w1 ⟨rfl, hb1⟩
  have B1 := hide ((unhide B0).trans (hb1.mono (unhide B0).size))
  have RD1 := hide (((unhide HRD).below (unhide B1)).more (unhide B1).size)
  have X1 := hide ((unhide X0).below hb1 (unhide X0).lt)
  have Y1 := hide ((unhide Y0).below hb1 (unhide Y0).lt)
  clear hb1 X0 Y0 B0 HW0
  by_cases hbig : 20 < n1 ∨ 40 < n2
  · by_cases hb1 : 20 < n1
    · have hb1' : ((20:Int) < (n1 : Int)) = True := by simp; omega
      go_wp2_with fail
      go_ret
      exact ⟨rfl, unhide B1⟩
    · have hb1' : ((20:Int) < (n1 : Int)) = False := by simp; omega
      have hb2' : ((40:Int) < (n2 : Int)) = True := by simp; omega
      go_wp2_with fail
      go_ret
      exact ⟨rfl, unhide B1⟩
  have hb1' : ((20:Int) < (n1 : Int)) = False := by simp; omega
  have hb2' : ((40:Int) < (n2 : Int)) = False := by simp; omega
  have hs1 : n1 ≤ 20 := by omega
  have hs2 : n2 ≤ 40 := by omega
  clear hbig
  go_wp2_with fail
  refine (unhide HNEW _ A0 n0 c0 bs 160 (unhide RD1) (unhide HN0) (unhide HC0) (by omega)).mono ?_
  rintro e w2 ⟨rfl, hcod, hb2⟩
  obtain ⟨g, hg⟩ : ∃ g, w1.heap.size = g := ⟨_, rfl⟩
  have hgw : w.heap.size + 1 < g := by have := (unhide Y1).lt; omega
  have X2 := hide ((unhide X1).below hb2 (unhide X1).lt)
  have Y2 := hide ((unhide Y1).below hb2 (unhide Y1).lt)
  have B2 := hide ((unhide B1).trans (hb2.mono (unhide B1).size))
  rw [hg] at hcod
  rw [hg]
  have COD := hide hcod
  have HB : Hid (∀ W, NSt w2 g g W → Below w.heap.size w W) := hide (fun W h => (unhide B2).grown h.2 (unhide B2).size (fun j e => by injection e with e; omega))
  clear hcod hb2 X1 Y1 HNEW HRD RD1 B1 hg
  go_upto_region 6 with fail

  have hS0 : NSt w2 g g w2.drew := NSt.drew ⟨unhide COD, World.grownBy.refl _ _⟩
  refine wp_region_noPanic (wp_region_held_drew (S := NSt w2 g g) (by kernel_rfl) hS0 (fun _ => ?_))
  refine th_take (i := 0) rfl (by kernel_rfl) (by kernel_rfl) (by kernel_rfl) (y_loadblk 26 (.tmp 9) (by rfl) rfl w.heap.size rfl 26 #[.int .i64 x.a, .int .i64 x.b, .int .i64 x.c] _ (fun _ h => (unhide X2).grown h.2 (by intro e; injection e with e; omega)) Tryd.underlying26 rfl (by kernel_rfl)) hS0 ?_
  simp only [Act.put, List.setIfInBounds_toArray, List.set_cons_zero, List.set_cons_succ]
  refine th_take (i := 1) rfl (by kernel_rfl) (by kernel_rfl) (by kernel_rfl) (y_loadblk 26 (.tmp 10) (by rfl) rfl (w.heap.size + 1) rfl 26 #[.int .i64 y.a, .int .i64 y.b, .int .i64 y.c] _ (fun _ h => (unhide Y2).grown h.2 (by intro e; injection e with e; omega)) Tryd.underlying26 rfl (by kernel_rfl)) hS0 ?_
  simp only [Act.put, List.setIfInBounds_toArray, List.set_cons_zero, List.set_cons_succ]
  refine th_take (i := 2) (v := ?_) rfl (by kernel_rfl) (by kernel_rfl) (by kernel_rfl) (Or.inl ⟨by rfl, fun wz hSw => ?_⟩) hS0 ?_
  rotate_left
  · go_simp
    with_reducible rfl
  simp only [Act.put, List.setIfInBounds_toArray, List.set_cons_zero, List.set_cons_succ]
  refine th_take (i := 3) (v := ?_) rfl (by kernel_rfl) (by kernel_rfl) (by kernel_rfl) (Or.inl ⟨by rfl, fun wz hSw => ?_⟩) hS0 ?_
  rotate_left
  · go_simp
    with_reducible rfl
  simp only [Act.put, List.setIfInBounds_toArray, List.set_cons_zero, List.set_cons_succ]
  refine th_take (i := 5) (v := ?_) rfl (by kernel_rfl) (by kernel_rfl) (by kernel_rfl) (Or.inl ⟨by rfl, fun wz hSw => ?_⟩) hS0 ?_
  rotate_left
  · go_simp
    with_reducible rfl
  simp only [Act.put, List.setIfInBounds_toArray, List.set_cons_zero, List.set_cons_succ]
  refine th_take (i := 10) (v := ?_) rfl (by kernel_rfl) (by kernel_rfl) (by kernel_rfl) (Or.inl ⟨by rfl, fun wz hSw => ?_⟩) hS0 ?_
  rotate_left
  · go_simp
    with_reducible rfl
  simp only [Act.put, List.setIfInBounds_toArray, List.set_cons_zero, List.set_cons_succ]
  refine th_one (i := 4) rfl (by kernel_rfl) (fun K hK => ?_)
  rw [if_pos (by rfl)]
  go_simp
  refine (unhide CVER _ g g hS0.1).mono ?_
  rintro e w3 ⟨p3, rfl, ha3, hb3, hc3, hcc, hgg⟩
  have hS3 : NSt w2 g g w3 := hS0.call hcc hgg
  clear hcc hgg
  refine hK.out _ _ hS3 (fun _ => ?_)
  clear hK K
  try simp only [Act.put, List.setIfInBounds_toArray, List.set_cons_zero, List.set_cons_succ]
  refine th_one (i := 6) rfl (by kernel_rfl) (fun K hK => ?_)
  rw [if_pos (by rfl)]
  go_simp
  refine (unhide CVER _ g g hS3.1).mono ?_
  rintro e w4 ⟨p4, rfl, ha4, hb4, hc4, hcc, hgg⟩
  have hS4 : NSt w2 g g w4 := hS3.call hcc hgg
  clear hcc hgg
  refine hK.out _ _ hS4 (fun _ => ?_)
  clear hK K
  try simp only [Act.put, List.setIfInBounds_toArray, List.set_cons_zero, List.set_cons_succ]
  refine th_take (i := 7) (v := ?_) rfl (by kernel_rfl) (by kernel_rfl) (by kernel_rfl) (Or.inl ⟨by rfl, fun wz hSw => ?_⟩) hS4 ?_
  rotate_left
  · go_simp
    with_reducible rfl
  simp only [Act.put, List.setIfInBounds_toArray, List.set_cons_zero, List.set_cons_succ]
  refine th_one (i := 8) rfl (by kernel_rfl) (fun K hK => ?_)
  rw [if_pos (by rfl)]
  go_simp
  obtain ⟨q, hq⟩ : ∃ q, w4.heap.size = q := ⟨_, rfl⟩
  obtain ⟨W5, hW5⟩ : ∃ W5, w4.alloc (.cells #[.int .i64 x.a, .int .i64 x.b, .int .i64 x.c, .int .i64 y.a, .int .i64 y.b, .int .i64 y.c, .int .i64 p3.a, .int .i64 p3.b, .int .i64 p3.c, .int .i64 p4.a, .int .i64 p4.b, .int .i64 p4.c] 30) = W5 := ⟨_, rfl⟩
  have Q5 : Hid (Blk W5 q 30 #[.int .i64 x.a, .int .i64 x.b, .int .i64 x.c, .int .i64 y.a, .int .i64 y.b, .int .i64 y.c, .int .i64 p3.a, .int .i64 p3.b, .int .i64 p3.c, .int .i64 p4.a, .int .i64 p4.b, .int .i64 p4.c]) := hide (hq ▸ hW5 ▸ Blk.new w4 _ _)
  have hS5 : NSt w2 g g W5 := hW5 ▸ hS4.alloc _
  rw [hW5, hq]
  clear hW5 hq
  refine hK.out _ _ hS5 (fun _ => ?_)
  clear hK K
  try simp only [Act.put, List.setIfInBounds_toArray, List.set_cons_zero, List.set_cons_succ]
  refine th_take (i := 9) (v := ?_) rfl (by kernel_rfl) (by kernel_rfl) (by kernel_rfl) (Or.inl ⟨by rfl, fun wz hSw => ?_⟩) hS5 ?_
  rotate_left
  · go_simp
    with_reducible rfl
  simp only [Act.put, List.setIfInBounds_toArray, List.set_cons_zero, List.set_cons_succ]
  refine wpAnyH_done (by kernel_rfl) (NoPanic.normal ?_) _
  have S5 := hide hS5
  clear hS0 hS3 hS4 hS5 ha3 hb3 hc3 ha4 hb4 hc4
  have BW := hide (Below.refl W5.heap.size W5)
  go_wp2_with fail
  go_loopw [53] (fun i wr => ∃ k : Nat, k ≤ 2 ∧ i = .int .i64 k ∧ Below W5.heap.size W5 wr) (fun i _ => 2 - (intOf i).toNat)
  case atStart => exact ⟨0, by omega, rfl, unhide BW⟩
  case round =>
    obtain ⟨k, hk, rfl, hBB⟩ := hrel
    have BB := hide hBB
    have SB := hide ((unhide S5).below hBB)
    have hql := (unhide Q5).below hBB (unhide Q5).lt
    clear hBB
    by_cases hlt : k < 2
    · obtain ⟨u, v, c0, c1, c2, c3, c4, c5⟩ : ∃ u v : Ver, wr.cell? ⟨q, k * 6, none⟩ = some (.int .i64 u.a) ∧ wr.cell? ⟨q, k * 6 + 1, none⟩ = some (.int .i64 u.b) ∧ wr.cell? ⟨q, k * 6 + 2, none⟩ = some (.int .i64 u.c) ∧ wr.cell? ⟨q, k * 6 + 3, none⟩ = some (.int .i64 v.a) ∧ wr.cell? ⟨q, k * 6 + 4, none⟩ = some (.int .i64 v.b) ∧ wr.cell? ⟨q, k * 6 + 5, none⟩ = some (.int .i64 v.c) := by
        have hk2 : k = 0 ∨ k = 1 := by omega
        rcases hk2 with rfl | rfl
        · exact ⟨x, y, hql.cell 0, hql.cell 1, hql.cell 2, hql.cell 3, hql.cell 4, hql.cell 5⟩
        · exact ⟨p3, p4, hql.cell 6, hql.cell 7, hql.cell 8, hql.cell 9, hql.cell 10, hql.cell 11⟩
      have hq0 : q < wr.heap.size := hql.lt
      have hlt2 : (k : Int) < 2 := by omega
      obtain ⟨W7, hW7⟩ : ∃ W7, wr.alloc (.cells #[.int .i64 u.a, .int .i64 u.b, .int .i64 u.c, .int .i64 v.a, .int .i64 v.b, .int .i64 v.c] 30) = W7 := ⟨_, rfl⟩
      obtain ⟨b, hb⟩ : ∃ b, wr.heap.size = b := ⟨_, rfl⟩
      have X7 : Hid (Blk W7 b 30 #[.int .i64 u.a, .int .i64 u.b, .int .i64 u.c, .int .i64 v.a, .int .i64 v.b, .int .i64 v.c]) := hide (hb ▸ hW7 ▸ Blk.new wr _ _)
      have B7 : Hid (Below W5.heap.size W5 W7) := hide (hW7 ▸ (unhide BB).alloc (unhide BB).size _)
      have HW7 := hide hW7
      have HBB := hide hb
      obtain ⟨⟨D, ef⟩, hD⟩ : ∃ r, fmtR u = r := ⟨_, rfl⟩
      have HD := hide hD
      have P7 : Hid (Pow10At W7) := hide ((unhide HP).below ((unhide HB) _ ((unhide S5).below (unhide B7))))
      clear hql hW7 hb hD
      go_upto_region 9 with fail
      rw [unhide HW7, unhide HBB]
      clear c0 c1 c2 c3 c4 c5
      have d0 : W7.cell? ⟨b, 0, none⟩ = some (.int .i64 u.a) := (unhide X7).cell 0
      have d1 : W7.cell? ⟨b, 1, none⟩ = some (.int .i64 u.b) := (unhide X7).cell 1
      have d2 : W7.cell? ⟨b, 2, none⟩ = some (.int .i64 u.c) := (unhide X7).cell 2
      have d3 : W7.cell? ⟨b, 3, none⟩ = some (.int .i64 v.a) := (unhide X7).cell 3
      have d4 : W7.cell? ⟨b, 4, none⟩ = some (.int .i64 v.b) := (unhide X7).cell 4
      have d5 : W7.cell? ⟨b, 5, none⟩ = some (.int .i64 v.c) := (unhide X7).cell 5
      have hbl : b < W7.heap.size := (unhide X7).lt
      go_wp2_with fail
      refine (unhide CFM _ (unhide P7) u D ef (unhide HD)).mono ?_
      rintro e w8 ⟨rfl, hb8⟩
      have B8 := hide ((unhide B7).trans (hb8.mono (unhide B7).size))
      have X8 := hide ((unhide X7).below hb8 (unhide X7).lt)
      clear hb8 d0 d1 d2 d3 d4 d5 hbl
      go_upto_region 10 with fail
      have d0 : w8.cell? ⟨b, 0, none⟩ = some (.int .i64 u.a) := (unhide X8).cell 0
      have d1 : w8.cell? ⟨b, 1, none⟩ = some (.int .i64 u.b) := (unhide X8).cell 1
      have d2 : w8.cell? ⟨b, 2, none⟩ = some (.int .i64 u.c) := (unhide X8).cell 2
      have d3 : w8.cell? ⟨b, 3, none⟩ = some (.int .i64 v.a) := (unhide X8).cell 3
      have d4 : w8.cell? ⟨b, 4, none⟩ = some (.int .i64 v.b) := (unhide X8).cell 4
      have d5 : w8.cell? ⟨b, 5, none⟩ = some (.int .i64 v.c) := (unhide X8).cell 5
      have hbl : b < w8.heap.size := (unhide X8).lt
      go_wp2_with fail
      refine (unhide CRF _ u D ef (unhide HD)).mono ?_
      rintro e w9 ⟨rfl, hb9⟩
      have B9 := hide ((unhide B8).trans (hb9.mono (unhide B8).size))
      have hx9 := (unhide X8).below hb9 (unhide X8).lt
      clear hb9 d0 d1 d2 d3 d4 d5 hbl
      go_upto_region 11 with fail
      have hin : Nonempty (InClass (fun W => Below w9.heap.size w9 W)) := ⟨⟨_, Below.refl _ _⟩⟩
      obtain ⟨bv, hbv⟩ : ∃ r, validV u = r := ⟨_, rfl⟩
      obtain ⟨cv, hcv⟩ : ∃ r, cmp3 u v = r := ⟨_, rfl⟩
      have K1 : Hid (∀ x' : InClass (fun W => Below w9.heap.size w9 W), Calls Tryd.prog 14 #[.agg #[.int .i64 u.a, .int .i64 u.b, .int .i64 u.c]] x'.val fun e w'' => e = .returned (.bool bv) ∧ ∃ y' : InClass (fun W => Below w9.heap.size w9 W), w'' = y'.val) := hide fun x' => class_call (unhide CVL x'.val u bv hbv) fun w' h => x'.ok.trans (h.mono x'.ok.size)
      have K2 : Hid (∀ x' : InClass (fun W => Below w9.heap.size w9 W), Calls Tryd.prog 15 #[.agg #[.int .i64 u.a, .int .i64 u.b, .int .i64 u.c]] x'.val fun e w'' => e = .returned (.bool bv) ∧ ∃ y' : InClass (fun W => Below w9.heap.size w9 W), w'' = y'.val) := hide fun x' => class_call ((unhide CRV x'.val u bv hbv).mono fun _ _ h => ⟨h.1, by rw [h.2]; exact (Below.refl _ _).alloc (Nat.le_refl _) _⟩) fun w' h => x'.ok.trans (h.mono x'.ok.size)
      have K3 : Hid (∀ x' : InClass (fun W => Below w9.heap.size w9 W), Calls Tryd.prog 16 #[.agg #[.int .i64 u.a, .int .i64 u.b, .int .i64 u.c], .agg #[.int .i64 v.a, .int .i64 v.b, .int .i64 v.c]] x'.val fun e w'' => e = .returned (.int .i64 cv) ∧ ∃ y' : InClass (fun W => Below w9.heap.size w9 W), w'' = y'.val) := hide fun x' => class_call (unhide CCP x'.val u v cv hcv) fun w' h => x'.ok.trans (h.mono x'.ok.size)
      have K4 : Hid (∀ x' : InClass (fun W => Below w9.heap.size w9 W), Calls Tryd.prog 17 #[.agg #[.int .i64 u.a, .int .i64 u.b, .int .i64 u.c], .agg #[.int .i64 v.a, .int .i64 v.b, .int .i64 v.c]] x'.val fun e w'' => e = .returned (.int .i64 cv) ∧ ∃ y' : InClass (fun W => Below w9.heap.size w9 W), w'' = y'.val) := hide fun x' => class_call (unhide CRC x'.val u v cv hcv) fun w' h => x'.ok.trans (h.mono x'.ok.size)
      have G0 : Hid (∀ x' : InClass (fun W => Below w9.heap.size w9 W), x'.val.cell? ⟨b, 0, none⟩ = some (.int .i64 u.a)) := hide fun x' => (hx9.below x'.ok hx9.lt).cell 0
      have G1 : Hid (∀ x' : InClass (fun W => Below w9.heap.size w9 W), x'.val.cell? ⟨b, 1, none⟩ = some (.int .i64 u.b)) := hide fun x' => (hx9.below x'.ok hx9.lt).cell 1
      have G2 : Hid (∀ x' : InClass (fun W => Below w9.heap.size w9 W), x'.val.cell? ⟨b, 2, none⟩ = some (.int .i64 u.c)) := hide fun x' => (hx9.below x'.ok hx9.lt).cell 2
      have G3 : Hid (∀ x' : InClass (fun W => Below w9.heap.size w9 W), x'.val.cell? ⟨b, 3, none⟩ = some (.int .i64 v.a)) := hide fun x' => (hx9.below x'.ok hx9.lt).cell 3
      have G4 : Hid (∀ x' : InClass (fun W => Below w9.heap.size w9 W), x'.val.cell? ⟨b, 4, none⟩ = some (.int .i64 v.b)) := hide fun x' => (hx9.below x'.ok hx9.lt).cell 4
      have G5 : Hid (∀ x' : InClass (fun W => Below w9.heap.size w9 W), x'.val.cell? ⟨b, 5, none⟩ = some (.int .i64 v.c)) := hide fun x' => (hx9.below x'.ok hx9.lt).cell 5
      have hS9 := hide ((Below.refl w9.heap.size w9).drew)
      clear hx9 hbv hcv
      refine wp_region_class (fun W => Below w9.heap.size w9 W) (by kernel_rfl) (by kernel_rfl) (unhide hS9) ?_
      have g0 := unhide G0
      have g1 := unhide G1
      have g2 := unhide G2
      have g3 := unhide G3
      have g4 := unhide G4
      have g5 := unhide G5
      repeat (go_big_quiet_step (first | (go_at_call 14; exact (unhide K1) _) | (go_at_call 15; exact (unhide K2) _) | (go_at_call 16; exact (unhide K3) _) | (go_at_call 17; exact (unhide K4) _)))
      refine wpQuiet_nil ?_
      intro _ hw'
      obtain ⟨x13, hw''⟩ := hw'
      subst hw''
      have B13 := hide ((unhide B9).trans (x13.ok.mono (unhide B9).size))
      clear g0 g1 g2 g3 g4 g5 K1 K2 K3 K4
      go_wp2_with fail
      go_roundw
      case rel => exact ⟨k + 1, by omega, by go_num, unhide B13⟩
      case measure => simp [intOf]; omega
    · obtain rfl : k = 2 := by omega
      go_upto_region 14 with fail
      have S11 := hide (unhide SB)
      clear BW BB
      go_wp2_with fail
      refine (unhide CIN _ g g (unhide S11).1).mono ?_
      rintro e w12 ⟨vm, l, rfl, hl1, hl5, hln, hlv, hown, hcc, hgg⟩
      have hS12 := (unhide S11).call hcc hgg
      obtain ⟨mb, cap, cur, rfl, hmb, hnc, hcm, hcur, hIM⟩ := made_own hl1 hown (inst_len l _ hln)
      have hmg : g < mb := by have := (unhide S11).1.lt; omega
      have hm2 : w2.heap.size ≤ mb := by have := (unhide S11).size; omega
      obtain ⟨n, hn⟩ : ∃ n, l.length = n := ⟨_, rfl⟩
      obtain ⟨LM, hLM⟩ : ∃ L, instOf l = L := ⟨_, rfl⟩
      rw [hn] at hl1 hl5 hnc hIM
      rw [hLM] at hIM
      rw [hn]
      have S12 := hide hS12
      have IM := hide hIM
      have BC := hide hcur
      have HNC := hide hnc
      have HCM := hide hcm
      clear hcc hgg hS12 hIM hcur hown hln hlv hn hLM hnc hcm hmb SB S11 Q5 S5
      go_wp2_with fail
      refine (unhide CNX _ g g 8 (unhide S12).1 (by omega) (by omega)).mono ?_
      rintro e w13 ⟨r, rfl, hr0, hr1, hcc, hgg⟩
      have S13 := hide ((unhide S12).call hcc hgg)
      have I13 := hide ((unhide IM).grown_ (Nat.le_refl _) hgg (by intro e; injection e with e; omega))
      have BC13 := hide ((unhide BC).grown hgg (by intro e; injection e with e; omega))
      clear hcc hgg hr0 hr1 IM BC S12
      go_upto_if 104 with fail
      go_cut [] from 102 to 109 (fun wx => ∃ L : Nat → Inst, NSt w2 g g wx ∧ InstAt wx wx.heap.size (some ⟨mb, 0, none⟩) n L)
      case first =>
        by_cases hr7 : r = 7
        · have he7 : (r == 7) = true := by simpa using hr7
          clear hr7
          go_wp2_with fail
          refine (unhide CNM _ g g (unhide S13).1).mono ?_
          rintro e w14 ⟨s, rfl, hsl, hcc, hgg⟩
          have S14 := hide ((unhide S13).call hcc hgg)
          have I14 := (unhide I13).grown_ (Nat.le_refl _) hgg (by intro e; injection e with e; omega)
          have BC14 := (unhide BC13).grown hgg (by intro e; injection e with e; omega)
          obtain ⟨gb', go', he', hl', _, hcl, _⟩ := I14 0 (by omega)
          injection he' with he'
          injection he' with he1 he2
          subst he1
          subst he2
          have hfz : w14.frozen? ⟨mb, 0, none⟩ = false := BC14.frozen 0
          have hcl0 : w14.cell? ⟨mb, 0, none⟩ = some (.string ⟨(LM 0).s.toArray⟩) := hcl
          have gs : w14.grownBy (w14.setCell ⟨mb, 0, none⟩ (.string ⟨s.toArray⟩)) (some mb) := only_setCell (World.grownBy.refl w14 _) (.inl rfl) _
          have F14 := hide (show ∃ L : Nat → Inst, NSt w2 g g (w14.setCell ⟨mb, 0, none⟩ (.string ⟨s.toArray⟩)) ∧ InstAt (w14.setCell ⟨mb, 0, none⟩ (.string ⟨s.toArray⟩)) (w14.setCell ⟨mb, 0, none⟩ (.string ⟨s.toArray⟩)).heap.size (some ⟨mb, 0, none⟩) n L from ⟨_, (unhide S14).far gs hmg hm2, inst_named s (by unfold maxLen; omega) I14⟩)
          have hn0 : (0 : Int) < (n : Int) := by omega
          clear hcc hgg I14 BC14 gs hcl
          go_wp2_with fail
          go_meet
          exact unhide F14
        · have he7 : (r == 7) = false := by simpa using hr7
          go_wp2_with fail
          go_meet
          exact ⟨_, unhide S13, unhide I13⟩
      case rest =>
        obtain ⟨L3, hS15, hI15⟩ := hcut
        have S15 := hide hS15
        have I15 := hide hI15
        clear hS15 hI15 I13 S13 BC13
        obtain ⟨gb', go', he', hl', hsl, hcl, _⟩ := (unhide I15) 0 (by omega)
        injection he' with he'
        injection he' with he1 he2
        subst he1
        subst he2
        obtain ⟨s0, hs0⟩ : ∃ s, (L3 0).s = s := ⟨_, rfl⟩
        rw [hs0] at hsl hcl
        have hcl0 : wc.cell? ⟨mb, 0, none⟩ = some (.string ⟨s0.toArray⟩) := hcl
        obtain ⟨b1, hb1⟩ : ∃ b, nameF nm = b := ⟨_, rfl⟩
        obtain ⟨b2, hb2⟩ : ∃ b, nameF s0 = b := ⟨_, rfl⟩
        have hin : Nonempty (InClass (fun W => Below wc.heap.size wc W)) := ⟨⟨_, Below.refl _ _⟩⟩
        have K1 : Hid (∀ x' : InClass (fun W => Below wc.heap.size wc W), Calls Tryd.prog 21 #[.string ⟨nm.toArray⟩] x'.val fun e w'' => e = .returned (.bool b1) ∧ ∃ y' : InClass (fun W => Below wc.heap.size wc W), w'' = y'.val) := hide fun x' => (unhide CNA x'.val nm (unhide HNM) _ hb1).mono fun e w'' h => ⟨h.1, x', h.2.symm⟩
        have K2 : Hid (∀ x' : InClass (fun W => Below wc.heap.size wc W), Calls Tryd.prog 22 #[.string ⟨nm.toArray⟩] x'.val fun e w'' => e = .returned (.bool b1) ∧ ∃ y' : InClass (fun W => Below wc.heap.size wc W), w'' = y'.val) := hide fun x' => (unhide CNB x'.val nm (unhide HNM) _ hb1).mono fun e w'' h => ⟨h.1, x', h.2.symm⟩
        have K3 : Hid (∀ x' : InClass (fun W => Below wc.heap.size wc W), Calls Tryd.prog 21 #[.string ⟨s0.toArray⟩] x'.val fun e w'' => e = .returned (.bool b2) ∧ ∃ y' : InClass (fun W => Below wc.heap.size wc W), w'' = y'.val) := hide fun x' => (unhide CNA x'.val s0 hsl _ hb2).mono fun e w'' h => ⟨h.1, x', h.2.symm⟩
        have K4 : Hid (∀ x' : InClass (fun W => Below wc.heap.size wc W), Calls Tryd.prog 22 #[.string ⟨s0.toArray⟩] x'.val fun e w'' => e = .returned (.bool b2) ∧ ∃ y' : InClass (fun W => Below wc.heap.size wc W), w'' = y'.val) := hide fun x' => (unhide CNB x'.val s0 hsl _ hb2).mono fun e w'' h => ⟨h.1, x', h.2.symm⟩
        have G0 : Hid (∀ x' : InClass (fun W => Below wc.heap.size wc W), x'.val.cell? ⟨mb, 0, none⟩ = some (.string ⟨s0.toArray⟩)) := hide fun x' => (x'.ok.cell (p := ⟨mb, _, none⟩) hl').trans hcl0
        have hn0 : (0 : Int) < (n : Int) := by omega
        have hS15 := hide ((Below.refl wc.heap.size wc).drew)
        clear hs0 hb1 hb2 hcl hcl0 hsl
        go_upto_region 17 with fail
        refine wp_region_class (fun W => Below wc.heap.size wc W) (by kernel_rfl) (by kernel_rfl) (unhide hS15) ?_
        have g0 := unhide G0
        iterate 2 (go_big_quiet_step ((go_at_call 21; exact (unhide K1) _)))
        iterate 6 (go_big_quiet_step ((go_at_call 22; exact (unhide K2) _)))
        iterate 5 (go_big_quiet_step ((go_at_call 21; exact (unhide K3) _)))
        repeat (go_big_quiet_step ((go_at_call 22; exact (unhide K4) _)))
        refine wpQuiet_nil ?_
        intro _ hw'
        obtain ⟨x17, hw''⟩ := hw'
        subst hw''
        have S17 := hide ((unhide S15).below x17.ok)
        have I17 := hide (((unhide I15).below x17.ok).more x17.ok.size)
        clear g0 K1 K2 K3 K4 S15 I15 hl' hS15 hin
        obtain ⟨w17, hw17⟩ : ∃ w17, x17.val = w17 := ⟨_, rfl⟩
        rw [hw17] at S17 I17 ⊢
        clear hw17
        obtain ⟨W18, hW18⟩ : ∃ W, w17.alloc (.cells #[.slice A1 n1 c1, .slice (some ⟨mb, 0, none⟩) n cap] 23) = W := ⟨_, rfl⟩
        obtain ⟨ql, hql⟩ : ∃ q, w17.heap.size = q := ⟨_, rfl⟩
        have QL : Hid (Blk W18 ql 23 #[.slice A1 n1 c1, .slice (some ⟨mb, 0, none⟩) n cap]) := hide (hql ▸ hW18 ▸ Blk.new w17 _ _)
        have S18 : Hid (NSt w2 g g W18) := hide (hW18 ▸ (unhide S17).alloc _)
        have I18 : Hid (InstAt W18 W18.heap.size (some ⟨mb, 0, none⟩) n L3) := hide (by have h := (unhide I17).below ((Below.refl w17.heap.size w17).alloc (Nat.le_refl _) (.cells #[.slice A1 n1 c1, .slice (some ⟨mb, 0, none⟩) n cap] 23)); rw [hW18] at h; exact h.more (by rw [← hW18, size_alloc]; omega))
        have hqg : g < ql := by rw [← hql]; exact (unhide S17).1.lt
        have HW18 := hide hW18
        have HQ18 := hide hql
        clear hW18 hql S17 I17
        go_upto_region 20 with fail
        rw [unhide HW18, unhide HQ18]
        clear HW18 HQ18
        have N18 : Hid (NSt W18 g g W18) := hide ⟨(unhide S18).1, World.grownBy.refl _ _⟩
        go_loopw [132] (fun i wr => ∃ k : Nat, k ≤ 2 ∧ i = .int .i64 k ∧ NSt W18 g g wr) (fun i _ => 2 - (intOf i).toNat)
        case atStart => exact ⟨0, by omega, rfl, unhide N18⟩
        case round =>
          obtain ⟨k, hk, rfl, hN⟩ := hrel
          have NK := hide hN
          have hql := (unhide QL).grown hN.2 (by intro e; injection e with e; omega)
          clear hN
          by_cases hlt : k < 2
          · obtain ⟨Ak, nk, ck, Lk, hcl, hnk, hck, hIk⟩ : ∃ (A : Option Addr) (n' c' : Nat) (L : Nat → Inst), wr.cell? ⟨ql, k, none⟩ = some (.slice A n' c') ∧ n' ≤ c' ∧ c' ≤ maxLen ∧ ∀ W, NSt W18 g g W → InstAt W W.heap.size A n' L := by
              have hk2 : k = 0 ∨ k = 1 := by omega
              rcases hk2 with rfl | rfl
              · exact ⟨A1, n1, c1, L1, hql.cell 0, unhide HN1, unhide HC1, fun W hW => by have hb := (unhide HB) W ((unhide S18).more hW); exact ((unhide HL1).below hb).more hb.size⟩
              · exact ⟨some ⟨mb, 0, none⟩, n, cap, L3, hql.cell 1, unhide HNC, unhide HCM, fun W hW => (unhide I18).grown_ (Nat.le_refl _) hW.2 (by intro e; injection e with e; omega)⟩
            have hq0 : ql < wr.heap.size := hql.lt
            have hlt2 : (k : Int) < 2 := by omega
            have HNK := hide hnk
            have HCK := hide hck
            have HIK := hide hIk
            clear hql hIk hnk hck
            go_wp2_with fail
            refine (unhide CND _ g g 5 (by omega) (unhide NK).1).mono ?_
            rintro e w22 ⟨vn, ln, rfl, hm5, hlo, hown, hcc, hgg⟩
            obtain ⟨AN, cn, rfl, hmd, hdm, hNM⟩ := need_of_own rfl hown (first_len ln hlo)
            have N22 := hide ((unhide NK).call hcc hgg)
            obtain ⟨mn, hmn⟩ : ∃ m, ln.length = m := ⟨_, rfl⟩
            obtain ⟨NM, hNMe⟩ : ∃ N, needOf ln = N := ⟨_, rfl⟩
            rw [hmn] at hm5 hmd hNM
            rw [hNMe] at hNM
            rw [hmn]
            obtain ⟨W23, hW23⟩ : ∃ W, w22.alloc (.cells #[.slice A2 n2 c2, .slice AN mn cn] 24) = W := ⟨_, rfl⟩
            obtain ⟨qn, hqn⟩ : ∃ q, w22.heap.size = q := ⟨_, rfl⟩
            have QN : Hid (Blk W23 qn 24 #[.slice A2 n2 c2, .slice AN mn cn]) := hide (hqn ▸ hW23 ▸ Blk.new w22 _ _)
            have N23 : Hid (NSt W18 g g W23) := hide (hW23 ▸ (unhide N22).alloc _)
            have M23 : Hid (NeedAt W23 W23.heap.size AN mn NM) := hide (by have h := hNM.below ((Below.refl w22.heap.size w22).alloc (Nat.le_refl _) (.cells #[.slice A2 n2 c2, .slice AN mn cn] 24)); rw [hW23] at h; exact h.more (by rw [← hW23, size_alloc]; omega))
            have R23 : Hid (NeedAt W23 W23.heap.size A2 n2 N2) := hide (by have hb := (unhide HB) W23 ((unhide S18).more (unhide N23)); exact ((unhide HN2A).below hb).more hb.size)
            have I23 : Hid (InstAt W23 W23.heap.size Ak nk Lk) := hide ((unhide HIK) _ (unhide N23))
            have HMD := hide hmd
            have HDM := hide hdm
            have HW23 := hide hW23
            have HQ23 := hide hqn
            have BW23 := hide (Below.refl W23.heap.size W23)
            clear hcc hgg hown hNM hmn hNMe hmd hdm hW23 hqn hlo NK hcl N22
            go_upto_region 23 with fail
            rw [unhide HW23, unhide HQ23]
            clear HW23 HQ23
            go_loopw [141] (fun i wr => ∃ j : Nat, j ≤ 2 ∧ i = .int .i64 j ∧ Below W23.heap.size W23 wr) (fun i _ => 2 - (intOf i).toNat)
            case atStart => exact ⟨0, by omega, rfl, unhide BW23⟩
            case round =>
              obtain ⟨j, hj, rfl, hB⟩ := hrel
              have BJ := hide hB
              have hqn := (unhide QN).below hB (unhide QN).lt
              clear hB
              by_cases hjt : j < 2
              · obtain ⟨Aj, mj, dj, Nj, hcl, hmj, hdj, hNj⟩ : ∃ (A : Option Addr) (n' c' : Nat) (N : Nat → NeedS), wr.cell? ⟨qn, j, none⟩ = some (.slice A n' c') ∧ n' ≤ c' ∧ c' ≤ maxLen ∧ NeedAt W23 W23.heap.size A n' N := by
                  have hj2 : j = 0 ∨ j = 1 := by omega
                  rcases hj2 with rfl | rfl
                  · exact ⟨A2, n2, c2, N2, hqn.cell 0, unhide HN2, unhide HC2, unhide R23⟩
                  · exact ⟨AN, mn, cn, NM, hqn.cell 1, unhide HMD, unhide HDM, unhide M23⟩
                have hq0 : qn < wr.heap.size := hqn.lt
                have hjt2 : (j : Int) < 2 := by omega
                have HMJ := hide hmj
                have HDJ := hide hdj
                have NJ := hide ((hNj.below (unhide BJ)).more (unhide BJ).size)
                have IJ := hide (((unhide I23).below (unhide BJ)).more (unhide BJ).size)
                obtain ⟨⟨X, Y⟩, hXY⟩ : ∃ r, checkF Lk nk Nj mj = r := ⟨_, rfl⟩
                have HXY := hide hXY
                clear hqn hNj hmj hdj hXY
                go_wp2_with fail
                refine (unhide CKA _ Ak nk ck (unhide HNK) (unhide HCK) Lk (unhide IJ) Aj mj dj (unhide HMJ) (unhide HDJ) Nj (unhide NJ) X Y (unhide HXY)).mono ?_
                rintro e w25 ⟨rfl, hb⟩
                have B25 := hide ((unhide BJ).trans (hb.mono (unhide BJ).size))
                have N25 := hide (((unhide NJ).below hb).more hb.size)
                have I25 := hide (((unhide IJ).below hb).more hb.size)
                clear hb hcl
                go_wp2_with fail
                refine (unhide CKB _ Ak nk ck (unhide HNK) (unhide HCK) Lk (unhide I25) Aj mj dj (unhide HMJ) (unhide HDJ) Nj (unhide N25) X Y (unhide HXY)).mono ?_
                rintro e w26 ⟨rfl, hb⟩
                have B26 := hide ((unhide B25).trans (hb.mono (unhide B25).size))
                have N26 := hide (((unhide N25).below hb).more hb.size)
                have I26 := hide (((unhide I25).below hb).more hb.size)
                have BW26 := hide (Below.refl w26.heap.size w26)
                clear hb NJ IJ N25 I25 BJ B25
                go_upto_region 30 with fail
                go_loopw [167] (fun i wr => ∃ h : Nat, h ≤ mj ∧ i = .int .i64 h ∧ Below w26.heap.size w26 wr) (fun i _ => mj - (intOf i).toNat)
                case atStart => exact ⟨0, by omega, rfl, unhide BW26⟩
                case round =>
                  obtain ⟨h, hh, rfl, hB⟩ := hrel
                  have BH := hide hB
                  clear hB
                  by_cases hht : h < mj
                  · obtain ⟨gb, go, rfl, hgb, hl1, hl2, c0, c1, c2, c3, c4, c5, c6, c7⟩ := (unhide N26).below (unhide BH) h hht
                    obtain ⟨⟨xc, ⟨fa, fb, fc⟩, xo, ⟨ta, tb, tc⟩⟩, hs⟩ : ∃ x, Nj h = x := ⟨_, rfl⟩
                    rw [hs] at hl1 hl2 c0 c1 c2 c3 c4 c5 c6 c7
                    dsimp only at hl1 hl2 c0 c1 c2 c3 c4 c5 c6 c7
                    have hht2 : (h : Int) < (mj : Int) := by omega
                    have hmx : mj ≤ 9223372036854775807 := by have h1 := unhide HMJ; have h2 := unhide HDJ; unfold maxLen at h2; omega
                    obtain ⟨bm, hbm⟩ : ∃ b, metF Lk nk ⟨xc, ⟨fa, fb, fc⟩, xo, ⟨ta, tb, tc⟩⟩ = b := ⟨_, rfl⟩
                    have hgl : gb < wr.heap.size := by have := (unhide BH).size; omega
                    obtain ⟨W27, hW27⟩ : ∃ W, wr.alloc (.cells #[.string ⟨xc.toArray⟩, .int .i64 fa, .int .i64 fb, .int .i64 fc, .string ⟨xo.toArray⟩, .int .i64 ta, .int .i64 tb, .int .i64 tc] 50) = W := ⟨_, rfl⟩
                    obtain ⟨b, hb⟩ : ∃ b, wr.heap.size = b := ⟨_, rfl⟩
                    have X27 : Blk W27 b 50 #[.string ⟨xc.toArray⟩, .int .i64 fa, .int .i64 fb, .int .i64 fc, .string ⟨xo.toArray⟩, .int .i64 ta, .int .i64 tb, .int .i64 tc] := hb ▸ hW27 ▸ Blk.new wr _ _
                    have B27 : Hid (Below w26.heap.size w26 W27) := hide (hW27 ▸ (unhide BH).alloc (unhide BH).size _)
                    have I27 := ((unhide I26).below (unhide B27)).more (unhide B27).size
                    have hin : Nonempty (InClass (fun W => Below W27.heap.size W27 W)) := ⟨⟨_, Below.refl _ _⟩⟩
                    have K1 : Hid (∀ x' : InClass (fun W => Below W27.heap.size W27 W), Calls Tryd.prog 26 #[.slice Ak nk ck, .agg #[.string ⟨xc.toArray⟩, .int .i64 fa, .int .i64 fb, .int .i64 fc, .string ⟨xo.toArray⟩, .int .i64 ta, .int .i64 tb, .int .i64 tc]] x'.val fun e w'' => e = .returned (.bool bm) ∧ ∃ y' : InClass (fun W => Below W27.heap.size W27 W), w'' = y'.val) := hide fun x' => class_call (unhide CMA x'.val Ak nk ck (unhide HNK) (unhide HCK) Lk ((I27.below x'.ok).more x'.ok.size) ⟨xc, ⟨fa, fb, fc⟩, xo, ⟨ta, tb, tc⟩⟩ hl1 hl2 bm hbm) fun w' h => x'.ok.trans (h.mono x'.ok.size)
                    have K2 : Hid (∀ x' : InClass (fun W => Below W27.heap.size W27 W), Calls Tryd.prog 27 #[.slice Ak nk ck, .agg #[.string ⟨xc.toArray⟩, .int .i64 fa, .int .i64 fb, .int .i64 fc, .string ⟨xo.toArray⟩, .int .i64 ta, .int .i64 tb, .int .i64 tc]] x'.val fun e w'' => e = .returned (.bool bm) ∧ ∃ y' : InClass (fun W => Below W27.heap.size W27 W), w'' = y'.val) := hide fun x' => class_call (unhide CMB x'.val Ak nk ck (unhide HNK) (unhide HCK) Lk ((I27.below x'.ok).more x'.ok.size) ⟨xc, ⟨fa, fb, fc⟩, xo, ⟨ta, tb, tc⟩⟩ hl1 hl2 bm hbm) fun w' h => x'.ok.trans (h.mono x'.ok.size)
                    have G0 : Hid (∀ x' : InClass (fun W => Below W27.heap.size W27 W), x'.val.cell? ⟨b, 0, none⟩ = some (.string ⟨xc.toArray⟩)) := hide fun x' => (X27.below x'.ok X27.lt).cell 0
                    have G1 : Hid (∀ x' : InClass (fun W => Below W27.heap.size W27 W), x'.val.cell? ⟨b, 1, none⟩ = some (.int .i64 fa)) := hide fun x' => (X27.below x'.ok X27.lt).cell 1
                    have G2 : Hid (∀ x' : InClass (fun W => Below W27.heap.size W27 W), x'.val.cell? ⟨b, 2, none⟩ = some (.int .i64 fb)) := hide fun x' => (X27.below x'.ok X27.lt).cell 2
                    have G3 : Hid (∀ x' : InClass (fun W => Below W27.heap.size W27 W), x'.val.cell? ⟨b, 3, none⟩ = some (.int .i64 fc)) := hide fun x' => (X27.below x'.ok X27.lt).cell 3
                    have G4 : Hid (∀ x' : InClass (fun W => Below W27.heap.size W27 W), x'.val.cell? ⟨b, 4, none⟩ = some (.string ⟨xo.toArray⟩)) := hide fun x' => (X27.below x'.ok X27.lt).cell 4
                    have G5 : Hid (∀ x' : InClass (fun W => Below W27.heap.size W27 W), x'.val.cell? ⟨b, 5, none⟩ = some (.int .i64 ta)) := hide fun x' => (X27.below x'.ok X27.lt).cell 5
                    have G6 : Hid (∀ x' : InClass (fun W => Below W27.heap.size W27 W), x'.val.cell? ⟨b, 6, none⟩ = some (.int .i64 tb)) := hide fun x' => (X27.below x'.ok X27.lt).cell 6
                    have G7 : Hid (∀ x' : InClass (fun W => Below W27.heap.size W27 W), x'.val.cell? ⟨b, 7, none⟩ = some (.int .i64 tc)) := hide fun x' => (X27.below x'.ok X27.lt).cell 7
                    have hS27 := hide ((Below.refl W27.heap.size W27).drew)
                    have HW27 := hide hW27
                    have HB27 := hide hb
                    clear hs hbm hW27 hb X27 I27
                    go_upto_region 32 with fail
                    rw [unhide HW27, unhide HB27]
                    clear c0 c1 c2 c3 c4 c5 c6 c7 HW27 HB27 hgl hgb
                    refine wp_region_class (fun W => Below W27.heap.size W27 W) (by kernel_rfl) (by kernel_rfl) (unhide hS27) ?_
                    have g0 := unhide G0
                    have g1 := unhide G1
                    have g2 := unhide G2
                    have g3 := unhide G3
                    have g4 := unhide G4
                    have g5 := unhide G5
                    have g6 := unhide G6
                    have g7 := unhide G7
                    repeat (go_big_quiet_step (first | (go_at_call 26; exact (unhide K1) _) | (go_at_call 27; exact (unhide K2) _)))
                    refine wpQuiet_nil ?_
                    intro _ hw'
                    obtain ⟨x27, hw''⟩ := hw'
                    subst hw''
                    have B28 := hide ((unhide B27).trans (x27.ok.mono (unhide B27).size))
                    clear g0 g1 g2 g3 g4 g5 g6 g7 K1 K2
                    go_wp2_with fail
                    go_roundw
                    case rel => exact ⟨h + 1, by omega, by go_num, unhide B28⟩
                    case measure => simp [intOf]; omega
                  · have B30 := hide ((unhide B26).trans ((unhide BH).mono (unhide B26).size))
                    have hhf : ((h : Int) < (mj : Int)) = False := by simp; omega
                    clear hht hh
                    go_wp2_with fail
                    go_roundw
                    case rel => exact ⟨j + 1, by omega, by go_num, unhide B30⟩
                    case measure => simp [intOf]; omega
              · obtain rfl : j = 2 := by omega
                have NKK := hide ((unhide N23).below (unhide BJ))
                go_wp2_with fail
                go_roundw
                case rel => exact ⟨k + 1, by omega, by go_num, unhide NKK⟩
                case measure => simp [intOf]; omega
          · obtain rfl : k = 2 := by omega
            go_wp2_with fail
            go_ret
            exact ⟨rfl, (unhide HB) _ ((unhide S18).more (unhide NK))⟩

theorem answers_law (w : World) (A0 : Option Addr) (n0 c0 : Nat) (bs : List UInt8) (hn0 : n0 ≤ c0) (hc0 : c0 ≤ maxLen) (hr0 : Reads w w.heap.size 1 A0 n0 (bsV bs))
    (A1 : Option Addr) (n1 c1 : Nat) (L1 : Nat → Inst) (hn1 : n1 ≤ c1) (hc1 : c1 ≤ maxLen) (hL1 : InstAt w w.heap.size A1 n1 L1)
    (A2 : Option Addr) (n2 c2 : Nat) (N2 : Nat → NeedS) (hn2 : n2 ≤ c2) (hc2 : c2 ≤ maxLen) (hN2 : NeedAt w w.heap.size A2 n2 N2)
    (x y : Ver) (s : ByteArray) (hs : s.size ≤ maxLen) (hP : Pow10At w) :
    Calls Tryd.prog 3 #[.slice A0 n0 c0, .slice A1 n1 c1, .slice A2 n2 c2, .agg #[.int .i64 x.a, .int .i64 x.b, .int .i64 x.c], .agg #[.int .i64 y.a, .int .i64 y.b, .int .i64 y.c], .string s] w fun e w' => e = .returned (.bool true) ∧ Below w.heap.size w w' := by
  obtain ⟨d⟩ := s
  have h : (⟨d⟩ : ByteArray) = ⟨d.toList.toArray⟩ := by simp
  rw [h]
  exact answers_walk w A0 n0 c0 bs hn0 hc0 hr0 A1 n1 c1 L1 hn1 hc1 hL1 A2 n2 c2 N2 hn2 hc2 hN2 x y d.toList hs hP
end Go.Proofs.YtbcbleonpaemgaaDoor
