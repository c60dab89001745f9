/- The law EventMade, walked: it returns true (printed by wip/gen_emade.py). -/
import Derived.Test.YtklffnfaigmjfaaDoorERef
import Derived.Test.YtklffnfaigmjfaaDoorEEq
import Derived.Test.YtklffnfaigmjfaaDoorClass
import Derived.Test.YtklffnfaigmjfaaDoorHHeld
namespace Go.Proofs.YtklffnfaigmjfaaDoor
open Go.RowKit
theorem thr_at (w : World) (hO : OffAt w) (st sn i : Int) (av : Bool) (rd lm : Int) (X : Ev) (f : Int) (h : thrR st sn i av rd lm = (X, f)) :
    Calls Tryd.prog 11 #[.int .u8 st, .int .u8 sn, .int .i64 i, .bool av, .int .u8 rd, .int .u8 lm] w fun e w' => e = .returned (.tuple #[.agg X.c, .int .i64 f]) ∧ Below w.heap.size w w' := by
  unfold thrR at h
  by_cases h0 : 0 ≤ i ∧ i ≤ 5
  · rw [if_pos h0] at h
    injection h with h1 h2
    subst h1 h2
    have h6 : i.toNat < 6 := by omega
    have hx := offs_le i.toNat h6
    have := thr_in w hO st sn i.toNat av rd lm h6 _ rfl hx.1 hx.2
    rwa [show ((i.toNat : Nat) : Int) = i from by omega] at this
  · rw [if_neg h0] at h
    injection h with h1 h2
    subst h1 h2
    by_cases hl : i < 0
    · exact thr_low w st sn i av rd lm hl
    · exact thr_high w st sn i av rd lm (by omega)
theorem rthr_at (w : World) (st sn i : Int) (av : Bool) (rd lm : Int) (X : Ev) (f : Int) (h : thrR st sn i av rd lm = (X, f)) :
    Calls Tryd.prog 12 #[.int .u8 st, .int .u8 sn, .int .i64 i, .bool av, .int .u8 rd, .int .u8 lm] w fun e w' => e = .returned (.tuple #[.agg X.c, .int .i64 f]) ∧ Below w.heap.size w w' := by
  unfold thrR at h
  by_cases h0 : 0 ≤ i ∧ i ≤ 5
  · rw [if_pos h0] at h
    injection h with h1 h2
    subst h1 h2
    have h6 : i.toNat < 6 := by omega
    have hx := offs_le i.toNat h6
    have := rthr_in w st sn i.toNat av rd lm h6 _ rfl hx.1 hx.2
    rwa [show ((i.toNat : Nat) : Int) = i from by omega] at this
  · rw [if_neg h0] at h
    injection h with h1 h2
    subst h1 h2
    by_cases hl : i < 0
    · exact rthr_low w st sn i av rd lm hl
    · exact rthr_high w st sn i av rd lm (by omega)
theorem sta_at (w : World) (st sn i : Int) (av : Bool) (X : Ev) (f : Int) (h : staR st sn i av = (X, f)) :
    Calls Tryd.prog 13 #[.int .u8 st, .int .u8 sn, .int .i64 i, .bool av] w fun e w' => e = .returned (.tuple #[.agg X.c, .int .i64 f]) ∧ Below w.heap.size w w' := by
  unfold staR at h
  by_cases h0 : 0 ≤ i ∧ i ≤ 14
  · rw [if_pos h0] at h
    injection h with h1 h2
    subst h1 h2
    exact sta_in w st sn i av h0.1 h0.2
  · rw [if_neg h0] at h
    injection h with h1 h2
    subst h1 h2
    by_cases hl : i < 0
    · exact sta_low w st sn i av hl
    · exact sta_high w st sn i av (by omega)
theorem rsta_at (w : World) (st sn i : Int) (av : Bool) (X : Ev) (f : Int) (h : staR st sn i av = (X, f)) :
    Calls Tryd.prog 14 #[.int .u8 st, .int .u8 sn, .int .i64 i, .bool av] w fun e w' => e = .returned (.tuple #[.agg X.c, .int .i64 f]) ∧ Below w.heap.size w w' := by
  unfold staR at h
  by_cases h0 : 0 ≤ i ∧ i ≤ 14
  · rw [if_pos h0] at h
    injection h with h1 h2
    subst h1 h2
    exact rsta_in w st sn i av h0.1 h0.2
  · rw [if_neg h0] at h
    injection h with h1 h2
    subst h1 h2
    by_cases hl : i < 0
    · exact rsta_low w st sn i av hl
    · exact rsta_high w st sn i av (by omega)
set_option maxRecDepth 100000 in
set_option maxHeartbeats 16000000 in
theorem made_any (w : World) (hO : OffAt w) (hP : Pow10At w) (e : Ev) (he : e.In) (st sn ix : Int) (av : Bool) (rd lm : Int) :
    Calls Tryd.prog 3 #[.agg e.c, .int .u8 st, .int .u8 sn, .int .i64 ix, .bool av, .int .u8 rd, .int .u8 lm] w fun z w' => z = .returned (.bool true) ∧ Below w.heap.size w w' := by
  have HO := hide hO
  have HP := hide hP
  have heq3 := eq3
  obtain ⟨⟨ri, ra, rk⟩, hri⟩ : ∃ q, idxR e = q := ⟨_, rfl⟩
  obtain ⟨sv, hsv⟩ : ∃ q, sevR e = q := ⟨_, rfl⟩
  have HI := hide (fun W (h : OffAt W) => idx_any W h e he _ hri)
  have HRI := hide (fun W => ridx_any W e he _ hri)
  have HS := hide (fun W (h : OffAt W) => sev_any W h e he _ hsv)
  have HRS := hide (fun W => rsev_any W e he _ hsv)
  obtain ⟨mx, hmx⟩ : ∃ q, ix % 16 = q := ⟨_, rfl⟩
  have HMX := hide hmx
  clear hO hP he hri hsv hmx
  obtain ⟨eid, etm, egn, est, esn, ety, eds, ed0, ed1, ed2⟩ := e
  simp only [Ev.c] at HI HRI HS HRS
  show Calls Tryd.prog 3 #[.agg #[.int .u16 eid, .int .u32 etm, .int .u16 egn, .int .u8 est, .int .u8 esn, .int .u8 ety, .bool eds, .int .u8 ed0, .int .u8 ed1, .int .u8 ed2], .int .u8 st, .int .u8 sn, .int .i64 ix, .bool av, .int .u8 rd, .int .u8 lm] w _
  obtain ⟨W1, hW1⟩ : ∃ W1, (w.alloc (.cells #[.int .u16 eid, .int .u32 etm, .int .u16 egn, .int .u8 est, .int .u8 esn, .int .u8 ety, .bool eds, .int .u8 ed0, .int .u8 ed1, .int .u8 ed2] 26)).alloc (.cells #[.int .i64 ix, .int .i64 mx] 3) = W1 := ⟨_, rfl⟩
  have B1 : Hid (Below w.heap.size w W1) := hide (hW1 ▸ below2 _ _ _)
  have E1 : Hid (Blk W1 w.heap.size 26 #[.int .u16 eid, .int .u32 etm, .int .u16 egn, .int .u8 est, .int .u8 esn, .int .u8 ety, .bool eds, .int .u8 ed0, .int .u8 ed1, .int .u8 ed2]) := hide (hW1 ▸ (Blk.new w _ _).alloc _)
  have I1 : Hid (Blk W1 (w.heap.size + 1) 3 #[.int .i64 ix, .int .i64 mx]) := hide (hW1 ▸ Blk.new' (by simp))
  have HW1 := hide hW1
  clear hW1
  go_enter Tryd.func3, Tryd.ntmps3
  go_wp2_with fail
  refine (mod_at _ ix 16 mx (by omega) (by omega) (unhide HMX)).mono ?_
  rintro e w' ⟨rfl, rfl⟩
  go_wp2_with fail
  rw [unhide HW1]
  have BW := hide (Below.refl W1.heap.size W1)
  go_loopw [36] (fun i wr => ∃ k : Nat, k ≤ 2 ∧ i = .int .i64 k ∧ Below W1.heap.size W1 wr) (fun i _ => 2 - (intOf i).toNat)
  case atStart => exact ⟨0, by omega, rfl, unhide BW⟩
  case round =>
    obtain ⟨k, hk, rfl, hB⟩ := hrel
    have BB := hide hB
    clear hB
    by_cases hkl : k < 2
    · have hiv : ∃ iv : Int, W1.cell? ⟨w.heap.size + 1, k, none⟩ = some (.int .i64 iv) := by
        have h := (unhide I1).cell k
        have : k = 0 ∨ k = 1 := by omega
        rcases this with rfl | rfl
        · exact ⟨ix, h⟩
        · exact ⟨mx, h⟩
      obtain ⟨iv, hiv⟩ := hiv
      have hc := ((unhide BB).cell (p := ⟨w.heap.size + 1, k, none⟩) (unhide I1).lt).trans hiv
      have hlt : w.heap.size + 1 < wr.heap.size := lt_of_cell hc
      have hki : (k : Int) < 2 := by omega
      obtain ⟨⟨⟨aid, atm, agn, ast, asn, aty, ads, ad0, ad1, ad2⟩, af⟩, ha⟩ : ∃ q, thrR st sn iv av rd lm = q := ⟨_, rfl⟩
      obtain ⟨⟨⟨cid, ctm, cgn, cst, csn, cty, cds, cd0, cd1, cd2⟩, cf⟩, hcc⟩ : ∃ q, staR st sn iv av = q := ⟨_, rfl⟩
      have HA := hide ha
      have HC := hide hcc
      have O1 := hide ((unhide HO).below ((unhide B1).trans ((unhide BB).mono (unhide B1).size)))
      clear hiv ha hcc
      go_wp2_with fail
      refine (thr_at _ (unhide O1) st sn iv av rd lm _ _ (unhide HA)).mono ?_
      rintro e w2 ⟨rfl, hb2⟩
      simp only [Ev.c]
      obtain ⟨W2, hW2⟩ : ∃ W2, w2.alloc (.cells #[.int .u16 aid, .int .u32 atm, .int .u16 agn, .int .u8 ast, .int .u8 asn, .int .u8 aty, .bool ads, .int .u8 ad0, .int .u8 ad1, .int .u8 ad2] 26) = W2 := ⟨_, rfl⟩
      have A2 : Hid (Blk W2 w2.heap.size 26 #[.int .u16 aid, .int .u32 atm, .int .u16 agn, .int .u8 ast, .int .u8 asn, .int .u8 aty, .bool ads, .int .u8 ad0, .int .u8 ad1, .int .u8 ad2]) := hide (hW2 ▸ Blk.new w2 _ _)
      have B2 : Hid (Below W1.heap.size W1 W2) := hide (hW2 ▸ ((unhide BB).trans (hb2.mono (unhide BB).size)).alloc ((unhide BB).trans (hb2.mono (unhide BB).size)).size _)
      have HW2 := hide hW2
      clear hb2 hW2 hc hlt
      go_upto_region 5 with fail
      rw [unhide HW2]
      go_wp2_with fail
      refine (rthr_at _ st sn iv av rd lm _ _ (unhide HA)).mono ?_
      rintro e w3 ⟨rfl, hb3⟩
      simp only [Ev.c]
      obtain ⟨W3, hW3⟩ : ∃ W3, w3.alloc (.cells #[.int .u16 aid, .int .u32 atm, .int .u16 agn, .int .u8 ast, .int .u8 asn, .int .u8 aty, .bool ads, .int .u8 ad0, .int .u8 ad1, .int .u8 ad2] 26) = W3 := ⟨_, rfl⟩
      have A3 : Hid (Blk W3 w2.heap.size 26 #[.int .u16 aid, .int .u32 atm, .int .u16 agn, .int .u8 ast, .int .u8 asn, .int .u8 aty, .bool ads, .int .u8 ad0, .int .u8 ad1, .int .u8 ad2]) := hide (hW3 ▸ ((unhide A2).below hb3 (unhide A2).lt).alloc _)
      have R3 : Hid (Blk W3 w3.heap.size 26 #[.int .u16 aid, .int .u32 atm, .int .u16 agn, .int .u8 ast, .int .u8 asn, .int .u8 aty, .bool ads, .int .u8 ad0, .int .u8 ad1, .int .u8 ad2]) := hide (hW3 ▸ Blk.new w3 _ _)
      have B3 : Hid (Below W1.heap.size W1 W3) := hide (hW3 ▸ ((unhide B2).trans (hb3.mono (unhide B2).size)).alloc ((unhide B2).trans (hb3.mono (unhide B2).size)).size _)
      have HW3 := hide hW3
      clear hb3 hW3
      go_upto_region 6 with fail
      rw [unhide HW3]
      go_wp2_with fail
      refine (sta_at _ st sn iv av _ _ (unhide HC)).mono ?_
      rintro e w4 ⟨rfl, hb4⟩
      simp only [Ev.c]
      obtain ⟨W4, hW4⟩ : ∃ W4, w4.alloc (.cells #[.int .u16 cid, .int .u32 ctm, .int .u16 cgn, .int .u8 cst, .int .u8 csn, .int .u8 cty, .bool cds, .int .u8 cd0, .int .u8 cd1, .int .u8 cd2] 26) = W4 := ⟨_, rfl⟩
      have A4 : Hid (Blk W4 w2.heap.size 26 #[.int .u16 aid, .int .u32 atm, .int .u16 agn, .int .u8 ast, .int .u8 asn, .int .u8 aty, .bool ads, .int .u8 ad0, .int .u8 ad1, .int .u8 ad2]) := hide (hW4 ▸ ((unhide A3).below hb4 (unhide A3).lt).alloc _)
      have R4 : Hid (Blk W4 w3.heap.size 26 #[.int .u16 aid, .int .u32 atm, .int .u16 agn, .int .u8 ast, .int .u8 asn, .int .u8 aty, .bool ads, .int .u8 ad0, .int .u8 ad1, .int .u8 ad2]) := hide (hW4 ▸ ((unhide R3).below hb4 (unhide R3).lt).alloc _)
      have C4 : Hid (Blk W4 w4.heap.size 26 #[.int .u16 cid, .int .u32 ctm, .int .u16 cgn, .int .u8 cst, .int .u8 csn, .int .u8 cty, .bool cds, .int .u8 cd0, .int .u8 cd1, .int .u8 cd2]) := hide (hW4 ▸ Blk.new w4 _ _)
      have B4 : Hid (Below W1.heap.size W1 W4) := hide (hW4 ▸ ((unhide B3).trans (hb4.mono (unhide B3).size)).alloc ((unhide B3).trans (hb4.mono (unhide B3).size)).size _)
      have HW4 := hide hW4
      clear hb4 hW4
      go_upto_region 7 with fail
      rw [unhide HW4]
      go_wp2_with fail
      refine (rsta_at _ st sn iv av _ _ (unhide HC)).mono ?_
      rintro e w5 ⟨rfl, hb5⟩
      simp only [Ev.c]
      obtain ⟨W5, hW5⟩ : ∃ W5, w5.alloc (.cells #[.int .u16 cid, .int .u32 ctm, .int .u16 cgn, .int .u8 cst, .int .u8 csn, .int .u8 cty, .bool cds, .int .u8 cd0, .int .u8 cd1, .int .u8 cd2] 26) = W5 := ⟨_, rfl⟩
      have A5 : Hid (Blk W5 w2.heap.size 26 #[.int .u16 aid, .int .u32 atm, .int .u16 agn, .int .u8 ast, .int .u8 asn, .int .u8 aty, .bool ads, .int .u8 ad0, .int .u8 ad1, .int .u8 ad2]) := hide (hW5 ▸ ((unhide A4).below hb5 (unhide A4).lt).alloc _)
      have R5 : Hid (Blk W5 w3.heap.size 26 #[.int .u16 aid, .int .u32 atm, .int .u16 agn, .int .u8 ast, .int .u8 asn, .int .u8 aty, .bool ads, .int .u8 ad0, .int .u8 ad1, .int .u8 ad2]) := hide (hW5 ▸ ((unhide R4).below hb5 (unhide R4).lt).alloc _)
      have C5 : Hid (Blk W5 w4.heap.size 26 #[.int .u16 cid, .int .u32 ctm, .int .u16 cgn, .int .u8 cst, .int .u8 csn, .int .u8 cty, .bool cds, .int .u8 cd0, .int .u8 cd1, .int .u8 cd2]) := hide (hW5 ▸ ((unhide C4).below hb5 (unhide C4).lt).alloc _)
      have D5 : Hid (Blk W5 w5.heap.size 26 #[.int .u16 cid, .int .u32 ctm, .int .u16 cgn, .int .u8 cst, .int .u8 csn, .int .u8 cty, .bool cds, .int .u8 cd0, .int .u8 cd1, .int .u8 cd2]) := hide (hW5 ▸ Blk.new w5 _ _)
      have B5 : Hid (Below W1.heap.size W1 W5) := hide (hW5 ▸ ((unhide B4).trans (hb5.mono (unhide B4).size)).alloc ((unhide B4).trans (hb5.mono (unhide B4).size)).size _)
      have HW5 := hide hW5
      clear hb5 hW5
      go_upto_region 8 with fail
      rw [unhide HW5]
      obtain ⟨p0, p1, p2, p3, p4, p5, p6, p7, p8, p9, hp⟩ := blk10 (unhide A5)
      obtain ⟨q0, q1, q2, q3, q4, q5, q6, q7, q8, q9, hq⟩ := blk10 (unhide R5)
      obtain ⟨r0, r1, r2, r3, r4, r5, r6, r7, r8, r9, hr⟩ := blk10 (unhide C5)
      obtain ⟨s0, s1, s2, s3, s4, s5, s6, s7, s8, s9, hs⟩ := blk10 (unhide D5)
      go_wp2_with fail
      go_roundw
      case rel => exact ⟨k + 1, by omega, by go_num, unhide B5⟩
      case measure => simp [intOf]; omega
    · have hki : ((k : Int) < 2) = False := by simp; omega
      clear hkl hk
      have B6 := hide ((unhide B1).trans ((unhide BB).mono (unhide B1).size))
      have E6 := hide ((unhide E1).below (unhide BB) (unhide E1).lt)
      obtain ⟨p0, p1, p2, p3, p4, p5, p6, p7, p8, p9, hp⟩ := blk10 (unhide E6)
      go_wp2_with fail
      refine ((unhide HI) _ ((unhide HO).below (unhide B6))).mono ?_
      rintro e w7 ⟨rfl, hb7⟩
      have B7 := hide ((unhide B6).trans (hb7.mono (unhide B6).size))
      have E7 := hide ((unhide E6).below hb7 (unhide E6).lt)
      clear hb7 p0 p1 p2 p3 p4 p5 p6 p7 p8 p9 hp
      obtain ⟨p0, p1, p2, p3, p4, p5, p6, p7, p8, p9, hp⟩ := blk10 (unhide E7)
      dsimp only
      go_wp2_with fail
      refine ((unhide HRI) _).mono ?_
      rintro e w8 ⟨rfl, hb8⟩
      have B8 := hide ((unhide B7).trans (hb8.mono (unhide B7).size))
      have E8 := hide ((unhide E7).below hb8 (unhide E7).lt)
      have O8 := hide ((unhide HO).below (unhide B8))
      have P8 := hide ((unhide HP).below (unhide B8))
      clear hb8 p0 p1 p2 p3 p4 p5 p6 p7 p8 p9 hp
      dsimp only
      go_upto_region 13 with fail
      have hin : Nonempty (InClass (fun W => Below w8.heap.size w8 W)) := ⟨⟨_, Below.refl _ _⟩⟩
      have K1 : Hid (∀ x' : InClass (fun W => Below w8.heap.size w8 W), Calls Tryd.prog 17 #[.agg #[.int .u16 eid, .int .u32 etm, .int .u16 egn, .int .u8 est, .int .u8 esn, .int .u8 ety, .bool eds, .int .u8 ed0, .int .u8 ed1, .int .u8 ed2]] x'.val fun e w'' => e = .returned (.int .i64 sv) ∧ ∃ y' : InClass (fun W => Below w8.heap.size w8 W), w'' = y'.val) := hide fun x' =>
        class_call ((unhide HS) x'.val ((unhide O8).below x'.ok)) fun w' h => x'.ok.trans (h.mono x'.ok.size)
      have K2 : Hid (∀ x' : InClass (fun W => Below w8.heap.size w8 W), Calls Tryd.prog 18 #[.agg #[.int .u16 eid, .int .u32 etm, .int .u16 egn, .int .u8 est, .int .u8 esn, .int .u8 ety, .bool eds, .int .u8 ed0, .int .u8 ed1, .int .u8 ed2]] x'.val fun e w'' => e = .returned (.int .i64 sv) ∧ ∃ y' : InClass (fun W => Below w8.heap.size w8 W), w'' = y'.val) := hide fun x' =>
        class_call ((unhide HRS) x'.val) fun w' h => x'.ok.trans (h.mono x'.ok.size)
      have K3 : Hid (∀ x' : InClass (fun W => Below w8.heap.size w8 W), Calls Tryd.prog 19 #[] x'.val fun e w'' => e = .returned (.bool true) ∧ ∃ y' : InClass (fun W => Below w8.heap.size w8 W), w'' = y'.val) := hide fun x' =>
        class_call (awake_any x'.val ((unhide O8).below x'.ok) ((unhide P8).below x'.ok)) fun w' h => x'.ok.trans (h.mono x'.ok.size)
      have hS8 := hide ((Below.refl w8.heap.size w8).drew)
      refine wp_region_class (fun W => Below w8.heap.size w8 W) (by kernel_rfl) (by kernel_rfl) (unhide hS8) ?_
      repeat (go_big_quiet_step (fail))
      refine BigFrame.wpQuiet_want rfl (fun K hK => quiet_load_row _ _ rfl w.heap.size rfl 26 #[.int .u16 eid, .int .u32 etm, .int .u16 egn, .int .u8 est, .int .u8 esn, .int .u8 ety, .bool eds, .int .u8 ed0, .int .u8 ed1, .int .u8 ed2] _ (fun W hW => by obtain ⟨x, rfl⟩ := hW; exact (unhide E8).below x.ok (unhide E8).lt) Tryd.underlying26 rfl (by kernel_rfl) (hK _ ?_))
      simp only [Act.put, List.setIfInBounds_toArray, List.set_cons_zero, List.set_cons_succ]
      go_big_quiet_step ((go_at_call 17; exact (unhide K1) _))
      refine BigFrame.wpQuiet_want rfl (fun K hK => quiet_load_row _ _ rfl w.heap.size rfl 26 #[.int .u16 eid, .int .u32 etm, .int .u16 egn, .int .u8 est, .int .u8 esn, .int .u8 ety, .bool eds, .int .u8 ed0, .int .u8 ed1, .int .u8 ed2] _ (fun W hW => by obtain ⟨x, rfl⟩ := hW; exact (unhide E8).below x.ok (unhide E8).lt) Tryd.underlying26 rfl (by kernel_rfl) (hK _ ?_))
      simp only [Act.put, List.setIfInBounds_toArray, List.set_cons_zero, List.set_cons_succ]
      go_big_quiet_step ((go_at_call 18; exact (unhide K2) _))
      repeat (go_big_quiet_step ((go_at_call 19; exact (unhide K3) _)))
      refine wpQuiet_nil ?_
      intro _ hw'
      obtain ⟨x14, hw''⟩ := hw'
      subst hw''
      have B14 := hide ((unhide B8).trans (x14.ok.mono (unhide B8).size))
      go_wp2_with fail
      go_ret
      exact ⟨rfl, unhide B14⟩
theorem made_walk (w : World) (e : Ev) (he : e.In) (st : Int) (_ : (Lit.int .u8 st).wf = true) (sn : Int) (_ : (Lit.int .u8 sn).wf = true) (ix : Int) (_ : (Lit.int .i64 ix).wf = true) (av : Bool) (rd : Int) (_ : (Lit.int .u8 rd).wf = true) (lm : Int) (_ : (Lit.int .u8 lm).wf = true) (hP : Pow10At w) (hO : OffAt w) :
    Calls Tryd.prog 3 #[.agg e.c, .int .u8 st, .int .u8 sn, .int .i64 ix, .bool av, .int .u8 rd, .int .u8 lm] w fun z w' => z = .returned (.bool true) ∧ Below w.heap.size w w' := made_any w hO hP e he st sn ix av rd lm
end Go.Proofs.YtklffnfaigmjfaaDoor
