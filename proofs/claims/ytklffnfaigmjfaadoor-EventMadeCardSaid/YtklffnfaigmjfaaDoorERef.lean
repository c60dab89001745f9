/- The reference's Offset, Threshold, State, Index and Severity return what the plain functions say; nothing that was there turns. No condition. -/
import Derived.Test.YtklffnfaigmjfaaDoorEIndexes
import Derived.BigQuiet
import Derived.Deep.CutRange
namespace Go.Proofs.YtklffnfaigmjfaaDoor
open Go.RowKit
set_option maxHeartbeats 1000000 in
theorem roff_any (w : World) (k : Nat) (hk : k < 6) (x : Int) (hx : offs.getD k 0 = x) : Calls Tryd.prog 37 #[.int .i64 (k : Int)] w fun e w' => e = .returned (.int .u8 x) ∧ w = w' := by
  have : k = 0 ∨ k = 1 ∨ k = 2 ∨ k = 3 ∨ k = 4 ∨ k = 5 := by omega
  rcases this with rfl | rfl | rfl | rfl | rfl | rfl
  all_goals
    subst hx
    go_enter Tryd.func37, Tryd.ntmps37
    go_wp2_with fail
    go_ret
    exact ⟨rfl, rfl⟩
set_option maxHeartbeats 1000000 in
theorem rthr_low (w : World) (st sn i : Int) (av : Bool) (rd lm : Int) (h0 : i < 0) :
    Calls Tryd.prog 12 #[.int .u8 st, .int .u8 sn, .int .i64 i, .bool av, .int .u8 rd, .int .u8 lm] w fun e w' => e = .returned (.tuple #[.agg zeroEv.c, .int .i64 2]) ∧ Below w.heap.size w w' := by
  have hd : decide (i < 0) = true := by simpa using h0
  go_enter Tryd.func12, Tryd.ntmps12
  go_wp2_with fail
  exact bodyPost_ret (v := .tuple #[.agg zeroEv.c, .int .i64 2]) (res2 rfl _ w.heap.size 26 zeroEv.c _ _ rfl rfl (Blk.new w _ _) Tryd.underlying26 rfl (by kernel_rfl)) rfl ⟨rfl, (Below.refl _ _).alloc (Nat.le_refl _) _⟩
set_option maxHeartbeats 1000000 in
theorem rthr_high (w : World) (st sn i : Int) (av : Bool) (rd lm : Int) (h0 : 5 < i) :
    Calls Tryd.prog 12 #[.int .u8 st, .int .u8 sn, .int .i64 i, .bool av, .int .u8 rd, .int .u8 lm] w fun e w' => e = .returned (.tuple #[.agg zeroEv.c, .int .i64 2]) ∧ Below w.heap.size w w' := by
  have hd : decide (i < 0) = false := by simp; omega
  have h1 : ¬ i < 0 := by omega
  have hd2 : decide (5 < i) = true := by simpa using h0
  go_enter Tryd.func12, Tryd.ntmps12
  go_wp2_with fail
  exact bodyPost_ret (v := .tuple #[.agg zeroEv.c, .int .i64 2]) (res2 rfl _ w.heap.size 26 zeroEv.c _ _ rfl rfl (Blk.new w _ _) Tryd.underlying26 rfl (by kernel_rfl)) rfl ⟨rfl, (Below.refl _ _).alloc (Nat.le_refl _) _⟩
set_option maxHeartbeats 1000000 in
theorem rthr_in (w : World) (st sn : Int) (i : Nat) (av : Bool) (rd lm : Int) (h0 : i < 6) (x : Int) (hx : offs.getD i 0 = x) (hx0 : 0 ≤ x) (hx1 : x ≤ 11) :
    Calls Tryd.prog 12 #[.int .u8 st, .int .u8 sn, .int .i64 (i : Int), .bool av, .int .u8 rd, .int .u8 lm] w fun e w' => e = .returned (.tuple #[.agg (Ev.mk 0 0 32 st sn 1 (!av) (80 + x) rd lm).c, .int .i64 0]) ∧ Below w.heap.size w w' := by
  have HX := hide hx
  clear hx
  have hd : decide ((i : Int) < 0) = false := by simp
  have hd2 : decide ((5 : Int) < (i : Int)) = false := by simp; omega
  have h1 : ¬ (i : Int) < 0 := by omega
  have h2 : ¬ (5 : Int) < (i : Int) := by omega
  go_enter Tryd.func12, Tryd.ntmps12
  go_wp2_with fail
  refine (roff_any _ i h0 x (unhide HX)).mono ?_
  rintro e w' ⟨rfl, rfl⟩
  go_wp2_with fail
  exact bodyPost_ret (v := .tuple #[.agg (Ev.mk 0 0 32 st sn 1 (!av) (80 + x) rd lm).c, .int .i64 0]) (res2 rfl _ w.heap.size 26 (Ev.mk 0 0 32 st sn 1 (!av) (80 + x) rd lm).c _ _ rfl rfl (Blk.new w _ _) Tryd.underlying26 rfl (by kernel_rfl)) rfl ⟨rfl, (Below.refl _ _).alloc (Nat.le_refl _) _⟩
set_option maxHeartbeats 1000000 in
theorem rsta_low (w : World) (st sn i : Int) (av : Bool) (h0 : i < 0) :
    Calls Tryd.prog 14 #[.int .u8 st, .int .u8 sn, .int .i64 i, .bool av] w fun e w' => e = .returned (.tuple #[.agg zeroEv.c, .int .i64 2]) ∧ Below w.heap.size w w' := by
  have hd : decide (i < 0) = true := by simpa using h0
  go_enter Tryd.func14, Tryd.ntmps14
  go_wp2_with fail
  exact bodyPost_ret (v := .tuple #[.agg zeroEv.c, .int .i64 2]) (res2 rfl _ w.heap.size 26 zeroEv.c _ _ rfl rfl (Blk.new w _ _) Tryd.underlying26 rfl (by kernel_rfl)) rfl ⟨rfl, (Below.refl _ _).alloc (Nat.le_refl _) _⟩
set_option maxHeartbeats 1000000 in
theorem rsta_high (w : World) (st sn i : Int) (av : Bool) (h0 : 14 < i) :
    Calls Tryd.prog 14 #[.int .u8 st, .int .u8 sn, .int .i64 i, .bool av] w fun e w' => e = .returned (.tuple #[.agg zeroEv.c, .int .i64 2]) ∧ Below w.heap.size w w' := by
  have hd : decide (i < 0) = false := by simp; omega
  have h1 : ¬ i < 0 := by omega
  have hd2 : decide (14 < i) = true := by simpa using h0
  go_enter Tryd.func14, Tryd.ntmps14
  go_wp2_with fail
  exact bodyPost_ret (v := .tuple #[.agg zeroEv.c, .int .i64 2]) (res2 rfl _ w.heap.size 26 zeroEv.c _ _ rfl rfl (Blk.new w _ _) Tryd.underlying26 rfl (by kernel_rfl)) rfl ⟨rfl, (Below.refl _ _).alloc (Nat.le_refl _) _⟩
set_option maxHeartbeats 1000000 in
theorem rsta_in (w : World) (st sn i : Int) (av : Bool) (h0 : 0 ≤ i) (h4 : i ≤ 14) :
    Calls Tryd.prog 14 #[.int .u8 st, .int .u8 sn, .int .i64 i, .bool av] w fun e w' => e = .returned (.tuple #[.agg (Ev.mk 0 0 32 st sn 111 (!av) i 255 255).c, .int .i64 0]) ∧ Below w.heap.size w w' := by
  have hd : decide (i < 0) = false := by simp; omega
  have hd2 : decide (14 < i) = false := by simp; omega
  have h1 : ¬ i < 0 := by omega
  have h2 : ¬ 14 < i := by omega
  have hw : IntKind.u8.wrap i = i := IntWalk.u8_in _ (by omega)
  go_enter Tryd.func14, Tryd.ntmps14
  go_wp2_with fail
  exact bodyPost_ret (v := .tuple #[.agg (Ev.mk 0 0 32 st sn 111 (!av) i 255 255).c, .int .i64 0]) (res2 rfl _ w.heap.size 26 (Ev.mk 0 0 32 st sn 111 (!av) i 255 255).c _ _ rfl rfl (Blk.new w _ _) Tryd.underlying26 rfl (by kernel_rfl)) rfl ⟨rfl, (Below.refl _ _).alloc (Nat.le_refl _) _⟩
set_option maxHeartbeats 2000000 in
theorem ridx_any (w : World) (e : Ev) (he : e.In) (r : Int × Bool × Bool) (hr : idxR e = r) : Calls Tryd.prog 16 #[.agg e.c] w (IdxPost w r) := by
  have e1 := he.d00
  have e2 := he.d01
  clear he
  obtain ⟨id, tm, gn, st, sn, ty, ds, d0, d1, d2⟩ := e
  dsimp only at e1 e2
  show Calls Tryd.prog 16 #[.agg #[.int .u16 id, .int .u32 tm, .int .u16 gn, .int .u8 st, .int .u8 sn, .int .u8 ty, .bool ds, .int .u8 d0, .int .u8 d1, .int .u8 d2]] w _
  obtain ⟨W1, hW1⟩ : ∃ W1, w.alloc (.cells #[.int .u16 id, .int .u32 tm, .int .u16 gn, .int .u8 st, .int .u8 sn, .int .u8 ty, .bool ds, .int .u8 d0, .int .u8 d1, .int .u8 d2] 26) = W1 := ⟨_, rfl⟩
  have HB : Hid (Below w.heap.size w W1) := hide (hW1 ▸ (Below.refl _ _).alloc (Nat.le_refl _) _)
  have H1 : Hid (Blk W1 w.heap.size 26 #[.int .u16 id, .int .u32 tm, .int .u16 gn, .int .u8 st, .int .u8 sn, .int .u8 ty, .bool ds, .int .u8 d0, .int .u8 d1, .int .u8 d2]) := hide (hW1 ▸ Blk.new w _ _)
  have HW := hide hW1
  have HR := hide hr
  clear hW1 hr
  obtain ⟨c0, c1, c2, c3, c4, c5, c6, c7, c8, c9, hlt⟩ := blk10 (unhide H1)
  by_cases h1 : ty = 1
  · have hb1 : (ty == 1) = true := by simpa using h1
    have hb111 : (ty == 111) = false := by rw [h1]; rfl
    have HT := hide h1
    clear h1
    have HR2 : Hid ((if 0 ≤ offIdx d0 then (offIdx d0, true, true) else (0, false, false)) = r) := hide (by have := unhide HR; unfold idxR at this; rwa [if_pos (unhide HT)] at this)
    go_enter Tryd.func16, Tryd.ntmps16
    go_upto_region 1 with fail
    rw [unhide HW]
    go_wp2_with fail
    have BW := hide (Below.refl W1.heap.size W1)
    go_loopw [5] (fun i wr => ∃ k : Nat, k ≤ 6 ∧ i = .int .i64 k ∧ (∀ j, j < k → 80 + offs.getD j 0 ≠ d0) ∧ Below W1.heap.size W1 wr) (fun i _ => 6 - (intOf i).toNat)
    case atStart => exact ⟨0, by omega, rfl, fun j hj => by omega, unhide BW⟩
    case round =>
      obtain ⟨k, hk, rfl, hno, hB⟩ := hrel
      have HN := hide hno
      have BB := hide hB
      clear hno hB c0 c1 c2 c3 c4 c5 c6 c7 c8 c9 hlt
      obtain ⟨c0, c1, c2, c3, c4, c5, c6, c7, c8, c9, hlt⟩ := blk10 ((unhide H1).below (unhide BB) (unhide H1).lt)
      have B2 := hide ((unhide HB).trans ((unhide BB).mono (unhide HB).size))
      by_cases hkl : k < 6
      · obtain ⟨x, hx⟩ : ∃ x, offs.getD k 0 = x := ⟨_, rfl⟩
        have hx1 := offs_le k hkl
        rw [hx] at hx1
        have hx2 := hx1.1
        have hx3 := hx1.2
        have HX := hide hx
        clear hx hx1
        have hlti : (k : Int) < 6 := by omega
        have hwr : IntKind.u8.wrap (80 + x) = 80 + x := IntWalk.u8_in _ (by omega)
        by_cases hq : d0 = 80 + x
        · have hb : (d0 == 80 + x) = true := by simpa using hq
          have HQ := hide hq
          clear hq
          go_wp2_with fail
          go_quiet ((go_at_call 37; exact Calls.quiet_of_same ((roff_any _ k hkl x (unhide HX)).mono fun _ _ h => ⟨h.1, h.2.symm⟩)))
          go_wp2_with fail
          go_ret3
          exact ⟨by rw [← unhide HR2, unhide HQ, off_add k hkl x (unhide HX), if_pos (by omega)]; rfl, below_drewN (unhide B2) _⟩
        · have hb : (d0 == 80 + x) = false := by simpa using hq
          have HQ := hide hq
          clear hq
          go_wp2_with fail
          go_quiet ((go_at_call 37; exact Calls.quiet_of_same ((roff_any _ k hkl x (unhide HX)).mono fun _ _ h => ⟨h.1, h.2.symm⟩)))
          have BN := hide (below_drewN (unhide BB) nq)
          go_wp2_with fail
          go_roundw
          case rel => exact ⟨k + 1, by omega, by go_num, fun j hj => by
            rcases Nat.lt_succ_iff_lt_or_eq.1 hj with h | rfl
            · exact unhide HN j h
            · rw [unhide HX]; exact fun e => unhide HQ e.symm, unhide BN⟩
          case measure => simp [intOf]; omega
      · have hk6 : k = 6 := by omega
        have hkf : ((k : Int) < 6) = False := by simp; omega
        have HNO : Hid (offIdx d0 = -1) := hide (by
          have := off_none (d0 - 80) (fun j hj => by have := unhide HN j (by omega); omega)
          rwa [show d0 - 80 + 80 = d0 from by omega] at this)
        clear hk6 hk hkl
        go_wp2_with fail
        go_ret3
        exact ⟨by rw [← unhide HR2, unhide HNO]; rfl, unhide B2⟩
  · have hb1 : (ty == 1) = false := by simpa using h1
    have HT := hide h1
    clear h1
    by_cases h3 : ty = 111
    · have hb3 : (ty == 111) = true := by simpa using h3
      have HT3 := hide h3
      clear h3
      by_cases h4 : d0 ≤ 14
      · have hb4 : decide (d0 ≤ 14) = true := by simpa using h4
        have HR2 : Hid (((d0, false, true) : Int × Bool × Bool) = r) := hide (by have := unhide HR; unfold idxR at this; rwa [if_neg (unhide HT), if_pos ⟨unhide HT3, h4⟩] at this)
        have hw : IntKind.i64.wrap d0 = d0 := IntWalk.i64_in _ (by omega)
        go_enter Tryd.func16, Tryd.ntmps16
        go_wp2_with fail
        go_ret3
        exact ⟨by rw [← unhide HR2]; rfl, by rw [unhide HW]; exact unhide HB⟩
      · have hb4 : decide (d0 ≤ 14) = false := by simpa using h4
        have HR2 : Hid (((0, false, false) : Int × Bool × Bool) = r) := hide (by have := unhide HR; unfold idxR at this; rwa [if_neg (unhide HT), if_neg (fun h => h4 h.2)] at this)
        go_enter Tryd.func16, Tryd.ntmps16
        go_wp2_with fail
        go_ret3
        exact ⟨by rw [← unhide HR2]; rfl, by rw [unhide HW]; exact unhide HB⟩
    · have hb3 : (ty == 111) = false := by simpa using h3
      have HR2 : Hid (((0, false, false) : Int × Bool × Bool) = r) := hide (by have := unhide HR; unfold idxR at this; rwa [if_neg (unhide HT), if_neg (fun h => h3 h.1)] at this)
      clear h3
      go_enter Tryd.func16, Tryd.ntmps16
      go_wp2_with fail
      go_ret3
      exact ⟨by rw [← unhide HR2]; rfl, by rw [unhide HW]; exact unhide HB⟩
set_option maxHeartbeats 1000000 in
theorem rsev_any (w : World) (e : Ev) (he : e.In) (s : Int) (hs : sevR e = s) :
    Calls Tryd.prog 18 #[.agg e.c] w fun z w' => z = .returned (.int .i64 s) ∧ Below w.heap.size w w' := by
  obtain ⟨⟨i, an, ok⟩, hq⟩ : ∃ q, idxR e = q := ⟨_, rfl⟩
  have hrg := idx_range e he
  rw [hq] at hrg
  dsimp only at hrg
  obtain ⟨hi0, hi1⟩ := hrg
  simp only [sevR, hq] at hs
  have HE := hide he
  obtain ⟨ei, hei⟩ : ∃ x, e = x := ⟨_, rfl⟩
  obtain ⟨id, tm, gn, st, sn, ty, ds, d0, d1, d2⟩ := e
  have hds : ei.ds = ds := by rw [← hei]
  dsimp only at hs
  rw [hei] at hq he
  show Calls Tryd.prog 18 #[.agg #[.int .u16 id, .int .u32 tm, .int .u16 gn, .int .u8 st, .int .u8 sn, .int .u8 ty, .bool ds, .int .u8 d0, .int .u8 d1, .int .u8 d2]] w _
  obtain ⟨W1, hW1⟩ : ∃ W1, w.alloc (.cells #[.int .u16 id, .int .u32 tm, .int .u16 gn, .int .u8 st, .int .u8 sn, .int .u8 ty, .bool ds, .int .u8 d0, .int .u8 d1, .int .u8 d2] 26) = W1 := ⟨_, rfl⟩
  have hb : Below w.heap.size w W1 := hW1 ▸ (Below.refl _ _).alloc (Nat.le_refl _) _
  have H1 : Hid (Blk W1 w.heap.size 26 #[.int .u16 id, .int .u32 tm, .int .u16 gn, .int .u8 st, .int .u8 sn, .int .u8 ty, .bool ds, .int .u8 d0, .int .u8 d1, .int .u8 d2]) := hide (hW1 ▸ Blk.new w _ _)
  have HI : Hid (Calls Tryd.prog 16 #[.agg #[.int .u16 id, .int .u32 tm, .int .u16 gn, .int .u8 st, .int .u8 sn, .int .u8 ty, .bool ds, .int .u8 d0, .int .u8 d1, .int .u8 d2]] W1 (IdxPost W1 (i, an, ok))) := hide (by
    have := ridx_any W1 ei he _ hq
    rw [← hei] at this
    exact this)
  have HB := hide hb
  have HW := hide hW1
  have HS := hide hs
  clear hb hW1 hs hei hq he hds
  go_enter Tryd.func18, Tryd.ntmps18
  go_wp2_with fail
  rw [unhide HW]
  refine (unhide HI).mono ?_
  rintro e w2 ⟨rfl, hb2⟩
  have h2 := (unhide H1).below hb2 (unhide H1).lt
  have hds2 : w2.cell? ⟨w.heap.size, 6, none⟩ = some (.bool ds) := h2.cell 6
  have B2 := hide ((unhide HB).trans (hb2.mono (unhide HB).size))
  clear hb2 h2
  have hlt2 := lt_of_cell hds2
  have hm : IntKind.i64.wrap (i.tmod 3) = i % 3 := by rw [IntWalk.rem_in i 3 hi0]; exact IntWalk.i64_in _ (by omega)
  cases ok <;> cases an <;> cases ds
  all_goals
    go_wp2_with fail
    go_ret
    exact ⟨ret_int (by rw [← unhide HS]; simp), unhide B2⟩
end Go.Proofs.YtklffnfaigmjfaaDoor
