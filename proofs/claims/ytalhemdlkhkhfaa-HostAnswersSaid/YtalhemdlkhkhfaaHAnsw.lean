/- The law HostAnswers, walked: it returns true (printed by wip/gen_hansw.py). -/
import Derived.Test.YtalhemdlkhkhfaaHAll
import Derived.Deep.CutRange
namespace Go.Proofs.Ytalhemdlkhkhfaa
open Go.RowKit
theorem pair_at (a b : Array Value) (ha : a.size = 6) (k j : Nat) (hk : k < 2) (hj : j < 6) : (a ++ b)[k * 6 + j]? = (if k = 0 then a else b)[j]? := by
  have : k = 0 ∨ k = 1 := by omega
  rcases this with rfl | rfl
  · rw [if_pos rfl, Nat.zero_mul, Nat.zero_add, Array.getElem?_append_left (by omega)]
  · rw [if_neg (by omega), Array.getElem?_append_right (by omega), ha]
    congr 1
    omega
theorem step_load_row {P : Program} {l : List Oper} {o : Oper} {a : Act} {w : World} {K : Act → World → Prop} {Q : Exit → Act → World → Prop} {E : Prop} (hw : Region.wanted o (yielded l.toArray a.tmps) = true) (ty : TypeId) (x : Operand) (ho : o.op = .load ty x)
    (g : Nat) (hx : a.eval x = .pointer (some ⟨g, 0, none⟩)) (t : TypeId) (cs : Array Value) (d : TypeDesc) (hg : Blk w g t cs)
    (hu : P.underlying ty = some d) (hd : (match d with | .struct _ | .array _ _ => true | _ => false) = true) (hi : (P.info? ty).map (·.size) = some cs.size)
    (hk : K (a.put o.dst (.agg cs)) w) : if Region.wanted o (yielded l.toArray a.tmps) = true then Oper.wp P o a w K Q else E := by
  rw [if_pos hw]
  unfold Oper.wp execOp
  simp only [ho, hx, Instr.loadAt, Instr.sureAddr, Sem.run_bind, Sem.run_pure, Result.andThen_ok, run_loadVar_row w g t ty cs (0, 0) d hg hu hd hi]
  exact hk
set_option maxRecDepth 100000 in
set_option maxHeartbeats 16000000 in
theorem answers_walk (w : World) (xp xr xh xs xl : Bool) (xb : Int) (A : Option Addr) (n c : Nat) (hn : n ≤ c) (hc : c ≤ maxLen) (L : Nat → Hap) (hL : HapsAt w w.heap.size A n L) (act : Int) :
    Calls Try.prog 3 #[.agg #[.bool xp, .bool xr, .bool xh, .bool xs, .bool xl, .int .i64 xb], .slice A n c, .int .i64 act] w fun e w' => e = .returned (.bool true) ∧ Below w.heap.size w w' := by
  have hnm : n ≤ 9223372036854775807 := by unfold maxLen at hc; omega
  have HA := hide awake_any
  have HL := hide hL
  have HAC := hide act_all
  have HRC := hide ract_all
  have HST := hide step_all
  have HRS := hide rstep_all
  have H0 := hide (Blk.new w 23 #[.bool xp, .bool xr, .bool xh, .bool xs, .bool xl, .int .i64 xb])
  have B0 := hide ((Below.refl w.heap.size w).alloc (Nat.le_refl _) (.cells #[.bool xp, .bool xr, .bool xh, .bool xs, .bool xl, .int .i64 xb] 23))
  clear hL
  go_enter Try.func3, Try.ntmps3
  go_wp2_with fail
  refine (unhide HA _).mono ?_
  rintro e w1 ⟨rfl, hb1⟩
  have H1 := hide ((unhide H0).below hb1 (unhide H0).lt)
  have B1 := hide ((unhide B0).trans (hb1.mono (unhide B0).size))
  clear hb1
  obtain ⟨⟨⟨yp, yr, yh, ys, yl, yb⟩, ye⟩, hy⟩ : ∃ q, actR ⟨xp, xr, xh, xs, xl, xb⟩ act = q := ⟨_, rfl⟩
  have HY := hide hy
  clear hy
  have LOADX : Hid True := hide trivial
  go_wp2_with (first
    | (refine wpList_load_row rfl 23 _ rfl w.heap.size rfl 23 _ _ _ (unhide H1) Try.underlying23 rfl (by kernel_rfl) ?_)
    | fail)
  refine (unhide HAC w1 ⟨xp, xr, xh, xs, xl, xb⟩ act ⟨yp, yr, yh, ys, yl, yb⟩ ye (unhide HY)).mono ?_
  rintro e w2 ⟨rfl, hb2⟩
  have H2 := hide (((unhide H1).below hb2 (unhide H1).lt).alloc (.cells #[.bool yp, .bool yr, .bool yh, .bool ys, .bool yl, .int .i64 yb] 23))
  have B2 := hide (((unhide B1).trans (hb2.mono (unhide B1).size)).alloc (by have := (unhide B1).size; have := hb2.size; omega) (.cells #[.bool yp, .bool yr, .bool yh, .bool ys, .bool yl, .int .i64 yb] 23))
  have Y2 := hide (Blk.new w2 23 #[.bool yp, .bool yr, .bool yh, .bool ys, .bool yl, .int .i64 yb])
  clear hb2
  simp only [HH.v]
  go_wp2_with (first
    | (refine wpList_load_row rfl 23 _ rfl w.heap.size rfl 23 _ _ _ (unhide H2) Try.underlying23 rfl (by kernel_rfl) ?_)
    | fail)
  refine (unhide HRC _ ⟨xp, xr, xh, xs, xl, xb⟩ act ⟨yp, yr, yh, ys, yl, yb⟩ ye (unhide HY)).mono ?_
  rintro e w3 ⟨rfl, hb3⟩
  have H3 := hide (((unhide H2).below hb3 (unhide H2).lt).alloc (.cells #[.bool yp, .bool yr, .bool yh, .bool ys, .bool yl, .int .i64 yb] 23))
  have B3 := hide (((unhide B2).trans (hb3.mono (unhide B2).size)).alloc (by have := (unhide B2).size; have := hb3.size; omega) (.cells #[.bool yp, .bool yr, .bool yh, .bool ys, .bool yl, .int .i64 yb] 23))
  have hy3 := (unhide Y2).below hb3 (unhide Y2).lt
  have y0 : w3.cell? ⟨w2.heap.size, 0, none⟩ = some (.bool yp) := hy3.cell 0
  have y1 : w3.cell? ⟨w2.heap.size, 1, none⟩ = some (.bool yr) := hy3.cell 1
  have y2 : w3.cell? ⟨w2.heap.size, 2, none⟩ = some (.bool yh) := hy3.cell 2
  have y3 : w3.cell? ⟨w2.heap.size, 3, none⟩ = some (.bool ys) := hy3.cell 3
  have y4 : w3.cell? ⟨w2.heap.size, 4, none⟩ = some (.bool yl) := hy3.cell 4
  have y5 : w3.cell? ⟨w2.heap.size, 5, none⟩ = some (.int .i64 yb) := hy3.cell 5
  have hlt3 : w2.heap.size < w3.heap.size := hy3.lt
  clear hb3 hy3
  simp only [HH.v]
  have H4 := hide ((unhide H3).alloc (.cells #[.bool false, .bool false, .bool false, .bool false, .bool false, .int .i64 0] 23))
  have B4 := hide ((unhide B3).alloc (unhide B3).size (.cells #[.bool false, .bool false, .bool false, .bool false, .bool false, .int .i64 0] 23))
  obtain ⟨W4, hW4⟩ : ∃ W4, (w3.alloc (.cells #[.bool yp, .bool yr, .bool yh, .bool ys, .bool yl, .int .i64 yb] 23)).alloc (.cells #[.bool false, .bool false, .bool false, .bool false, .bool false, .int .i64 0] 23) = W4 := ⟨_, rfl⟩
  have Z4 : Hid (Blk W4 (w3.heap.size + 1) 23 #[.bool false, .bool false, .bool false, .bool false, .bool false, .int .i64 0]) := hide (hW4 ▸ Blk.new' (by simp))
  rw [hW4] at H4 B4
  have HW4 := hide hW4
  clear hW4
  go_wp2_with fail
  rw [unhide HW4]
  
  have hg11 : w.heap.size < w3.heap.size + 1 := by have := (unhide H3).lt; rwa [size_alloc] at this
  clear y0 y1 y2 y3 y4 y5 H0 H1 H2 H3 B0 B1 B2 B3 Y2 HW4 LOADX HY
  go_loopw [12] (fun i wr => ∃ k : Nat, k ≤ n ∧ k ≤ 200 ∧ i = .int .i64 k ∧ ∃ z : HH, Blk wr (w3.heap.size + 1) 23 z.c ∧ Blk wr w.heap.size 23 #[.bool xp, .bool xr, .bool xh, .bool xs, .bool xl, .int .i64 xb] ∧ Below w.heap.size w wr) (fun i _ => 200 - (intOf i).toNat)
  case atStart => exact ⟨0, by omega, by omega, rfl, zeroH, unhide Z4, unhide H4, unhide B4⟩
  case round =>
    obtain ⟨wo, hwo⟩ : ∃ wo, wo = wr := ⟨_, rfl⟩
    subst hwo
    obtain ⟨k, hkn, hk2, rfl, ⟨zp, zr, zh, zs, zl, zb⟩, hbz, hbx, hB⟩ := hrel
    have hbz : Blk wo (w3.heap.size + 1) 23 #[.bool zp, .bool zr, .bool zh, .bool zs, .bool zl, .int .i64 zb] := hbz
    by_cases hlt : k < n ∧ k < 200
    · obtain ⟨hlt1, hlt2⟩ := hlt
      obtain ⟨gb, go, rfl, hab, ha, c0, c1, c2, c3⟩ := (unhide HL).below hB k hlt1
      have HZ := hide hbz
      have HX := hide hbx
      have BJ := hide hB
      have hd1 : decide (k < n) = true := by simpa using hlt1
      have hd2 : decide ((k : Int) < 200) = true := by simp; omega
      have hd3 : (k : Int) < 200 := by omega
      have hs2 : w.heap.size ≤ wo.heap.size := hB.size
      clear hbz hbx hB
      obtain ⟨⟨ac, on, rs, sf⟩, hap⟩ : ∃ q, L k = q := ⟨_, rfl⟩
      rw [hap] at ha c0 c1 c2 c3
      dsimp only at ha c0 c1 c2 c3
      have HAP := hide hap
      clear hap
      have C0 := hide c0
      have C1 := hide c1
      have C2 := hide c2
      have C3 := hide c3
      have hkA : gb < wo.heap.size := by omega
      clear c0 c1 c2 c3
      obtain ⟨W5, hW5⟩ : ∃ W5, wo.alloc (.cells (#[.bool zp, .bool zr, .bool zh, .bool zs, .bool zl, .int .i64 zb] ++ #[.bool xp, .bool xr, .bool xh, .bool xs, .bool xl, .int .i64 xb]) 23) = W5 := ⟨_, rfl⟩
      have S5 : Hid (Blk W5 wo.heap.size 23 (#[.bool zp, .bool zr, .bool zh, .bool zs, .bool zl, .int .i64 zb] ++ #[.bool xp, .bool xr, .bool xh, .bool xs, .bool xl, .int .i64 xb])) := hide (hW5 ▸ Blk.new wo _ _)
      have A5 : Hid (Below wo.heap.size wo W5) := hide (hW5 ▸ (Below.refl _ _).alloc (Nat.le_refl _) _)
      have HW5 := hide hW5
      clear hW5
      go_wp2_with (first
        | (refine wpList_load_row rfl 23 _ rfl (w3.heap.size + 1) rfl 23 _ _ _ (unhide HZ) Try.underlying23 rfl (by kernel_rfl) ?_)
        | (refine wpList_load_row rfl 23 _ rfl w.heap.size rfl 23 _ _ _ (unhide HX) Try.underlying23 rfl (by kernel_rfl) ?_)
        | fail)
      have hw5 := unhide HW5
      rw [show (#[.bool zp, .bool zr, .bool zh, .bool zs, .bool zl, .int .i64 zb] ++ #[.bool xp, .bool xr, .bool xh, .bool xs, .bool xl, .int .i64 xb] : Array Value) = #[.bool zp, .bool zr, .bool zh, .bool zs, .bool zl, .int .i64 zb, .bool xp, .bool xr, .bool xh, .bool xs, .bool xl, .int .i64 xb] from rfl] at hw5
      rw [hw5]
      clear hw5 HW5
      have HB5 := hide (Below.refl W5.heap.size W5)
      
      go_loopw [66] (fun i wi => ∃ j : Nat, j ≤ 2 ∧ i = .int .i64 j ∧ Below W5.heap.size W5 wi) (fun i _ => 2 - (intOf i).toNat)
      case atStart => exact ⟨0, by omega, rfl, unhide HB5⟩
      case round =>
        obtain ⟨j, hj, rfl, hBi⟩ := hrel
        have BI := hide hBi
        clear hBi
        by_cases hjl : j < 2
        · skip
          obtain ⟨⟨qp, qr, qh, qs, ql, qb⟩, hq⟩ : ∃ q : HH, ∀ i, i < 6 → wr.cell? ⟨wo.heap.size, j * 6 + i, none⟩ = q.c[i]? := by
            have h5 := (unhide S5).below (unhide BI) (unhide S5).lt
            have : j = 0 ∨ j = 1 := by omega
            rcases this with rfl | rfl
            · exact ⟨⟨zp, zr, zh, zs, zl, zb⟩, fun i hi => by rw [h5.cell, pair_at _ _ rfl 0 i (by omega) hi]; rfl⟩
            · exact ⟨⟨xp, xr, xh, xs, xl, xb⟩, fun i hi => by rw [h5.cell, pair_at _ _ rfl 1 i (by omega) hi]; rfl⟩
          have q0 : wr.cell? ⟨wo.heap.size, j * 6, none⟩ = some (.bool qp) := hq 0 (by omega)
          have q1 : wr.cell? ⟨wo.heap.size, j * 6 + 1, none⟩ = some (.bool qr) := hq 1 (by omega)
          have q2 : wr.cell? ⟨wo.heap.size, j * 6 + 2, none⟩ = some (.bool qh) := hq 2 (by omega)
          have q3 : wr.cell? ⟨wo.heap.size, j * 6 + 3, none⟩ = some (.bool qs) := hq 3 (by omega)
          have q4 : wr.cell? ⟨wo.heap.size, j * 6 + 4, none⟩ = some (.bool ql) := hq 4 (by omega)
          have q5 : wr.cell? ⟨wo.heap.size, j * 6 + 5, none⟩ = some (.int .i64 qb) := hq 5 (by omega)
          have hjd : (j : Int) < 2 := by omega
          clear hq
          obtain ⟨⟨⟨up, ur, uh, us, ul, ub⟩, ra, rb, rc, re⟩, hst⟩ : ∃ q, stepR ⟨qp, qr, qh, qs, ql, qb⟩ on rs sf = q := ⟨_, rfl⟩
          have HSQ := hide hst
          obtain ⟨q9, hq9⟩ : ∃ q, ac % 9 = q := ⟨_, rfl⟩
          have hq98 : q9 ≤ 8 := by omega
          have hqi : ((ac : Int)).tmod 9 = (q9 : Int) := by rw [← hq9]; exact Int.ofNat_tmod ac 9
          have hqw : IntKind.i64.wrap (q9 : Int) = (q9 : Int) := IntWalk.i64_in _ (by omega)
          have hqx : IntKind.i64.wrap ((q9 : Int) - 1) = (q9 : Int) - 1 := IntWalk.i64_in _ (by omega)
          obtain ⟨⟨⟨vp, vr, vh, vs, vl, vb⟩, ve⟩, hact⟩ : ∃ q, actR ⟨qp, qr, qh, qs, ql, qb⟩ ((q9 : Int) - 1) = q := ⟨_, rfl⟩
          have HAQ := hide hact
          obtain ⟨bv, hbv⟩ : ∃ b, validH ⟨qp, qr, qh, qs, ql, qb⟩ = b := ⟨_, rfl⟩
          have HBV := hide hbv
          have HQI := hide hqi
          have HQW := hide hqw
          have HQX := hide hqx
          clear hst hq9 hact hbv hqi hqw hqx
          obtain ⟨W6, hW6⟩ : ∃ W6, wr.alloc (.cells #[.bool qp, .bool qr, .bool qh, .bool qs, .bool ql, .int .i64 qb] 23) = W6 := ⟨_, rfl⟩
          have T6 : Hid (Blk W6 wr.heap.size 23 #[.bool qp, .bool qr, .bool qh, .bool qs, .bool ql, .int .i64 qb]) := hide (hW6 ▸ Blk.new wr _ _)
          have A6 : Hid (Below W5.heap.size W5 W6) := hide (hW6 ▸ (unhide BI).alloc (unhide BI).size _)
          have hs5 : wo.heap.size ≤ W5.heap.size := (unhide A5).size
          have hs6 : W5.heap.size ≤ W6.heap.size := (unhide A6).size
          have HW6 := hide hW6
          clear hW6
          go_upto_region 14 with fail
          rw [unhide HW6]
          clear q0 q1 q2 q3 q4 q5 HW6
          have D0 : Hid (W6.cell? ⟨gb, go + k * 4, none⟩ = some (.int .u8 (ac : Int))) := hide (((unhide A6).cell (p := ⟨gb, _, none⟩) (by show gb < W5.heap.size; omega)).trans (((unhide A5).cell (p := ⟨gb, _, none⟩) hkA).trans (unhide C0)))
          have D1 : Hid (W6.cell? ⟨gb, go + k * 4 + 1, none⟩ = some (.bool on)) := hide (((unhide A6).cell (p := ⟨gb, _, none⟩) (by show gb < W5.heap.size; omega)).trans (((unhide A5).cell (p := ⟨gb, _, none⟩) hkA).trans (unhide C1)))
          have D2 : Hid (W6.cell? ⟨gb, go + k * 4 + 2, none⟩ = some (.bool rs)) := hide (((unhide A6).cell (p := ⟨gb, _, none⟩) (by show gb < W5.heap.size; omega)).trans (((unhide A5).cell (p := ⟨gb, _, none⟩) hkA).trans (unhide C2)))
          have D3 : Hid (W6.cell? ⟨gb, go + k * 4 + 3, none⟩ = some (.bool sf)) := hide (((unhide A6).cell (p := ⟨gb, _, none⟩) (by show gb < W5.heap.size; omega)).trans (((unhide A5).cell (p := ⟨gb, _, none⟩) hkA).trans (unhide C3)))
          have hk6 : gb < W6.heap.size := by omega
          go_cut [15] from 70 to 156 (fun p W => ∃ g, p = .pointer (some ⟨g, 0, none⟩) ∧ Blk W g 33 #[.bool on, .bool rs, .bool sf] ∧ Below W6.heap.size W6 W)
          case first =>
            have hS0 : Below W6.heap.size W6 W6.drew := (Below.refl _ _).drew
            refine wp_region_noPanic (wp_region_held_drew (S := fun W => Below W6.heap.size W6 W) (by kernel_rfl) hS0 (fun _ => ?_))
            refine th_take (i := 0) (v := ?_) rfl (by kernel_rfl) (by kernel_rfl) (by kernel_rfl) (Or.inl ⟨by rfl, fun w hSw => ?_⟩) hS0 ?_
            rotate_left
            · go_simp
              with_reducible rfl
            simp only [Act.put, List.setIfInBounds_toArray, List.set_cons_zero, List.set_cons_succ]
            refine th_take (i := 1) (v := ?_) rfl (by kernel_rfl) (by kernel_rfl) (by kernel_rfl) (Or.inl ⟨by rfl, fun w hSw => ?_⟩) hS0 ?_
            rotate_left
            · go_simp
              with_reducible rfl
            simp only [Act.put, List.setIfInBounds_toArray, List.set_cons_zero, List.set_cons_succ]
            refine th_take (i := 2) (v := ?_) rfl (by kernel_rfl) (by kernel_rfl) (by kernel_rfl) (Or.inl ⟨by rfl, fun w hSw => ?_⟩) hS0 ?_
            rotate_left
            · go_simp
              with_reducible rfl
            simp only [Act.put, List.setIfInBounds_toArray, List.set_cons_zero, List.set_cons_succ]
            refine th_take (i := 3) (v := ?_) rfl (by kernel_rfl) (by kernel_rfl) (by kernel_rfl) (Or.inl ⟨by rfl, fun w hSw => ?_⟩) hS0 ?_
            rotate_left
            · go_simp
              with_reducible rfl
            simp only [Act.put, List.setIfInBounds_toArray, List.set_cons_zero, List.set_cons_succ]
            refine th_take (i := 4) (v := .bool on) rfl (by kernel_rfl) (by kernel_rfl) (by kernel_rfl) (Or.inl ⟨by rfl, fun w hSw => ?_⟩) hS0 ?_
            · have hc := (hSw.cell (p := ⟨gb, _, none⟩) hk6).trans (unhide D1)
              go_simp
            simp only [Act.put, List.setIfInBounds_toArray, List.set_cons_zero, List.set_cons_succ]
            refine th_take (i := 5) (v := ?_) rfl (by kernel_rfl) (by kernel_rfl) (by kernel_rfl) (Or.inl ⟨by rfl, fun w hSw => ?_⟩) hS0 ?_
            rotate_left
            · go_simp
              with_reducible rfl
            simp only [Act.put, List.setIfInBounds_toArray, List.set_cons_zero, List.set_cons_succ]
            refine th_take (i := 6) (v := ?_) rfl (by kernel_rfl) (by kernel_rfl) (by kernel_rfl) (Or.inl ⟨by rfl, fun w hSw => ?_⟩) hS0 ?_
            rotate_left
            · go_simp
              with_reducible rfl
            simp only [Act.put, List.setIfInBounds_toArray, List.set_cons_zero, List.set_cons_succ]
            refine th_take (i := 7) (v := ?_) rfl (by kernel_rfl) (by kernel_rfl) (by kernel_rfl) (Or.inl ⟨by rfl, fun w hSw => ?_⟩) hS0 ?_
            rotate_left
            · go_simp
              with_reducible rfl
            simp only [Act.put, List.setIfInBounds_toArray, List.set_cons_zero, List.set_cons_succ]
            refine th_take (i := 8) (v := ?_) rfl (by kernel_rfl) (by kernel_rfl) (by kernel_rfl) (Or.inl ⟨by rfl, fun w hSw => ?_⟩) hS0 ?_
            rotate_left
            · go_simp
              with_reducible rfl
            simp only [Act.put, List.setIfInBounds_toArray, List.set_cons_zero, List.set_cons_succ]
            refine th_take (i := 9) (v := .bool rs) rfl (by kernel_rfl) (by kernel_rfl) (by kernel_rfl) (Or.inl ⟨by rfl, fun w hSw => ?_⟩) hS0 ?_
            · have hc := (hSw.cell (p := ⟨gb, _, none⟩) hk6).trans (unhide D2)
              go_simp
            simp only [Act.put, List.setIfInBounds_toArray, List.set_cons_zero, List.set_cons_succ]
            refine th_take (i := 10) (v := ?_) rfl (by kernel_rfl) (by kernel_rfl) (by kernel_rfl) (Or.inl ⟨by rfl, fun w hSw => ?_⟩) hS0 ?_
            rotate_left
            · go_simp
              with_reducible rfl
            simp only [Act.put, List.setIfInBounds_toArray, List.set_cons_zero, List.set_cons_succ]
            refine th_take (i := 11) (v := ?_) rfl (by kernel_rfl) (by kernel_rfl) (by kernel_rfl) (Or.inl ⟨by rfl, fun w hSw => ?_⟩) hS0 ?_
            rotate_left
            · go_simp
              with_reducible rfl
            simp only [Act.put, List.setIfInBounds_toArray, List.set_cons_zero, List.set_cons_succ]
            refine th_take (i := 12) (v := ?_) rfl (by kernel_rfl) (by kernel_rfl) (by kernel_rfl) (Or.inl ⟨by rfl, fun w hSw => ?_⟩) hS0 ?_
            rotate_left
            · go_simp
              with_reducible rfl
            simp only [Act.put, List.setIfInBounds_toArray, List.set_cons_zero, List.set_cons_succ]
            refine th_take (i := 13) (v := ?_) rfl (by kernel_rfl) (by kernel_rfl) (by kernel_rfl) (Or.inl ⟨by rfl, fun w hSw => ?_⟩) hS0 ?_
            rotate_left
            · go_simp
              with_reducible rfl
            simp only [Act.put, List.setIfInBounds_toArray, List.set_cons_zero, List.set_cons_succ]
            refine th_take (i := 14) (v := .bool sf) rfl (by kernel_rfl) (by kernel_rfl) (by kernel_rfl) (Or.inl ⟨by rfl, fun w hSw => ?_⟩) hS0 ?_
            · have hc := (hSw.cell (p := ⟨gb, _, none⟩) hk6).trans (unhide D3)
              go_simp
            simp only [Act.put, List.setIfInBounds_toArray, List.set_cons_zero, List.set_cons_succ]
            refine th_take (i := 15) (v := ?_) rfl (by kernel_rfl) (by kernel_rfl) (by kernel_rfl) (Or.inl ⟨by rfl, fun w hSw => ?_⟩) hS0 ?_
            rotate_left
            · go_simp
              with_reducible rfl
            simp only [Act.put, List.setIfInBounds_toArray, List.set_cons_zero, List.set_cons_succ]
            refine th_one (i := 16) rfl (by kernel_rfl) (fun K hK => ?_)
            rw [if_pos (by rfl)]
            go_simp
            have hS1 : Below W6.heap.size W6 (W6.drew.alloc (.cells #[.bool false, .bool false, .bool false] 33)) := hS0.alloc hS0.size _
            refine hK.out _ _ hS1 (fun _ => ?_)
            clear hK K
            try simp only [Act.put, List.setIfInBounds_toArray, List.set_cons_zero, List.set_cons_succ]
            refine th_one (i := 17) rfl (by kernel_rfl) (fun K hK => ?_)
            refine step_store_blk (by rfl) 33 (.tmp 15) (.tmp 85) rfl W6.heap.size 33 _ #[.bool on, .bool rs, .bool sf] rfl rfl (Blk.new W6.drew _ #[.bool false, .bool false, .bool false]) rfl (by kernel_rfl) (by intro u hu; simp at hu; rcases hu with rfl | rfl | rfl <;> rfl) ?_
            intro w7 hb7 hg7
            have hS7 : Below W6.heap.size W6 w7 := hS1.grown hg7 hS1.size (fun g e => by injection e with e; omega)
            refine hK.out _ _ hS7 (fun _ => ?_)
            clear hK K
            try simp only [Act.put]
            refine wpAnyH_done (by kernel_rfl) (NoPanic.normal ?_) _
            go_wp2_with fail
            go_meet
            exact ⟨W6.heap.size, rfl, hb7, hS7⟩
          case rest =>
            obtain ⟨gs, rfl, hbs, hB7⟩ := hcut
            obtain ⟨w7, hw7⟩ : ∃ w7, w7 = wc := ⟨_, rfl⟩
            subst hw7
            have T7 := hide ((unhide T6).below hB7 (unhide T6).lt)
            have G7 := hide hbs
            have A7 := hide hB7
            clear hbs hB7
            go_wp2_with (first
              | (refine wpList_load_row rfl 23 _ rfl wr.heap.size rfl 23 _ _ _ (unhide T7) Try.underlying23 rfl (by kernel_rfl) ?_)
              | (refine wpList_load_row rfl 33 _ rfl gs rfl 33 _ _ _ (unhide G7) Try.underlying33 rfl (by kernel_rfl) ?_)
              | fail)
            refine (unhide HST w7 ⟨qp, qr, qh, qs, ql, qb⟩ on rs sf ⟨up, ur, uh, us, ul, ub⟩ ra rb rc re (unhide HSQ)).mono ?_
            rintro e w8 ⟨rfl, hb8⟩
            simp only [HH.c]
            have T9 := hide ((((unhide T7).below hb8 (unhide T7).lt).alloc (.cells #[.bool up, .bool ur, .bool uh, .bool us, .bool ul, .int .i64 ub] 23)).alloc (.cells #[.bool ra, .bool rb, .bool rc] 35))
            have G9 := hide ((((unhide G7).below hb8 (unhide G7).lt).alloc (.cells #[.bool up, .bool ur, .bool uh, .bool us, .bool ul, .int .i64 ub] 23)).alloc (.cells #[.bool ra, .bool rb, .bool rc] 35))
            have U9 := hide ((Blk.new w8 23 #[.bool up, .bool ur, .bool uh, .bool us, .bool ul, .int .i64 ub]).alloc (.cells #[.bool ra, .bool rb, .bool rc] 35))
            have R9 : Hid (Blk ((w8.alloc (.cells #[.bool up, .bool ur, .bool uh, .bool us, .bool ul, .int .i64 ub] 23)).alloc (.cells #[.bool ra, .bool rb, .bool rc] 35)) (w8.heap.size + 1) 35 #[.bool ra, .bool rb, .bool rc]) := hide (Blk.new' (by simp))
            have A8 := hide ((unhide A7).trans (hb8.mono (unhide A7).size))
            have A9 := hide (((unhide A8).alloc (unhide A8).size (.cells #[.bool up, .bool ur, .bool uh, .bool us, .bool ul, .int .i64 ub] 23)).alloc (by rw [size_alloc]; have := (unhide A8).size; omega) (.cells #[.bool ra, .bool rb, .bool rc] 35))
            clear hb8
            go_wp2_with (first
              | (refine wpList_load_row rfl 23 _ rfl wr.heap.size rfl 23 _ _ _ (unhide T9) Try.underlying23 rfl (by kernel_rfl) ?_)
              | (refine wpList_load_row rfl 33 _ rfl gs rfl 33 _ _ _ (unhide G9) Try.underlying33 rfl (by kernel_rfl) ?_)
              | fail)
            refine (unhide HRS _ ⟨qp, qr, qh, qs, ql, qb⟩ on rs sf ⟨up, ur, uh, us, ul, ub⟩ ra rb rc re (unhide HSQ)).mono ?_
            rintro e w10 ⟨rfl, hb10⟩
            simp only [HH.c]
            obtain ⟨W11, hW11⟩ : ∃ W11, (w10.alloc (.cells #[.bool up, .bool ur, .bool uh, .bool us, .bool ul, .int .i64 ub] 23)).alloc (.cells #[.bool ra, .bool rb, .bool rc] 35) = W11 := ⟨_, rfl⟩
            have T11 : Hid (Blk W11 wr.heap.size 23 #[.bool qp, .bool qr, .bool qh, .bool qs, .bool ql, .int .i64 qb]) := hide (hW11 ▸ (((unhide T9).below hb10 (unhide T9).lt).alloc _).alloc _)
            have U11 : Hid (Blk W11 w8.heap.size 23 #[.bool up, .bool ur, .bool uh, .bool us, .bool ul, .int .i64 ub]) := hide (hW11 ▸ (((unhide U9).below hb10 (unhide U9).lt).alloc _).alloc _)
            have R11 : Hid (Blk W11 (w8.heap.size + 1) 35 #[.bool ra, .bool rb, .bool rc]) := hide (hW11 ▸ (((unhide R9).below hb10 (unhide R9).lt).alloc _).alloc _)
            have X11 : Hid (Blk W11 w10.heap.size 23 #[.bool up, .bool ur, .bool uh, .bool us, .bool ul, .int .i64 ub]) := hide (hW11 ▸ (Blk.new w10 _ _).alloc _)
            have Y11 : Hid (Blk W11 (w10.heap.size + 1) 35 #[.bool ra, .bool rb, .bool rc]) := hide (hW11 ▸ Blk.new' (by simp))
            have A10 := hide ((unhide A9).trans (hb10.mono (unhide A9).size))
            have A11 : Hid (Below W6.heap.size W6 W11) := hide (hW11 ▸ ((unhide A10).alloc (unhide A10).size _).alloc (by rw [size_alloc]; have := (unhide A10).size; omega) _)
            have HW11 := hide hW11
            clear hb10 hW11
            go_upto_region 17 with fail
            rw [unhide HW11]
            clear HW11 T7 T9 G7 G9 U9 R9 A7 A8 A9 A10
            have hs11 : W6.heap.size ≤ W11.heap.size := (unhide A11).size
            have E0 : Hid (W11.cell? ⟨gb, go + k * 4, none⟩ = some (.int .u8 (ac : Int))) := hide (((unhide A11).cell (p := ⟨gb, _, none⟩) hk6).trans (unhide D0))
            have hk11 : gb < W11.heap.size := by omega
            
            have hqi := unhide HQI
            have hqw := unhide HQW
            have hqx := unhide HQX
            go_cut [22, 23] from 101 to 156 (fun p e W => ∃ g, p = .pointer (some ⟨g, 0, none⟩) ∧ e = .int .i64 ve ∧ Blk W g 23 #[.bool vp, .bool vr, .bool vh, .bool vs, .bool vl, .int .i64 vb] ∧ Below W11.heap.size W11 W)
            case first =>
              have hS0 : Below W11.heap.size W11 W11.drew := (Below.refl _ _).drew
              refine wp_region_noPanic (wp_region_held_drew (S := fun W => Below W11.heap.size W11 W) (by kernel_rfl) hS0 (fun _ => ?_))
              refine th_take (i := 0) rfl (by kernel_rfl) (by kernel_rfl) (by kernel_rfl) (y_loadblk 23 (.tmp 14) (by rfl) rfl wr.heap.size rfl 23 #[.bool qp, .bool qr, .bool qh, .bool qs, .bool ql, .int .i64 qb] _ (fun _ h => (unhide T11).below h (unhide T11).lt) Try.underlying23 rfl (by kernel_rfl)) hS0 ?_
              simp only [Act.put, List.setIfInBounds_toArray, List.set_cons_zero, List.set_cons_succ]
              refine th_take (i := 1) (v := ?_) rfl (by kernel_rfl) (by kernel_rfl) (by kernel_rfl) (Or.inl ⟨by rfl, fun w hSw => ?_⟩) hS0 ?_
              rotate_left
              · go_simp
                with_reducible rfl
              simp only [Act.put, List.setIfInBounds_toArray, List.set_cons_zero, List.set_cons_succ]
              refine th_take (i := 2) (v := ?_) rfl (by kernel_rfl) (by kernel_rfl) (by kernel_rfl) (Or.inl ⟨by rfl, fun w hSw => ?_⟩) hS0 ?_
              rotate_left
              · go_simp
                with_reducible rfl
              simp only [Act.put, List.setIfInBounds_toArray, List.set_cons_zero, List.set_cons_succ]
              refine th_take (i := 3) (v := ?_) rfl (by kernel_rfl) (by kernel_rfl) (by kernel_rfl) (Or.inl ⟨by rfl, fun w hSw => ?_⟩) hS0 ?_
              rotate_left
              · go_simp
                with_reducible rfl
              simp only [Act.put, List.setIfInBounds_toArray, List.set_cons_zero, List.set_cons_succ]
              refine th_take (i := 4) (v := ?_) rfl (by kernel_rfl) (by kernel_rfl) (by kernel_rfl) (Or.inl ⟨by rfl, fun w hSw => ?_⟩) hS0 ?_
              rotate_left
              · go_simp
                with_reducible rfl
              simp only [Act.put, List.setIfInBounds_toArray, List.set_cons_zero, List.set_cons_succ]
              refine th_take (i := 5) (v := .int .u8 (ac : Int)) rfl (by kernel_rfl) (by kernel_rfl) (by kernel_rfl) (Or.inl ⟨by rfl, fun w hSw => ?_⟩) hS0 ?_
              · have hc := (hSw.cell (p := ⟨gb, _, none⟩) hk11).trans (unhide E0)
                go_simp
              simp only [Act.put, List.setIfInBounds_toArray, List.set_cons_zero, List.set_cons_succ]
              refine th_take (i := 6) (v := ?_) rfl (by kernel_rfl) (by kernel_rfl) (by kernel_rfl) (Or.inl ⟨by rfl, fun w hSw => ?_⟩) hS0 ?_
              rotate_left
              · go_simp
                with_reducible rfl
              simp only [Act.put, List.setIfInBounds_toArray, List.set_cons_zero, List.set_cons_succ]
              refine th_take (i := 7) (v := ?_) rfl (by kernel_rfl) (by kernel_rfl) (by kernel_rfl) (Or.inl ⟨by rfl, fun w hSw => ?_⟩) hS0 ?_
              rotate_left
              · go_simp
                with_reducible rfl
              simp only [Act.put, List.setIfInBounds_toArray, List.set_cons_zero, List.set_cons_succ]
              refine th_take (i := 8) (v := ?_) rfl (by kernel_rfl) (by kernel_rfl) (by kernel_rfl) (Or.inl ⟨by rfl, fun w hSw => ?_⟩) hS0 ?_
              rotate_left
              · go_simp
                with_reducible rfl
              simp only [Act.put, List.setIfInBounds_toArray, List.set_cons_zero, List.set_cons_succ]
              refine th_two (i := 9) (j := 13) rfl rfl (by kernel_rfl) (fun K hK => ?_) (fun K hK => ?_)
              · -- the call first
                rw [if_pos (by rfl)]
                go_simp
                refine (unhide HAC _ ⟨qp, qr, qh, qs, ql, qb⟩ ((q9 : Int) - 1) ⟨vp, vr, vh, vs, vl, vb⟩ ve (unhide HAQ)).mono ?_
                rintro e w5 ⟨rfl, hb5⟩
                have hS5 : Below W11.heap.size W11 w5 := hS0.trans hb5
                refine hK.out _ _ hS5 (fun _ => ?_)
                clear hK K
                try simp only [Act.put, List.setIfInBounds_toArray, List.set_cons_zero, List.set_cons_succ]
                simp only [HH.v]
                refine th_take (i := 10) (v := ?_) rfl (by kernel_rfl) (by kernel_rfl) (by kernel_rfl) (Or.inl ⟨by rfl, fun w hSw => ?_⟩) hS5 ?_
                rotate_left
                · go_simp
                  with_reducible rfl
                simp only [Act.put, List.setIfInBounds_toArray, List.set_cons_zero, List.set_cons_succ]
                refine th_take (i := 11) (v := ?_) rfl (by kernel_rfl) (by kernel_rfl) (by kernel_rfl) (Or.inl ⟨by rfl, fun w hSw => ?_⟩) hS5 ?_
                rotate_left
                · go_simp
                  with_reducible rfl
                simp only [Act.put, List.setIfInBounds_toArray, List.set_cons_zero, List.set_cons_succ]
                refine th_take (i := 12) (v := ?_) rfl (by kernel_rfl) (by kernel_rfl) (by kernel_rfl) (Or.inl ⟨by rfl, fun w hSw => ?_⟩) hS5 ?_
                rotate_left
                · go_simp
                  with_reducible rfl
                simp only [Act.put, List.setIfInBounds_toArray, List.set_cons_zero, List.set_cons_succ]
                refine th_one (i := 13) rfl (by kernel_rfl) (fun K hK => ?_)
                rw [if_pos (by rfl)]
                go_simp
                have hS6 : Below W11.heap.size W11 (w5.alloc (.cells #[.bool false, .bool false, .bool false, .bool false, .bool false, .int .i64 0] 23)) := hS5.alloc hS5.size _
                refine hK.out _ _ hS6 (fun _ => ?_)
                clear hK K
                try simp only [Act.put, List.setIfInBounds_toArray, List.set_cons_zero, List.set_cons_succ]
                refine th_one (i := 14) rfl (by kernel_rfl) (fun K hK => ?_)
                refine step_store_blk (by rfl) 23 (.tmp 22) (.tmp 111) rfl w5.heap.size 23 _ #[.bool vp, .bool vr, .bool vh, .bool vs, .bool vl, .int .i64 vb] rfl rfl (Blk.new w5 _ #[.bool false, .bool false, .bool false, .bool false, .bool false, .int .i64 0]) rfl (by kernel_rfl) (by intro u hu; simp at hu; rcases hu with rfl | rfl | rfl | rfl | rfl | rfl <;> rfl) ?_
                intro w7 hb7 hg7
                have hS7 : Below W11.heap.size W11 w7 := hS6.grown hg7 hS6.size (fun g e => by injection e with e; have := hS5.size; omega)
                refine hK.out _ _ hS7 (fun _ => ?_)
                clear hK K
                try simp only [Act.put]
                refine th_take (i := 15) (v := ?_) rfl (by kernel_rfl) (by kernel_rfl) (by kernel_rfl) (Or.inl ⟨by rfl, fun w hSw => ?_⟩) hS7 ?_
                rotate_left
                · go_simp
                  with_reducible rfl
                simp only [Act.put, List.setIfInBounds_toArray, List.set_cons_zero, List.set_cons_succ]
                refine wpAnyH_done (by kernel_rfl) (NoPanic.normal ?_) _
                go_wp2_with fail
                go_meet
                exact ⟨w5.heap.size, rfl, rfl, hb7, hS7⟩
              · -- the block first
                rw [if_pos (by rfl)]
                go_simp
                have hS4 : Below W11.heap.size W11 (W11.drew.alloc (.cells #[.bool false, .bool false, .bool false, .bool false, .bool false, .int .i64 0] 23)) := hS0.alloc hS0.size _
                refine hK.out _ _ hS4 (fun _ => ?_)
                clear hK K
                try simp only [Act.put, List.setIfInBounds_toArray, List.set_cons_zero, List.set_cons_succ]
                refine th_one (i := 9) rfl (by kernel_rfl) (fun K hK => ?_)
                rw [if_pos (by rfl)]
                go_simp
                refine (unhide HAC _ ⟨qp, qr, qh, qs, ql, qb⟩ ((q9 : Int) - 1) ⟨vp, vr, vh, vs, vl, vb⟩ ve (unhide HAQ)).mono ?_
                rintro e w5 ⟨rfl, hb5⟩
                have hz5 : Blk w5 W11.heap.size 23 #[.bool false, .bool false, .bool false, .bool false, .bool false, .int .i64 0] := (Blk.new W11.drew _ _).below hb5 (by simp)
                have hS5 : Below W11.heap.size W11 w5 := hS4.trans (hb5.mono hS4.size)
                refine hK.out _ _ hS5 (fun _ => ?_)
                clear hK K
                try simp only [Act.put, List.setIfInBounds_toArray, List.set_cons_zero, List.set_cons_succ]
                simp only [HH.v]
                refine th_take (i := 10) (v := ?_) rfl (by kernel_rfl) (by kernel_rfl) (by kernel_rfl) (Or.inl ⟨by rfl, fun w hSw => ?_⟩) hS5 ?_
                rotate_left
                · go_simp
                  with_reducible rfl
                simp only [Act.put, List.setIfInBounds_toArray, List.set_cons_zero, List.set_cons_succ]
                refine th_take (i := 11) (v := ?_) rfl (by kernel_rfl) (by kernel_rfl) (by kernel_rfl) (Or.inl ⟨by rfl, fun w hSw => ?_⟩) hS5 ?_
                rotate_left
                · go_simp
                  with_reducible rfl
                simp only [Act.put, List.setIfInBounds_toArray, List.set_cons_zero, List.set_cons_succ]
                refine th_take (i := 12) (v := ?_) rfl (by kernel_rfl) (by kernel_rfl) (by kernel_rfl) (Or.inl ⟨by rfl, fun w hSw => ?_⟩) hS5 ?_
                rotate_left
                · go_simp
                  with_reducible rfl
                simp only [Act.put, List.setIfInBounds_toArray, List.set_cons_zero, List.set_cons_succ]
                refine th_one (i := 14) rfl (by kernel_rfl) (fun K hK => ?_)
                refine step_store_blk (by rfl) 23 (.tmp 22) (.tmp 111) rfl W11.heap.size 23 _ #[.bool vp, .bool vr, .bool vh, .bool vs, .bool vl, .int .i64 vb] rfl rfl hz5 rfl (by kernel_rfl) (by intro u hu; simp at hu; rcases hu with rfl | rfl | rfl | rfl | rfl | rfl <;> rfl) ?_
                intro w7 hb7 hg7
                have hS7 : Below W11.heap.size W11 w7 := hS5.grown hg7 hS5.size (fun g e => by injection e with e; omega)
                refine hK.out _ _ hS7 (fun _ => ?_)
                clear hK K
                try simp only [Act.put]
                refine th_take (i := 15) (v := ?_) rfl (by kernel_rfl) (by kernel_rfl) (by kernel_rfl) (Or.inl ⟨by rfl, fun w hSw => ?_⟩) hS7 ?_
                rotate_left
                · go_simp
                  with_reducible rfl
                simp only [Act.put, List.setIfInBounds_toArray, List.set_cons_zero, List.set_cons_succ]
                refine wpAnyH_done (by kernel_rfl) (NoPanic.normal ?_) _
                go_wp2_with fail
                go_meet
                exact ⟨W11.heap.size, rfl, rfl, hb7, hS7⟩
            case rest =>
              obtain ⟨g22, rfl, rfl, hbg, hB⟩ := hcut
              obtain ⟨w12, hw12⟩ : ∃ w12, w12 = wc := ⟨_, rfl⟩
              subst hw12
              have T12 := hide ((unhide T11).below hB (unhide T11).lt)
              have U12 := hide ((unhide U11).below hB (unhide U11).lt)
              have R12 := hide ((unhide R11).below hB (unhide R11).lt)
              have X12 := hide ((unhide X11).below hB (unhide X11).lt)
              have Y12 := hide ((unhide Y11).below hB (unhide Y11).lt)
              have V12 := hide hbg
              have A12 := hide hB
              have F0 : Hid (w12.cell? ⟨gb, go + k * 4, none⟩ = some (.int .u8 (ac : Int))) := hide ((hB.cell (p := ⟨gb, _, none⟩) hk11).trans (unhide E0))
              have hk12 : gb < w12.heap.size := by have := hB.size; omega
              clear hbg hB T11 U11 R11 X11 Y11
              go_upto_region 18 with fail
              go_cut [24, 25] from 114 to 156 (fun p e W => ∃ g, p = .pointer (some ⟨g, 0, none⟩) ∧ e = .int .i64 ve ∧ Blk W g 23 #[.bool vp, .bool vr, .bool vh, .bool vs, .bool vl, .int .i64 vb] ∧ Below w12.heap.size w12 W)
              case first =>
                have hS0 : Below w12.heap.size w12 w12.drew := (Below.refl _ _).drew
                refine wp_region_noPanic (wp_region_held_drew (S := fun W => Below w12.heap.size w12 W) (by kernel_rfl) hS0 (fun _ => ?_))
                refine th_take (i := 0) rfl (by kernel_rfl) (by kernel_rfl) (by kernel_rfl) (y_loadblk 23 (.tmp 14) (by rfl) rfl wr.heap.size rfl 23 #[.bool qp, .bool qr, .bool qh, .bool qs, .bool ql, .int .i64 qb] _ (fun _ h => (unhide T12).below h (unhide T12).lt) Try.underlying23 rfl (by kernel_rfl)) hS0 ?_
                simp only [Act.put, List.setIfInBounds_toArray, List.set_cons_zero, List.set_cons_succ]
                refine th_take (i := 1) (v := ?_) rfl (by kernel_rfl) (by kernel_rfl) (by kernel_rfl) (Or.inl ⟨by rfl, fun w hSw => ?_⟩) hS0 ?_
                rotate_left
                · go_simp
                  with_reducible rfl
                simp only [Act.put, List.setIfInBounds_toArray, List.set_cons_zero, List.set_cons_succ]
                refine th_take (i := 2) (v := ?_) rfl (by kernel_rfl) (by kernel_rfl) (by kernel_rfl) (Or.inl ⟨by rfl, fun w hSw => ?_⟩) hS0 ?_
                rotate_left
                · go_simp
                  with_reducible rfl
                simp only [Act.put, List.setIfInBounds_toArray, List.set_cons_zero, List.set_cons_succ]
                refine th_take (i := 3) (v := ?_) rfl (by kernel_rfl) (by kernel_rfl) (by kernel_rfl) (Or.inl ⟨by rfl, fun w hSw => ?_⟩) hS0 ?_
                rotate_left
                · go_simp
                  with_reducible rfl
                simp only [Act.put, List.setIfInBounds_toArray, List.set_cons_zero, List.set_cons_succ]
                refine th_take (i := 4) (v := ?_) rfl (by kernel_rfl) (by kernel_rfl) (by kernel_rfl) (Or.inl ⟨by rfl, fun w hSw => ?_⟩) hS0 ?_
                rotate_left
                · go_simp
                  with_reducible rfl
                simp only [Act.put, List.setIfInBounds_toArray, List.set_cons_zero, List.set_cons_succ]
                refine th_take (i := 5) (v := .int .u8 (ac : Int)) rfl (by kernel_rfl) (by kernel_rfl) (by kernel_rfl) (Or.inl ⟨by rfl, fun w hSw => ?_⟩) hS0 ?_
                · have hc := (hSw.cell (p := ⟨gb, _, none⟩) hk12).trans (unhide F0)
                  go_simp
                simp only [Act.put, List.setIfInBounds_toArray, List.set_cons_zero, List.set_cons_succ]
                refine th_take (i := 6) (v := ?_) rfl (by kernel_rfl) (by kernel_rfl) (by kernel_rfl) (Or.inl ⟨by rfl, fun w hSw => ?_⟩) hS0 ?_
                rotate_left
                · go_simp
                  with_reducible rfl
                simp only [Act.put, List.setIfInBounds_toArray, List.set_cons_zero, List.set_cons_succ]
                refine th_take (i := 7) (v := ?_) rfl (by kernel_rfl) (by kernel_rfl) (by kernel_rfl) (Or.inl ⟨by rfl, fun w hSw => ?_⟩) hS0 ?_
                rotate_left
                · go_simp
                  with_reducible rfl
                simp only [Act.put, List.setIfInBounds_toArray, List.set_cons_zero, List.set_cons_succ]
                refine th_take (i := 8) (v := ?_) rfl (by kernel_rfl) (by kernel_rfl) (by kernel_rfl) (Or.inl ⟨by rfl, fun w hSw => ?_⟩) hS0 ?_
                rotate_left
                · go_simp
                  with_reducible rfl
                simp only [Act.put, List.setIfInBounds_toArray, List.set_cons_zero, List.set_cons_succ]
                refine th_two (i := 9) (j := 13) rfl rfl (by kernel_rfl) (fun K hK => ?_) (fun K hK => ?_)
                · -- the call first
                  rw [if_pos (by rfl)]
                  go_simp
                  refine (unhide HRC _ ⟨qp, qr, qh, qs, ql, qb⟩ ((q9 : Int) - 1) ⟨vp, vr, vh, vs, vl, vb⟩ ve (unhide HAQ)).mono ?_
                  rintro e w5 ⟨rfl, hb5⟩
                  have hS5 : Below w12.heap.size w12 w5 := hS0.trans hb5
                  refine hK.out _ _ hS5 (fun _ => ?_)
                  clear hK K
                  try simp only [Act.put, List.setIfInBounds_toArray, List.set_cons_zero, List.set_cons_succ]
                  simp only [HH.v]
                  refine th_take (i := 10) (v := ?_) rfl (by kernel_rfl) (by kernel_rfl) (by kernel_rfl) (Or.inl ⟨by rfl, fun w hSw => ?_⟩) hS5 ?_
                  rotate_left
                  · go_simp
                    with_reducible rfl
                  simp only [Act.put, List.setIfInBounds_toArray, List.set_cons_zero, List.set_cons_succ]
                  refine th_take (i := 11) (v := ?_) rfl (by kernel_rfl) (by kernel_rfl) (by kernel_rfl) (Or.inl ⟨by rfl, fun w hSw => ?_⟩) hS5 ?_
                  rotate_left
                  · go_simp
                    with_reducible rfl
                  simp only [Act.put, List.setIfInBounds_toArray, List.set_cons_zero, List.set_cons_succ]
                  refine th_take (i := 12) (v := ?_) rfl (by kernel_rfl) (by kernel_rfl) (by kernel_rfl) (Or.inl ⟨by rfl, fun w hSw => ?_⟩) hS5 ?_
                  rotate_left
                  · go_simp
                    with_reducible rfl
                  simp only [Act.put, List.setIfInBounds_toArray, List.set_cons_zero, List.set_cons_succ]
                  refine th_one (i := 13) rfl (by kernel_rfl) (fun K hK => ?_)
                  rw [if_pos (by rfl)]
                  go_simp
                  have hS6 : Below w12.heap.size w12 (w5.alloc (.cells #[.bool false, .bool false, .bool false, .bool false, .bool false, .int .i64 0] 23)) := hS5.alloc hS5.size _
                  refine hK.out _ _ hS6 (fun _ => ?_)
                  clear hK K
                  try simp only [Act.put, List.setIfInBounds_toArray, List.set_cons_zero, List.set_cons_succ]
                  refine th_one (i := 14) rfl (by kernel_rfl) (fun K hK => ?_)
                  refine step_store_blk (by rfl) 23 (.tmp 24) (.tmp 124) rfl w5.heap.size 23 _ #[.bool vp, .bool vr, .bool vh, .bool vs, .bool vl, .int .i64 vb] rfl rfl (Blk.new w5 _ #[.bool false, .bool false, .bool false, .bool false, .bool false, .int .i64 0]) rfl (by kernel_rfl) (by intro u hu; simp at hu; rcases hu with rfl | rfl | rfl | rfl | rfl | rfl <;> rfl) ?_
                  intro w7 hb7 hg7
                  have hS7 : Below w12.heap.size w12 w7 := hS6.grown hg7 hS6.size (fun g e => by injection e with e; have := hS5.size; omega)
                  refine hK.out _ _ hS7 (fun _ => ?_)
                  clear hK K
                  try simp only [Act.put]
                  refine th_take (i := 15) (v := ?_) rfl (by kernel_rfl) (by kernel_rfl) (by kernel_rfl) (Or.inl ⟨by rfl, fun w hSw => ?_⟩) hS7 ?_
                  rotate_left
                  · go_simp
                    with_reducible rfl
                  simp only [Act.put, List.setIfInBounds_toArray, List.set_cons_zero, List.set_cons_succ]
                  refine wpAnyH_done (by kernel_rfl) (NoPanic.normal ?_) _
                  go_wp2_with fail
                  go_meet
                  exact ⟨w5.heap.size, rfl, rfl, hb7, hS7⟩
                · -- the block first
                  rw [if_pos (by rfl)]
                  go_simp
                  have hS4 : Below w12.heap.size w12 (w12.drew.alloc (.cells #[.bool false, .bool false, .bool false, .bool false, .bool false, .int .i64 0] 23)) := hS0.alloc hS0.size _
                  refine hK.out _ _ hS4 (fun _ => ?_)
                  clear hK K
                  try simp only [Act.put, List.setIfInBounds_toArray, List.set_cons_zero, List.set_cons_succ]
                  refine th_one (i := 9) rfl (by kernel_rfl) (fun K hK => ?_)
                  rw [if_pos (by rfl)]
                  go_simp
                  refine (unhide HRC _ ⟨qp, qr, qh, qs, ql, qb⟩ ((q9 : Int) - 1) ⟨vp, vr, vh, vs, vl, vb⟩ ve (unhide HAQ)).mono ?_
                  rintro e w5 ⟨rfl, hb5⟩
                  have hz5 : Blk w5 w12.heap.size 23 #[.bool false, .bool false, .bool false, .bool false, .bool false, .int .i64 0] := (Blk.new w12.drew _ _).below hb5 (by simp)
                  have hS5 : Below w12.heap.size w12 w5 := hS4.trans (hb5.mono hS4.size)
                  refine hK.out _ _ hS5 (fun _ => ?_)
                  clear hK K
                  try simp only [Act.put, List.setIfInBounds_toArray, List.set_cons_zero, List.set_cons_succ]
                  simp only [HH.v]
                  refine th_take (i := 10) (v := ?_) rfl (by kernel_rfl) (by kernel_rfl) (by kernel_rfl) (Or.inl ⟨by rfl, fun w hSw => ?_⟩) hS5 ?_
                  rotate_left
                  · go_simp
                    with_reducible rfl
                  simp only [Act.put, List.setIfInBounds_toArray, List.set_cons_zero, List.set_cons_succ]
                  refine th_take (i := 11) (v := ?_) rfl (by kernel_rfl) (by kernel_rfl) (by kernel_rfl) (Or.inl ⟨by rfl, fun w hSw => ?_⟩) hS5 ?_
                  rotate_left
                  · go_simp
                    with_reducible rfl
                  simp only [Act.put, List.setIfInBounds_toArray, List.set_cons_zero, List.set_cons_succ]
                  refine th_take (i := 12) (v := ?_) rfl (by kernel_rfl) (by kernel_rfl) (by kernel_rfl) (Or.inl ⟨by rfl, fun w hSw => ?_⟩) hS5 ?_
                  rotate_left
                  · go_simp
                    with_reducible rfl
                  simp only [Act.put, List.setIfInBounds_toArray, List.set_cons_zero, List.set_cons_succ]
                  refine th_one (i := 14) rfl (by kernel_rfl) (fun K hK => ?_)
                  refine step_store_blk (by rfl) 23 (.tmp 24) (.tmp 124) rfl w12.heap.size 23 _ #[.bool vp, .bool vr, .bool vh, .bool vs, .bool vl, .int .i64 vb] rfl rfl hz5 rfl (by kernel_rfl) (by intro u hu; simp at hu; rcases hu with rfl | rfl | rfl | rfl | rfl | rfl <;> rfl) ?_
                  intro w7 hb7 hg7
                  have hS7 : Below w12.heap.size w12 w7 := hS5.grown hg7 hS5.size (fun g e => by injection e with e; omega)
                  refine hK.out _ _ hS7 (fun _ => ?_)
                  clear hK K
                  try simp only [Act.put]
                  refine th_take (i := 15) (v := ?_) rfl (by kernel_rfl) (by kernel_rfl) (by kernel_rfl) (Or.inl ⟨by rfl, fun w hSw => ?_⟩) hS7 ?_
                  rotate_left
                  · go_simp
                    with_reducible rfl
                  simp only [Act.put, List.setIfInBounds_toArray, List.set_cons_zero, List.set_cons_succ]
                  refine wpAnyH_done (by kernel_rfl) (NoPanic.normal ?_) _
                  go_wp2_with fail
                  go_meet
                  exact ⟨w12.heap.size, rfl, rfl, hb7, hS7⟩
              case rest =>
                obtain ⟨g24, rfl, rfl, hbg, hB⟩ := hcut
                obtain ⟨w13, hw13⟩ : ∃ w13, w13 = wc := ⟨_, rfl⟩
                subst hw13
                have T13 := hide ((unhide T12).below hB (unhide T12).lt)
                have U13 := hide ((unhide U12).below hB (unhide U12).lt)
                have R13 := hide ((unhide R12).below hB (unhide R12).lt)
                have X13 := hide ((unhide X12).below hB (unhide X12).lt)
                have Y13 := hide ((unhide Y12).below hB (unhide Y12).lt)
                have V13 := hide ((unhide V12).below hB (unhide V12).lt)
                have Z13 := hide hbg
                have A13 := hide ((unhide A6).trans (((unhide A11).trans (((unhide A12).trans (hB.mono (unhide A12).size)).mono (unhide A11).size)).mono (unhide A6).size))
                clear hbg hB T12 U12 R12 X12 Y12 V12 hqi hqw hqx
                go_upto_region 19 with fail
                have hin : Nonempty (InClass (fun W => Below w13.heap.size w13 W)) := ⟨⟨_, Below.refl _ _⟩⟩
                have K1 : Hid (∀ x' : InClass (fun W => Below w13.heap.size w13 W), Calls Try.prog 11 #[.agg #[.bool qp, .bool qr, .bool qh, .bool qs, .bool ql, .int .i64 qb]] x'.val fun e w'' => e = .returned (.bool bv) ∧ ∃ y' : InClass (fun W => Below w13.heap.size w13 W), w'' = y'.val) := hide fun x' => by
                  have h := valid_any x'.val ⟨qp, qr, qh, qs, ql, qb⟩
                  rw [unhide HBV] at h
                  exact class_call h fun w' h => x'.ok.trans (h.mono x'.ok.size)
                have K2 : Hid (∀ x' : InClass (fun W => Below w13.heap.size w13 W), Calls Try.prog 12 #[.agg #[.bool qp, .bool qr, .bool qh, .bool qs, .bool ql, .int .i64 qb]] x'.val fun e w'' => e = .returned (.bool bv) ∧ ∃ y' : InClass (fun W => Below w13.heap.size w13 W), w'' = y'.val) := hide fun x' => by
                  have h := ref_valid_any x'.val ⟨qp, qr, qh, qs, ql, qb⟩
                  rw [unhide HBV] at h
                  exact class_call h fun w' h => x'.ok.trans (h.mono x'.ok.size)
                have hS13 := hide ((Below.refl w13.heap.size w13).drew)
                refine wp_region_class (fun W => Below w13.heap.size w13 W) (by kernel_rfl) (by kernel_rfl) (unhide hS13) ?_
                repeat (go_big_quiet_step (fail))
                refine BigFrame.wpQuiet_want rfl (fun K hK => quiet_load_row _ _ rfl w8.heap.size rfl 23 #[.bool up, .bool ur, .bool uh, .bool us, .bool ul, .int .i64 ub] _ (fun W hW => by obtain ⟨x, rfl⟩ := hW; exact (unhide U13).below x.ok (unhide U13).lt) Try.underlying23 rfl (by kernel_rfl) (hK _ ?_))
                simp only [Act.put, List.setIfInBounds_toArray, List.set_cons_zero, List.set_cons_succ]
                refine BigFrame.wpQuiet_want rfl (fun K hK => quiet_load_row _ _ rfl w10.heap.size rfl 23 #[.bool up, .bool ur, .bool uh, .bool us, .bool ul, .int .i64 ub] _ (fun W hW => by obtain ⟨x, rfl⟩ := hW; exact (unhide X13).below x.ok (unhide X13).lt) Try.underlying23 rfl (by kernel_rfl) (hK _ ?_))
                simp only [Act.put, List.setIfInBounds_toArray, List.set_cons_zero, List.set_cons_succ]
                repeat (go_big_quiet_step (fail))
                refine BigFrame.wpQuiet_want rfl (fun K hK => quiet_load_row _ _ rfl (w8.heap.size + 1) rfl 35 #[.bool ra, .bool rb, .bool rc] _ (fun W hW => by obtain ⟨x, rfl⟩ := hW; exact (unhide R13).below x.ok (unhide R13).lt) Try.underlying35 rfl (by kernel_rfl) (hK _ ?_))
                simp only [Act.put, List.setIfInBounds_toArray, List.set_cons_zero, List.set_cons_succ]
                refine BigFrame.wpQuiet_want rfl (fun K hK => quiet_load_row _ _ rfl (w10.heap.size + 1) rfl 35 #[.bool ra, .bool rb, .bool rc] _ (fun W hW => by obtain ⟨x, rfl⟩ := hW; exact (unhide Y13).below x.ok (unhide Y13).lt) Try.underlying35 rfl (by kernel_rfl) (hK _ ?_))
                simp only [Act.put, List.setIfInBounds_toArray, List.set_cons_zero, List.set_cons_succ]
                repeat (go_big_quiet_step (fail))
                refine BigFrame.wpQuiet_want rfl (fun K hK => quiet_load_row _ _ rfl g22 rfl 23 #[.bool vp, .bool vr, .bool vh, .bool vs, .bool vl, .int .i64 vb] _ (fun W hW => by obtain ⟨x, rfl⟩ := hW; exact (unhide V13).below x.ok (unhide V13).lt) Try.underlying23 rfl (by kernel_rfl) (hK _ ?_))
                simp only [Act.put, List.setIfInBounds_toArray, List.set_cons_zero, List.set_cons_succ]
                refine BigFrame.wpQuiet_want rfl (fun K hK => quiet_load_row _ _ rfl g24 rfl 23 #[.bool vp, .bool vr, .bool vh, .bool vs, .bool vl, .int .i64 vb] _ (fun W hW => by obtain ⟨x, rfl⟩ := hW; exact (unhide Z13).below x.ok (unhide Z13).lt) Try.underlying23 rfl (by kernel_rfl) (hK _ ?_))
                simp only [Act.put, List.setIfInBounds_toArray, List.set_cons_zero, List.set_cons_succ]
                repeat (go_big_quiet_step (fail))
                refine BigFrame.wpQuiet_want rfl (fun K hK => quiet_load_row _ _ rfl wr.heap.size rfl 23 #[.bool qp, .bool qr, .bool qh, .bool qs, .bool ql, .int .i64 qb] _ (fun W hW => by obtain ⟨x, rfl⟩ := hW; exact (unhide T13).below x.ok (unhide T13).lt) Try.underlying23 rfl (by kernel_rfl) (hK _ ?_))
                simp only [Act.put, List.setIfInBounds_toArray, List.set_cons_zero, List.set_cons_succ]
                go_big_quiet_step ((go_at_call 11; exact (unhide K1) _))
                refine BigFrame.wpQuiet_want rfl (fun K hK => quiet_load_row _ _ rfl wr.heap.size rfl 23 #[.bool qp, .bool qr, .bool qh, .bool qs, .bool ql, .int .i64 qb] _ (fun W hW => by obtain ⟨x, rfl⟩ := hW; exact (unhide T13).below x.ok (unhide T13).lt) Try.underlying23 rfl (by kernel_rfl) (hK _ ?_))
                simp only [Act.put, List.setIfInBounds_toArray, List.set_cons_zero, List.set_cons_succ]
                go_big_quiet_step ((go_at_call 12; exact (unhide K2) _))
                repeat (go_big_quiet_step (fail))
                refine wpQuiet_nil ?_
                intro _ hw'
                obtain ⟨x14, hw''⟩ := hw'
                subst hw''
                have B14 := hide ((unhide A13).trans (x14.ok.mono (unhide A13).size))
                go_wp2_with fail
                go_roundw
                case rel => exact ⟨j + 1, by omega, by go_num, unhide B14⟩
                case measure => simp [intOf]; omega
        · have hj2 : (2 : Int) ≤ (j : Int) := by omega
          obtain ⟨wi, hwi⟩ : ∃ wi, wi = wr := ⟨_, rfl⟩
          subst hwi
          have hs5 : wo.heap.size ≤ W5.heap.size := (unhide A5).size
          have AI := hide ((unhide A5).trans ((unhide BI).mono (unhide A5).size))
          have ZI := hide ((unhide HZ).below (unhide AI) (unhide HZ).lt)
          have XI := hide ((unhide HX).below (unhide AI) (unhide HX).lt)
          have BWI := hide ((unhide BJ).trans ((unhide AI).mono hs2))
          obtain ⟨q4, hq4⟩ : ∃ q, ac % 4 = q := ⟨_, rfl⟩
          have hqi : ((ac : Int)).tmod 4 = (q4 : Int) := by rw [← hq4]; exact Int.ofNat_tmod ac 4
          have hqw : IntKind.i64.wrap (q4 : Int) = (q4 : Int) := IntWalk.i64_in _ (by omega)
          have hq44 : q4 < 4 := by omega
          have c0 : wi.cell? ⟨gb, go + k * 4, none⟩ = some (.int .u8 (ac : Int)) := ((unhide AI).cell (p := ⟨gb, _, none⟩) hkA).trans (unhide C0)
          clear hq4
          go_upto_if 163 with fail
          clear c0 hqi hqw
          go_cut [26] from 164 to 208 (fun v W => ∃ m : Nat, m ≤ 25 ∧ v = .int .i64 (m : Int) ∧ W = wi)
          case first =>
            by_cases h3 : q4 = 3
            · have h3b : ((q4 : Int) == 3) = true := by simp; omega
              go_wp2_with fail
              go_meet
              exact ⟨25, by omega, rfl, rfl⟩
            · have h3b : ((q4 : Int) == 3) = false := by simp; omega
              go_wp2_with fail
              go_meet
              exact ⟨1, by omega, rfl, rfl⟩
          case rest =>
            obtain ⟨m0, hm0, rfl, hwc⟩ := hcut
            subst hwc
            go_wp2_with fail
            go_loopw [26] (fun x wr => ∃ m : Nat, m ≤ 25 ∧ x = .int .i64 (m : Int) ∧ ∃ z : HH, Blk wr (w3.heap.size + 1) 23 z.c ∧ Blk wr w.heap.size 23 #[.bool xp, .bool xr, .bool xh, .bool xs, .bool xl, .int .i64 xb] ∧ Below w.heap.size w wr) (fun x _ => (intOf x).toNat)
            case atStart => exact ⟨m0, hm0, rfl, ⟨zp, zr, zh, zs, zl, zb⟩, unhide ZI, unhide XI, unhide BWI⟩
            case round =>
              obtain ⟨m, hm, rfl, ⟨tp, tr, th, ts, tl, tb⟩, hbz, hbx, hB⟩ := hrel
              have hbz : Blk wr (w3.heap.size + 1) 23 #[.bool tp, .bool tr, .bool th, .bool ts, .bool tl, .int .i64 tb] := hbz
              have ZL := hide hbz
              have XL := hide hbx
              have BL := hide hB
              have hsl : w.heap.size ≤ wr.heap.size := hB.size
              have hkL : gb < wr.heap.size := by omega
              have cL := (unhide HL).below hB k hlt1
              clear hbz hbx hB
              obtain ⟨gb', go', eA, _, _, l0, l1, l2, l3⟩ := cL
              obtain ⟨rfl, rfl⟩ : gb = gb' ∧ go = go' := by simpa using eA
              clear eA
              rw [unhide HAP] at l0 l1 l2 l3
              dsimp only at l0 l1 l2 l3
              have hkn3 : (k : Int) < 200 := hd3
              by_cases hmp : 0 < m
              · obtain ⟨k3, hk3⟩ : ∃ q, k % 3 = q := ⟨_, rfl⟩
                have hqi : ((k : Int)).tmod 3 = (k3 : Int) := by rw [← hk3]; exact Int.ofNat_tmod k 3
                have hqw : IntKind.i64.wrap (k3 : Int) = (k3 : Int) := IntWalk.i64_in _ (by omega)
                obtain ⟨bk, hbk⟩ : ∃ b, decide (0 < k3) = b := ⟨_, rfl⟩
                obtain ⟨bn, hbn⟩ : ∃ b, ((m : Int) == 1) = b := ⟨_, rfl⟩
                have hmd : (0 : Int) < (m : Int) := by omega
                have HL1 := hide l1
                have HL3 := hide l3
                have HQI := hide hqi
                have HQW := hide hqw
                have HBK := hide hbk
                have HBN := hide hbn
                clear hk3 l0 l1 l2 l3 hqi hqw hbk hbn
                go_upto_region 27 with fail
                have hqi := unhide HQI
                have hqw := unhide HQW
                have hbk := unhide HBK
                have hbn := unhide HBN
                cases on <;> cases sf
                · skip
                  obtain ⟨⟨⟨vp, vr, vh, vs, vl, vb⟩, ra, rb, rc, re⟩, hst⟩ : ∃ q, stepR ⟨tp, tr, th, ts, tl, tb⟩ bk false false = q := ⟨_, rfl⟩
                  have HSL := hide hst
                  clear hst
                  have hS0 : (fun W => W.cell? ⟨gb, go + k * 4 + 1, none⟩ = some (.bool false) ∧ W.cell? ⟨gb, go + k * 4 + 3, none⟩ = some (.bool false)) wr.drew := ⟨unhide HL1, unhide HL3⟩
                  refine wp_region_noPanic (wp_region_held_drew (S := (fun W => W.cell? ⟨gb, go + k * 4 + 1, none⟩ = some (.bool false) ∧ W.cell? ⟨gb, go + k * 4 + 3, none⟩ = some (.bool false))) (by kernel_rfl) hS0 (fun _ => ?_))
                  refine th_take (i := 1) (v := ?_) rfl (by kernel_rfl) (by kernel_rfl) (by kernel_rfl) (Or.inl ⟨by rfl, fun w hSw => ?_⟩) hS0 ?_
                  rotate_left
                  · go_simp
                    with_reducible rfl
                  simp only [Act.put, List.setIfInBounds_toArray, List.set_cons_zero, List.set_cons_succ]
                  refine th_take (i := 2) (v := ?_) rfl (by kernel_rfl) (by kernel_rfl) (by kernel_rfl) (Or.inl ⟨by rfl, fun w hSw => ?_⟩) hS0 ?_
                  rotate_left
                  · go_simp
                    with_reducible rfl
                  simp only [Act.put, List.setIfInBounds_toArray, List.set_cons_zero, List.set_cons_succ]
                  refine th_take (i := 3) (v := ?_) rfl (by kernel_rfl) (by kernel_rfl) (by kernel_rfl) (Or.inl ⟨by rfl, fun w hSw => ?_⟩) hS0 ?_
                  rotate_left
                  · go_simp
                    with_reducible rfl
                  simp only [Act.put, List.setIfInBounds_toArray, List.set_cons_zero, List.set_cons_succ]
                  refine th_take (i := 4) (v := ?_) rfl (by kernel_rfl) (by kernel_rfl) (by kernel_rfl) (Or.inl ⟨by rfl, fun w hSw => ?_⟩) hS0 ?_
                  rotate_left
                  · go_simp
                    with_reducible rfl
                  simp only [Act.put, List.setIfInBounds_toArray, List.set_cons_zero, List.set_cons_succ]
                  refine th_take (i := 5) (v := .bool false) rfl (by kernel_rfl) (by kernel_rfl) (by kernel_rfl) (Or.inl ⟨by rfl, fun w hSw => ?_⟩) hS0 ?_
                  · have hc := hSw.1
                    go_simp
                  simp only [Act.put, List.setIfInBounds_toArray, List.set_cons_zero, List.set_cons_succ]
                  refine th_take (i := 6) (v := ?_) rfl (by kernel_rfl) (by kernel_rfl) (by kernel_rfl) (Or.inl ⟨by rfl, fun w hSw => ?_⟩) hS0 ?_
                  rotate_left
                  · go_simp
                    with_reducible rfl
                  simp only [Act.put, List.setIfInBounds_toArray, List.set_cons_zero, List.set_cons_succ]
                  refine th_take (i := 7) (v := ?_) rfl (by kernel_rfl) (by kernel_rfl) (by kernel_rfl) (Or.inl ⟨by rfl, fun w hSw => ?_⟩) hS0 ?_
                  rotate_left
                  · go_simp
                    with_reducible rfl
                  simp only [Act.put, List.setIfInBounds_toArray, List.set_cons_zero, List.set_cons_succ]
                  refine th_take (i := 8) (v := ?_) rfl (by kernel_rfl) (by kernel_rfl) (by kernel_rfl) (Or.inl ⟨by rfl, fun w hSw => ?_⟩) hS0 ?_
                  rotate_left
                  · go_simp
                    with_reducible rfl
                  simp only [Act.put, List.setIfInBounds_toArray, List.set_cons_zero, List.set_cons_succ]
                  refine th_take (i := 9) (v := ?_) rfl (by kernel_rfl) (by kernel_rfl) (by kernel_rfl) (Or.inl ⟨by rfl, fun w hSw => ?_⟩) hS0 ?_
                  rotate_left
                  · go_simp
                    with_reducible rfl
                  simp only [Act.put, List.setIfInBounds_toArray, List.set_cons_zero, List.set_cons_succ]
                  refine th_take (i := 10) (v := ?_) rfl (by kernel_rfl) (by kernel_rfl) (by kernel_rfl) (Or.inl ⟨by rfl, fun w hSw => ?_⟩) hS0 ?_
                  rotate_left
                  · go_simp
                    with_reducible rfl
                  simp only [Act.put, List.setIfInBounds_toArray, List.set_cons_zero, List.set_cons_succ]
                  refine th_take (i := 11) (v := ?_) rfl (by kernel_rfl) (by kernel_rfl) (by kernel_rfl) (Or.inl ⟨by rfl, fun w hSw => ?_⟩) hS0 ?_
                  rotate_left
                  · go_simp
                    with_reducible rfl
                  simp only [Act.put, List.setIfInBounds_toArray, List.set_cons_zero, List.set_cons_succ]
                  refine th_take (i := 12) (v := ?_) rfl (by kernel_rfl) (by kernel_rfl) (by kernel_rfl) (Or.inl ⟨by rfl, fun w hSw => ?_⟩) hS0 ?_
                  rotate_left
                  · go_simp
                    with_reducible rfl
                  simp only [Act.put, List.setIfInBounds_toArray, List.set_cons_zero, List.set_cons_succ]
                  refine th_take (i := 13) (v := ?_) rfl (by kernel_rfl) (by kernel_rfl) (by kernel_rfl) (Or.inl ⟨by rfl, fun w hSw => ?_⟩) hS0 ?_
                  rotate_left
                  · go_simp
                    with_reducible rfl
                  simp only [Act.put, List.setIfInBounds_toArray, List.set_cons_zero, List.set_cons_succ]
                  refine th_take (i := 14) (v := ?_) rfl (by kernel_rfl) (by kernel_rfl) (by kernel_rfl) (Or.inl ⟨by rfl, fun w hSw => ?_⟩) hS0 ?_
                  rotate_left
                  · go_simp
                    with_reducible rfl
                  simp only [Act.put, List.setIfInBounds_toArray, List.set_cons_zero, List.set_cons_succ]
                  refine th_take (i := 15) (v := .bool false) rfl (by kernel_rfl) (by kernel_rfl) (by kernel_rfl) (Or.inl ⟨by rfl, fun w hSw => ?_⟩) hS0 ?_
                  · have hc := hSw.2
                    go_simp
                  simp only [Act.put, List.setIfInBounds_toArray, List.set_cons_zero, List.set_cons_succ]
                  refine th_take (i := 16) (v := ?_) rfl (by kernel_rfl) (by kernel_rfl) (by kernel_rfl) (Or.inl ⟨by rfl, fun w hSw => ?_⟩) hS0 ?_
                  rotate_left
                  · go_simp
                    with_reducible rfl
                  simp only [Act.put, List.setIfInBounds_toArray, List.set_cons_zero, List.set_cons_succ]
                  refine th_take (i := 17) (v := undef) rfl (by kernel_rfl) (by kernel_rfl) (by kernel_rfl) (.inr ⟨by rfl, rfl⟩) hS0 ?_
                  simp only [Act.put, List.setIfInBounds_toArray, List.set_cons_zero, List.set_cons_succ]
                  refine th_take (i := 18) (v := undef) rfl (by kernel_rfl) (by kernel_rfl) (by kernel_rfl) (.inr ⟨by rfl, rfl⟩) hS0 ?_
                  simp only [Act.put, List.setIfInBounds_toArray, List.set_cons_zero, List.set_cons_succ]
                  refine th_take (i := 19) (v := ?_) rfl (by kernel_rfl) (by kernel_rfl) (by kernel_rfl) (Or.inl ⟨by rfl, fun w hSw => ?_⟩) hS0 ?_
                  rotate_left
                  · go_simp
                    with_reducible rfl
                  simp only [Act.put, List.setIfInBounds_toArray, List.set_cons_zero, List.set_cons_succ]
                  refine th_take (i := 20) (v := ?_) rfl (by kernel_rfl) (by kernel_rfl) (by kernel_rfl) (Or.inl ⟨by rfl, fun w hSw => ?_⟩) hS0 ?_
                  rotate_left
                  · go_simp
                    with_reducible rfl
                  simp only [Act.put, List.setIfInBounds_toArray, List.set_cons_zero, List.set_cons_succ]
                  refine th_one (i := 0) rfl (by kernel_rfl) (fun K hK => ?_)
                  refine step_load_row (by rfl) 23 (.tmp 11) rfl (w3.heap.size + 1) rfl 23 #[.bool tp, .bool tr, .bool th, .bool ts, .bool tl, .int .i64 tb] _ (unhide ZL) Try.underlying23 rfl (by kernel_rfl) ?_
                  refine hK.out _ _ hS0 (fun _ => ?_)
                  clear hK K
                  try simp only [Act.put, List.setIfInBounds_toArray, List.set_cons_zero, List.set_cons_succ]
                  refine th_one (i := 21) rfl (by kernel_rfl) (fun K hK => ?_)
                  rw [if_pos (by rfl)]
                  go_simp
                  refine (unhide HRS _ ⟨tp, tr, th, ts, tl, tb⟩ bk false false ⟨vp, vr, vh, vs, vl, vb⟩ ra rb rc re (unhide HSL)).mono ?_
                  rintro e w5 ⟨rfl, hb5⟩
                  have hb5' : Below wr.heap.size wr w5 := ((Below.refl wr.heap.size wr).drew).trans hb5
                  have hS5 : (fun W => W.cell? ⟨gb, go + k * 4 + 1, none⟩ = some (.bool false) ∧ W.cell? ⟨gb, go + k * 4 + 3, none⟩ = some (.bool false)) w5 := ⟨(hb5'.cell (p := ⟨gb, _, none⟩) hkL).trans (unhide HL1), (hb5'.cell (p := ⟨gb, _, none⟩) hkL).trans (unhide HL3)⟩
                  refine hK.out _ _ hS5 (fun _ => ?_)
                  clear hK K
                  try simp only [Act.put, List.setIfInBounds_toArray, List.set_cons_zero, List.set_cons_succ]
                  simp only [HH.c]
                  refine th_take (i := 22) (v := ?_) rfl (by kernel_rfl) (by kernel_rfl) (by kernel_rfl) (Or.inl ⟨by rfl, fun w hSw => ?_⟩) hS5 ?_
                  rotate_left
                  · go_simp
                    with_reducible rfl
                  simp only [Act.put, List.setIfInBounds_toArray, List.set_cons_zero, List.set_cons_succ]
                  refine th_take (i := 23) (v := ?_) rfl (by kernel_rfl) (by kernel_rfl) (by kernel_rfl) (Or.inl ⟨by rfl, fun w hSw => ?_⟩) hS5 ?_
                  rotate_left
                  · go_simp
                    with_reducible rfl
                  simp only [Act.put, List.setIfInBounds_toArray, List.set_cons_zero, List.set_cons_succ]
                  refine th_take (i := 24) (v := ?_) rfl (by kernel_rfl) (by kernel_rfl) (by kernel_rfl) (Or.inl ⟨by rfl, fun w hSw => ?_⟩) hS5 ?_
                  rotate_left
                  · go_simp
                    with_reducible rfl
                  simp only [Act.put, List.setIfInBounds_toArray, List.set_cons_zero, List.set_cons_succ]
                  refine th_take (i := 25) (v := ?_) rfl (by kernel_rfl) (by kernel_rfl) (by kernel_rfl) (Or.inl ⟨by rfl, fun w hSw => ?_⟩) hS5 ?_
                  rotate_left
                  · go_simp
                    with_reducible rfl
                  simp only [Act.put, List.setIfInBounds_toArray, List.set_cons_zero, List.set_cons_succ]
                  refine th_one (i := 26) rfl (by kernel_rfl) (fun K hK => ?_)
                  refine step_store_blk (by rfl) 23 (.tmp 11) (.tmp 191) rfl (w3.heap.size + 1) 23 _ #[.bool vp, .bool vr, .bool vh, .bool vs, .bool vl, .int .i64 vb] rfl rfl ((unhide ZL).below hb5' (unhide ZL).lt) rfl (by kernel_rfl) (by intro u hu; simp at hu; rcases hu with rfl | rfl | rfl | rfl | rfl | rfl <;> rfl) ?_
                  intro w7 hb7 hg7
                  have hgne : some gb ≠ some (w3.heap.size + 1) := by intro e; injection e with e; omega
                  have hS7 : (fun W => W.cell? ⟨gb, go + k * 4 + 1, none⟩ = some (.bool false) ∧ W.cell? ⟨gb, go + k * 4 + 3, none⟩ = some (.bool false)) w7 := ⟨hg7.cell hS5.1 hgne, hg7.cell hS5.2 hgne⟩
                  refine hK.out _ _ hS7 (fun _ => ?_)
                  clear hK K
                  try simp only [Act.put]
                  refine wpAnyH_done (by kernel_rfl) (NoPanic.normal ?_) _
                  have XL7 := hide (((unhide XL).below hb5' (unhide XL).lt).grown hg7 (fun e => by injection e with e; omega))
                  have BL7 := hide (((unhide BL).trans (hb5'.mono (unhide BL).size)).grown hg7 (by have := (unhide BL).size; have := hb5'.size; omega) (fun g e => by injection e with e; omega))
                  have ZL7 := hide hb7
                  clear hb5 hb5' hb7 hg7 hS0 hS5 hS7 hqi hqw hbk hbn hgne
                  go_wp2_with fail
                  go_roundw
                  case rel => exact ⟨m - 1, by omega, by first | go_num | (congr 1; omega), ⟨vp, vr, vh, vs, vl, vb⟩, unhide ZL7, unhide XL7, unhide BL7⟩
                  case measure => simp [intOf]; omega
                · skip
                  obtain ⟨⟨⟨vp, vr, vh, vs, vl, vb⟩, ra, rb, rc, re⟩, hst⟩ : ∃ q, stepR ⟨tp, tr, th, ts, tl, tb⟩ bk false bn = q := ⟨_, rfl⟩
                  have HSL := hide hst
                  clear hst
                  have hS0 : (fun W => W.cell? ⟨gb, go + k * 4 + 1, none⟩ = some (.bool false) ∧ W.cell? ⟨gb, go + k * 4 + 3, none⟩ = some (.bool true)) wr.drew := ⟨unhide HL1, unhide HL3⟩
                  refine wp_region_noPanic (wp_region_held_drew (S := (fun W => W.cell? ⟨gb, go + k * 4 + 1, none⟩ = some (.bool false) ∧ W.cell? ⟨gb, go + k * 4 + 3, none⟩ = some (.bool true))) (by kernel_rfl) hS0 (fun _ => ?_))
                  refine th_take (i := 1) (v := ?_) rfl (by kernel_rfl) (by kernel_rfl) (by kernel_rfl) (Or.inl ⟨by rfl, fun w hSw => ?_⟩) hS0 ?_
                  rotate_left
                  · go_simp
                    with_reducible rfl
                  simp only [Act.put, List.setIfInBounds_toArray, List.set_cons_zero, List.set_cons_succ]
                  refine th_take (i := 2) (v := ?_) rfl (by kernel_rfl) (by kernel_rfl) (by kernel_rfl) (Or.inl ⟨by rfl, fun w hSw => ?_⟩) hS0 ?_
                  rotate_left
                  · go_simp
                    with_reducible rfl
                  simp only [Act.put, List.setIfInBounds_toArray, List.set_cons_zero, List.set_cons_succ]
                  refine th_take (i := 3) (v := ?_) rfl (by kernel_rfl) (by kernel_rfl) (by kernel_rfl) (Or.inl ⟨by rfl, fun w hSw => ?_⟩) hS0 ?_
                  rotate_left
                  · go_simp
                    with_reducible rfl
                  simp only [Act.put, List.setIfInBounds_toArray, List.set_cons_zero, List.set_cons_succ]
                  refine th_take (i := 4) (v := ?_) rfl (by kernel_rfl) (by kernel_rfl) (by kernel_rfl) (Or.inl ⟨by rfl, fun w hSw => ?_⟩) hS0 ?_
                  rotate_left
                  · go_simp
                    with_reducible rfl
                  simp only [Act.put, List.setIfInBounds_toArray, List.set_cons_zero, List.set_cons_succ]
                  refine th_take (i := 5) (v := .bool false) rfl (by kernel_rfl) (by kernel_rfl) (by kernel_rfl) (Or.inl ⟨by rfl, fun w hSw => ?_⟩) hS0 ?_
                  · have hc := hSw.1
                    go_simp
                  simp only [Act.put, List.setIfInBounds_toArray, List.set_cons_zero, List.set_cons_succ]
                  refine th_take (i := 6) (v := ?_) rfl (by kernel_rfl) (by kernel_rfl) (by kernel_rfl) (Or.inl ⟨by rfl, fun w hSw => ?_⟩) hS0 ?_
                  rotate_left
                  · go_simp
                    with_reducible rfl
                  simp only [Act.put, List.setIfInBounds_toArray, List.set_cons_zero, List.set_cons_succ]
                  refine th_take (i := 7) (v := ?_) rfl (by kernel_rfl) (by kernel_rfl) (by kernel_rfl) (Or.inl ⟨by rfl, fun w hSw => ?_⟩) hS0 ?_
                  rotate_left
                  · go_simp
                    with_reducible rfl
                  simp only [Act.put, List.setIfInBounds_toArray, List.set_cons_zero, List.set_cons_succ]
                  refine th_take (i := 8) (v := ?_) rfl (by kernel_rfl) (by kernel_rfl) (by kernel_rfl) (Or.inl ⟨by rfl, fun w hSw => ?_⟩) hS0 ?_
                  rotate_left
                  · go_simp
                    with_reducible rfl
                  simp only [Act.put, List.setIfInBounds_toArray, List.set_cons_zero, List.set_cons_succ]
                  refine th_take (i := 9) (v := ?_) rfl (by kernel_rfl) (by kernel_rfl) (by kernel_rfl) (Or.inl ⟨by rfl, fun w hSw => ?_⟩) hS0 ?_
                  rotate_left
                  · go_simp
                    with_reducible rfl
                  simp only [Act.put, List.setIfInBounds_toArray, List.set_cons_zero, List.set_cons_succ]
                  refine th_take (i := 10) (v := ?_) rfl (by kernel_rfl) (by kernel_rfl) (by kernel_rfl) (Or.inl ⟨by rfl, fun w hSw => ?_⟩) hS0 ?_
                  rotate_left
                  · go_simp
                    with_reducible rfl
                  simp only [Act.put, List.setIfInBounds_toArray, List.set_cons_zero, List.set_cons_succ]
                  refine th_take (i := 11) (v := ?_) rfl (by kernel_rfl) (by kernel_rfl) (by kernel_rfl) (Or.inl ⟨by rfl, fun w hSw => ?_⟩) hS0 ?_
                  rotate_left
                  · go_simp
                    with_reducible rfl
                  simp only [Act.put, List.setIfInBounds_toArray, List.set_cons_zero, List.set_cons_succ]
                  refine th_take (i := 12) (v := ?_) rfl (by kernel_rfl) (by kernel_rfl) (by kernel_rfl) (Or.inl ⟨by rfl, fun w hSw => ?_⟩) hS0 ?_
                  rotate_left
                  · go_simp
                    with_reducible rfl
                  simp only [Act.put, List.setIfInBounds_toArray, List.set_cons_zero, List.set_cons_succ]
                  refine th_take (i := 13) (v := ?_) rfl (by kernel_rfl) (by kernel_rfl) (by kernel_rfl) (Or.inl ⟨by rfl, fun w hSw => ?_⟩) hS0 ?_
                  rotate_left
                  · go_simp
                    with_reducible rfl
                  simp only [Act.put, List.setIfInBounds_toArray, List.set_cons_zero, List.set_cons_succ]
                  refine th_take (i := 14) (v := ?_) rfl (by kernel_rfl) (by kernel_rfl) (by kernel_rfl) (Or.inl ⟨by rfl, fun w hSw => ?_⟩) hS0 ?_
                  rotate_left
                  · go_simp
                    with_reducible rfl
                  simp only [Act.put, List.setIfInBounds_toArray, List.set_cons_zero, List.set_cons_succ]
                  refine th_take (i := 15) (v := .bool true) rfl (by kernel_rfl) (by kernel_rfl) (by kernel_rfl) (Or.inl ⟨by rfl, fun w hSw => ?_⟩) hS0 ?_
                  · have hc := hSw.2
                    go_simp
                  simp only [Act.put, List.setIfInBounds_toArray, List.set_cons_zero, List.set_cons_succ]
                  refine th_take (i := 16) (v := ?_) rfl (by kernel_rfl) (by kernel_rfl) (by kernel_rfl) (Or.inl ⟨by rfl, fun w hSw => ?_⟩) hS0 ?_
                  rotate_left
                  · go_simp
                    with_reducible rfl
                  simp only [Act.put, List.setIfInBounds_toArray, List.set_cons_zero, List.set_cons_succ]
                  refine th_take (i := 17) (v := ?_) rfl (by kernel_rfl) (by kernel_rfl) (by kernel_rfl) (Or.inl ⟨by rfl, fun w hSw => ?_⟩) hS0 ?_
                  rotate_left
                  · go_simp
                    with_reducible rfl
                  simp only [Act.put, List.setIfInBounds_toArray, List.set_cons_zero, List.set_cons_succ]
                  refine th_take (i := 18) (v := ?_) rfl (by kernel_rfl) (by kernel_rfl) (by kernel_rfl) (Or.inl ⟨by rfl, fun w hSw => ?_⟩) hS0 ?_
                  rotate_left
                  · go_simp
                    with_reducible rfl
                  simp only [Act.put, List.setIfInBounds_toArray, List.set_cons_zero, List.set_cons_succ]
                  refine th_take (i := 19) (v := ?_) rfl (by kernel_rfl) (by kernel_rfl) (by kernel_rfl) (Or.inl ⟨by rfl, fun w hSw => ?_⟩) hS0 ?_
                  rotate_left
                  · go_simp
                    with_reducible rfl
                  simp only [Act.put, List.setIfInBounds_toArray, List.set_cons_zero, List.set_cons_succ]
                  refine th_take (i := 20) (v := ?_) rfl (by kernel_rfl) (by kernel_rfl) (by kernel_rfl) (Or.inl ⟨by rfl, fun w hSw => ?_⟩) hS0 ?_
                  rotate_left
                  · go_simp
                    with_reducible rfl
                  simp only [Act.put, List.setIfInBounds_toArray, List.set_cons_zero, List.set_cons_succ]
                  refine th_one (i := 0) rfl (by kernel_rfl) (fun K hK => ?_)
                  refine step_load_row (by rfl) 23 (.tmp 11) rfl (w3.heap.size + 1) rfl 23 #[.bool tp, .bool tr, .bool th, .bool ts, .bool tl, .int .i64 tb] _ (unhide ZL) Try.underlying23 rfl (by kernel_rfl) ?_
                  refine hK.out _ _ hS0 (fun _ => ?_)
                  clear hK K
                  try simp only [Act.put, List.setIfInBounds_toArray, List.set_cons_zero, List.set_cons_succ]
                  refine th_one (i := 21) rfl (by kernel_rfl) (fun K hK => ?_)
                  rw [if_pos (by rfl)]
                  go_simp
                  refine (unhide HRS _ ⟨tp, tr, th, ts, tl, tb⟩ bk false bn ⟨vp, vr, vh, vs, vl, vb⟩ ra rb rc re (unhide HSL)).mono ?_
                  rintro e w5 ⟨rfl, hb5⟩
                  have hb5' : Below wr.heap.size wr w5 := ((Below.refl wr.heap.size wr).drew).trans hb5
                  have hS5 : (fun W => W.cell? ⟨gb, go + k * 4 + 1, none⟩ = some (.bool false) ∧ W.cell? ⟨gb, go + k * 4 + 3, none⟩ = some (.bool true)) w5 := ⟨(hb5'.cell (p := ⟨gb, _, none⟩) hkL).trans (unhide HL1), (hb5'.cell (p := ⟨gb, _, none⟩) hkL).trans (unhide HL3)⟩
                  refine hK.out _ _ hS5 (fun _ => ?_)
                  clear hK K
                  try simp only [Act.put, List.setIfInBounds_toArray, List.set_cons_zero, List.set_cons_succ]
                  simp only [HH.c]
                  refine th_take (i := 22) (v := ?_) rfl (by kernel_rfl) (by kernel_rfl) (by kernel_rfl) (Or.inl ⟨by rfl, fun w hSw => ?_⟩) hS5 ?_
                  rotate_left
                  · go_simp
                    with_reducible rfl
                  simp only [Act.put, List.setIfInBounds_toArray, List.set_cons_zero, List.set_cons_succ]
                  refine th_take (i := 23) (v := ?_) rfl (by kernel_rfl) (by kernel_rfl) (by kernel_rfl) (Or.inl ⟨by rfl, fun w hSw => ?_⟩) hS5 ?_
                  rotate_left
                  · go_simp
                    with_reducible rfl
                  simp only [Act.put, List.setIfInBounds_toArray, List.set_cons_zero, List.set_cons_succ]
                  refine th_take (i := 24) (v := ?_) rfl (by kernel_rfl) (by kernel_rfl) (by kernel_rfl) (Or.inl ⟨by rfl, fun w hSw => ?_⟩) hS5 ?_
                  rotate_left
                  · go_simp
                    with_reducible rfl
                  simp only [Act.put, List.setIfInBounds_toArray, List.set_cons_zero, List.set_cons_succ]
                  refine th_take (i := 25) (v := ?_) rfl (by kernel_rfl) (by kernel_rfl) (by kernel_rfl) (Or.inl ⟨by rfl, fun w hSw => ?_⟩) hS5 ?_
                  rotate_left
                  · go_simp
                    with_reducible rfl
                  simp only [Act.put, List.setIfInBounds_toArray, List.set_cons_zero, List.set_cons_succ]
                  refine th_one (i := 26) rfl (by kernel_rfl) (fun K hK => ?_)
                  refine step_store_blk (by rfl) 23 (.tmp 11) (.tmp 191) rfl (w3.heap.size + 1) 23 _ #[.bool vp, .bool vr, .bool vh, .bool vs, .bool vl, .int .i64 vb] rfl rfl ((unhide ZL).below hb5' (unhide ZL).lt) rfl (by kernel_rfl) (by intro u hu; simp at hu; rcases hu with rfl | rfl | rfl | rfl | rfl | rfl <;> rfl) ?_
                  intro w7 hb7 hg7
                  have hgne : some gb ≠ some (w3.heap.size + 1) := by intro e; injection e with e; omega
                  have hS7 : (fun W => W.cell? ⟨gb, go + k * 4 + 1, none⟩ = some (.bool false) ∧ W.cell? ⟨gb, go + k * 4 + 3, none⟩ = some (.bool true)) w7 := ⟨hg7.cell hS5.1 hgne, hg7.cell hS5.2 hgne⟩
                  refine hK.out _ _ hS7 (fun _ => ?_)
                  clear hK K
                  try simp only [Act.put]
                  refine wpAnyH_done (by kernel_rfl) (NoPanic.normal ?_) _
                  have XL7 := hide (((unhide XL).below hb5' (unhide XL).lt).grown hg7 (fun e => by injection e with e; omega))
                  have BL7 := hide (((unhide BL).trans (hb5'.mono (unhide BL).size)).grown hg7 (by have := (unhide BL).size; have := hb5'.size; omega) (fun g e => by injection e with e; omega))
                  have ZL7 := hide hb7
                  clear hb5 hb5' hb7 hg7 hS0 hS5 hS7 hqi hqw hbk hbn hgne
                  go_wp2_with fail
                  go_roundw
                  case rel => exact ⟨m - 1, by omega, by first | go_num | (congr 1; omega), ⟨vp, vr, vh, vs, vl, vb⟩, unhide ZL7, unhide XL7, unhide BL7⟩
                  case measure => simp [intOf]; omega
                · skip
                  obtain ⟨⟨⟨vp, vr, vh, vs, vl, vb⟩, ra, rb, rc, re⟩, hst⟩ : ∃ q, stepR ⟨tp, tr, th, ts, tl, tb⟩ true false false = q := ⟨_, rfl⟩
                  have HSL := hide hst
                  clear hst
                  have hS0 : (fun W => W.cell? ⟨gb, go + k * 4 + 1, none⟩ = some (.bool true) ∧ W.cell? ⟨gb, go + k * 4 + 3, none⟩ = some (.bool false)) wr.drew := ⟨unhide HL1, unhide HL3⟩
                  refine wp_region_noPanic (wp_region_held_drew (S := (fun W => W.cell? ⟨gb, go + k * 4 + 1, none⟩ = some (.bool true) ∧ W.cell? ⟨gb, go + k * 4 + 3, none⟩ = some (.bool false))) (by kernel_rfl) hS0 (fun _ => ?_))
                  refine th_take (i := 1) (v := ?_) rfl (by kernel_rfl) (by kernel_rfl) (by kernel_rfl) (Or.inl ⟨by rfl, fun w hSw => ?_⟩) hS0 ?_
                  rotate_left
                  · go_simp
                    with_reducible rfl
                  simp only [Act.put, List.setIfInBounds_toArray, List.set_cons_zero, List.set_cons_succ]
                  refine th_take (i := 2) (v := ?_) rfl (by kernel_rfl) (by kernel_rfl) (by kernel_rfl) (Or.inl ⟨by rfl, fun w hSw => ?_⟩) hS0 ?_
                  rotate_left
                  · go_simp
                    with_reducible rfl
                  simp only [Act.put, List.setIfInBounds_toArray, List.set_cons_zero, List.set_cons_succ]
                  refine th_take (i := 3) (v := ?_) rfl (by kernel_rfl) (by kernel_rfl) (by kernel_rfl) (Or.inl ⟨by rfl, fun w hSw => ?_⟩) hS0 ?_
                  rotate_left
                  · go_simp
                    with_reducible rfl
                  simp only [Act.put, List.setIfInBounds_toArray, List.set_cons_zero, List.set_cons_succ]
                  refine th_take (i := 4) (v := ?_) rfl (by kernel_rfl) (by kernel_rfl) (by kernel_rfl) (Or.inl ⟨by rfl, fun w hSw => ?_⟩) hS0 ?_
                  rotate_left
                  · go_simp
                    with_reducible rfl
                  simp only [Act.put, List.setIfInBounds_toArray, List.set_cons_zero, List.set_cons_succ]
                  refine th_take (i := 5) (v := .bool true) rfl (by kernel_rfl) (by kernel_rfl) (by kernel_rfl) (Or.inl ⟨by rfl, fun w hSw => ?_⟩) hS0 ?_
                  · have hc := hSw.1
                    go_simp
                  simp only [Act.put, List.setIfInBounds_toArray, List.set_cons_zero, List.set_cons_succ]
                  refine th_take (i := 6) (v := ?_) rfl (by kernel_rfl) (by kernel_rfl) (by kernel_rfl) (Or.inl ⟨by rfl, fun w hSw => ?_⟩) hS0 ?_
                  rotate_left
                  · go_simp
                    with_reducible rfl
                  simp only [Act.put, List.setIfInBounds_toArray, List.set_cons_zero, List.set_cons_succ]
                  refine th_take (i := 7) (v := undef) rfl (by kernel_rfl) (by kernel_rfl) (by kernel_rfl) (.inr ⟨by rfl, rfl⟩) hS0 ?_
                  simp only [Act.put, List.setIfInBounds_toArray, List.set_cons_zero, List.set_cons_succ]
                  refine th_take (i := 8) (v := undef) rfl (by kernel_rfl) (by kernel_rfl) (by kernel_rfl) (.inr ⟨by rfl, rfl⟩) hS0 ?_
                  simp only [Act.put, List.setIfInBounds_toArray, List.set_cons_zero, List.set_cons_succ]
                  refine th_take (i := 9) (v := undef) rfl (by kernel_rfl) (by kernel_rfl) (by kernel_rfl) (.inr ⟨by rfl, rfl⟩) hS0 ?_
                  simp only [Act.put, List.setIfInBounds_toArray, List.set_cons_zero, List.set_cons_succ]
                  refine th_take (i := 10) (v := ?_) rfl (by kernel_rfl) (by kernel_rfl) (by kernel_rfl) (Or.inl ⟨by rfl, fun w hSw => ?_⟩) hS0 ?_
                  rotate_left
                  · go_simp
                    with_reducible rfl
                  simp only [Act.put, List.setIfInBounds_toArray, List.set_cons_zero, List.set_cons_succ]
                  refine th_take (i := 11) (v := ?_) rfl (by kernel_rfl) (by kernel_rfl) (by kernel_rfl) (Or.inl ⟨by rfl, fun w hSw => ?_⟩) hS0 ?_
                  rotate_left
                  · go_simp
                    with_reducible rfl
                  simp only [Act.put, List.setIfInBounds_toArray, List.set_cons_zero, List.set_cons_succ]
                  refine th_take (i := 12) (v := ?_) rfl (by kernel_rfl) (by kernel_rfl) (by kernel_rfl) (Or.inl ⟨by rfl, fun w hSw => ?_⟩) hS0 ?_
                  rotate_left
                  · go_simp
                    with_reducible rfl
                  simp only [Act.put, List.setIfInBounds_toArray, List.set_cons_zero, List.set_cons_succ]
                  refine th_take (i := 13) (v := ?_) rfl (by kernel_rfl) (by kernel_rfl) (by kernel_rfl) (Or.inl ⟨by rfl, fun w hSw => ?_⟩) hS0 ?_
                  rotate_left
                  · go_simp
                    with_reducible rfl
                  simp only [Act.put, List.setIfInBounds_toArray, List.set_cons_zero, List.set_cons_succ]
                  refine th_take (i := 14) (v := ?_) rfl (by kernel_rfl) (by kernel_rfl) (by kernel_rfl) (Or.inl ⟨by rfl, fun w hSw => ?_⟩) hS0 ?_
                  rotate_left
                  · go_simp
                    with_reducible rfl
                  simp only [Act.put, List.setIfInBounds_toArray, List.set_cons_zero, List.set_cons_succ]
                  refine th_take (i := 15) (v := .bool false) rfl (by kernel_rfl) (by kernel_rfl) (by kernel_rfl) (Or.inl ⟨by rfl, fun w hSw => ?_⟩) hS0 ?_
                  · have hc := hSw.2
                    go_simp
                  simp only [Act.put, List.setIfInBounds_toArray, List.set_cons_zero, List.set_cons_succ]
                  refine th_take (i := 16) (v := ?_) rfl (by kernel_rfl) (by kernel_rfl) (by kernel_rfl) (Or.inl ⟨by rfl, fun w hSw => ?_⟩) hS0 ?_
                  rotate_left
                  · go_simp
                    with_reducible rfl
                  simp only [Act.put, List.setIfInBounds_toArray, List.set_cons_zero, List.set_cons_succ]
                  refine th_take (i := 17) (v := undef) rfl (by kernel_rfl) (by kernel_rfl) (by kernel_rfl) (.inr ⟨by rfl, rfl⟩) hS0 ?_
                  simp only [Act.put, List.setIfInBounds_toArray, List.set_cons_zero, List.set_cons_succ]
                  refine th_take (i := 18) (v := undef) rfl (by kernel_rfl) (by kernel_rfl) (by kernel_rfl) (.inr ⟨by rfl, rfl⟩) hS0 ?_
                  simp only [Act.put, List.setIfInBounds_toArray, List.set_cons_zero, List.set_cons_succ]
                  refine th_take (i := 19) (v := ?_) rfl (by kernel_rfl) (by kernel_rfl) (by kernel_rfl) (Or.inl ⟨by rfl, fun w hSw => ?_⟩) hS0 ?_
                  rotate_left
                  · go_simp
                    with_reducible rfl
                  simp only [Act.put, List.setIfInBounds_toArray, List.set_cons_zero, List.set_cons_succ]
                  refine th_take (i := 20) (v := ?_) rfl (by kernel_rfl) (by kernel_rfl) (by kernel_rfl) (Or.inl ⟨by rfl, fun w hSw => ?_⟩) hS0 ?_
                  rotate_left
                  · go_simp
                    with_reducible rfl
                  simp only [Act.put, List.setIfInBounds_toArray, List.set_cons_zero, List.set_cons_succ]
                  refine th_one (i := 0) rfl (by kernel_rfl) (fun K hK => ?_)
                  refine step_load_row (by rfl) 23 (.tmp 11) rfl (w3.heap.size + 1) rfl 23 #[.bool tp, .bool tr, .bool th, .bool ts, .bool tl, .int .i64 tb] _ (unhide ZL) Try.underlying23 rfl (by kernel_rfl) ?_
                  refine hK.out _ _ hS0 (fun _ => ?_)
                  clear hK K
                  try simp only [Act.put, List.setIfInBounds_toArray, List.set_cons_zero, List.set_cons_succ]
                  refine th_one (i := 21) rfl (by kernel_rfl) (fun K hK => ?_)
                  rw [if_pos (by rfl)]
                  go_simp
                  refine (unhide HRS _ ⟨tp, tr, th, ts, tl, tb⟩ true false false ⟨vp, vr, vh, vs, vl, vb⟩ ra rb rc re (unhide HSL)).mono ?_
                  rintro e w5 ⟨rfl, hb5⟩
                  have hb5' : Below wr.heap.size wr w5 := ((Below.refl wr.heap.size wr).drew).trans hb5
                  have hS5 : (fun W => W.cell? ⟨gb, go + k * 4 + 1, none⟩ = some (.bool true) ∧ W.cell? ⟨gb, go + k * 4 + 3, none⟩ = some (.bool false)) w5 := ⟨(hb5'.cell (p := ⟨gb, _, none⟩) hkL).trans (unhide HL1), (hb5'.cell (p := ⟨gb, _, none⟩) hkL).trans (unhide HL3)⟩
                  refine hK.out _ _ hS5 (fun _ => ?_)
                  clear hK K
                  try simp only [Act.put, List.setIfInBounds_toArray, List.set_cons_zero, List.set_cons_succ]
                  simp only [HH.c]
                  refine th_take (i := 22) (v := ?_) rfl (by kernel_rfl) (by kernel_rfl) (by kernel_rfl) (Or.inl ⟨by rfl, fun w hSw => ?_⟩) hS5 ?_
                  rotate_left
                  · go_simp
                    with_reducible rfl
                  simp only [Act.put, List.setIfInBounds_toArray, List.set_cons_zero, List.set_cons_succ]
                  refine th_take (i := 23) (v := ?_) rfl (by kernel_rfl) (by kernel_rfl) (by kernel_rfl) (Or.inl ⟨by rfl, fun w hSw => ?_⟩) hS5 ?_
                  rotate_left
                  · go_simp
                    with_reducible rfl
                  simp only [Act.put, List.setIfInBounds_toArray, List.set_cons_zero, List.set_cons_succ]
                  refine th_take (i := 24) (v := ?_) rfl (by kernel_rfl) (by kernel_rfl) (by kernel_rfl) (Or.inl ⟨by rfl, fun w hSw => ?_⟩) hS5 ?_
                  rotate_left
                  · go_simp
                    with_reducible rfl
                  simp only [Act.put, List.setIfInBounds_toArray, List.set_cons_zero, List.set_cons_succ]
                  refine th_take (i := 25) (v := ?_) rfl (by kernel_rfl) (by kernel_rfl) (by kernel_rfl) (Or.inl ⟨by rfl, fun w hSw => ?_⟩) hS5 ?_
                  rotate_left
                  · go_simp
                    with_reducible rfl
                  simp only [Act.put, List.setIfInBounds_toArray, List.set_cons_zero, List.set_cons_succ]
                  refine th_one (i := 26) rfl (by kernel_rfl) (fun K hK => ?_)
                  refine step_store_blk (by rfl) 23 (.tmp 11) (.tmp 191) rfl (w3.heap.size + 1) 23 _ #[.bool vp, .bool vr, .bool vh, .bool vs, .bool vl, .int .i64 vb] rfl rfl ((unhide ZL).below hb5' (unhide ZL).lt) rfl (by kernel_rfl) (by intro u hu; simp at hu; rcases hu with rfl | rfl | rfl | rfl | rfl | rfl <;> rfl) ?_
                  intro w7 hb7 hg7
                  have hgne : some gb ≠ some (w3.heap.size + 1) := by intro e; injection e with e; omega
                  have hS7 : (fun W => W.cell? ⟨gb, go + k * 4 + 1, none⟩ = some (.bool true) ∧ W.cell? ⟨gb, go + k * 4 + 3, none⟩ = some (.bool false)) w7 := ⟨hg7.cell hS5.1 hgne, hg7.cell hS5.2 hgne⟩
                  refine hK.out _ _ hS7 (fun _ => ?_)
                  clear hK K
                  try simp only [Act.put]
                  refine wpAnyH_done (by kernel_rfl) (NoPanic.normal ?_) _
                  have XL7 := hide (((unhide XL).below hb5' (unhide XL).lt).grown hg7 (fun e => by injection e with e; omega))
                  have BL7 := hide (((unhide BL).trans (hb5'.mono (unhide BL).size)).grown hg7 (by have := (unhide BL).size; have := hb5'.size; omega) (fun g e => by injection e with e; omega))
                  have ZL7 := hide hb7
                  clear hb5 hb5' hb7 hg7 hS0 hS5 hS7 hqi hqw hbk hbn hgne
                  go_wp2_with fail
                  go_roundw
                  case rel => exact ⟨m - 1, by omega, by first | go_num | (congr 1; omega), ⟨vp, vr, vh, vs, vl, vb⟩, unhide ZL7, unhide XL7, unhide BL7⟩
                  case measure => simp [intOf]; omega
                · skip
                  obtain ⟨⟨⟨vp, vr, vh, vs, vl, vb⟩, ra, rb, rc, re⟩, hst⟩ : ∃ q, stepR ⟨tp, tr, th, ts, tl, tb⟩ true false bn = q := ⟨_, rfl⟩
                  have HSL := hide hst
                  clear hst
                  have hS0 : (fun W => W.cell? ⟨gb, go + k * 4 + 1, none⟩ = some (.bool true) ∧ W.cell? ⟨gb, go + k * 4 + 3, none⟩ = some (.bool true)) wr.drew := ⟨unhide HL1, unhide HL3⟩
                  refine wp_region_noPanic (wp_region_held_drew (S := (fun W => W.cell? ⟨gb, go + k * 4 + 1, none⟩ = some (.bool true) ∧ W.cell? ⟨gb, go + k * 4 + 3, none⟩ = some (.bool true))) (by kernel_rfl) hS0 (fun _ => ?_))
                  refine th_take (i := 1) (v := ?_) rfl (by kernel_rfl) (by kernel_rfl) (by kernel_rfl) (Or.inl ⟨by rfl, fun w hSw => ?_⟩) hS0 ?_
                  rotate_left
                  · go_simp
                    with_reducible rfl
                  simp only [Act.put, List.setIfInBounds_toArray, List.set_cons_zero, List.set_cons_succ]
                  refine th_take (i := 2) (v := ?_) rfl (by kernel_rfl) (by kernel_rfl) (by kernel_rfl) (Or.inl ⟨by rfl, fun w hSw => ?_⟩) hS0 ?_
                  rotate_left
                  · go_simp
                    with_reducible rfl
                  simp only [Act.put, List.setIfInBounds_toArray, List.set_cons_zero, List.set_cons_succ]
                  refine th_take (i := 3) (v := ?_) rfl (by kernel_rfl) (by kernel_rfl) (by kernel_rfl) (Or.inl ⟨by rfl, fun w hSw => ?_⟩) hS0 ?_
                  rotate_left
                  · go_simp
                    with_reducible rfl
                  simp only [Act.put, List.setIfInBounds_toArray, List.set_cons_zero, List.set_cons_succ]
                  refine th_take (i := 4) (v := ?_) rfl (by kernel_rfl) (by kernel_rfl) (by kernel_rfl) (Or.inl ⟨by rfl, fun w hSw => ?_⟩) hS0 ?_
                  rotate_left
                  · go_simp
                    with_reducible rfl
                  simp only [Act.put, List.setIfInBounds_toArray, List.set_cons_zero, List.set_cons_succ]
                  refine th_take (i := 5) (v := .bool true) rfl (by kernel_rfl) (by kernel_rfl) (by kernel_rfl) (Or.inl ⟨by rfl, fun w hSw => ?_⟩) hS0 ?_
                  · have hc := hSw.1
                    go_simp
                  simp only [Act.put, List.setIfInBounds_toArray, List.set_cons_zero, List.set_cons_succ]
                  refine th_take (i := 6) (v := ?_) rfl (by kernel_rfl) (by kernel_rfl) (by kernel_rfl) (Or.inl ⟨by rfl, fun w hSw => ?_⟩) hS0 ?_
                  rotate_left
                  · go_simp
                    with_reducible rfl
                  simp only [Act.put, List.setIfInBounds_toArray, List.set_cons_zero, List.set_cons_succ]
                  refine th_take (i := 7) (v := undef) rfl (by kernel_rfl) (by kernel_rfl) (by kernel_rfl) (.inr ⟨by rfl, rfl⟩) hS0 ?_
                  simp only [Act.put, List.setIfInBounds_toArray, List.set_cons_zero, List.set_cons_succ]
                  refine th_take (i := 8) (v := undef) rfl (by kernel_rfl) (by kernel_rfl) (by kernel_rfl) (.inr ⟨by rfl, rfl⟩) hS0 ?_
                  simp only [Act.put, List.setIfInBounds_toArray, List.set_cons_zero, List.set_cons_succ]
                  refine th_take (i := 9) (v := undef) rfl (by kernel_rfl) (by kernel_rfl) (by kernel_rfl) (.inr ⟨by rfl, rfl⟩) hS0 ?_
                  simp only [Act.put, List.setIfInBounds_toArray, List.set_cons_zero, List.set_cons_succ]
                  refine th_take (i := 10) (v := ?_) rfl (by kernel_rfl) (by kernel_rfl) (by kernel_rfl) (Or.inl ⟨by rfl, fun w hSw => ?_⟩) hS0 ?_
                  rotate_left
                  · go_simp
                    with_reducible rfl
                  simp only [Act.put, List.setIfInBounds_toArray, List.set_cons_zero, List.set_cons_succ]
                  refine th_take (i := 11) (v := ?_) rfl (by kernel_rfl) (by kernel_rfl) (by kernel_rfl) (Or.inl ⟨by rfl, fun w hSw => ?_⟩) hS0 ?_
                  rotate_left
                  · go_simp
                    with_reducible rfl
                  simp only [Act.put, List.setIfInBounds_toArray, List.set_cons_zero, List.set_cons_succ]
                  refine th_take (i := 12) (v := ?_) rfl (by kernel_rfl) (by kernel_rfl) (by kernel_rfl) (Or.inl ⟨by rfl, fun w hSw => ?_⟩) hS0 ?_
                  rotate_left
                  · go_simp
                    with_reducible rfl
                  simp only [Act.put, List.setIfInBounds_toArray, List.set_cons_zero, List.set_cons_succ]
                  refine th_take (i := 13) (v := ?_) rfl (by kernel_rfl) (by kernel_rfl) (by kernel_rfl) (Or.inl ⟨by rfl, fun w hSw => ?_⟩) hS0 ?_
                  rotate_left
                  · go_simp
                    with_reducible rfl
                  simp only [Act.put, List.setIfInBounds_toArray, List.set_cons_zero, List.set_cons_succ]
                  refine th_take (i := 14) (v := ?_) rfl (by kernel_rfl) (by kernel_rfl) (by kernel_rfl) (Or.inl ⟨by rfl, fun w hSw => ?_⟩) hS0 ?_
                  rotate_left
                  · go_simp
                    with_reducible rfl
                  simp only [Act.put, List.setIfInBounds_toArray, List.set_cons_zero, List.set_cons_succ]
                  refine th_take (i := 15) (v := .bool true) rfl (by kernel_rfl) (by kernel_rfl) (by kernel_rfl) (Or.inl ⟨by rfl, fun w hSw => ?_⟩) hS0 ?_
                  · have hc := hSw.2
                    go_simp
                  simp only [Act.put, List.setIfInBounds_toArray, List.set_cons_zero, List.set_cons_succ]
                  refine th_take (i := 16) (v := ?_) rfl (by kernel_rfl) (by kernel_rfl) (by kernel_rfl) (Or.inl ⟨by rfl, fun w hSw => ?_⟩) hS0 ?_
                  rotate_left
                  · go_simp
                    with_reducible rfl
                  simp only [Act.put, List.setIfInBounds_toArray, List.set_cons_zero, List.set_cons_succ]
                  refine th_take (i := 17) (v := ?_) rfl (by kernel_rfl) (by kernel_rfl) (by kernel_rfl) (Or.inl ⟨by rfl, fun w hSw => ?_⟩) hS0 ?_
                  rotate_left
                  · go_simp
                    with_reducible rfl
                  simp only [Act.put, List.setIfInBounds_toArray, List.set_cons_zero, List.set_cons_succ]
                  refine th_take (i := 18) (v := ?_) rfl (by kernel_rfl) (by kernel_rfl) (by kernel_rfl) (Or.inl ⟨by rfl, fun w hSw => ?_⟩) hS0 ?_
                  rotate_left
                  · go_simp
                    with_reducible rfl
                  simp only [Act.put, List.setIfInBounds_toArray, List.set_cons_zero, List.set_cons_succ]
                  refine th_take (i := 19) (v := ?_) rfl (by kernel_rfl) (by kernel_rfl) (by kernel_rfl) (Or.inl ⟨by rfl, fun w hSw => ?_⟩) hS0 ?_
                  rotate_left
                  · go_simp
                    with_reducible rfl
                  simp only [Act.put, List.setIfInBounds_toArray, List.set_cons_zero, List.set_cons_succ]
                  refine th_take (i := 20) (v := ?_) rfl (by kernel_rfl) (by kernel_rfl) (by kernel_rfl) (Or.inl ⟨by rfl, fun w hSw => ?_⟩) hS0 ?_
                  rotate_left
                  · go_simp
                    with_reducible rfl
                  simp only [Act.put, List.setIfInBounds_toArray, List.set_cons_zero, List.set_cons_succ]
                  refine th_one (i := 0) rfl (by kernel_rfl) (fun K hK => ?_)
                  refine step_load_row (by rfl) 23 (.tmp 11) rfl (w3.heap.size + 1) rfl 23 #[.bool tp, .bool tr, .bool th, .bool ts, .bool tl, .int .i64 tb] _ (unhide ZL) Try.underlying23 rfl (by kernel_rfl) ?_
                  refine hK.out _ _ hS0 (fun _ => ?_)
                  clear hK K
                  try simp only [Act.put, List.setIfInBounds_toArray, List.set_cons_zero, List.set_cons_succ]
                  refine th_one (i := 21) rfl (by kernel_rfl) (fun K hK => ?_)
                  rw [if_pos (by rfl)]
                  go_simp
                  refine (unhide HRS _ ⟨tp, tr, th, ts, tl, tb⟩ true false bn ⟨vp, vr, vh, vs, vl, vb⟩ ra rb rc re (unhide HSL)).mono ?_
                  rintro e w5 ⟨rfl, hb5⟩
                  have hb5' : Below wr.heap.size wr w5 := ((Below.refl wr.heap.size wr).drew).trans hb5
                  have hS5 : (fun W => W.cell? ⟨gb, go + k * 4 + 1, none⟩ = some (.bool true) ∧ W.cell? ⟨gb, go + k * 4 + 3, none⟩ = some (.bool true)) w5 := ⟨(hb5'.cell (p := ⟨gb, _, none⟩) hkL).trans (unhide HL1), (hb5'.cell (p := ⟨gb, _, none⟩) hkL).trans (unhide HL3)⟩
                  refine hK.out _ _ hS5 (fun _ => ?_)
                  clear hK K
                  try simp only [Act.put, List.setIfInBounds_toArray, List.set_cons_zero, List.set_cons_succ]
                  simp only [HH.c]
                  refine th_take (i := 22) (v := ?_) rfl (by kernel_rfl) (by kernel_rfl) (by kernel_rfl) (Or.inl ⟨by rfl, fun w hSw => ?_⟩) hS5 ?_
                  rotate_left
                  · go_simp
                    with_reducible rfl
                  simp only [Act.put, List.setIfInBounds_toArray, List.set_cons_zero, List.set_cons_succ]
                  refine th_take (i := 23) (v := ?_) rfl (by kernel_rfl) (by kernel_rfl) (by kernel_rfl) (Or.inl ⟨by rfl, fun w hSw => ?_⟩) hS5 ?_
                  rotate_left
                  · go_simp
                    with_reducible rfl
                  simp only [Act.put, List.setIfInBounds_toArray, List.set_cons_zero, List.set_cons_succ]
                  refine th_take (i := 24) (v := ?_) rfl (by kernel_rfl) (by kernel_rfl) (by kernel_rfl) (Or.inl ⟨by rfl, fun w hSw => ?_⟩) hS5 ?_
                  rotate_left
                  · go_simp
                    with_reducible rfl
                  simp only [Act.put, List.setIfInBounds_toArray, List.set_cons_zero, List.set_cons_succ]
                  refine th_take (i := 25) (v := ?_) rfl (by kernel_rfl) (by kernel_rfl) (by kernel_rfl) (Or.inl ⟨by rfl, fun w hSw => ?_⟩) hS5 ?_
                  rotate_left
                  · go_simp
                    with_reducible rfl
                  simp only [Act.put, List.setIfInBounds_toArray, List.set_cons_zero, List.set_cons_succ]
                  refine th_one (i := 26) rfl (by kernel_rfl) (fun K hK => ?_)
                  refine step_store_blk (by rfl) 23 (.tmp 11) (.tmp 191) rfl (w3.heap.size + 1) 23 _ #[.bool vp, .bool vr, .bool vh, .bool vs, .bool vl, .int .i64 vb] rfl rfl ((unhide ZL).below hb5' (unhide ZL).lt) rfl (by kernel_rfl) (by intro u hu; simp at hu; rcases hu with rfl | rfl | rfl | rfl | rfl | rfl <;> rfl) ?_
                  intro w7 hb7 hg7
                  have hgne : some gb ≠ some (w3.heap.size + 1) := by intro e; injection e with e; omega
                  have hS7 : (fun W => W.cell? ⟨gb, go + k * 4 + 1, none⟩ = some (.bool true) ∧ W.cell? ⟨gb, go + k * 4 + 3, none⟩ = some (.bool true)) w7 := ⟨hg7.cell hS5.1 hgne, hg7.cell hS5.2 hgne⟩
                  refine hK.out _ _ hS7 (fun _ => ?_)
                  clear hK K
                  try simp only [Act.put]
                  refine wpAnyH_done (by kernel_rfl) (NoPanic.normal ?_) _
                  have XL7 := hide (((unhide XL).below hb5' (unhide XL).lt).grown hg7 (fun e => by injection e with e; omega))
                  have BL7 := hide (((unhide BL).trans (hb5'.mono (unhide BL).size)).grown hg7 (by have := (unhide BL).size; have := hb5'.size; omega) (fun g e => by injection e with e; omega))
                  have ZL7 := hide hb7
                  clear hb5 hb5' hb7 hg7 hS0 hS5 hS7 hqi hqw hbk hbn hgne
                  go_wp2_with fail
                  go_roundw
                  case rel => exact ⟨m - 1, by omega, by first | go_num | (congr 1; omega), ⟨vp, vr, vh, vs, vl, vb⟩, unhide ZL7, unhide XL7, unhide BL7⟩
                  case measure => simp [intOf]; omega
              · skip
                have hmz : (m : Int) ≤ 0 := by omega
                have HL0 := hide l0
                obtain ⟨q7, hq7⟩ : ∃ q, ac % 7 = q := ⟨_, rfl⟩
                have hq77 : q7 ≤ 6 := by omega
                have hqi : ((ac : Int)).tmod 7 = (q7 : Int) := by rw [← hq7]; exact Int.ofNat_tmod ac 7
                have hqw : IntKind.i64.wrap (q7 : Int) = (q7 : Int) := IntWalk.i64_in _ (by omega)
                obtain ⟨⟨⟨fp, fr, fh, fs, fl, fb⟩, fe⟩, hact⟩ : ∃ q, actR ⟨tp, tr, th, ts, tl, tb⟩ (q7 : Int) = q := ⟨_, rfl⟩
                have HAF := hide hact
                have HQI := hide hqi
                have HQW := hide hqw
                clear hq7 hact l0 l1 l2 l3 hqi hqw
                obtain ⟨wL, hwL⟩ : ∃ wL, wL = wr := ⟨_, rfl⟩
                subst hwL
                go_upto_region 28 with fail
                have hqi := unhide HQI
                have hqw := unhide HQW
                go_cut [27, 28] from 195 to 208 (fun p e W => ∃ g, p = .pointer (some ⟨g, 0, none⟩) ∧ e = .int .i64 fe ∧ Blk W g 23 #[.bool fp, .bool fr, .bool fh, .bool fs, .bool fl, .int .i64 fb] ∧ Below wL.heap.size wL W)
                case first =>
                  have hS0 : Below wL.heap.size wL wL.drew := (Below.refl _ _).drew
                  refine wp_region_noPanic (wp_region_held_drew (S := fun W => Below wL.heap.size wL W) (by kernel_rfl) hS0 (fun _ => ?_))
                  refine th_take (i := 0) rfl (by kernel_rfl) (by kernel_rfl) (by kernel_rfl) (y_loadblk 23 (.tmp 11) (by rfl) rfl (w3.heap.size + 1) rfl 23 #[.bool tp, .bool tr, .bool th, .bool ts, .bool tl, .int .i64 tb] _ (fun _ h => (unhide ZL).below h (unhide ZL).lt) Try.underlying23 rfl (by kernel_rfl)) hS0 ?_
                  simp only [Act.put, List.setIfInBounds_toArray, List.set_cons_zero, List.set_cons_succ]
                  refine th_take (i := 1) (v := ?_) rfl (by kernel_rfl) (by kernel_rfl) (by kernel_rfl) (Or.inl ⟨by rfl, fun w hSw => ?_⟩) hS0 ?_
                  rotate_left
                  · go_simp
                    with_reducible rfl
                  simp only [Act.put, List.setIfInBounds_toArray, List.set_cons_zero, List.set_cons_succ]
                  refine th_take (i := 2) (v := ?_) rfl (by kernel_rfl) (by kernel_rfl) (by kernel_rfl) (Or.inl ⟨by rfl, fun w hSw => ?_⟩) hS0 ?_
                  rotate_left
                  · go_simp
                    with_reducible rfl
                  simp only [Act.put, List.setIfInBounds_toArray, List.set_cons_zero, List.set_cons_succ]
                  refine th_take (i := 3) (v := ?_) rfl (by kernel_rfl) (by kernel_rfl) (by kernel_rfl) (Or.inl ⟨by rfl, fun w hSw => ?_⟩) hS0 ?_
                  rotate_left
                  · go_simp
                    with_reducible rfl
                  simp only [Act.put, List.setIfInBounds_toArray, List.set_cons_zero, List.set_cons_succ]
                  refine th_take (i := 4) (v := ?_) rfl (by kernel_rfl) (by kernel_rfl) (by kernel_rfl) (Or.inl ⟨by rfl, fun w hSw => ?_⟩) hS0 ?_
                  rotate_left
                  · go_simp
                    with_reducible rfl
                  simp only [Act.put, List.setIfInBounds_toArray, List.set_cons_zero, List.set_cons_succ]
                  refine th_take (i := 5) (v := .int .u8 (ac : Int)) rfl (by kernel_rfl) (by kernel_rfl) (by kernel_rfl) (Or.inl ⟨by rfl, fun w hSw => ?_⟩) hS0 ?_
                  · have hc := (hSw.cell (p := ⟨gb, _, none⟩) hkL).trans (unhide HL0)
                    go_simp
                  simp only [Act.put, List.setIfInBounds_toArray, List.set_cons_zero, List.set_cons_succ]
                  refine th_take (i := 6) (v := ?_) rfl (by kernel_rfl) (by kernel_rfl) (by kernel_rfl) (Or.inl ⟨by rfl, fun w hSw => ?_⟩) hS0 ?_
                  rotate_left
                  · go_simp
                    with_reducible rfl
                  simp only [Act.put, List.setIfInBounds_toArray, List.set_cons_zero, List.set_cons_succ]
                  refine th_take (i := 7) (v := ?_) rfl (by kernel_rfl) (by kernel_rfl) (by kernel_rfl) (Or.inl ⟨by rfl, fun w hSw => ?_⟩) hS0 ?_
                  rotate_left
                  · go_simp
                    with_reducible rfl
                  simp only [Act.put, List.setIfInBounds_toArray, List.set_cons_zero, List.set_cons_succ]
                  refine th_two (i := 8) (j := 12) rfl rfl (by kernel_rfl) (fun K hK => ?_) (fun K hK => ?_)
                  · -- the call first
                    rw [if_pos (by rfl)]
                    go_simp
                    refine (unhide HRC _ ⟨tp, tr, th, ts, tl, tb⟩ (q7 : Int) ⟨fp, fr, fh, fs, fl, fb⟩ fe (unhide HAF)).mono ?_
                    rintro e w5 ⟨rfl, hb5⟩
                    have hS5 : Below wL.heap.size wL w5 := hS0.trans hb5
                    refine hK.out _ _ hS5 (fun _ => ?_)
                    clear hK K
                    try simp only [Act.put, List.setIfInBounds_toArray, List.set_cons_zero, List.set_cons_succ]
                    simp only [HH.v]
                    refine th_take (i := 9) (v := ?_) rfl (by kernel_rfl) (by kernel_rfl) (by kernel_rfl) (Or.inl ⟨by rfl, fun w hSw => ?_⟩) hS5 ?_
                    rotate_left
                    · go_simp
                      with_reducible rfl
                    simp only [Act.put, List.setIfInBounds_toArray, List.set_cons_zero, List.set_cons_succ]
                    refine th_take (i := 10) (v := ?_) rfl (by kernel_rfl) (by kernel_rfl) (by kernel_rfl) (Or.inl ⟨by rfl, fun w hSw => ?_⟩) hS5 ?_
                    rotate_left
                    · go_simp
                      with_reducible rfl
                    simp only [Act.put, List.setIfInBounds_toArray, List.set_cons_zero, List.set_cons_succ]
                    refine th_take (i := 11) (v := ?_) rfl (by kernel_rfl) (by kernel_rfl) (by kernel_rfl) (Or.inl ⟨by rfl, fun w hSw => ?_⟩) hS5 ?_
                    rotate_left
                    · go_simp
                      with_reducible rfl
                    simp only [Act.put, List.setIfInBounds_toArray, List.set_cons_zero, List.set_cons_succ]
                    refine th_one (i := 12) rfl (by kernel_rfl) (fun K hK => ?_)
                    rw [if_pos (by rfl)]
                    go_simp
                    have hS6 : Below wL.heap.size wL (w5.alloc (.cells #[.bool false, .bool false, .bool false, .bool false, .bool false, .int .i64 0] 23)) := hS5.alloc hS5.size _
                    refine hK.out _ _ hS6 (fun _ => ?_)
                    clear hK K
                    try simp only [Act.put, List.setIfInBounds_toArray, List.set_cons_zero, List.set_cons_succ]
                    refine th_one (i := 13) rfl (by kernel_rfl) (fun K hK => ?_)
                    refine step_store_blk (by rfl) 23 (.tmp 27) (.tmp 204) rfl w5.heap.size 23 _ #[.bool fp, .bool fr, .bool fh, .bool fs, .bool fl, .int .i64 fb] rfl rfl (Blk.new w5 _ #[.bool false, .bool false, .bool false, .bool false, .bool false, .int .i64 0]) rfl (by kernel_rfl) (by intro u hu; simp at hu; rcases hu with rfl | rfl | rfl | rfl | rfl | rfl <;> rfl) ?_
                    intro w7 hb7 hg7
                    have hS7 : Below wL.heap.size wL w7 := hS6.grown hg7 hS6.size (fun g e => by injection e with e; have := hS5.size; omega)
                    refine hK.out _ _ hS7 (fun _ => ?_)
                    clear hK K
                    try simp only [Act.put]
                    refine th_take (i := 14) (v := ?_) rfl (by kernel_rfl) (by kernel_rfl) (by kernel_rfl) (Or.inl ⟨by rfl, fun w hSw => ?_⟩) hS7 ?_
                    rotate_left
                    · go_simp
                      with_reducible rfl
                    simp only [Act.put, List.setIfInBounds_toArray, List.set_cons_zero, List.set_cons_succ]
                    refine wpAnyH_done (by kernel_rfl) (NoPanic.normal ?_) _
                    go_wp2_with fail
                    go_meet
                    exact ⟨w5.heap.size, rfl, rfl, hb7, hS7⟩
                  · -- the block first
                    rw [if_pos (by rfl)]
                    go_simp
                    have hS4 : Below wL.heap.size wL (wL.drew.alloc (.cells #[.bool false, .bool false, .bool false, .bool false, .bool false, .int .i64 0] 23)) := hS0.alloc hS0.size _
                    refine hK.out _ _ hS4 (fun _ => ?_)
                    clear hK K
                    try simp only [Act.put, List.setIfInBounds_toArray, List.set_cons_zero, List.set_cons_succ]
                    refine th_one (i := 8) rfl (by kernel_rfl) (fun K hK => ?_)
                    rw [if_pos (by rfl)]
                    go_simp
                    refine (unhide HRC _ ⟨tp, tr, th, ts, tl, tb⟩ (q7 : Int) ⟨fp, fr, fh, fs, fl, fb⟩ fe (unhide HAF)).mono ?_
                    rintro e w5 ⟨rfl, hb5⟩
                    have hz5 : Blk w5 wL.heap.size 23 #[.bool false, .bool false, .bool false, .bool false, .bool false, .int .i64 0] := (Blk.new wL.drew _ _).below hb5 (by simp)
                    have hS5 : Below wL.heap.size wL w5 := hS4.trans (hb5.mono hS4.size)
                    refine hK.out _ _ hS5 (fun _ => ?_)
                    clear hK K
                    try simp only [Act.put, List.setIfInBounds_toArray, List.set_cons_zero, List.set_cons_succ]
                    simp only [HH.v]
                    refine th_take (i := 9) (v := ?_) rfl (by kernel_rfl) (by kernel_rfl) (by kernel_rfl) (Or.inl ⟨by rfl, fun w hSw => ?_⟩) hS5 ?_
                    rotate_left
                    · go_simp
                      with_reducible rfl
                    simp only [Act.put, List.setIfInBounds_toArray, List.set_cons_zero, List.set_cons_succ]
                    refine th_take (i := 10) (v := ?_) rfl (by kernel_rfl) (by kernel_rfl) (by kernel_rfl) (Or.inl ⟨by rfl, fun w hSw => ?_⟩) hS5 ?_
                    rotate_left
                    · go_simp
                      with_reducible rfl
                    simp only [Act.put, List.setIfInBounds_toArray, List.set_cons_zero, List.set_cons_succ]
                    refine th_take (i := 11) (v := ?_) rfl (by kernel_rfl) (by kernel_rfl) (by kernel_rfl) (Or.inl ⟨by rfl, fun w hSw => ?_⟩) hS5 ?_
                    rotate_left
                    · go_simp
                      with_reducible rfl
                    simp only [Act.put, List.setIfInBounds_toArray, List.set_cons_zero, List.set_cons_succ]
                    refine th_one (i := 13) rfl (by kernel_rfl) (fun K hK => ?_)
                    refine step_store_blk (by rfl) 23 (.tmp 27) (.tmp 204) rfl wL.heap.size 23 _ #[.bool fp, .bool fr, .bool fh, .bool fs, .bool fl, .int .i64 fb] rfl rfl hz5 rfl (by kernel_rfl) (by intro u hu; simp at hu; rcases hu with rfl | rfl | rfl | rfl | rfl | rfl <;> rfl) ?_
                    intro w7 hb7 hg7
                    have hS7 : Below wL.heap.size wL w7 := hS5.grown hg7 hS5.size (fun g e => by injection e with e; omega)
                    refine hK.out _ _ hS7 (fun _ => ?_)
                    clear hK K
                    try simp only [Act.put]
                    refine th_take (i := 14) (v := ?_) rfl (by kernel_rfl) (by kernel_rfl) (by kernel_rfl) (Or.inl ⟨by rfl, fun w hSw => ?_⟩) hS7 ?_
                    rotate_left
                    · go_simp
                      with_reducible rfl
                    simp only [Act.put, List.setIfInBounds_toArray, List.set_cons_zero, List.set_cons_succ]
                    refine wpAnyH_done (by kernel_rfl) (NoPanic.normal ?_) _
                    go_wp2_with fail
                    go_meet
                    exact ⟨wL.heap.size, rfl, rfl, hb7, hS7⟩
                case rest =>
                  obtain ⟨g27, rfl, rfl, hbg, hB⟩ := hcut
                  obtain ⟨wf, hwf⟩ : ∃ wf, wf = wc := ⟨_, rfl⟩
                  subst hwf
                  have ZF := hide ((unhide ZL).below hB (unhide ZL).lt)
                  have XF := hide ((unhide XL).below hB (unhide XL).lt)
                  have BF := hide ((unhide BL).trans (hB.mono (unhide BL).size))
                  have GF := hide hbg
                  clear hbg hB hqi hqw
                  by_cases hfe : fe = 0
                  · have hfb : (fe == 0) = true := by simpa using hfe
                    clear hfe
                    go_wp2_with (first
                      | (refine wpList_load_row rfl 23 _ rfl g27 rfl 23 _ _ _ (unhide GF) Try.underlying23 rfl (by kernel_rfl) ?_)
                      | (refine wpList_store_blk rfl 23 (.tmp 11) (.tmp 208) rfl (w3.heap.size + 1) 23 _ #[.bool fp, .bool fr, .bool fh, .bool fs, .bool fl, .int .i64 fb] rfl rfl (unhide ZF) rfl (by kernel_rfl) (by intro u hu; simp at hu; rcases hu with rfl | rfl | rfl | rfl | rfl | rfl <;> rfl) ?_
                         intro w9 hb9 hg9
                         have ZN := hide hb9
                         have XN := hide ((unhide XF).grown hg9 (fun e => by injection e with e; omega))
                         have BN := hide ((unhide BF).grown hg9 (unhide BF).size (fun g e => by injection e with e; omega))
                         clear hb9 hg9)
                      | fail)
                    go_roundw
                    case rel => exact ⟨k + 1, by omega, by omega, by go_num, ⟨fp, fr, fh, fs, fl, fb⟩, unhide ZN, unhide XN, unhide BN⟩
                    case measure => simp [intOf]; omega
                  · have hfb : (fe == 0) = false := by simpa using hfe
                    clear hfe
                    go_wp2_with fail
                    go_roundw
                    case rel => exact ⟨k + 1, by omega, by omega, by go_num, ⟨tp, tr, th, ts, tl, tb⟩, unhide ZF, unhide XF, unhide BF⟩
                    case measure => simp [intOf]; omega
    · have hB2 := hide hB
      clear hbz hbx hB
      by_cases hk3 : k < n
      · obtain rfl : k = 200 := by omega
        have hd1 : decide (200 < n) = true := by simpa using hk3
        go_wp2_with fail
        go_ret
        exact ⟨rfl, unhide hB2⟩
      · obtain rfl : k = n := by omega
        go_wp2_with fail
        go_ret
        exact ⟨rfl, unhide hB2⟩
end Go.Proofs.Ytalhemdlkhkhfaa
