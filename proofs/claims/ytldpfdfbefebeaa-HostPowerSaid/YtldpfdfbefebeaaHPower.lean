/- The law HostPower, walked: it returns true; nothing that was there turns. -/
import Derived.Test.YtldpfdfbefebeaaHHaps
namespace Go.Proofs.Ytldpfdfbefebeaa
open Go.RowKit
section
variable {P : Program} {md : Region.Mode} {l : List Oper} {Q : Exit → Act → World → Prop} {S : World → Prop} {fuel : Nat} {listed : Array Bool} {a : Act} {w : World}
theorem th_three {i j k : Nat} {oi oj ok : Oper} (hi : l[i]? = some oi) (hj : l[j]? = some oj) (hl : l[k]? = some ok) (hr : Region.ready md l.toArray listed = [i, j, k])
    (h : ∀ K' : Act → World → Prop, Shut (∀ a w, S w → (S w → wpAnyH P md l.toArray Q S fuel (listed.setIfInBounds i true) a w) → K' a w) → if Region.wanted oi (yielded l.toArray a.tmps) = true then Oper.wp P oi a w K' Q else K' (a.put oi.dst undef) w)
    (h' : ∀ K' : Act → World → Prop, Shut (∀ a w, S w → (S w → wpAnyH P md l.toArray Q S fuel (listed.setIfInBounds j true) a w) → K' a w) → if Region.wanted oj (yielded l.toArray a.tmps) = true then Oper.wp P oj a w K' Q else K' (a.put oj.dst undef) w)
    (h2 : ∀ K' : Act → World → Prop, Shut (∀ a w, S w → (S w → wpAnyH P md l.toArray Q S fuel (listed.setIfInBounds k true) a w) → K' a w) → if Region.wanted ok (yielded l.toArray a.tmps) = true then Oper.wp P ok a w K' Q else K' (a.put ok.dst undef) w) :
    wpAnyH P md l.toArray Q S (fuel + 1) listed a w :=
  wpAnyH_ready (rs := [i, j, k]) hr (by simp) (AllReadyH.cons (by simpa using hi) h (AllReadyH.cons (by simpa using hj) h' (AllReadyH.cons (by simpa using hl) h2 AllReadyH.nil)))
end
set_option maxRecDepth 100000 in
set_option maxHeartbeats 4000000 in
theorem power_any (w : World) (A : Option Addr) (n c : Nat) (hn : n ≤ c) (hc : c ≤ maxLen) (L : Nat → Hap) (hL : HapsAt w w.heap.size A n L) :
    Calls Try.prog 4 #[.slice A n c] w fun e w' => e = .returned (.bool true) ∧ Below w.heap.size w w' := by
  have hnm : n ≤ 9223372036854775807 := by unfold maxLen at hc; omega
  have HA := hide awake_any
  have HL := hide hL
  clear hL
  go_enter Try.func4, Try.ntmps4
  go_wp2_with fail
  refine (unhide HA _).mono ?_
  rintro e w1 ⟨rfl, hb1⟩
  have hs1 : w.heap.size ≤ w1.heap.size := hb1.size
  have H1 : Hid (Blk (w1.alloc (.cells #[.bool false, .bool false, .bool false, .bool false, .bool false, .int .i64 0] 23)) w1.heap.size 23 (traceH 0).c) := hide (Blk.new w1 _ _)
  have B1 := hide (hb1.alloc hs1 (.cells #[.bool false, .bool false, .bool false, .bool false, .bool false, .int .i64 0] 23))
  clear hb1
  go_wp2_with fail
  go_loopw [4] (fun i wr => ∃ k : Nat, k ≤ n ∧ k ≤ 200 ∧ i = .int .i64 k ∧ ∃ x : HH, validH x = true ∧ Blk wr w1.heap.size 23 x.c ∧ Below w.heap.size w wr)
    (fun i _ => 200 - (intOf i).toNat)
  case atStart => exact ⟨0, by omega, by omega, rfl, traceH 0, rfl, unhide H1, unhide B1⟩
  case round =>
    obtain ⟨k, hkn, hk2, rfl, x, hx, hb, hB⟩ := hrel
    by_cases hlt : k < n ∧ k < 200
    · obtain ⟨hlt1, hlt2⟩ := hlt
      obtain ⟨gb, go, rfl, hab, ha, c0, c1, c2, c3⟩ := (unhide HL).below hB k hlt1
      have HJ := hide hb
      have BJ := hide hB
      have HX := Lib.hid hx
      have hd1 : decide (k < n) = true := by simpa using hlt1
      have hd2 : decide ((k : Int) < 200) = true := by simp; omega
      have hd3 : (k : Int) < 200 := by omega
      have hs2 : w.heap.size ≤ wr.heap.size := hB.size
      clear hb hB hx c1 c2 c3
      generalize hga : (L k).a = ac at *
      obtain ⟨q, hq⟩ : ∃ q, ac % 7 = q := ⟨_, rfl⟩
      have hq6 : q ≤ 6 := by omega
      have hqi : ((ac : Int)).tmod 7 = (q : Int) := by rw [← hq]; exact Int.ofNat_tmod ac 7
      have hqw : IntKind.i64.wrap (q : Int) = (q : Int) := IntWalk.i64_in _ (by omega)
      clear hq hga
      have C0 := hide c0
      have hkA : gb < wr.heap.size := by omega
      clear c0
      go_upto_region 7 with fail
      go_cut [5, 6] from 22 to 98 (fun p e W => ∃ g, p = .pointer (some ⟨g, 0, none⟩) ∧ e = .int .i64 0 ∧ Blk W g 23 (actH x q).c ∧ Blk W w1.heap.size 23 x.c ∧ Below w.heap.size w W ∧ w1.heap.size < g)
      case first =>
        have hS0 : Below wr.heap.size wr wr.drew := (Below.refl _ _).drew
        refine wp_region_noPanic (wp_region_held_drew (S := fun W => Below wr.heap.size wr W) (by kernel_rfl) hS0 (fun _ => ?_))
        refine th_take (i := 0) rfl (by kernel_rfl) (by kernel_rfl) (by kernel_rfl) (y_loadblk 23 (.tmp 3) (by rfl) rfl w1.heap.size rfl 23 x.c _ (fun _ h => (unhide HJ).below h (unhide HJ).lt) Try.underlying23 rfl (by kernel_rfl)) hS0 ?_
        simp only [Act.put, List.setIfInBounds_toArray, List.set_cons_zero, List.set_cons_succ]
        refine th_take (i := 1) (v := ?_) rfl (by kernel_rfl) (by kernel_rfl) (by kernel_rfl) (Or.inl ⟨by rfl, fun w hSw => ?_⟩) hS0 ?_
        rotate_left
        · go_simp
          with_reducible rfl
        simp only [Act.put, List.setIfInBounds_toArray, List.set_cons_zero, List.set_cons_succ]
        refine th_take (i := 2) (v := ?_) rfl (by kernel_rfl) (by kernel_rfl) (by kernel_rfl) (Or.inl ⟨by rfl, fun w hSw => ?_⟩) hS0 ?_
        rotate_left
        · go_simp
          with_reducible rfl
        simp only [Act.put, List.setIfInBounds_toArray, List.set_cons_zero, List.set_cons_succ]
        refine th_take (i := 3) (v := ?_) rfl (by kernel_rfl) (by kernel_rfl) (by kernel_rfl) (Or.inl ⟨by rfl, fun w hSw => ?_⟩) hS0 ?_
        rotate_left
        · go_simp
          with_reducible rfl
        simp only [Act.put, List.setIfInBounds_toArray, List.set_cons_zero, List.set_cons_succ]
        refine th_take (i := 4) (v := ?_) rfl (by kernel_rfl) (by kernel_rfl) (by kernel_rfl) (Or.inl ⟨by rfl, fun w hSw => ?_⟩) hS0 ?_
        rotate_left
        · go_simp
          with_reducible rfl
        simp only [Act.put, List.setIfInBounds_toArray, List.set_cons_zero, List.set_cons_succ]
        refine th_take (i := 5) (v := .int .u8 (ac : Int)) rfl (by kernel_rfl) (by kernel_rfl) (by kernel_rfl) (Or.inl ⟨by rfl, fun w hSw => ?_⟩) hS0 ?_
        · have hc := (hSw.cell (p := ⟨gb, _, none⟩) hkA).trans (unhide C0)
          go_simp
        simp only [Act.put, List.setIfInBounds_toArray, List.set_cons_zero, List.set_cons_succ]
        refine th_take (i := 6) (v := ?_) rfl (by kernel_rfl) (by kernel_rfl) (by kernel_rfl) (Or.inl ⟨by rfl, fun w hSw => ?_⟩) hS0 ?_
        rotate_left
        · go_simp
          with_reducible rfl
        simp only [Act.put, List.setIfInBounds_toArray, List.set_cons_zero, List.set_cons_succ]
        refine th_take (i := 7) (v := ?_) rfl (by kernel_rfl) (by kernel_rfl) (by kernel_rfl) (Or.inl ⟨by rfl, fun w hSw => ?_⟩) hS0 ?_
        rotate_left
        · go_simp
          with_reducible rfl
        simp only [Act.put, List.setIfInBounds_toArray, List.set_cons_zero, List.set_cons_succ]
        refine th_two (i := 8) (j := 12) rfl rfl (by kernel_rfl) (fun K hK => ?_) (fun K hK => ?_)
        · -- the call first
          rw [if_pos (by rfl)]
          go_simp
          refine (act_ok _ x HX.out q hq6).mono ?_
          rintro e w5 ⟨rfl, hb5⟩
          have hS5 : Below wr.heap.size wr w5 := hS0.trans hb5
          refine hK.out _ _ hS5 (fun _ => ?_)
          clear hK K
          try simp only [Act.put, List.setIfInBounds_toArray, List.set_cons_zero, List.set_cons_succ]
          refine th_take (i := 9) (v := ?_) rfl (by kernel_rfl) (by kernel_rfl) (by kernel_rfl) (Or.inl ⟨by rfl, fun w hSw => ?_⟩) hS5 ?_
          rotate_left
          · go_simp
            with_reducible rfl
          simp only [Act.put, List.setIfInBounds_toArray, List.set_cons_zero, List.set_cons_succ]
          refine th_take (i := 10) (v := ?_) rfl (by kernel_rfl) (by kernel_rfl) (by kernel_rfl) (Or.inl ⟨by rfl, fun w hSw => ?_⟩) hS5 ?_
          rotate_left
          · go_simp
            with_reducible rfl
          simp only [Act.put, List.setIfInBounds_toArray, List.set_cons_zero, List.set_cons_succ]
          refine th_take (i := 11) (v := ?_) rfl (by kernel_rfl) (by kernel_rfl) (by kernel_rfl) (Or.inl ⟨by rfl, fun w hSw => ?_⟩) hS5 ?_
          rotate_left
          · go_simp
            with_reducible rfl
          simp only [Act.put, List.setIfInBounds_toArray, List.set_cons_zero, List.set_cons_succ]
          refine th_one (i := 12) rfl (by kernel_rfl) (fun K hK => ?_)
          rw [if_pos (by rfl)]
          go_simp
          have hS6 : Below wr.heap.size wr (w5.alloc (.cells #[.bool false, .bool false, .bool false, .bool false, .bool false, .int .i64 0] 23)) := hS5.alloc hS5.size _
          refine hK.out _ _ hS6 (fun _ => ?_)
          clear hK K
          try simp only [Act.put, List.setIfInBounds_toArray, List.set_cons_zero, List.set_cons_succ]
          refine th_one (i := 13) rfl (by kernel_rfl) (fun K hK => ?_)
          refine step_store_blk (by rfl) 23 (.tmp 5) (.tmp 32) rfl w5.heap.size 23 _ (actH x q).c rfl rfl (Blk.new w5 _ #[.bool false, .bool false, .bool false, .bool false, .bool false, .int .i64 0]) rfl (by kernel_rfl) (HH.one _) ?_
          intro w7 hb7 hg7
          have hS7 : Below wr.heap.size wr w7 := hS6.grown hg7 hS6.size (fun g e => by injection e with e; have := hS5.size; omega)
          refine hK.out _ _ hS7 (fun _ => ?_)
          clear hK K
          try simp only [Act.put, List.setIfInBounds_toArray, List.set_cons_zero, List.set_cons_succ]
          refine th_take (i := 14) (v := ?_) rfl (by kernel_rfl) (by kernel_rfl) (by kernel_rfl) (Or.inl ⟨by rfl, fun w hSw => ?_⟩) hS7 ?_
          rotate_left
          · go_simp
            with_reducible rfl
          simp only [Act.put, List.setIfInBounds_toArray, List.set_cons_zero, List.set_cons_succ]
          refine wpAnyH_done (by kernel_rfl) (NoPanic.normal ?_) _
          go_wp2_with fail
          go_meet
          have hlt := (unhide HJ).lt
          exact ⟨w5.heap.size, rfl, rfl, hb7, (unhide HJ).below hS7 hlt, (unhide BJ).trans (hS7.mono hs2), by have := hS5.size; omega⟩
        · -- the block first
          rw [if_pos (by rfl)]
          go_simp
          have hS4 : Below wr.heap.size wr (wr.drew.alloc (.cells #[.bool false, .bool false, .bool false, .bool false, .bool false, .int .i64 0] 23)) := hS0.alloc hS0.size _
          refine hK.out _ _ hS4 (fun _ => ?_)
          clear hK K
          try simp only [Act.put, List.setIfInBounds_toArray, List.set_cons_zero, List.set_cons_succ]
          refine th_one (i := 8) rfl (by kernel_rfl) (fun K hK => ?_)
          rw [if_pos (by rfl)]
          go_simp
          refine (act_ok _ x HX.out q hq6).mono ?_
          rintro e w5 ⟨rfl, hb5⟩
          have hz5 : Blk w5 wr.heap.size 23 #[.bool false, .bool false, .bool false, .bool false, .bool false, .int .i64 0] := (Blk.new wr.drew _ _).below hb5 (by simp)
          have hS5 : Below wr.heap.size wr w5 := hS4.trans (hb5.mono hS4.size)
          refine hK.out _ _ hS5 (fun _ => ?_)
          clear hK K
          try simp only [Act.put, List.setIfInBounds_toArray, List.set_cons_zero, List.set_cons_succ]
          refine th_take (i := 9) (v := ?_) rfl (by kernel_rfl) (by kernel_rfl) (by kernel_rfl) (Or.inl ⟨by rfl, fun w hSw => ?_⟩) hS5 ?_
          rotate_left
          · go_simp
            with_reducible rfl
          simp only [Act.put, List.setIfInBounds_toArray, List.set_cons_zero, List.set_cons_succ]
          refine th_take (i := 10) (v := ?_) rfl (by kernel_rfl) (by kernel_rfl) (by kernel_rfl) (Or.inl ⟨by rfl, fun w hSw => ?_⟩) hS5 ?_
          rotate_left
          · go_simp
            with_reducible rfl
          simp only [Act.put, List.setIfInBounds_toArray, List.set_cons_zero, List.set_cons_succ]
          refine th_take (i := 11) (v := ?_) rfl (by kernel_rfl) (by kernel_rfl) (by kernel_rfl) (Or.inl ⟨by rfl, fun w hSw => ?_⟩) hS5 ?_
          rotate_left
          · go_simp
            with_reducible rfl
          simp only [Act.put, List.setIfInBounds_toArray, List.set_cons_zero, List.set_cons_succ]
          refine th_one (i := 13) rfl (by kernel_rfl) (fun K hK => ?_)
          refine step_store_blk (by rfl) 23 (.tmp 5) (.tmp 32) rfl wr.heap.size 23 _ (actH x q).c rfl rfl hz5 rfl (by kernel_rfl) (HH.one _) ?_
          intro w7 hb7 hg7
          have hS7 : Below wr.heap.size wr w7 := hS5.grown hg7 hS5.size (fun g e => by injection e with e; omega)
          refine hK.out _ _ hS7 (fun _ => ?_)
          clear hK K
          try simp only [Act.put, List.setIfInBounds_toArray, List.set_cons_zero, List.set_cons_succ]
          refine th_take (i := 14) (v := ?_) rfl (by kernel_rfl) (by kernel_rfl) (by kernel_rfl) (Or.inl ⟨by rfl, fun w hSw => ?_⟩) hS7 ?_
          rotate_left
          · go_simp
            with_reducible rfl
          simp only [Act.put, List.setIfInBounds_toArray, List.set_cons_zero, List.set_cons_succ]
          refine wpAnyH_done (by kernel_rfl) (NoPanic.normal ?_) _
          go_wp2_with fail
          go_meet
          have hlt := (unhide HJ).lt
          exact ⟨wr.heap.size, rfl, rfl, hb7, (unhide HJ).below hS7 hlt, (unhide BJ).trans (hS7.mono hs2), hlt⟩
      case rest =>
        obtain ⟨g, rfl, rfl, hbg, hbx, hBw, hlt⟩ := hcut
        have hbx2 := act_valid x HX.out q
        obtain ⟨y, hy⟩ : ∃ y, actH x q = y := ⟨_, rfl⟩
        rw [hy] at hbg hbx2
        have HYV := Lib.hid hbx2
        have HG := hide hbg
        have HX1 := hide hbx
        have BX := hide hBw
        clear hbg hbx hBw hy hbx2 hqi hqw hq6
        go_wp2_with (first
          | (refine wpList_load_row rfl 23 _ rfl g rfl 23 _ _ _ (unhide HG) Try.underlying23 rfl (by kernel_rfl) ?_)
          | (refine wpList_store_blk rfl 23 (.tmp 3) (.tmp 36) rfl w1.heap.size 23 _ y.c rfl rfl (unhide HX1) rfl (by kernel_rfl) (HH.one _) ?_
             intro wd hbd hgd
             have HY := hide hbd
             have BY := hide ((unhide BX).grown hgd (unhide BX).size (fun g e => by injection e with e; omega))
             clear hbd hgd)
          | fail)
        obtain ⟨gb2, go2, e2, _, _, d0, d1, d2, d3⟩ := (unhide HL).below (unhide BY) k hlt1
        obtain ⟨rfl, rfl⟩ : gb = gb2 ∧ go = go2 := by simpa using e2
        obtain ⟨on, hon⟩ : ∃ on, (L k).on = on := ⟨_, rfl⟩
        obtain ⟨rs, hrs⟩ : ∃ rs, (L k).rs = rs := ⟨_, rfl⟩
        obtain ⟨sf, hsf⟩ : ∃ sf, (L k).sf = sf := ⟨_, rfl⟩
        rw [hon] at d1
        rw [hrs] at d2
        rw [hsf] at d3
        have D1 := hide d1
        have D2 := hide d2
        have D3 := hide d3
        have hs3 : w.heap.size ≤ wd.heap.size := (unhide BY).size
        have hkB : gb < wd.heap.size := by omega
        have HON := Lib.hid hon
        clear d0 d1 d2 d3 e2 hon hrs hsf
        simp only [Act.put, List.setIfInBounds_toArray, List.set_cons_zero, List.set_cons_succ]
        go_cut [7, 8, 9] from 38 to 98 (fun p r e W => ∃ g7 g8, p = .pointer (some ⟨g7, 0, none⟩) ∧ r = .pointer (some ⟨g8, 0, none⟩) ∧ e = .int .i64 0 ∧ Blk W g7 23 (stepH y on rs sf).c ∧ Blk W g8 35 #[.bool (goodR (stepH y on rs sf)), .bool (doneR (stepH y on rs sf) sf), .bool (kickR (stepH y on rs sf))] ∧ Blk W w1.heap.size 23 y.c ∧ Below w.heap.size w W ∧ w1.heap.size < g7 ∧ w1.heap.size < g8)
        case first =>
          have hS0 : Below wd.heap.size wd wd.drew := (Below.refl _ _).drew
          refine wp_region_noPanic (wp_region_held_drew (S := fun W => Below wd.heap.size wd W) (by kernel_rfl) hS0 (fun _ => ?_))
          refine th_take (i := 0) rfl (by kernel_rfl) (by kernel_rfl) (by kernel_rfl) (y_loadblk 23 (.tmp 3) (by rfl) rfl w1.heap.size rfl 23 y.c _ (fun _ h => (unhide HY).below h (unhide HY).lt) Try.underlying23 rfl (by kernel_rfl)) hS0 ?_
          simp only [Act.put, List.setIfInBounds_toArray, List.set_cons_zero, List.set_cons_succ]
          refine th_take (i := 1) (v := ?_) rfl (by kernel_rfl) (by kernel_rfl) (by kernel_rfl) (Or.inl ⟨by rfl, fun w hSw => ?_⟩) hS0 ?_
          rotate_left
          · go_simp
            with_reducible rfl
          simp only [Act.put, List.setIfInBounds_toArray, List.set_cons_zero, List.set_cons_succ]
          refine th_take (i := 2) (v := ?_) rfl (by kernel_rfl) (by kernel_rfl) (by kernel_rfl) (Or.inl ⟨by rfl, fun w hSw => ?_⟩) hS0 ?_
          rotate_left
          · go_simp
            with_reducible rfl
          simp only [Act.put, List.setIfInBounds_toArray, List.set_cons_zero, List.set_cons_succ]
          refine th_take (i := 3) (v := ?_) rfl (by kernel_rfl) (by kernel_rfl) (by kernel_rfl) (Or.inl ⟨by rfl, fun w hSw => ?_⟩) hS0 ?_
          rotate_left
          · go_simp
            with_reducible rfl
          simp only [Act.put, List.setIfInBounds_toArray, List.set_cons_zero, List.set_cons_succ]
          refine th_take (i := 4) (v := ?_) rfl (by kernel_rfl) (by kernel_rfl) (by kernel_rfl) (Or.inl ⟨by rfl, fun w hSw => ?_⟩) hS0 ?_
          rotate_left
          · go_simp
            with_reducible rfl
          simp only [Act.put, List.setIfInBounds_toArray, List.set_cons_zero, List.set_cons_succ]
          refine th_take (i := 5) (v := .bool on) rfl (by kernel_rfl) (by kernel_rfl) (by kernel_rfl) (Or.inl ⟨by rfl, fun w hSw => ?_⟩) hS0 ?_
          · have hc := (hSw.cell (p := ⟨gb, _, none⟩) hkB).trans (unhide D1)
            go_simp
          simp only [Act.put, List.setIfInBounds_toArray, List.set_cons_zero, List.set_cons_succ]
          refine th_take (i := 6) (v := ?_) rfl (by kernel_rfl) (by kernel_rfl) (by kernel_rfl) (Or.inl ⟨by rfl, fun w hSw => ?_⟩) hS0 ?_
          rotate_left
          · go_simp
            with_reducible rfl
          simp only [Act.put, List.setIfInBounds_toArray, List.set_cons_zero, List.set_cons_succ]
          refine th_take (i := 7) (v := ?_) rfl (by kernel_rfl) (by kernel_rfl) (by kernel_rfl) (Or.inl ⟨by rfl, fun w hSw => ?_⟩) hS0 ?_
          rotate_left
          · go_simp
            with_reducible rfl
          simp only [Act.put, List.setIfInBounds_toArray, List.set_cons_zero, List.set_cons_succ]
          refine th_take (i := 8) (v := ?_) rfl (by kernel_rfl) (by kernel_rfl) (by kernel_rfl) (Or.inl ⟨by rfl, fun w hSw => ?_⟩) hS0 ?_
          rotate_left
          · go_simp
            with_reducible rfl
          simp only [Act.put, List.setIfInBounds_toArray, List.set_cons_zero, List.set_cons_succ]
          refine th_take (i := 9) (v := ?_) rfl (by kernel_rfl) (by kernel_rfl) (by kernel_rfl) (Or.inl ⟨by rfl, fun w hSw => ?_⟩) hS0 ?_
          rotate_left
          · go_simp
            with_reducible rfl
          simp only [Act.put, List.setIfInBounds_toArray, List.set_cons_zero, List.set_cons_succ]
          refine th_take (i := 10) (v := .bool rs) rfl (by kernel_rfl) (by kernel_rfl) (by kernel_rfl) (Or.inl ⟨by rfl, fun w hSw => ?_⟩) hS0 ?_
          · have hc := (hSw.cell (p := ⟨gb, _, none⟩) hkB).trans (unhide D2)
            go_simp
          simp only [Act.put, List.setIfInBounds_toArray, List.set_cons_zero, List.set_cons_succ]
          refine th_take (i := 11) (v := ?_) rfl (by kernel_rfl) (by kernel_rfl) (by kernel_rfl) (Or.inl ⟨by rfl, fun w hSw => ?_⟩) hS0 ?_
          rotate_left
          · go_simp
            with_reducible rfl
          simp only [Act.put, List.setIfInBounds_toArray, List.set_cons_zero, List.set_cons_succ]
          refine th_take (i := 12) (v := ?_) rfl (by kernel_rfl) (by kernel_rfl) (by kernel_rfl) (Or.inl ⟨by rfl, fun w hSw => ?_⟩) hS0 ?_
          rotate_left
          · go_simp
            with_reducible rfl
          simp only [Act.put, List.setIfInBounds_toArray, List.set_cons_zero, List.set_cons_succ]
          refine th_take (i := 13) (v := ?_) rfl (by kernel_rfl) (by kernel_rfl) (by kernel_rfl) (Or.inl ⟨by rfl, fun w hSw => ?_⟩) hS0 ?_
          rotate_left
          · go_simp
            with_reducible rfl
          simp only [Act.put, List.setIfInBounds_toArray, List.set_cons_zero, List.set_cons_succ]
          refine th_take (i := 14) (v := ?_) rfl (by kernel_rfl) (by kernel_rfl) (by kernel_rfl) (Or.inl ⟨by rfl, fun w hSw => ?_⟩) hS0 ?_
          rotate_left
          · go_simp
            with_reducible rfl
          simp only [Act.put, List.setIfInBounds_toArray, List.set_cons_zero, List.set_cons_succ]
          refine th_take (i := 15) (v := .bool sf) rfl (by kernel_rfl) (by kernel_rfl) (by kernel_rfl) (Or.inl ⟨by rfl, fun w hSw => ?_⟩) hS0 ?_
          · have hc := (hSw.cell (p := ⟨gb, _, none⟩) hkB).trans (unhide D3)
            go_simp
          simp only [Act.put, List.setIfInBounds_toArray, List.set_cons_zero, List.set_cons_succ]
          refine th_take (i := 16) (v := ?_) rfl (by kernel_rfl) (by kernel_rfl) (by kernel_rfl) (Or.inl ⟨by rfl, fun w hSw => ?_⟩) hS0 ?_
          rotate_left
          · go_simp
            with_reducible rfl
          simp only [Act.put, List.setIfInBounds_toArray, List.set_cons_zero, List.set_cons_succ]
          refine th_three (i := 17) (j := 22) (k := 23) rfl rfl rfl (by kernel_rfl) (fun K hK => ?_) (fun K hK => ?_) (fun K hK => ?_)
          · -- 17
            rw [if_pos (by rfl)]
            go_simp
            refine (step_ok _ y HYV.out on rs sf).mono ?_
            rintro e v1 ⟨rfl, hb2⟩
            have hS3 : Below wd.heap.size wd v1 := hS0.trans (hb2.mono hS0.size)
            refine hK.out _ _ hS3 (fun _ => ?_)
            clear hK K
            try simp only [Act.put, List.setIfInBounds_toArray, List.set_cons_zero, List.set_cons_succ]
            refine th_take (i := 18) (v := ?_) rfl (by kernel_rfl) (by kernel_rfl) (by kernel_rfl) (Or.inl ⟨by rfl, fun w hSw => ?_⟩) hS3 ?_
            rotate_left
            · go_simp
              with_reducible rfl
            simp only [Act.put, List.setIfInBounds_toArray, List.set_cons_zero, List.set_cons_succ]
            refine th_take (i := 19) (v := ?_) rfl (by kernel_rfl) (by kernel_rfl) (by kernel_rfl) (Or.inl ⟨by rfl, fun w hSw => ?_⟩) hS3 ?_
            rotate_left
            · go_simp
              with_reducible rfl
            simp only [Act.put, List.setIfInBounds_toArray, List.set_cons_zero, List.set_cons_succ]
            refine th_take (i := 20) (v := ?_) rfl (by kernel_rfl) (by kernel_rfl) (by kernel_rfl) (Or.inl ⟨by rfl, fun w hSw => ?_⟩) hS3 ?_
            rotate_left
            · go_simp
              with_reducible rfl
            simp only [Act.put, List.setIfInBounds_toArray, List.set_cons_zero, List.set_cons_succ]
            refine th_take (i := 21) (v := ?_) rfl (by kernel_rfl) (by kernel_rfl) (by kernel_rfl) (Or.inl ⟨by rfl, fun w hSw => ?_⟩) hS3 ?_
            rotate_left
            · go_simp
              with_reducible rfl
            simp only [Act.put, List.setIfInBounds_toArray, List.set_cons_zero, List.set_cons_succ]
            refine th_two (i := 22) (j := 23) rfl rfl (by kernel_rfl) (fun K hK => ?_) (fun K hK => ?_)
            · -- 22
              rw [if_pos (by rfl)]
              go_simp
              have hS4 : Below wd.heap.size wd (v1.alloc (.cells #[.bool false, .bool false, .bool false, .bool false, .bool false, .int .i64 0] 23)) := hS3.alloc hS3.size _
              have z5 : Blk (v1.alloc (.cells #[.bool false, .bool false, .bool false, .bool false, .bool false, .int .i64 0] 23)) v1.heap.size 23 #[.bool false, .bool false, .bool false, .bool false, .bool false, .int .i64 0] := Blk.new' (by simp)
              have gb6 : wd.heap.size ≤ v1.heap.size := by first | (simp; done) | (have := hS3.size; simpa using this)
              refine hK.out _ _ hS4 (fun _ => ?_)
              clear hK K
              try simp only [Act.put, List.setIfInBounds_toArray, List.set_cons_zero, List.set_cons_succ]
              refine th_one (i := 23) rfl (by kernel_rfl) (fun K hK => ?_)
              rw [if_pos (by rfl)]
              go_simp
              have hS7 : Below wd.heap.size wd ((v1.alloc (.cells #[.bool false, .bool false, .bool false, .bool false, .bool false, .int .i64 0] 23)).alloc (.cells #[.bool false, .bool false, .bool false] 35)) := hS4.alloc hS4.size _
              have ne9 : v1.heap.size < (v1.heap.size + 1) := by first | (simp; done) | (have := (z5).lt; simpa using this)
              have z10 : Blk ((v1.alloc (.cells #[.bool false, .bool false, .bool false, .bool false, .bool false, .int .i64 0] 23)).alloc (.cells #[.bool false, .bool false, .bool false] 35)) v1.heap.size 23 #[.bool false, .bool false, .bool false, .bool false, .bool false, .int .i64 0] := (z5).alloc _
              have z8 : Blk ((v1.alloc (.cells #[.bool false, .bool false, .bool false, .bool false, .bool false, .int .i64 0] 23)).alloc (.cells #[.bool false, .bool false, .bool false] 35)) (v1.heap.size + 1) 35 #[.bool false, .bool false, .bool false] := Blk.new' (by simp)
              have gb11 : wd.heap.size ≤ (v1.heap.size + 1) := by first | (simp; done) | (have := hS4.size; simpa using this)
              refine hK.out _ _ hS7 (fun _ => ?_)
              clear hK K
              try simp only [Act.put, List.setIfInBounds_toArray, List.set_cons_zero, List.set_cons_succ]
              refine th_one (i := 24) rfl (by kernel_rfl) (fun K hK => ?_)
              refine step_store_blk (by rfl) 23 (.tmp 7) (.tmp 56) rfl v1.heap.size 23 _ (stepH y on rs sf).c rfl rfl (z10) rfl (by kernel_rfl) (HH.one _) ?_
              intro v12 hb13 hg14
              have hS15 : Below wd.heap.size wd v12 := hS7.grown hg14 hS7.size (fun g e => by injection e with e; subst e; omega)
              have z16 := (z8).grown hg14 (fun e => by injection e with e; omega)
              refine hK.out _ _ hS15 (fun _ => ?_)
              clear hK K
              try simp only [Act.put, List.setIfInBounds_toArray, List.set_cons_zero, List.set_cons_succ]
              refine th_one (i := 25) rfl (by kernel_rfl) (fun K hK => ?_)
              refine step_store_blk (by rfl) 35 (.tmp 8) (.tmp 57) rfl (v1.heap.size + 1) 35 _ #[.bool (goodR (stepH y on rs sf)), .bool (doneR (stepH y on rs sf) sf), .bool (kickR (stepH y on rs sf))] rfl rfl z16 rfl (by kernel_rfl) (by intro u hu; simp at hu; rcases hu with rfl | rfl | rfl <;> rfl) ?_
              intro v17 hb18 hg19
              have hS20 : Below wd.heap.size wd v17 := hS15.grown hg19 hS15.size (fun g e => by injection e with e; subst e; omega)
              have z21 := hb13.grown hg19 (fun e => by injection e with e; omega)
              refine hK.out _ _ hS20 (fun _ => ?_)
              clear hK K
              try simp only [Act.put, List.setIfInBounds_toArray, List.set_cons_zero, List.set_cons_succ]
              refine th_take (i := 26) (v := ?_) rfl (by kernel_rfl) (by kernel_rfl) (by kernel_rfl) (Or.inl ⟨by rfl, fun w hSw => ?_⟩) hS20 ?_
              rotate_left
              · go_simp
                with_reducible rfl
              simp only [Act.put, List.setIfInBounds_toArray, List.set_cons_zero, List.set_cons_succ]
              refine wpAnyH_done (by kernel_rfl) (NoPanic.normal ?_) _
              go_wp2_with fail
              go_meet
              exact ⟨v1.heap.size, (v1.heap.size + 1), rfl, rfl, rfl, z21, hb18, (unhide HY).below hS20 (unhide HY).lt, (unhide BY).trans (hS20.mono hs3), by have := (unhide HY).lt; omega, by have := (unhide HY).lt; omega⟩
            · -- 23
              rw [if_pos (by rfl)]
              go_simp
              have hS22 : Below wd.heap.size wd (v1.alloc (.cells #[.bool false, .bool false, .bool false] 35)) := hS3.alloc hS3.size _
              have z23 : Blk (v1.alloc (.cells #[.bool false, .bool false, .bool false] 35)) v1.heap.size 35 #[.bool false, .bool false, .bool false] := Blk.new' (by simp)
              have gb24 : wd.heap.size ≤ v1.heap.size := by first | (simp; done) | (have := hS3.size; simpa using this)
              refine hK.out _ _ hS22 (fun _ => ?_)
              clear hK K
              try simp only [Act.put, List.setIfInBounds_toArray, List.set_cons_zero, List.set_cons_succ]
              refine th_one (i := 22) rfl (by kernel_rfl) (fun K hK => ?_)
              rw [if_pos (by rfl)]
              go_simp
              have hS25 : Below wd.heap.size wd ((v1.alloc (.cells #[.bool false, .bool false, .bool false] 35)).alloc (.cells #[.bool false, .bool false, .bool false, .bool false, .bool false, .int .i64 0] 23)) := hS22.alloc hS22.size _
              have ne27 : v1.heap.size < (v1.heap.size + 1) := by first | (simp; done) | (have := (z23).lt; simpa using this)
              have z28 : Blk ((v1.alloc (.cells #[.bool false, .bool false, .bool false] 35)).alloc (.cells #[.bool false, .bool false, .bool false, .bool false, .bool false, .int .i64 0] 23)) v1.heap.size 35 #[.bool false, .bool false, .bool false] := (z23).alloc _
              have z26 : Blk ((v1.alloc (.cells #[.bool false, .bool false, .bool false] 35)).alloc (.cells #[.bool false, .bool false, .bool false, .bool false, .bool false, .int .i64 0] 23)) (v1.heap.size + 1) 23 #[.bool false, .bool false, .bool false, .bool false, .bool false, .int .i64 0] := Blk.new' (by simp)
              have gb29 : wd.heap.size ≤ (v1.heap.size + 1) := by first | (simp; done) | (have := hS22.size; simpa using this)
              refine hK.out _ _ hS25 (fun _ => ?_)
              clear hK K
              try simp only [Act.put, List.setIfInBounds_toArray, List.set_cons_zero, List.set_cons_succ]
              refine th_one (i := 24) rfl (by kernel_rfl) (fun K hK => ?_)
              refine step_store_blk (by rfl) 23 (.tmp 7) (.tmp 56) rfl (v1.heap.size + 1) 23 _ (stepH y on rs sf).c rfl rfl (z26) rfl (by kernel_rfl) (HH.one _) ?_
              intro v30 hb31 hg32
              have hS33 : Below wd.heap.size wd v30 := hS25.grown hg32 hS25.size (fun g e => by injection e with e; subst e; omega)
              have z34 := (z28).grown hg32 (fun e => by injection e with e; omega)
              refine hK.out _ _ hS33 (fun _ => ?_)
              clear hK K
              try simp only [Act.put, List.setIfInBounds_toArray, List.set_cons_zero, List.set_cons_succ]
              refine th_one (i := 25) rfl (by kernel_rfl) (fun K hK => ?_)
              refine step_store_blk (by rfl) 35 (.tmp 8) (.tmp 57) rfl v1.heap.size 35 _ #[.bool (goodR (stepH y on rs sf)), .bool (doneR (stepH y on rs sf) sf), .bool (kickR (stepH y on rs sf))] rfl rfl z34 rfl (by kernel_rfl) (by intro u hu; simp at hu; rcases hu with rfl | rfl | rfl <;> rfl) ?_
              intro v35 hb36 hg37
              have hS38 : Below wd.heap.size wd v35 := hS33.grown hg37 hS33.size (fun g e => by injection e with e; subst e; omega)
              have z39 := hb31.grown hg37 (fun e => by injection e with e; omega)
              refine hK.out _ _ hS38 (fun _ => ?_)
              clear hK K
              try simp only [Act.put, List.setIfInBounds_toArray, List.set_cons_zero, List.set_cons_succ]
              refine th_take (i := 26) (v := ?_) rfl (by kernel_rfl) (by kernel_rfl) (by kernel_rfl) (Or.inl ⟨by rfl, fun w hSw => ?_⟩) hS38 ?_
              rotate_left
              · go_simp
                with_reducible rfl
              simp only [Act.put, List.setIfInBounds_toArray, List.set_cons_zero, List.set_cons_succ]
              refine wpAnyH_done (by kernel_rfl) (NoPanic.normal ?_) _
              go_wp2_with fail
              go_meet
              exact ⟨(v1.heap.size + 1), v1.heap.size, rfl, rfl, rfl, z39, hb36, (unhide HY).below hS38 (unhide HY).lt, (unhide BY).trans (hS38.mono hs3), by have := (unhide HY).lt; omega, by have := (unhide HY).lt; omega⟩
          · -- 22
            rw [if_pos (by rfl)]
            go_simp
            have hS40 : Below wd.heap.size wd (wd.drew.alloc (.cells #[.bool false, .bool false, .bool false, .bool false, .bool false, .int .i64 0] 23)) := hS0.alloc hS0.size _
            have z41 : Blk (wd.drew.alloc (.cells #[.bool false, .bool false, .bool false, .bool false, .bool false, .int .i64 0] 23)) wd.heap.size 23 #[.bool false, .bool false, .bool false, .bool false, .bool false, .int .i64 0] := Blk.new' (by simp)
            have gb42 : wd.heap.size ≤ wd.heap.size := by first | (simp; done) | (have := hS0.size; simpa using this)
            refine hK.out _ _ hS40 (fun _ => ?_)
            clear hK K
            try simp only [Act.put, List.setIfInBounds_toArray, List.set_cons_zero, List.set_cons_succ]
            refine th_two (i := 17) (j := 23) rfl rfl (by kernel_rfl) (fun K hK => ?_) (fun K hK => ?_)
            · -- 17
              rw [if_pos (by rfl)]
              go_simp
              refine (step_ok _ y HYV.out on rs sf).mono ?_
              rintro e v43 ⟨rfl, hb44⟩
              have z46 := (z41).below hb44 (z41).lt
              have hS45 : Below wd.heap.size wd v43 := hS40.trans (hb44.mono hS40.size)
              refine hK.out _ _ hS45 (fun _ => ?_)
              clear hK K
              try simp only [Act.put, List.setIfInBounds_toArray, List.set_cons_zero, List.set_cons_succ]
              refine th_take (i := 18) (v := ?_) rfl (by kernel_rfl) (by kernel_rfl) (by kernel_rfl) (Or.inl ⟨by rfl, fun w hSw => ?_⟩) hS45 ?_
              rotate_left
              · go_simp
                with_reducible rfl
              simp only [Act.put, List.setIfInBounds_toArray, List.set_cons_zero, List.set_cons_succ]
              refine th_take (i := 19) (v := ?_) rfl (by kernel_rfl) (by kernel_rfl) (by kernel_rfl) (Or.inl ⟨by rfl, fun w hSw => ?_⟩) hS45 ?_
              rotate_left
              · go_simp
                with_reducible rfl
              simp only [Act.put, List.setIfInBounds_toArray, List.set_cons_zero, List.set_cons_succ]
              refine th_take (i := 20) (v := ?_) rfl (by kernel_rfl) (by kernel_rfl) (by kernel_rfl) (Or.inl ⟨by rfl, fun w hSw => ?_⟩) hS45 ?_
              rotate_left
              · go_simp
                with_reducible rfl
              simp only [Act.put, List.setIfInBounds_toArray, List.set_cons_zero, List.set_cons_succ]
              refine th_take (i := 21) (v := ?_) rfl (by kernel_rfl) (by kernel_rfl) (by kernel_rfl) (Or.inl ⟨by rfl, fun w hSw => ?_⟩) hS45 ?_
              rotate_left
              · go_simp
                with_reducible rfl
              simp only [Act.put, List.setIfInBounds_toArray, List.set_cons_zero, List.set_cons_succ]
              refine th_one (i := 23) rfl (by kernel_rfl) (fun K hK => ?_)
              rw [if_pos (by rfl)]
              go_simp
              have hS47 : Below wd.heap.size wd (v43.alloc (.cells #[.bool false, .bool false, .bool false] 35)) := hS45.alloc hS45.size _
              have ne49 : wd.heap.size < v43.heap.size := by first | (simp; done) | (have := (z46).lt; simpa using this)
              have z50 : Blk (v43.alloc (.cells #[.bool false, .bool false, .bool false] 35)) wd.heap.size 23 #[.bool false, .bool false, .bool false, .bool false, .bool false, .int .i64 0] := (z46).alloc _
              have z48 : Blk (v43.alloc (.cells #[.bool false, .bool false, .bool false] 35)) v43.heap.size 35 #[.bool false, .bool false, .bool false] := Blk.new' (by simp)
              have gb51 : wd.heap.size ≤ v43.heap.size := by first | (simp; done) | (have := hS45.size; simpa using this)
              refine hK.out _ _ hS47 (fun _ => ?_)
              clear hK K
              try simp only [Act.put, List.setIfInBounds_toArray, List.set_cons_zero, List.set_cons_succ]
              refine th_one (i := 24) rfl (by kernel_rfl) (fun K hK => ?_)
              refine step_store_blk (by rfl) 23 (.tmp 7) (.tmp 56) rfl wd.heap.size 23 _ (stepH y on rs sf).c rfl rfl (z50) rfl (by kernel_rfl) (HH.one _) ?_
              intro v52 hb53 hg54
              have hS55 : Below wd.heap.size wd v52 := hS47.grown hg54 hS47.size (fun g e => by injection e with e; subst e; omega)
              have z56 := (z48).grown hg54 (fun e => by injection e with e; omega)
              refine hK.out _ _ hS55 (fun _ => ?_)
              clear hK K
              try simp only [Act.put, List.setIfInBounds_toArray, List.set_cons_zero, List.set_cons_succ]
              refine th_one (i := 25) rfl (by kernel_rfl) (fun K hK => ?_)
              refine step_store_blk (by rfl) 35 (.tmp 8) (.tmp 57) rfl v43.heap.size 35 _ #[.bool (goodR (stepH y on rs sf)), .bool (doneR (stepH y on rs sf) sf), .bool (kickR (stepH y on rs sf))] rfl rfl z56 rfl (by kernel_rfl) (by intro u hu; simp at hu; rcases hu with rfl | rfl | rfl <;> rfl) ?_
              intro v57 hb58 hg59
              have hS60 : Below wd.heap.size wd v57 := hS55.grown hg59 hS55.size (fun g e => by injection e with e; subst e; omega)
              have z61 := hb53.grown hg59 (fun e => by injection e with e; omega)
              refine hK.out _ _ hS60 (fun _ => ?_)
              clear hK K
              try simp only [Act.put, List.setIfInBounds_toArray, List.set_cons_zero, List.set_cons_succ]
              refine th_take (i := 26) (v := ?_) rfl (by kernel_rfl) (by kernel_rfl) (by kernel_rfl) (Or.inl ⟨by rfl, fun w hSw => ?_⟩) hS60 ?_
              rotate_left
              · go_simp
                with_reducible rfl
              simp only [Act.put, List.setIfInBounds_toArray, List.set_cons_zero, List.set_cons_succ]
              refine wpAnyH_done (by kernel_rfl) (NoPanic.normal ?_) _
              go_wp2_with fail
              go_meet
              exact ⟨wd.heap.size, v43.heap.size, rfl, rfl, rfl, z61, hb58, (unhide HY).below hS60 (unhide HY).lt, (unhide BY).trans (hS60.mono hs3), by have := (unhide HY).lt; omega, by have := (unhide HY).lt; omega⟩
            · -- 23
              rw [if_pos (by rfl)]
              go_simp
              have hS62 : Below wd.heap.size wd ((wd.drew.alloc (.cells #[.bool false, .bool false, .bool false, .bool false, .bool false, .int .i64 0] 23)).alloc (.cells #[.bool false, .bool false, .bool false] 35)) := hS40.alloc hS40.size _
              have ne64 : wd.heap.size < (wd.heap.size + 1) := by first | (simp; done) | (have := (z41).lt; simpa using this)
              have z65 : Blk ((wd.drew.alloc (.cells #[.bool false, .bool false, .bool false, .bool false, .bool false, .int .i64 0] 23)).alloc (.cells #[.bool false, .bool false, .bool false] 35)) wd.heap.size 23 #[.bool false, .bool false, .bool false, .bool false, .bool false, .int .i64 0] := (z41).alloc _
              have z63 : Blk ((wd.drew.alloc (.cells #[.bool false, .bool false, .bool false, .bool false, .bool false, .int .i64 0] 23)).alloc (.cells #[.bool false, .bool false, .bool false] 35)) (wd.heap.size + 1) 35 #[.bool false, .bool false, .bool false] := Blk.new' (by simp)
              have gb66 : wd.heap.size ≤ (wd.heap.size + 1) := by first | (simp; done) | (have := hS40.size; simpa using this)
              refine hK.out _ _ hS62 (fun _ => ?_)
              clear hK K
              try simp only [Act.put, List.setIfInBounds_toArray, List.set_cons_zero, List.set_cons_succ]
              refine th_one (i := 17) rfl (by kernel_rfl) (fun K hK => ?_)
              rw [if_pos (by rfl)]
              go_simp
              refine (step_ok _ y HYV.out on rs sf).mono ?_
              rintro e v67 ⟨rfl, hb68⟩
              have z70 := (z65).below hb68 (z65).lt
              have z71 := (z63).below hb68 (z63).lt
              have hS69 : Below wd.heap.size wd v67 := hS62.trans (hb68.mono hS62.size)
              refine hK.out _ _ hS69 (fun _ => ?_)
              clear hK K
              try simp only [Act.put, List.setIfInBounds_toArray, List.set_cons_zero, List.set_cons_succ]
              refine th_take (i := 18) (v := ?_) rfl (by kernel_rfl) (by kernel_rfl) (by kernel_rfl) (Or.inl ⟨by rfl, fun w hSw => ?_⟩) hS69 ?_
              rotate_left
              · go_simp
                with_reducible rfl
              simp only [Act.put, List.setIfInBounds_toArray, List.set_cons_zero, List.set_cons_succ]
              refine th_take (i := 19) (v := ?_) rfl (by kernel_rfl) (by kernel_rfl) (by kernel_rfl) (Or.inl ⟨by rfl, fun w hSw => ?_⟩) hS69 ?_
              rotate_left
              · go_simp
                with_reducible rfl
              simp only [Act.put, List.setIfInBounds_toArray, List.set_cons_zero, List.set_cons_succ]
              refine th_take (i := 20) (v := ?_) rfl (by kernel_rfl) (by kernel_rfl) (by kernel_rfl) (Or.inl ⟨by rfl, fun w hSw => ?_⟩) hS69 ?_
              rotate_left
              · go_simp
                with_reducible rfl
              simp only [Act.put, List.setIfInBounds_toArray, List.set_cons_zero, List.set_cons_succ]
              refine th_take (i := 21) (v := ?_) rfl (by kernel_rfl) (by kernel_rfl) (by kernel_rfl) (Or.inl ⟨by rfl, fun w hSw => ?_⟩) hS69 ?_
              rotate_left
              · go_simp
                with_reducible rfl
              simp only [Act.put, List.setIfInBounds_toArray, List.set_cons_zero, List.set_cons_succ]
              refine th_one (i := 24) rfl (by kernel_rfl) (fun K hK => ?_)
              refine step_store_blk (by rfl) 23 (.tmp 7) (.tmp 56) rfl wd.heap.size 23 _ (stepH y on rs sf).c rfl rfl (z70) rfl (by kernel_rfl) (HH.one _) ?_
              intro v72 hb73 hg74
              have hS75 : Below wd.heap.size wd v72 := hS69.grown hg74 hS69.size (fun g e => by injection e with e; subst e; omega)
              have z76 := (z71).grown hg74 (fun e => by injection e with e; omega)
              refine hK.out _ _ hS75 (fun _ => ?_)
              clear hK K
              try simp only [Act.put, List.setIfInBounds_toArray, List.set_cons_zero, List.set_cons_succ]
              refine th_one (i := 25) rfl (by kernel_rfl) (fun K hK => ?_)
              refine step_store_blk (by rfl) 35 (.tmp 8) (.tmp 57) rfl (wd.heap.size + 1) 35 _ #[.bool (goodR (stepH y on rs sf)), .bool (doneR (stepH y on rs sf) sf), .bool (kickR (stepH y on rs sf))] rfl rfl z76 rfl (by kernel_rfl) (by intro u hu; simp at hu; rcases hu with rfl | rfl | rfl <;> rfl) ?_
              intro v77 hb78 hg79
              have hS80 : Below wd.heap.size wd v77 := hS75.grown hg79 hS75.size (fun g e => by injection e with e; subst e; omega)
              have z81 := hb73.grown hg79 (fun e => by injection e with e; omega)
              refine hK.out _ _ hS80 (fun _ => ?_)
              clear hK K
              try simp only [Act.put, List.setIfInBounds_toArray, List.set_cons_zero, List.set_cons_succ]
              refine th_take (i := 26) (v := ?_) rfl (by kernel_rfl) (by kernel_rfl) (by kernel_rfl) (Or.inl ⟨by rfl, fun w hSw => ?_⟩) hS80 ?_
              rotate_left
              · go_simp
                with_reducible rfl
              simp only [Act.put, List.setIfInBounds_toArray, List.set_cons_zero, List.set_cons_succ]
              refine wpAnyH_done (by kernel_rfl) (NoPanic.normal ?_) _
              go_wp2_with fail
              go_meet
              exact ⟨wd.heap.size, (wd.heap.size + 1), rfl, rfl, rfl, z81, hb78, (unhide HY).below hS80 (unhide HY).lt, (unhide BY).trans (hS80.mono hs3), by have := (unhide HY).lt; omega, by have := (unhide HY).lt; omega⟩
          · -- 23
            rw [if_pos (by rfl)]
            go_simp
            have hS82 : Below wd.heap.size wd (wd.drew.alloc (.cells #[.bool false, .bool false, .bool false] 35)) := hS0.alloc hS0.size _
            have z83 : Blk (wd.drew.alloc (.cells #[.bool false, .bool false, .bool false] 35)) wd.heap.size 35 #[.bool false, .bool false, .bool false] := Blk.new' (by simp)
            have gb84 : wd.heap.size ≤ wd.heap.size := by first | (simp; done) | (have := hS0.size; simpa using this)
            refine hK.out _ _ hS82 (fun _ => ?_)
            clear hK K
            try simp only [Act.put, List.setIfInBounds_toArray, List.set_cons_zero, List.set_cons_succ]
            refine th_two (i := 17) (j := 22) rfl rfl (by kernel_rfl) (fun K hK => ?_) (fun K hK => ?_)
            · -- 17
              rw [if_pos (by rfl)]
              go_simp
              refine (step_ok _ y HYV.out on rs sf).mono ?_
              rintro e v85 ⟨rfl, hb86⟩
              have z88 := (z83).below hb86 (z83).lt
              have hS87 : Below wd.heap.size wd v85 := hS82.trans (hb86.mono hS82.size)
              refine hK.out _ _ hS87 (fun _ => ?_)
              clear hK K
              try simp only [Act.put, List.setIfInBounds_toArray, List.set_cons_zero, List.set_cons_succ]
              refine th_take (i := 18) (v := ?_) rfl (by kernel_rfl) (by kernel_rfl) (by kernel_rfl) (Or.inl ⟨by rfl, fun w hSw => ?_⟩) hS87 ?_
              rotate_left
              · go_simp
                with_reducible rfl
              simp only [Act.put, List.setIfInBounds_toArray, List.set_cons_zero, List.set_cons_succ]
              refine th_take (i := 19) (v := ?_) rfl (by kernel_rfl) (by kernel_rfl) (by kernel_rfl) (Or.inl ⟨by rfl, fun w hSw => ?_⟩) hS87 ?_
              rotate_left
              · go_simp
                with_reducible rfl
              simp only [Act.put, List.setIfInBounds_toArray, List.set_cons_zero, List.set_cons_succ]
              refine th_take (i := 20) (v := ?_) rfl (by kernel_rfl) (by kernel_rfl) (by kernel_rfl) (Or.inl ⟨by rfl, fun w hSw => ?_⟩) hS87 ?_
              rotate_left
              · go_simp
                with_reducible rfl
              simp only [Act.put, List.setIfInBounds_toArray, List.set_cons_zero, List.set_cons_succ]
              refine th_take (i := 21) (v := ?_) rfl (by kernel_rfl) (by kernel_rfl) (by kernel_rfl) (Or.inl ⟨by rfl, fun w hSw => ?_⟩) hS87 ?_
              rotate_left
              · go_simp
                with_reducible rfl
              simp only [Act.put, List.setIfInBounds_toArray, List.set_cons_zero, List.set_cons_succ]
              refine th_one (i := 22) rfl (by kernel_rfl) (fun K hK => ?_)
              rw [if_pos (by rfl)]
              go_simp
              have hS89 : Below wd.heap.size wd (v85.alloc (.cells #[.bool false, .bool false, .bool false, .bool false, .bool false, .int .i64 0] 23)) := hS87.alloc hS87.size _
              have ne91 : wd.heap.size < v85.heap.size := by first | (simp; done) | (have := (z88).lt; simpa using this)
              have z92 : Blk (v85.alloc (.cells #[.bool false, .bool false, .bool false, .bool false, .bool false, .int .i64 0] 23)) wd.heap.size 35 #[.bool false, .bool false, .bool false] := (z88).alloc _
              have z90 : Blk (v85.alloc (.cells #[.bool false, .bool false, .bool false, .bool false, .bool false, .int .i64 0] 23)) v85.heap.size 23 #[.bool false, .bool false, .bool false, .bool false, .bool false, .int .i64 0] := Blk.new' (by simp)
              have gb93 : wd.heap.size ≤ v85.heap.size := by first | (simp; done) | (have := hS87.size; simpa using this)
              refine hK.out _ _ hS89 (fun _ => ?_)
              clear hK K
              try simp only [Act.put, List.setIfInBounds_toArray, List.set_cons_zero, List.set_cons_succ]
              refine th_one (i := 24) rfl (by kernel_rfl) (fun K hK => ?_)
              refine step_store_blk (by rfl) 23 (.tmp 7) (.tmp 56) rfl v85.heap.size 23 _ (stepH y on rs sf).c rfl rfl (z90) rfl (by kernel_rfl) (HH.one _) ?_
              intro v94 hb95 hg96
              have hS97 : Below wd.heap.size wd v94 := hS89.grown hg96 hS89.size (fun g e => by injection e with e; subst e; omega)
              have z98 := (z92).grown hg96 (fun e => by injection e with e; omega)
              refine hK.out _ _ hS97 (fun _ => ?_)
              clear hK K
              try simp only [Act.put, List.setIfInBounds_toArray, List.set_cons_zero, List.set_cons_succ]
              refine th_one (i := 25) rfl (by kernel_rfl) (fun K hK => ?_)
              refine step_store_blk (by rfl) 35 (.tmp 8) (.tmp 57) rfl wd.heap.size 35 _ #[.bool (goodR (stepH y on rs sf)), .bool (doneR (stepH y on rs sf) sf), .bool (kickR (stepH y on rs sf))] rfl rfl z98 rfl (by kernel_rfl) (by intro u hu; simp at hu; rcases hu with rfl | rfl | rfl <;> rfl) ?_
              intro v99 hb100 hg101
              have hS102 : Below wd.heap.size wd v99 := hS97.grown hg101 hS97.size (fun g e => by injection e with e; subst e; omega)
              have z103 := hb95.grown hg101 (fun e => by injection e with e; omega)
              refine hK.out _ _ hS102 (fun _ => ?_)
              clear hK K
              try simp only [Act.put, List.setIfInBounds_toArray, List.set_cons_zero, List.set_cons_succ]
              refine th_take (i := 26) (v := ?_) rfl (by kernel_rfl) (by kernel_rfl) (by kernel_rfl) (Or.inl ⟨by rfl, fun w hSw => ?_⟩) hS102 ?_
              rotate_left
              · go_simp
                with_reducible rfl
              simp only [Act.put, List.setIfInBounds_toArray, List.set_cons_zero, List.set_cons_succ]
              refine wpAnyH_done (by kernel_rfl) (NoPanic.normal ?_) _
              go_wp2_with fail
              go_meet
              exact ⟨v85.heap.size, wd.heap.size, rfl, rfl, rfl, z103, hb100, (unhide HY).below hS102 (unhide HY).lt, (unhide BY).trans (hS102.mono hs3), by have := (unhide HY).lt; omega, by have := (unhide HY).lt; omega⟩
            · -- 22
              rw [if_pos (by rfl)]
              go_simp
              have hS104 : Below wd.heap.size wd ((wd.drew.alloc (.cells #[.bool false, .bool false, .bool false] 35)).alloc (.cells #[.bool false, .bool false, .bool false, .bool false, .bool false, .int .i64 0] 23)) := hS82.alloc hS82.size _
              have ne106 : wd.heap.size < (wd.heap.size + 1) := by first | (simp; done) | (have := (z83).lt; simpa using this)
              have z107 : Blk ((wd.drew.alloc (.cells #[.bool false, .bool false, .bool false] 35)).alloc (.cells #[.bool false, .bool false, .bool false, .bool false, .bool false, .int .i64 0] 23)) wd.heap.size 35 #[.bool false, .bool false, .bool false] := (z83).alloc _
              have z105 : Blk ((wd.drew.alloc (.cells #[.bool false, .bool false, .bool false] 35)).alloc (.cells #[.bool false, .bool false, .bool false, .bool false, .bool false, .int .i64 0] 23)) (wd.heap.size + 1) 23 #[.bool false, .bool false, .bool false, .bool false, .bool false, .int .i64 0] := Blk.new' (by simp)
              have gb108 : wd.heap.size ≤ (wd.heap.size + 1) := by first | (simp; done) | (have := hS82.size; simpa using this)
              refine hK.out _ _ hS104 (fun _ => ?_)
              clear hK K
              try simp only [Act.put, List.setIfInBounds_toArray, List.set_cons_zero, List.set_cons_succ]
              refine th_one (i := 17) rfl (by kernel_rfl) (fun K hK => ?_)
              rw [if_pos (by rfl)]
              go_simp
              refine (step_ok _ y HYV.out on rs sf).mono ?_
              rintro e v109 ⟨rfl, hb110⟩
              have z112 := (z107).below hb110 (z107).lt
              have z113 := (z105).below hb110 (z105).lt
              have hS111 : Below wd.heap.size wd v109 := hS104.trans (hb110.mono hS104.size)
              refine hK.out _ _ hS111 (fun _ => ?_)
              clear hK K
              try simp only [Act.put, List.setIfInBounds_toArray, List.set_cons_zero, List.set_cons_succ]
              refine th_take (i := 18) (v := ?_) rfl (by kernel_rfl) (by kernel_rfl) (by kernel_rfl) (Or.inl ⟨by rfl, fun w hSw => ?_⟩) hS111 ?_
              rotate_left
              · go_simp
                with_reducible rfl
              simp only [Act.put, List.setIfInBounds_toArray, List.set_cons_zero, List.set_cons_succ]
              refine th_take (i := 19) (v := ?_) rfl (by kernel_rfl) (by kernel_rfl) (by kernel_rfl) (Or.inl ⟨by rfl, fun w hSw => ?_⟩) hS111 ?_
              rotate_left
              · go_simp
                with_reducible rfl
              simp only [Act.put, List.setIfInBounds_toArray, List.set_cons_zero, List.set_cons_succ]
              refine th_take (i := 20) (v := ?_) rfl (by kernel_rfl) (by kernel_rfl) (by kernel_rfl) (Or.inl ⟨by rfl, fun w hSw => ?_⟩) hS111 ?_
              rotate_left
              · go_simp
                with_reducible rfl
              simp only [Act.put, List.setIfInBounds_toArray, List.set_cons_zero, List.set_cons_succ]
              refine th_take (i := 21) (v := ?_) rfl (by kernel_rfl) (by kernel_rfl) (by kernel_rfl) (Or.inl ⟨by rfl, fun w hSw => ?_⟩) hS111 ?_
              rotate_left
              · go_simp
                with_reducible rfl
              simp only [Act.put, List.setIfInBounds_toArray, List.set_cons_zero, List.set_cons_succ]
              refine th_one (i := 24) rfl (by kernel_rfl) (fun K hK => ?_)
              refine step_store_blk (by rfl) 23 (.tmp 7) (.tmp 56) rfl (wd.heap.size + 1) 23 _ (stepH y on rs sf).c rfl rfl (z113) rfl (by kernel_rfl) (HH.one _) ?_
              intro v114 hb115 hg116
              have hS117 : Below wd.heap.size wd v114 := hS111.grown hg116 hS111.size (fun g e => by injection e with e; subst e; omega)
              have z118 := (z112).grown hg116 (fun e => by injection e with e; omega)
              refine hK.out _ _ hS117 (fun _ => ?_)
              clear hK K
              try simp only [Act.put, List.setIfInBounds_toArray, List.set_cons_zero, List.set_cons_succ]
              refine th_one (i := 25) rfl (by kernel_rfl) (fun K hK => ?_)
              refine step_store_blk (by rfl) 35 (.tmp 8) (.tmp 57) rfl wd.heap.size 35 _ #[.bool (goodR (stepH y on rs sf)), .bool (doneR (stepH y on rs sf) sf), .bool (kickR (stepH y on rs sf))] rfl rfl z118 rfl (by kernel_rfl) (by intro u hu; simp at hu; rcases hu with rfl | rfl | rfl <;> rfl) ?_
              intro v119 hb120 hg121
              have hS122 : Below wd.heap.size wd v119 := hS117.grown hg121 hS117.size (fun g e => by injection e with e; subst e; omega)
              have z123 := hb115.grown hg121 (fun e => by injection e with e; omega)
              refine hK.out _ _ hS122 (fun _ => ?_)
              clear hK K
              try simp only [Act.put, List.setIfInBounds_toArray, List.set_cons_zero, List.set_cons_succ]
              refine th_take (i := 26) (v := ?_) rfl (by kernel_rfl) (by kernel_rfl) (by kernel_rfl) (Or.inl ⟨by rfl, fun w hSw => ?_⟩) hS122 ?_
              rotate_left
              · go_simp
                with_reducible rfl
              simp only [Act.put, List.setIfInBounds_toArray, List.set_cons_zero, List.set_cons_succ]
              refine wpAnyH_done (by kernel_rfl) (NoPanic.normal ?_) _
              go_wp2_with fail
              go_meet
              exact ⟨(wd.heap.size + 1), wd.heap.size, rfl, rfl, rfl, z123, hb120, (unhide HY).below hS122 (unhide HY).lt, (unhide BY).trans (hS122.mono hs3), by have := (unhide HY).lt; omega, by have := (unhide HY).lt; omega⟩
        case rest =>
          obtain ⟨g7, g8, rfl, rfl, rfl, hb7, hb8, hbx, hBw, hl7, hl8⟩ := hcut
          have hyv := step_valid y HYV.out on rs sf
          have hyp := step_p y HYV.out on rs sf
          have hyk : on = false → kickR (stepH y on rs sf) = false := fun h => by subst h; exact step_kick y HYV.out rs sf
          have hgd : goodR (stepH y on rs sf) = on := hyp
          rw [hgd] at hb8
          generalize stepH y on rs sf = z at *
          generalize doneR z sf = dn at *
          generalize hkk : kickR z = kk at *
          have HZV := Lib.hid hyv
          have HL2 := hide ((unhide HL).below hBw)
          obtain ⟨gb3, go3, e3, _, _, _, d1, _, _⟩ := (unhide HL2) k hlt1
          obtain ⟨rfl, rfl⟩ : gb = gb3 ∧ go = go3 := by simpa using e3
          have H7 := hide hb7
          have H8 := hide hb8
          have HBX := hide hBw
          have S0 := Below.refl wc.heap.size wc
          clear hb7 hb8 hBw hyv e3 hkk
          rw [HON.out] at d1
          have HN := hide hbx
          have F7 : Hid (∀ W, Below wc.heap.size wc W → W.cell? ⟨g7, 0, none⟩ = some (.bool on)) := hide (fun W hW => by
            rw [((unhide H7).below hW (unhide H7).lt).cell]
            show some (Value.bool z.p) = _
            rw [hyp])
          have F8 : Hid (∀ W, Below wc.heap.size wc W → W.cell? ⟨g8, 0, none⟩ = some (.bool on)) := hide (fun W hW => by
            rw [((unhide H8).below hW (unhide H8).lt).cell]; rfl)
          have F82 : Hid (∀ W, Below wc.heap.size wc W → W.cell? ⟨g8, 2, none⟩ = some (.bool kk)) := hide (fun W hW => by
            rw [((unhide H8).below hW (unhide H8).lt).cell]; rfl)
          have FE : Hid (∀ W, Below wc.heap.size wc W → W.cell? ⟨gb, go + k * 4 + 1, none⟩ = some (.bool on)) := hide (fun W hW =>
            (hW.cell (p := ⟨gb, _, none⟩) (by have := (unhide HBX).size; show gb < wc.heap.size; omega)).trans d1)
          have HVC : Hid (∀ W, Calls Try.prog 11 #[.agg z.c] W fun e w'' => e = .returned (.bool true) ∧ Below W.heap.size W w'') := hide (fun W => by
            have h := valid_any W z
            rw [HZV.out] at h
            exact h)
          clear hyp hgd d1 hbx
          cases on
          · obtain rfl : kk = false := hyk rfl
            go_wp2_with fail
            refine wp_region_noPanic (wp_region_held_drew (S := fun W => Below wc.heap.size wc W) (by kernel_rfl) S0.drew (fun _ => ?_))
            have hS0 := S0.drew
            refine th_take (i := 0) (v := ?_) rfl (by kernel_rfl) (by kernel_rfl) (by kernel_rfl) (Or.inl ⟨by rfl, fun w hSw => ?_⟩) hS0 ?_
            rotate_left
            · go_simp
              with_reducible rfl
            simp only [Act.put, List.setIfInBounds_toArray, List.set_cons_zero, List.set_cons_succ]
            refine th_take (i := 1) (v := ?_) rfl (by kernel_rfl) (by kernel_rfl) (by kernel_rfl) (Or.inl ⟨by rfl, fun w hSw => ?_⟩) hS0 ?_
            rotate_left
            · go_simp
              with_reducible rfl
            simp only [Act.put, List.setIfInBounds_toArray, List.set_cons_zero, List.set_cons_succ]
            refine th_take (i := 2) (v := ?_) rfl (by kernel_rfl) (by kernel_rfl) (by kernel_rfl) (Or.inl ⟨by rfl, fun w hSw => ?_⟩) hS0 ?_
            rotate_left
            · go_simp
              with_reducible rfl
            simp only [Act.put, List.setIfInBounds_toArray, List.set_cons_zero, List.set_cons_succ]
            refine th_take (i := 3) (v := ?_) rfl (by kernel_rfl) (by kernel_rfl) (by kernel_rfl) (Or.inl ⟨by rfl, fun w hSw => ?_⟩) hS0 ?_
            rotate_left
            · go_simp
              with_reducible rfl
            simp only [Act.put, List.setIfInBounds_toArray, List.set_cons_zero, List.set_cons_succ]
            refine th_take (i := 4) (v := .bool false) rfl (by kernel_rfl) (by kernel_rfl) (by kernel_rfl) (Or.inl ⟨by rfl, fun w hSw => ?_⟩) hS0 ?_
            · have hc := unhide F7 w hSw
              go_simp
            simp only [Act.put, List.setIfInBounds_toArray, List.set_cons_zero, List.set_cons_succ]
            refine th_take (i := 5) (v := ?_) rfl (by kernel_rfl) (by kernel_rfl) (by kernel_rfl) (Or.inl ⟨by rfl, fun w hSw => ?_⟩) hS0 ?_
            rotate_left
            · go_simp
              with_reducible rfl
            simp only [Act.put, List.setIfInBounds_toArray, List.set_cons_zero, List.set_cons_succ]
            refine th_take (i := 6) (v := ?_) rfl (by kernel_rfl) (by kernel_rfl) (by kernel_rfl) (Or.inl ⟨by rfl, fun w hSw => ?_⟩) hS0 ?_
            rotate_left
            · go_simp
              with_reducible rfl
            simp only [Act.put, List.setIfInBounds_toArray, List.set_cons_zero, List.set_cons_succ]
            refine th_take (i := 7) (v := ?_) rfl (by kernel_rfl) (by kernel_rfl) (by kernel_rfl) (Or.inl ⟨by rfl, fun w hSw => ?_⟩) hS0 ?_
            rotate_left
            · go_simp
              with_reducible rfl
            simp only [Act.put, List.setIfInBounds_toArray, List.set_cons_zero, List.set_cons_succ]
            refine th_take (i := 8) (v := ?_) rfl (by kernel_rfl) (by kernel_rfl) (by kernel_rfl) (Or.inl ⟨by rfl, fun w hSw => ?_⟩) hS0 ?_
            rotate_left
            · go_simp
              with_reducible rfl
            simp only [Act.put, List.setIfInBounds_toArray, List.set_cons_zero, List.set_cons_succ]
            refine th_take (i := 9) (v := .bool false) rfl (by kernel_rfl) (by kernel_rfl) (by kernel_rfl) (Or.inl ⟨by rfl, fun w hSw => ?_⟩) hS0 ?_
            · have hc := unhide FE w hSw
              go_simp
            simp only [Act.put, List.setIfInBounds_toArray, List.set_cons_zero, List.set_cons_succ]
            refine th_take (i := 10) (v := ?_) rfl (by kernel_rfl) (by kernel_rfl) (by kernel_rfl) (Or.inl ⟨by rfl, fun w hSw => ?_⟩) hS0 ?_
            rotate_left
            · go_simp
              with_reducible rfl
            simp only [Act.put, List.setIfInBounds_toArray, List.set_cons_zero, List.set_cons_succ]
            refine th_take (i := 11) (v := ?_) rfl (by kernel_rfl) (by kernel_rfl) (by kernel_rfl) (Or.inl ⟨by rfl, fun w hSw => ?_⟩) hS0 ?_
            rotate_left
            · go_simp
              with_reducible rfl
            simp only [Act.put, List.setIfInBounds_toArray, List.set_cons_zero, List.set_cons_succ]
            refine th_take (i := 12) (v := ?_) rfl (by kernel_rfl) (by kernel_rfl) (by kernel_rfl) (Or.inl ⟨by rfl, fun w hSw => ?_⟩) hS0 ?_
            rotate_left
            · go_simp
              with_reducible rfl
            simp only [Act.put, List.setIfInBounds_toArray, List.set_cons_zero, List.set_cons_succ]
            refine th_take (i := 13) (v := ?_) rfl (by kernel_rfl) (by kernel_rfl) (by kernel_rfl) (Or.inl ⟨by rfl, fun w hSw => ?_⟩) hS0 ?_
            rotate_left
            · go_simp
              with_reducible rfl
            simp only [Act.put, List.setIfInBounds_toArray, List.set_cons_zero, List.set_cons_succ]
            refine th_take (i := 14) (v := .bool false) rfl (by kernel_rfl) (by kernel_rfl) (by kernel_rfl) (Or.inl ⟨by rfl, fun w hSw => ?_⟩) hS0 ?_
            · have hc := unhide F8 w hSw
              go_simp
            simp only [Act.put, List.setIfInBounds_toArray, List.set_cons_zero, List.set_cons_succ]
            refine th_take (i := 15) (v := ?_) rfl (by kernel_rfl) (by kernel_rfl) (by kernel_rfl) (Or.inl ⟨by rfl, fun w hSw => ?_⟩) hS0 ?_
            rotate_left
            · go_simp
              with_reducible rfl
            simp only [Act.put, List.setIfInBounds_toArray, List.set_cons_zero, List.set_cons_succ]
            refine th_take (i := 16) (v := ?_) rfl (by kernel_rfl) (by kernel_rfl) (by kernel_rfl) (Or.inl ⟨by rfl, fun w hSw => ?_⟩) hS0 ?_
            rotate_left
            · go_simp
              with_reducible rfl
            simp only [Act.put, List.setIfInBounds_toArray, List.set_cons_zero, List.set_cons_succ]
            refine th_take (i := 17) (v := ?_) rfl (by kernel_rfl) (by kernel_rfl) (by kernel_rfl) (Or.inl ⟨by rfl, fun w hSw => ?_⟩) hS0 ?_
            rotate_left
            · go_simp
              with_reducible rfl
            simp only [Act.put, List.setIfInBounds_toArray, List.set_cons_zero, List.set_cons_succ]
            refine th_take (i := 18) (v := ?_) rfl (by kernel_rfl) (by kernel_rfl) (by kernel_rfl) (Or.inl ⟨by rfl, fun w hSw => ?_⟩) hS0 ?_
            rotate_left
            · go_simp
              with_reducible rfl
            simp only [Act.put, List.setIfInBounds_toArray, List.set_cons_zero, List.set_cons_succ]
            refine th_take (i := 19) (v := .bool false) rfl (by kernel_rfl) (by kernel_rfl) (by kernel_rfl) (Or.inl ⟨by rfl, fun w hSw => ?_⟩) hS0 ?_
            · have hc := unhide FE w hSw
              go_simp
            simp only [Act.put, List.setIfInBounds_toArray, List.set_cons_zero, List.set_cons_succ]
            refine th_take (i := 20) (v := ?_) rfl (by kernel_rfl) (by kernel_rfl) (by kernel_rfl) (Or.inl ⟨by rfl, fun w hSw => ?_⟩) hS0 ?_
            rotate_left
            · go_simp
              with_reducible rfl
            simp only [Act.put, List.setIfInBounds_toArray, List.set_cons_zero, List.set_cons_succ]
            refine th_take (i := 21) (v := ?_) rfl (by kernel_rfl) (by kernel_rfl) (by kernel_rfl) (Or.inl ⟨by rfl, fun w hSw => ?_⟩) hS0 ?_
            rotate_left
            · go_simp
              with_reducible rfl
            simp only [Act.put, List.setIfInBounds_toArray, List.set_cons_zero, List.set_cons_succ]
            refine th_take (i := 22) (v := ?_) rfl (by kernel_rfl) (by kernel_rfl) (by kernel_rfl) (Or.inl ⟨by rfl, fun w hSw => ?_⟩) hS0 ?_
            rotate_left
            · go_simp
              with_reducible rfl
            simp only [Act.put, List.setIfInBounds_toArray, List.set_cons_zero, List.set_cons_succ]
            refine th_take (i := 23) rfl (by kernel_rfl) (by kernel_rfl) (by kernel_rfl) (y_loadblk 23 (.tmp 7) (by rfl) rfl g7 rfl 23 z.c _ (fun _ h => (unhide H7).below h (unhide H7).lt) Try.underlying23 rfl (by kernel_rfl)) hS0 ?_
            simp only [Act.put, List.setIfInBounds_toArray, List.set_cons_zero, List.set_cons_succ]
            refine th_one (i := 24) rfl (by kernel_rfl) (fun K hK => ?_)
            rw [if_pos (by rfl)]
            go_simp
            refine (unhide HVC _).mono ?_
            rintro e w9 ⟨rfl, hb9⟩
            have hS9 : Below wc.heap.size wc w9 := hS0.trans (hb9.mono hS0.size)
            refine hK.out _ _ hS9 (fun _ => ?_)
            clear hK K
            try simp only [Act.put, List.setIfInBounds_toArray, List.set_cons_zero, List.set_cons_succ]
            clear hS0
            have hS0 := hS9
            refine th_take (i := 25) (v := ?_) rfl (by kernel_rfl) (by kernel_rfl) (by kernel_rfl) (Or.inl ⟨by rfl, fun w hSw => ?_⟩) hS0 ?_
            rotate_left
            · go_simp
              with_reducible rfl
            simp only [Act.put, List.setIfInBounds_toArray, List.set_cons_zero, List.set_cons_succ]
            refine th_take (i := 26) (v := ?_) rfl (by kernel_rfl) (by kernel_rfl) (by kernel_rfl) (Or.inl ⟨by rfl, fun w hSw => ?_⟩) hS0 ?_
            rotate_left
            · go_simp
              with_reducible rfl
            simp only [Act.put, List.setIfInBounds_toArray, List.set_cons_zero, List.set_cons_succ]
            refine th_take (i := 27) (v := ?_) rfl (by kernel_rfl) (by kernel_rfl) (by kernel_rfl) (Or.inl ⟨by rfl, fun w hSw => ?_⟩) hS0 ?_
            rotate_left
            · go_simp
              with_reducible rfl
            simp only [Act.put, List.setIfInBounds_toArray, List.set_cons_zero, List.set_cons_succ]
            refine th_take (i := 28) (v := ?_) rfl (by kernel_rfl) (by kernel_rfl) (by kernel_rfl) (Or.inl ⟨by rfl, fun w hSw => ?_⟩) hS0 ?_
            rotate_left
            · go_simp
              with_reducible rfl
            simp only [Act.put, List.setIfInBounds_toArray, List.set_cons_zero, List.set_cons_succ]
            refine th_take (i := 29) (v := .bool false) rfl (by kernel_rfl) (by kernel_rfl) (by kernel_rfl) (Or.inl ⟨by rfl, fun w hSw => ?_⟩) hS0 ?_
            · have hc := unhide F82 w hSw
              go_simp
            simp only [Act.put, List.setIfInBounds_toArray, List.set_cons_zero, List.set_cons_succ]
            refine th_take (i := 30) (v := ?_) rfl (by kernel_rfl) (by kernel_rfl) (by kernel_rfl) (Or.inl ⟨by rfl, fun w hSw => ?_⟩) hS0 ?_
            rotate_left
            · go_simp
              with_reducible rfl
            simp only [Act.put, List.setIfInBounds_toArray, List.set_cons_zero, List.set_cons_succ]
            refine th_take (i := 31) (v := undef) rfl (by kernel_rfl) (by kernel_rfl) (by kernel_rfl) (.inr ⟨by rfl, rfl⟩) hS0 ?_
            simp only [Act.put, List.setIfInBounds_toArray, List.set_cons_zero, List.set_cons_succ]
            refine th_take (i := 32) (v := undef) rfl (by kernel_rfl) (by kernel_rfl) (by kernel_rfl) (.inr ⟨by rfl, rfl⟩) hS0 ?_
            simp only [Act.put, List.setIfInBounds_toArray, List.set_cons_zero, List.set_cons_succ]
            refine th_take (i := 33) (v := undef) rfl (by kernel_rfl) (by kernel_rfl) (by kernel_rfl) (.inr ⟨by rfl, rfl⟩) hS0 ?_
            simp only [Act.put, List.setIfInBounds_toArray, List.set_cons_zero, List.set_cons_succ]
            refine th_take (i := 34) (v := undef) rfl (by kernel_rfl) (by kernel_rfl) (by kernel_rfl) (.inr ⟨by rfl, rfl⟩) hS0 ?_
            simp only [Act.put, List.setIfInBounds_toArray, List.set_cons_zero, List.set_cons_succ]
            refine th_take (i := 35) (v := undef) rfl (by kernel_rfl) (by kernel_rfl) (by kernel_rfl) (.inr ⟨by rfl, rfl⟩) hS0 ?_
            simp only [Act.put, List.setIfInBounds_toArray, List.set_cons_zero, List.set_cons_succ]
            refine th_take (i := 36) (v := undef) rfl (by kernel_rfl) (by kernel_rfl) (by kernel_rfl) (.inr ⟨by rfl, rfl⟩) hS0 ?_
            simp only [Act.put, List.setIfInBounds_toArray, List.set_cons_zero, List.set_cons_succ]
            refine th_take (i := 37) (v := ?_) rfl (by kernel_rfl) (by kernel_rfl) (by kernel_rfl) (Or.inl ⟨by rfl, fun w hSw => ?_⟩) hS0 ?_
            rotate_left
            · go_simp
              with_reducible rfl
            simp only [Act.put, List.setIfInBounds_toArray, List.set_cons_zero, List.set_cons_succ]
            refine th_take (i := 38) (v := ?_) rfl (by kernel_rfl) (by kernel_rfl) (by kernel_rfl) (Or.inl ⟨by rfl, fun w hSw => ?_⟩) hS0 ?_
            rotate_left
            · go_simp
              with_reducible rfl
            simp only [Act.put, List.setIfInBounds_toArray, List.set_cons_zero, List.set_cons_succ]
            refine wpAnyH_done (by kernel_rfl) (NoPanic.normal ?_) _
            have HX5 := hide hS9
            clear hS9 hS0 hb9
            have H9 := hide ((unhide H7).below (unhide HX5) (unhide H7).lt)
            have B9 := hide ((unhide HBX).trans ((unhide HX5).mono (unhide HBX).size))
            have N9 := hide ((unhide HN).below (unhide HX5) (unhide HN).lt)
            go_wp2_with (first
              | (refine wpList_load_row rfl 23 _ rfl g7 rfl 23 _ _ _ (unhide H9) Try.underlying23 rfl (by kernel_rfl) ?_)
              | (refine wpList_store_blk rfl 23 (.tmp 3) (.tmp 98) rfl w1.heap.size 23 _ z.c rfl rfl (unhide N9) rfl (by kernel_rfl) (HH.one _) ?_
                 intro we hbe hge
                 have HE := hide hbe
                 have BE := hide ((unhide B9).grown hge (unhide B9).size (fun g e => by injection e with e; omega))
                 clear hbe hge)
              | fail)
            go_roundw
            case rel => exact ⟨k + 1, by omega, by omega, by go_num, z, HZV.out, unhide HE, unhide BE⟩
            case measure => simp [intOf]; omega
          · cases kk
            · clear hyk
              go_wp2_with fail
              refine wp_region_noPanic (wp_region_held_drew (S := fun W => Below wc.heap.size wc W) (by kernel_rfl) S0.drew (fun _ => ?_))
              have hS0 := S0.drew
              refine th_take (i := 0) (v := ?_) rfl (by kernel_rfl) (by kernel_rfl) (by kernel_rfl) (Or.inl ⟨by rfl, fun w hSw => ?_⟩) hS0 ?_
              rotate_left
              · go_simp
                with_reducible rfl
              simp only [Act.put, List.setIfInBounds_toArray, List.set_cons_zero, List.set_cons_succ]
              refine th_take (i := 1) (v := ?_) rfl (by kernel_rfl) (by kernel_rfl) (by kernel_rfl) (Or.inl ⟨by rfl, fun w hSw => ?_⟩) hS0 ?_
              rotate_left
              · go_simp
                with_reducible rfl
              simp only [Act.put, List.setIfInBounds_toArray, List.set_cons_zero, List.set_cons_succ]
              refine th_take (i := 2) (v := ?_) rfl (by kernel_rfl) (by kernel_rfl) (by kernel_rfl) (Or.inl ⟨by rfl, fun w hSw => ?_⟩) hS0 ?_
              rotate_left
              · go_simp
                with_reducible rfl
              simp only [Act.put, List.setIfInBounds_toArray, List.set_cons_zero, List.set_cons_succ]
              refine th_take (i := 3) (v := ?_) rfl (by kernel_rfl) (by kernel_rfl) (by kernel_rfl) (Or.inl ⟨by rfl, fun w hSw => ?_⟩) hS0 ?_
              rotate_left
              · go_simp
                with_reducible rfl
              simp only [Act.put, List.setIfInBounds_toArray, List.set_cons_zero, List.set_cons_succ]
              refine th_take (i := 4) (v := .bool true) rfl (by kernel_rfl) (by kernel_rfl) (by kernel_rfl) (Or.inl ⟨by rfl, fun w hSw => ?_⟩) hS0 ?_
              · have hc := unhide F7 w hSw
                go_simp
              simp only [Act.put, List.setIfInBounds_toArray, List.set_cons_zero, List.set_cons_succ]
              refine th_take (i := 5) (v := ?_) rfl (by kernel_rfl) (by kernel_rfl) (by kernel_rfl) (Or.inl ⟨by rfl, fun w hSw => ?_⟩) hS0 ?_
              rotate_left
              · go_simp
                with_reducible rfl
              simp only [Act.put, List.setIfInBounds_toArray, List.set_cons_zero, List.set_cons_succ]
              refine th_take (i := 6) (v := ?_) rfl (by kernel_rfl) (by kernel_rfl) (by kernel_rfl) (Or.inl ⟨by rfl, fun w hSw => ?_⟩) hS0 ?_
              rotate_left
              · go_simp
                with_reducible rfl
              simp only [Act.put, List.setIfInBounds_toArray, List.set_cons_zero, List.set_cons_succ]
              refine th_take (i := 7) (v := ?_) rfl (by kernel_rfl) (by kernel_rfl) (by kernel_rfl) (Or.inl ⟨by rfl, fun w hSw => ?_⟩) hS0 ?_
              rotate_left
              · go_simp
                with_reducible rfl
              simp only [Act.put, List.setIfInBounds_toArray, List.set_cons_zero, List.set_cons_succ]
              refine th_take (i := 8) (v := ?_) rfl (by kernel_rfl) (by kernel_rfl) (by kernel_rfl) (Or.inl ⟨by rfl, fun w hSw => ?_⟩) hS0 ?_
              rotate_left
              · go_simp
                with_reducible rfl
              simp only [Act.put, List.setIfInBounds_toArray, List.set_cons_zero, List.set_cons_succ]
              refine th_take (i := 9) (v := .bool true) rfl (by kernel_rfl) (by kernel_rfl) (by kernel_rfl) (Or.inl ⟨by rfl, fun w hSw => ?_⟩) hS0 ?_
              · have hc := unhide FE w hSw
                go_simp
              simp only [Act.put, List.setIfInBounds_toArray, List.set_cons_zero, List.set_cons_succ]
              refine th_take (i := 10) (v := ?_) rfl (by kernel_rfl) (by kernel_rfl) (by kernel_rfl) (Or.inl ⟨by rfl, fun w hSw => ?_⟩) hS0 ?_
              rotate_left
              · go_simp
                with_reducible rfl
              simp only [Act.put, List.setIfInBounds_toArray, List.set_cons_zero, List.set_cons_succ]
              refine th_take (i := 11) (v := ?_) rfl (by kernel_rfl) (by kernel_rfl) (by kernel_rfl) (Or.inl ⟨by rfl, fun w hSw => ?_⟩) hS0 ?_
              rotate_left
              · go_simp
                with_reducible rfl
              simp only [Act.put, List.setIfInBounds_toArray, List.set_cons_zero, List.set_cons_succ]
              refine th_take (i := 12) (v := ?_) rfl (by kernel_rfl) (by kernel_rfl) (by kernel_rfl) (Or.inl ⟨by rfl, fun w hSw => ?_⟩) hS0 ?_
              rotate_left
              · go_simp
                with_reducible rfl
              simp only [Act.put, List.setIfInBounds_toArray, List.set_cons_zero, List.set_cons_succ]
              refine th_take (i := 13) (v := ?_) rfl (by kernel_rfl) (by kernel_rfl) (by kernel_rfl) (Or.inl ⟨by rfl, fun w hSw => ?_⟩) hS0 ?_
              rotate_left
              · go_simp
                with_reducible rfl
              simp only [Act.put, List.setIfInBounds_toArray, List.set_cons_zero, List.set_cons_succ]
              refine th_take (i := 14) (v := .bool true) rfl (by kernel_rfl) (by kernel_rfl) (by kernel_rfl) (Or.inl ⟨by rfl, fun w hSw => ?_⟩) hS0 ?_
              · have hc := unhide F8 w hSw
                go_simp
              simp only [Act.put, List.setIfInBounds_toArray, List.set_cons_zero, List.set_cons_succ]
              refine th_take (i := 15) (v := ?_) rfl (by kernel_rfl) (by kernel_rfl) (by kernel_rfl) (Or.inl ⟨by rfl, fun w hSw => ?_⟩) hS0 ?_
              rotate_left
              · go_simp
                with_reducible rfl
              simp only [Act.put, List.setIfInBounds_toArray, List.set_cons_zero, List.set_cons_succ]
              refine th_take (i := 16) (v := ?_) rfl (by kernel_rfl) (by kernel_rfl) (by kernel_rfl) (Or.inl ⟨by rfl, fun w hSw => ?_⟩) hS0 ?_
              rotate_left
              · go_simp
                with_reducible rfl
              simp only [Act.put, List.setIfInBounds_toArray, List.set_cons_zero, List.set_cons_succ]
              refine th_take (i := 17) (v := ?_) rfl (by kernel_rfl) (by kernel_rfl) (by kernel_rfl) (Or.inl ⟨by rfl, fun w hSw => ?_⟩) hS0 ?_
              rotate_left
              · go_simp
                with_reducible rfl
              simp only [Act.put, List.setIfInBounds_toArray, List.set_cons_zero, List.set_cons_succ]
              refine th_take (i := 18) (v := ?_) rfl (by kernel_rfl) (by kernel_rfl) (by kernel_rfl) (Or.inl ⟨by rfl, fun w hSw => ?_⟩) hS0 ?_
              rotate_left
              · go_simp
                with_reducible rfl
              simp only [Act.put, List.setIfInBounds_toArray, List.set_cons_zero, List.set_cons_succ]
              refine th_take (i := 19) (v := .bool true) rfl (by kernel_rfl) (by kernel_rfl) (by kernel_rfl) (Or.inl ⟨by rfl, fun w hSw => ?_⟩) hS0 ?_
              · have hc := unhide FE w hSw
                go_simp
              simp only [Act.put, List.setIfInBounds_toArray, List.set_cons_zero, List.set_cons_succ]
              refine th_take (i := 20) (v := ?_) rfl (by kernel_rfl) (by kernel_rfl) (by kernel_rfl) (Or.inl ⟨by rfl, fun w hSw => ?_⟩) hS0 ?_
              rotate_left
              · go_simp
                with_reducible rfl
              simp only [Act.put, List.setIfInBounds_toArray, List.set_cons_zero, List.set_cons_succ]
              refine th_take (i := 21) (v := ?_) rfl (by kernel_rfl) (by kernel_rfl) (by kernel_rfl) (Or.inl ⟨by rfl, fun w hSw => ?_⟩) hS0 ?_
              rotate_left
              · go_simp
                with_reducible rfl
              simp only [Act.put, List.setIfInBounds_toArray, List.set_cons_zero, List.set_cons_succ]
              refine th_take (i := 22) (v := ?_) rfl (by kernel_rfl) (by kernel_rfl) (by kernel_rfl) (Or.inl ⟨by rfl, fun w hSw => ?_⟩) hS0 ?_
              rotate_left
              · go_simp
                with_reducible rfl
              simp only [Act.put, List.setIfInBounds_toArray, List.set_cons_zero, List.set_cons_succ]
              refine th_take (i := 23) rfl (by kernel_rfl) (by kernel_rfl) (by kernel_rfl) (y_loadblk 23 (.tmp 7) (by rfl) rfl g7 rfl 23 z.c _ (fun _ h => (unhide H7).below h (unhide H7).lt) Try.underlying23 rfl (by kernel_rfl)) hS0 ?_
              simp only [Act.put, List.setIfInBounds_toArray, List.set_cons_zero, List.set_cons_succ]
              refine th_one (i := 24) rfl (by kernel_rfl) (fun K hK => ?_)
              rw [if_pos (by rfl)]
              go_simp
              refine (unhide HVC _).mono ?_
              rintro e w9 ⟨rfl, hb9⟩
              have hS9 : Below wc.heap.size wc w9 := hS0.trans (hb9.mono hS0.size)
              refine hK.out _ _ hS9 (fun _ => ?_)
              clear hK K
              try simp only [Act.put, List.setIfInBounds_toArray, List.set_cons_zero, List.set_cons_succ]
              clear hS0
              have hS0 := hS9
              refine th_take (i := 25) (v := ?_) rfl (by kernel_rfl) (by kernel_rfl) (by kernel_rfl) (Or.inl ⟨by rfl, fun w hSw => ?_⟩) hS0 ?_
              rotate_left
              · go_simp
                with_reducible rfl
              simp only [Act.put, List.setIfInBounds_toArray, List.set_cons_zero, List.set_cons_succ]
              refine th_take (i := 26) (v := ?_) rfl (by kernel_rfl) (by kernel_rfl) (by kernel_rfl) (Or.inl ⟨by rfl, fun w hSw => ?_⟩) hS0 ?_
              rotate_left
              · go_simp
                with_reducible rfl
              simp only [Act.put, List.setIfInBounds_toArray, List.set_cons_zero, List.set_cons_succ]
              refine th_take (i := 27) (v := ?_) rfl (by kernel_rfl) (by kernel_rfl) (by kernel_rfl) (Or.inl ⟨by rfl, fun w hSw => ?_⟩) hS0 ?_
              rotate_left
              · go_simp
                with_reducible rfl
              simp only [Act.put, List.setIfInBounds_toArray, List.set_cons_zero, List.set_cons_succ]
              refine th_take (i := 28) (v := ?_) rfl (by kernel_rfl) (by kernel_rfl) (by kernel_rfl) (Or.inl ⟨by rfl, fun w hSw => ?_⟩) hS0 ?_
              rotate_left
              · go_simp
                with_reducible rfl
              simp only [Act.put, List.setIfInBounds_toArray, List.set_cons_zero, List.set_cons_succ]
              refine th_take (i := 29) (v := .bool false) rfl (by kernel_rfl) (by kernel_rfl) (by kernel_rfl) (Or.inl ⟨by rfl, fun w hSw => ?_⟩) hS0 ?_
              · have hc := unhide F82 w hSw
                go_simp
              simp only [Act.put, List.setIfInBounds_toArray, List.set_cons_zero, List.set_cons_succ]
              refine th_take (i := 30) (v := ?_) rfl (by kernel_rfl) (by kernel_rfl) (by kernel_rfl) (Or.inl ⟨by rfl, fun w hSw => ?_⟩) hS0 ?_
              rotate_left
              · go_simp
                with_reducible rfl
              simp only [Act.put, List.setIfInBounds_toArray, List.set_cons_zero, List.set_cons_succ]
              refine th_take (i := 31) (v := undef) rfl (by kernel_rfl) (by kernel_rfl) (by kernel_rfl) (.inr ⟨by rfl, rfl⟩) hS0 ?_
              simp only [Act.put, List.setIfInBounds_toArray, List.set_cons_zero, List.set_cons_succ]
              refine th_take (i := 32) (v := undef) rfl (by kernel_rfl) (by kernel_rfl) (by kernel_rfl) (.inr ⟨by rfl, rfl⟩) hS0 ?_
              simp only [Act.put, List.setIfInBounds_toArray, List.set_cons_zero, List.set_cons_succ]
              refine th_take (i := 33) (v := undef) rfl (by kernel_rfl) (by kernel_rfl) (by kernel_rfl) (.inr ⟨by rfl, rfl⟩) hS0 ?_
              simp only [Act.put, List.setIfInBounds_toArray, List.set_cons_zero, List.set_cons_succ]
              refine th_take (i := 34) (v := undef) rfl (by kernel_rfl) (by kernel_rfl) (by kernel_rfl) (.inr ⟨by rfl, rfl⟩) hS0 ?_
              simp only [Act.put, List.setIfInBounds_toArray, List.set_cons_zero, List.set_cons_succ]
              refine th_take (i := 35) (v := undef) rfl (by kernel_rfl) (by kernel_rfl) (by kernel_rfl) (.inr ⟨by rfl, rfl⟩) hS0 ?_
              simp only [Act.put, List.setIfInBounds_toArray, List.set_cons_zero, List.set_cons_succ]
              refine th_take (i := 36) (v := undef) rfl (by kernel_rfl) (by kernel_rfl) (by kernel_rfl) (.inr ⟨by rfl, rfl⟩) hS0 ?_
              simp only [Act.put, List.setIfInBounds_toArray, List.set_cons_zero, List.set_cons_succ]
              refine th_take (i := 37) (v := ?_) rfl (by kernel_rfl) (by kernel_rfl) (by kernel_rfl) (Or.inl ⟨by rfl, fun w hSw => ?_⟩) hS0 ?_
              rotate_left
              · go_simp
                with_reducible rfl
              simp only [Act.put, List.setIfInBounds_toArray, List.set_cons_zero, List.set_cons_succ]
              refine th_take (i := 38) (v := ?_) rfl (by kernel_rfl) (by kernel_rfl) (by kernel_rfl) (Or.inl ⟨by rfl, fun w hSw => ?_⟩) hS0 ?_
              rotate_left
              · go_simp
                with_reducible rfl
              simp only [Act.put, List.setIfInBounds_toArray, List.set_cons_zero, List.set_cons_succ]
              refine wpAnyH_done (by kernel_rfl) (NoPanic.normal ?_) _
              have HX5 := hide hS9
              clear hS9 hS0 hb9
              have H9 := hide ((unhide H7).below (unhide HX5) (unhide H7).lt)
              have B9 := hide ((unhide HBX).trans ((unhide HX5).mono (unhide HBX).size))
              have N9 := hide ((unhide HN).below (unhide HX5) (unhide HN).lt)
              go_wp2_with (first
                | (refine wpList_load_row rfl 23 _ rfl g7 rfl 23 _ _ _ (unhide H9) Try.underlying23 rfl (by kernel_rfl) ?_)
                | (refine wpList_store_blk rfl 23 (.tmp 3) (.tmp 98) rfl w1.heap.size 23 _ z.c rfl rfl (unhide N9) rfl (by kernel_rfl) (HH.one _) ?_
                   intro we hbe hge
                   have HE := hide hbe
                   have BE := hide ((unhide B9).grown hge (unhide B9).size (fun g e => by injection e with e; omega))
                   clear hbe hge)
                | fail)
              go_roundw
              case rel => exact ⟨k + 1, by omega, by omega, by go_num, z, HZV.out, unhide HE, unhide BE⟩
              case measure => simp [intOf]; omega
            · clear hyk
              go_wp2_with fail
              refine wp_region_noPanic (wp_region_held_drew (S := fun W => Below wc.heap.size wc W) (by kernel_rfl) S0.drew (fun _ => ?_))
              have hS0 := S0.drew
              refine th_take (i := 0) (v := ?_) rfl (by kernel_rfl) (by kernel_rfl) (by kernel_rfl) (Or.inl ⟨by rfl, fun w hSw => ?_⟩) hS0 ?_
              rotate_left
              · go_simp
                with_reducible rfl
              simp only [Act.put, List.setIfInBounds_toArray, List.set_cons_zero, List.set_cons_succ]
              refine th_take (i := 1) (v := ?_) rfl (by kernel_rfl) (by kernel_rfl) (by kernel_rfl) (Or.inl ⟨by rfl, fun w hSw => ?_⟩) hS0 ?_
              rotate_left
              · go_simp
                with_reducible rfl
              simp only [Act.put, List.setIfInBounds_toArray, List.set_cons_zero, List.set_cons_succ]
              refine th_take (i := 2) (v := ?_) rfl (by kernel_rfl) (by kernel_rfl) (by kernel_rfl) (Or.inl ⟨by rfl, fun w hSw => ?_⟩) hS0 ?_
              rotate_left
              · go_simp
                with_reducible rfl
              simp only [Act.put, List.setIfInBounds_toArray, List.set_cons_zero, List.set_cons_succ]
              refine th_take (i := 3) (v := ?_) rfl (by kernel_rfl) (by kernel_rfl) (by kernel_rfl) (Or.inl ⟨by rfl, fun w hSw => ?_⟩) hS0 ?_
              rotate_left
              · go_simp
                with_reducible rfl
              simp only [Act.put, List.setIfInBounds_toArray, List.set_cons_zero, List.set_cons_succ]
              refine th_take (i := 4) (v := .bool true) rfl (by kernel_rfl) (by kernel_rfl) (by kernel_rfl) (Or.inl ⟨by rfl, fun w hSw => ?_⟩) hS0 ?_
              · have hc := unhide F7 w hSw
                go_simp
              simp only [Act.put, List.setIfInBounds_toArray, List.set_cons_zero, List.set_cons_succ]
              refine th_take (i := 5) (v := ?_) rfl (by kernel_rfl) (by kernel_rfl) (by kernel_rfl) (Or.inl ⟨by rfl, fun w hSw => ?_⟩) hS0 ?_
              rotate_left
              · go_simp
                with_reducible rfl
              simp only [Act.put, List.setIfInBounds_toArray, List.set_cons_zero, List.set_cons_succ]
              refine th_take (i := 6) (v := ?_) rfl (by kernel_rfl) (by kernel_rfl) (by kernel_rfl) (Or.inl ⟨by rfl, fun w hSw => ?_⟩) hS0 ?_
              rotate_left
              · go_simp
                with_reducible rfl
              simp only [Act.put, List.setIfInBounds_toArray, List.set_cons_zero, List.set_cons_succ]
              refine th_take (i := 7) (v := ?_) rfl (by kernel_rfl) (by kernel_rfl) (by kernel_rfl) (Or.inl ⟨by rfl, fun w hSw => ?_⟩) hS0 ?_
              rotate_left
              · go_simp
                with_reducible rfl
              simp only [Act.put, List.setIfInBounds_toArray, List.set_cons_zero, List.set_cons_succ]
              refine th_take (i := 8) (v := ?_) rfl (by kernel_rfl) (by kernel_rfl) (by kernel_rfl) (Or.inl ⟨by rfl, fun w hSw => ?_⟩) hS0 ?_
              rotate_left
              · go_simp
                with_reducible rfl
              simp only [Act.put, List.setIfInBounds_toArray, List.set_cons_zero, List.set_cons_succ]
              refine th_take (i := 9) (v := .bool true) rfl (by kernel_rfl) (by kernel_rfl) (by kernel_rfl) (Or.inl ⟨by rfl, fun w hSw => ?_⟩) hS0 ?_
              · have hc := unhide FE w hSw
                go_simp
              simp only [Act.put, List.setIfInBounds_toArray, List.set_cons_zero, List.set_cons_succ]
              refine th_take (i := 10) (v := ?_) rfl (by kernel_rfl) (by kernel_rfl) (by kernel_rfl) (Or.inl ⟨by rfl, fun w hSw => ?_⟩) hS0 ?_
              rotate_left
              · go_simp
                with_reducible rfl
              simp only [Act.put, List.setIfInBounds_toArray, List.set_cons_zero, List.set_cons_succ]
              refine th_take (i := 11) (v := ?_) rfl (by kernel_rfl) (by kernel_rfl) (by kernel_rfl) (Or.inl ⟨by rfl, fun w hSw => ?_⟩) hS0 ?_
              rotate_left
              · go_simp
                with_reducible rfl
              simp only [Act.put, List.setIfInBounds_toArray, List.set_cons_zero, List.set_cons_succ]
              refine th_take (i := 12) (v := ?_) rfl (by kernel_rfl) (by kernel_rfl) (by kernel_rfl) (Or.inl ⟨by rfl, fun w hSw => ?_⟩) hS0 ?_
              rotate_left
              · go_simp
                with_reducible rfl
              simp only [Act.put, List.setIfInBounds_toArray, List.set_cons_zero, List.set_cons_succ]
              refine th_take (i := 13) (v := ?_) rfl (by kernel_rfl) (by kernel_rfl) (by kernel_rfl) (Or.inl ⟨by rfl, fun w hSw => ?_⟩) hS0 ?_
              rotate_left
              · go_simp
                with_reducible rfl
              simp only [Act.put, List.setIfInBounds_toArray, List.set_cons_zero, List.set_cons_succ]
              refine th_take (i := 14) (v := .bool true) rfl (by kernel_rfl) (by kernel_rfl) (by kernel_rfl) (Or.inl ⟨by rfl, fun w hSw => ?_⟩) hS0 ?_
              · have hc := unhide F8 w hSw
                go_simp
              simp only [Act.put, List.setIfInBounds_toArray, List.set_cons_zero, List.set_cons_succ]
              refine th_take (i := 15) (v := ?_) rfl (by kernel_rfl) (by kernel_rfl) (by kernel_rfl) (Or.inl ⟨by rfl, fun w hSw => ?_⟩) hS0 ?_
              rotate_left
              · go_simp
                with_reducible rfl
              simp only [Act.put, List.setIfInBounds_toArray, List.set_cons_zero, List.set_cons_succ]
              refine th_take (i := 16) (v := ?_) rfl (by kernel_rfl) (by kernel_rfl) (by kernel_rfl) (Or.inl ⟨by rfl, fun w hSw => ?_⟩) hS0 ?_
              rotate_left
              · go_simp
                with_reducible rfl
              simp only [Act.put, List.setIfInBounds_toArray, List.set_cons_zero, List.set_cons_succ]
              refine th_take (i := 17) (v := ?_) rfl (by kernel_rfl) (by kernel_rfl) (by kernel_rfl) (Or.inl ⟨by rfl, fun w hSw => ?_⟩) hS0 ?_
              rotate_left
              · go_simp
                with_reducible rfl
              simp only [Act.put, List.setIfInBounds_toArray, List.set_cons_zero, List.set_cons_succ]
              refine th_take (i := 18) (v := ?_) rfl (by kernel_rfl) (by kernel_rfl) (by kernel_rfl) (Or.inl ⟨by rfl, fun w hSw => ?_⟩) hS0 ?_
              rotate_left
              · go_simp
                with_reducible rfl
              simp only [Act.put, List.setIfInBounds_toArray, List.set_cons_zero, List.set_cons_succ]
              refine th_take (i := 19) (v := .bool true) rfl (by kernel_rfl) (by kernel_rfl) (by kernel_rfl) (Or.inl ⟨by rfl, fun w hSw => ?_⟩) hS0 ?_
              · have hc := unhide FE w hSw
                go_simp
              simp only [Act.put, List.setIfInBounds_toArray, List.set_cons_zero, List.set_cons_succ]
              refine th_take (i := 20) (v := ?_) rfl (by kernel_rfl) (by kernel_rfl) (by kernel_rfl) (Or.inl ⟨by rfl, fun w hSw => ?_⟩) hS0 ?_
              rotate_left
              · go_simp
                with_reducible rfl
              simp only [Act.put, List.setIfInBounds_toArray, List.set_cons_zero, List.set_cons_succ]
              refine th_take (i := 21) (v := ?_) rfl (by kernel_rfl) (by kernel_rfl) (by kernel_rfl) (Or.inl ⟨by rfl, fun w hSw => ?_⟩) hS0 ?_
              rotate_left
              · go_simp
                with_reducible rfl
              simp only [Act.put, List.setIfInBounds_toArray, List.set_cons_zero, List.set_cons_succ]
              refine th_take (i := 22) (v := ?_) rfl (by kernel_rfl) (by kernel_rfl) (by kernel_rfl) (Or.inl ⟨by rfl, fun w hSw => ?_⟩) hS0 ?_
              rotate_left
              · go_simp
                with_reducible rfl
              simp only [Act.put, List.setIfInBounds_toArray, List.set_cons_zero, List.set_cons_succ]
              refine th_take (i := 23) rfl (by kernel_rfl) (by kernel_rfl) (by kernel_rfl) (y_loadblk 23 (.tmp 7) (by rfl) rfl g7 rfl 23 z.c _ (fun _ h => (unhide H7).below h (unhide H7).lt) Try.underlying23 rfl (by kernel_rfl)) hS0 ?_
              simp only [Act.put, List.setIfInBounds_toArray, List.set_cons_zero, List.set_cons_succ]
              refine th_one (i := 24) rfl (by kernel_rfl) (fun K hK => ?_)
              rw [if_pos (by rfl)]
              go_simp
              refine (unhide HVC _).mono ?_
              rintro e w9 ⟨rfl, hb9⟩
              have hS9 : Below wc.heap.size wc w9 := hS0.trans (hb9.mono hS0.size)
              refine hK.out _ _ hS9 (fun _ => ?_)
              clear hK K
              try simp only [Act.put, List.setIfInBounds_toArray, List.set_cons_zero, List.set_cons_succ]
              clear hS0
              have hS0 := hS9
              refine th_take (i := 25) (v := ?_) rfl (by kernel_rfl) (by kernel_rfl) (by kernel_rfl) (Or.inl ⟨by rfl, fun w hSw => ?_⟩) hS0 ?_
              rotate_left
              · go_simp
                with_reducible rfl
              simp only [Act.put, List.setIfInBounds_toArray, List.set_cons_zero, List.set_cons_succ]
              refine th_take (i := 26) (v := ?_) rfl (by kernel_rfl) (by kernel_rfl) (by kernel_rfl) (Or.inl ⟨by rfl, fun w hSw => ?_⟩) hS0 ?_
              rotate_left
              · go_simp
                with_reducible rfl
              simp only [Act.put, List.setIfInBounds_toArray, List.set_cons_zero, List.set_cons_succ]
              refine th_take (i := 27) (v := ?_) rfl (by kernel_rfl) (by kernel_rfl) (by kernel_rfl) (Or.inl ⟨by rfl, fun w hSw => ?_⟩) hS0 ?_
              rotate_left
              · go_simp
                with_reducible rfl
              simp only [Act.put, List.setIfInBounds_toArray, List.set_cons_zero, List.set_cons_succ]
              refine th_take (i := 28) (v := ?_) rfl (by kernel_rfl) (by kernel_rfl) (by kernel_rfl) (Or.inl ⟨by rfl, fun w hSw => ?_⟩) hS0 ?_
              rotate_left
              · go_simp
                with_reducible rfl
              simp only [Act.put, List.setIfInBounds_toArray, List.set_cons_zero, List.set_cons_succ]
              refine th_take (i := 29) (v := .bool true) rfl (by kernel_rfl) (by kernel_rfl) (by kernel_rfl) (Or.inl ⟨by rfl, fun w hSw => ?_⟩) hS0 ?_
              · have hc := unhide F82 w hSw
                go_simp
              simp only [Act.put, List.setIfInBounds_toArray, List.set_cons_zero, List.set_cons_succ]
              refine th_take (i := 30) (v := ?_) rfl (by kernel_rfl) (by kernel_rfl) (by kernel_rfl) (Or.inl ⟨by rfl, fun w hSw => ?_⟩) hS0 ?_
              rotate_left
              · go_simp
                with_reducible rfl
              simp only [Act.put, List.setIfInBounds_toArray, List.set_cons_zero, List.set_cons_succ]
              refine th_take (i := 31) (v := ?_) rfl (by kernel_rfl) (by kernel_rfl) (by kernel_rfl) (Or.inl ⟨by rfl, fun w hSw => ?_⟩) hS0 ?_
              rotate_left
              · go_simp
                with_reducible rfl
              simp only [Act.put, List.setIfInBounds_toArray, List.set_cons_zero, List.set_cons_succ]
              refine th_take (i := 32) (v := ?_) rfl (by kernel_rfl) (by kernel_rfl) (by kernel_rfl) (Or.inl ⟨by rfl, fun w hSw => ?_⟩) hS0 ?_
              rotate_left
              · go_simp
                with_reducible rfl
              simp only [Act.put, List.setIfInBounds_toArray, List.set_cons_zero, List.set_cons_succ]
              refine th_take (i := 33) (v := ?_) rfl (by kernel_rfl) (by kernel_rfl) (by kernel_rfl) (Or.inl ⟨by rfl, fun w hSw => ?_⟩) hS0 ?_
              rotate_left
              · go_simp
                with_reducible rfl
              simp only [Act.put, List.setIfInBounds_toArray, List.set_cons_zero, List.set_cons_succ]
              refine th_take (i := 34) (v := ?_) rfl (by kernel_rfl) (by kernel_rfl) (by kernel_rfl) (Or.inl ⟨by rfl, fun w hSw => ?_⟩) hS0 ?_
              rotate_left
              · go_simp
                with_reducible rfl
              simp only [Act.put, List.setIfInBounds_toArray, List.set_cons_zero, List.set_cons_succ]
              refine th_take (i := 35) (v := .bool true) rfl (by kernel_rfl) (by kernel_rfl) (by kernel_rfl) (Or.inl ⟨by rfl, fun w hSw => ?_⟩) hS0 ?_
              · have hc := unhide FE w hSw
                go_simp
              simp only [Act.put, List.setIfInBounds_toArray, List.set_cons_zero, List.set_cons_succ]
              refine th_take (i := 36) (v := ?_) rfl (by kernel_rfl) (by kernel_rfl) (by kernel_rfl) (Or.inl ⟨by rfl, fun w hSw => ?_⟩) hS0 ?_
              rotate_left
              · go_simp
                with_reducible rfl
              simp only [Act.put, List.setIfInBounds_toArray, List.set_cons_zero, List.set_cons_succ]
              refine th_take (i := 37) (v := ?_) rfl (by kernel_rfl) (by kernel_rfl) (by kernel_rfl) (Or.inl ⟨by rfl, fun w hSw => ?_⟩) hS0 ?_
              rotate_left
              · go_simp
                with_reducible rfl
              simp only [Act.put, List.setIfInBounds_toArray, List.set_cons_zero, List.set_cons_succ]
              refine th_take (i := 38) (v := ?_) rfl (by kernel_rfl) (by kernel_rfl) (by kernel_rfl) (Or.inl ⟨by rfl, fun w hSw => ?_⟩) hS0 ?_
              rotate_left
              · go_simp
                with_reducible rfl
              simp only [Act.put, List.setIfInBounds_toArray, List.set_cons_zero, List.set_cons_succ]
              refine wpAnyH_done (by kernel_rfl) (NoPanic.normal ?_) _
              have HX5 := hide hS9
              clear hS9 hS0 hb9
              have H9 := hide ((unhide H7).below (unhide HX5) (unhide H7).lt)
              have B9 := hide ((unhide HBX).trans ((unhide HX5).mono (unhide HBX).size))
              have N9 := hide ((unhide HN).below (unhide HX5) (unhide HN).lt)
              go_wp2_with (first
                | (refine wpList_load_row rfl 23 _ rfl g7 rfl 23 _ _ _ (unhide H9) Try.underlying23 rfl (by kernel_rfl) ?_)
                | (refine wpList_store_blk rfl 23 (.tmp 3) (.tmp 98) rfl w1.heap.size 23 _ z.c rfl rfl (unhide N9) rfl (by kernel_rfl) (HH.one _) ?_
                   intro we hbe hge
                   have HE := hide hbe
                   have BE := hide ((unhide B9).grown hge (unhide B9).size (fun g e => by injection e with e; omega))
                   clear hbe hge)
                | fail)
              go_roundw
              case rel => exact ⟨k + 1, by omega, by omega, by go_num, z, HZV.out, unhide HE, unhide BE⟩
              case measure => simp [intOf]; omega
    · have hn2 : k = n ∨ k = 200 := by omega
      have BJ := hide hB
      clear hB hb
      rcases hn2 with rfl | rfl
      · have hd1 : decide (k < k) = false := by simp
        go_wp2_with fail
        go_ret
        exact ⟨rfl, unhide BJ⟩
      · rw [show ((200 : Nat) : Int) = 200 from rfl]
        by_cases hn3 : 200 < n
        · have hd1 : decide (200 < n) = true := by simpa using hn3
          go_wp2_with fail
          go_ret
          exact ⟨rfl, unhide BJ⟩
        · have hd1 : decide (200 < n) = false := by simpa using hn3
          go_wp2_with fail
          go_ret
          exact ⟨rfl, unhide BJ⟩
end Go.Proofs.Ytldpfdfbefebeaa
