/- the law SessionShifts walked (printed by wip/gen_sshifts.py). -/
import Derived.Test.YtfbkkmnkpjgciaaSAwake
namespace Go.Proofs.Ytfbkkmnkpjgciaa
open Go.RowKit
theorem step_mapput {P : Program} {l : List Oper} {o : Oper} {a : Act} {w w' : World} {K : Act → World → Prop} {Q : Exit → Act → World → Prop} {E : Prop} (hw : Region.wanted o (yielded l.toArray a.tmps) = true) (t : TypeId) (m x v : Operand) (ho : o.op = .mapUpdate t m x v) (mv xv vv : Value) (hm : a.eval m = mv) (hx : a.eval x = xv) (hv : a.eval v = vv)
    (hr : (Instr.mapUpdate t mv xv vv).run P w = .ok () w') (hk : K (a.put o.dst undef) w') : if Region.wanted o (yielded l.toArray a.tmps) = true then Oper.wp P o a w K Q else E := by
  rw [if_pos hw]
  unfold Oper.wp execOp
  simp only [ho, hm, hx, hv, Sem.run_bind, Sem.run_pure, Result.andThen_ok, hr]
  exact hk
def u32V (zs : List Nat) : List Value := zs.map fun (z : Nat) => Value.int .u32 (z : Int)
set_option maxRecDepth 100000 in
set_option maxHeartbeats 16000000 in
theorem shifts_sx (w : World) (h0 s0 : Nat) (hh0 : h0 < 4294967296) (hs0 : s0 < 4294967296) (A : Option Addr) (n c : Nat) (zs : List Nat) (hz : ∀ z ∈ zs, z < 4294967296) (hr : Reads w w.heap.size 1 A n (u32V zs)) (hnc : n ≤ c) (hcm : c ≤ maxLen) (n0 : Nat) (hn0 : n0 < 4294967296) :
    Calls Try.prog 3 #[.agg #[.int .u32 (h0 : Int), .int .u32 (s0 : Int)], .slice A n c, .int .u32 (n0 : Int)] w fun e w' => e = .returned (.bool true) ∧ Below w.heap.size w w' := by
  have K0 : Hid (Blk (w.alloc (.cells #[.int .u32 (h0 : Int), .int .u32 (s0 : Int)] 24)) w.heap.size 24 #[.int .u32 (h0 : Int), .int .u32 (s0 : Int)]) := hide (Blk.new w _ _)
  have B0 : Hid (Below w.heap.size w (w.alloc (.cells #[.int .u32 (h0 : Int), .int .u32 (s0 : Int)] 24))) := hide ((Below.refl _ _).alloc (Nat.le_refl _) _)
  have HR := hide hr
  have HZ := hide hz
  have hnm : (n : Int) ≤ 9223372036854775807 := by unfold maxLen at hcm; omega
  clear hr hz
  go_enter Try.func3, Try.ntmps3
  go_wp2_with fail
  refine (awake_sx _).mono ?_
  rintro e w1 ⟨rfl, hb1⟩
  have J1 := hide ((unhide K0).below hb1 (unhide K0).lt)
  have X1 := hide ((unhide B0).trans (hb1.mono (unhide B0).size))
  have hs1 : w.heap.size < w1.heap.size := (unhide J1).lt
  clear hb1
  by_cases h200 : 200 < n
  · have e1 : ((200 : Int) < (n : Int)) = True := by simp; omega
    go_wp2_with fail
    go_ret
    exact ⟨rfl, unhide X1⟩
  have e1 : ((200 : Int) < (n : Int)) = False := by simp; omega
  obtain ⟨⟨a1, b1, c1⟩, hp⟩ : ∃ p, shiftF h0 s0 n0 = p := ⟨_, rfl⟩
  have HS1 := hide (fun W => hp ▸ shift_sx W h0 s0 n0 hh0 hs0 hn0)
  have HS2 := hide (fun W => hp ▸ rshift_sx W h0 s0 n0 hh0 hs0 hn0)
  clear hp
  go_wp2_with (first
    | (refine wpList_load_row rfl 24 _ rfl w.heap.size rfl 24 _ _ _ (unhide J1) Try.underlying24 rfl (by kernel_rfl) ?_)
    | fail)
  refine (unhide HS1 w1).mono ?_
  rintro e w2 ⟨he, hb2⟩
  obtain rfl : e = .returned (.tuple #[.agg #[.int .u32 (a1 : Int), .int .u32 (b1 : Int)], .int .i64 c1]) := he
  have J2 := hide (((unhide J1).below hb2 (unhide J1).lt).alloc (.cells #[.int .u32 0, .int .u32 0] 24))
  have Q2 := hide (Blk.new w2 24 #[.int .u32 0, .int .u32 0])
  have X2 := hide (((unhide X1).trans (hb2.mono (unhide X1).size)).alloc (by have := hb2.size; omega) (.cells #[.int .u32 0, .int .u32 0] 24))
  have hs2 : w1.heap.size ≤ w2.heap.size := hb2.size
  clear hb2
  go_upto_region 6 with (first
    | (refine wpList_alloc_to rfl 24 rfl _ w2.heap.size rfl (alloc_win _) ?_)
    | (refine wpList_store_blk rfl 24 (.tmp 7) (.tmp 28) rfl w2.heap.size 24 _ #[.int .u32 (a1 : Int), .int .u32 (b1 : Int)] rfl rfl (unhide Q2) rfl (by kernel_rfl) (by intro v hv; simp at hv; rcases hv with rfl | rfl <;> rfl) ?_
       intro w3 hb hg
       have Q3 := hide hb
       have J3 := hide ((unhide J2).grown hg (fun e => by injection e with e; omega))
       have X3 := hide ((unhide X2).grown hg (unhide X2).size (fun j e => by injection e with e; omega))
       have hs3 : w2.heap.size < w3.heap.size := hb.lt
       clear hb hg)
    | fail)
  go_wp2_with (first
    | (refine wpList_load_row rfl 24 _ rfl w.heap.size rfl 24 _ _ _ (unhide J3) Try.underlying24 rfl (by kernel_rfl) ?_)
    | fail)
  refine (unhide HS2 w3).mono ?_
  rintro e w4 ⟨he, hb4⟩
  obtain rfl : e = .returned (.tuple #[.agg #[.int .u32 (a1 : Int), .int .u32 (b1 : Int)], .int .i64 c1]) := he
  have Q4 := hide (((unhide Q3).below hb4 (unhide Q3).lt).alloc (.cells #[.int .u32 0, .int .u32 0] 24))
  have P4 := hide (Blk.new w4 24 #[.int .u32 0, .int .u32 0])
  have X4 := hide (((unhide X3).trans (hb4.mono (unhide X3).size)).alloc (by have := hb4.size; omega) (.cells #[.int .u32 0, .int .u32 0] 24))
  have hs4 : w3.heap.size ≤ w4.heap.size := hb4.size
  clear hb4
  go_upto_region 7 with (first
    | (refine wpList_alloc_to rfl 24 rfl _ w4.heap.size rfl (alloc_win _) ?_)
    | (refine wpList_store_blk rfl 24 (.tmp 9) (.tmp 34) rfl w4.heap.size 24 _ #[.int .u32 (a1 : Int), .int .u32 (b1 : Int)] rfl rfl (unhide P4) rfl (by kernel_rfl) (by intro v hv; simp at hv; rcases hv with rfl | rfl <;> rfl) ?_
       intro w5 hb hg
       have P5 := hide hb
       have Q5 := hide ((unhide Q4).grown hg (fun e => by injection e with e; omega))
       have X5 := hide ((unhide X4).grown hg (unhide X4).size (fun j e => by injection e with e; omega))
       have hs5 : w4.heap.size < w5.heap.size := hb.lt
       clear hb hg)
    | fail)
  have eqc : (c1 != c1) = false := by simp
  have q0 : w5.cell? ⟨w2.heap.size, 0, none⟩ = some (.int .u32 (a1 : Int)) := (unhide Q5).cell 0
  have q1 : w5.cell? ⟨w2.heap.size, 1, none⟩ = some (.int .u32 (b1 : Int)) := (unhide Q5).cell 1
  have r0 : w5.cell? ⟨w4.heap.size, 0, none⟩ = some (.int .u32 (a1 : Int)) := (unhide P5).cell 0
  have r1 : w5.cell? ⟨w4.heap.size, 1, none⟩ = some (.int .u32 (b1 : Int)) := (unhide P5).cell 1
  go_upto_region 9 with fail
  clear q0 q1 r0 r1 eqc
  have hmm : (Instr.makeMap 30 none).run Try.prog (w5.alloc (.cells #[.int .u32 0, .int .u32 0] 24)) = .ok (.map (some (w5.heap.size + 1))) ((w5.alloc (.cells #[.int .u32 0, .int .u32 0] 24)).alloc (.map #[] 0)) := by rw [run_makeMap, size_alloc]
  have KW : Hid (Blk ((w5.alloc (.cells #[.int .u32 0, .int .u32 0] 24)).alloc (.map #[] 0)) w5.heap.size 24 #[.int .u32 0, .int .u32 0]) := hide ((Blk.new w5 _ _).alloc _)
  have KM : Hid (Taken ((w5.alloc (.cells #[.int .u32 0, .int .u32 0] 24)).alloc (.map #[] 0)) (w5.heap.size + 1) 0 (fun _ => false)) := hide (by have := Taken.made (w5.alloc (.cells #[.int .u32 0, .int .u32 0] 24)); rwa [size_alloc] at this)
  have X6 : Hid (Below w.heap.size w ((w5.alloc (.cells #[.int .u32 0, .int .u32 0] 24)).alloc (.map #[] 0))) := hide (((unhide X5).alloc (unhide X5).size _).alloc (by rw [size_alloc]; have := (unhide X5).size; omega) _)
  have hs6 : w.heap.size < w5.heap.size := by omega
  clear J1 J2 J3 Q2 Q3 Q4 Q5 P4 P5 X1 X2 X3 X4 X5 K0 B0 HS1 HS2 hs1 hs2 hs3 hs4 hs5
  go_wp2_with (first
    | (refine wpList_alloc_to rfl 24 rfl _ w5.heap.size rfl (alloc_win _) ?_)
    | fail)
  go_loopw [47] (fun i wr => ∃ (k h s m : Nat) (T : Nat → Bool), i = .int .i64 k ∧ k ≤ n ∧ h < 4294967296 ∧ s < 4294967296 ∧ m ≤ k ∧ WinInv h s T ∧ Blk wr w5.heap.size 24 #[.int .u32 (h : Int), .int .u32 (s : Int)] ∧ Taken wr (w5.heap.size + 1) m T ∧ Below w.heap.size w wr) (fun i _ => n - (intOf i).toNat)
  case atStart => exact ⟨0, 0, 0, 0, _, rfl, by omega, by omega, by omega, by omega, WinInv.start _ _, unhide KW, unhide KM, unhide X6⟩
  case round =>
    obtain ⟨k, h, s, m, T, rfl, hk, hh, hsl, hmk, hinv, hbw, htk, hbx⟩ := hrel
    have BW := hide hbw
    have TK := hide htk
    have BX := hide hbx
    have HINV := hide hinv
    clear hbw htk hbx hinv hmm KW KM X6
    by_cases hlt : k < n
    · obtain ⟨g, oo, hA, hgl, hcell⟩ := spot_any (unhide HR) (by omega) (by decide)
      have hzl : zs.length = n := by have := (unhide HR).1; simpa [u32V] using this
      obtain ⟨x, hx⟩ : ∃ x, zs[k]? = some x := ⟨_, List.getElem?_eq_getElem (by omega)⟩
      have hxl : x < 4294967296 := unhide HZ x (List.mem_of_getElem? hx)
      have cx : wr.cell? ⟨g, oo + k, none⟩ = some (.int .u32 (x : Int)) := ((unhide BX).cell (p := ⟨g, oo + k, none⟩) hgl).trans (hcell k _ (by simp [u32V, hx]))
      have ch0 : wr.cell? ⟨w5.heap.size, 0, none⟩ = some (.int .u32 (h : Int)) := (unhide BW).cell 0
      have hlt2 : (k : Int) < (n : Int) := by omega
      subst hA
      clear hcell hx hzl
      go_upto_if 52 with fail
      go_cut [14] from 48 to 102 (fun v W => ∃ y : Nat, y < 4294967296 ∧ v = .int .u32 (y : Int) ∧ Blk W w5.heap.size 24 #[.int .u32 (h : Int), .int .u32 (s : Int)] ∧ Taken W (w5.heap.size + 1) m T ∧ Below w.heap.size w W)
      case first =>
        by_cases hx1 : 1000 < x
        · have e2 : ((1000 : Int) < (x : Int)) = True := by simp; omega
          go_wp2_with fail
          go_meet
          exact ⟨(((h : Int) + (x : Int) % 80) % 4294967296 - 40).toNat % 4294967296 + (if (((h : Int) + (x : Int) % 80) % 4294967296 - 40) < 0 then ((((h : Int) + (x : Int) % 80) % 4294967296 - 40) % 4294967296).toNat else 0), by split <;> omega, congrArg (Value.int .u32) (by split <;> omega), unhide BW, unhide TK, unhide BX⟩
        · have e2 : ((1000 : Int) < (x : Int)) = False := by simp; omega
          go_wp2_with fail
          go_meet
          exact ⟨x, hxl, rfl, unhide BW, unhide TK, unhide BX⟩
      case rest =>
        obtain ⟨y, hy, rfl, hbw, htk, hbx⟩ := hcut
        have BWc := hide hbw
        have TKc := hide htk
        have BXc := hide hbx
        clear hbw htk hbx BW TK BX cx ch0
        obtain ⟨⟨h', s', c'⟩, hp⟩ : ∃ p, shiftF h s y = p := ⟨_, rfl⟩
        have hcode := shift_codes h s y
        have honce := fun ht => shift_once (n := y) (unhide HINV) ht
        have hstep := shift_inv (n := y) (unhide HINV)
        have hlt' := shiftF_lt h s y hh hsl hy
        rw [hp] at hcode honce hstep hlt'
        dsimp only at hcode honce hstep hlt'
        have HS1 := hide (fun W => hp ▸ shift_sx W h s y hh hsl hy)
        have HS2 := hide (fun W => hp ▸ rshift_sx W h s y hh hsl hy)
        have HC := hide hcode
        have HON := hide honce
        have HST := hide hstep
        have HLT := hide hlt'
        clear hp hcode honce hstep hlt'
        go_wp2_with (first
          | (refine wpList_load_row rfl 24 _ rfl w5.heap.size rfl 24 _ _ _ (unhide BWc) Try.underlying24 rfl (by kernel_rfl) ?_)
          | fail)
        refine (unhide HS1 wc).mono ?_
        rintro e v2 ⟨he, hb2⟩
        obtain rfl : e = .returned (.tuple #[.agg #[.int .u32 (h' : Int), .int .u32 (s' : Int)], .int .i64 c']) := he
        have B2 := hide (((unhide BWc).below hb2 (unhide BWc).lt).alloc (.cells #[.int .u32 0, .int .u32 0] 24))
        have T2 := hide (((unhide TKc).below hb2 (unhide TKc).lt).kept (World.grownBy_alloc v2 (.cells #[.int .u32 0, .int .u32 0] 24) none) (by simp))
        have Q2 := hide (Blk.new v2 24 #[.int .u32 0, .int .u32 0])
        have X2 := hide (((unhide BXc).trans (hb2.mono (unhide BXc).size)).alloc (by have := hb2.size; have := (unhide BXc).size; omega) (.cells #[.int .u32 0, .int .u32 0] 24))
        have hs2 : wc.heap.size ≤ v2.heap.size := hb2.size
        have hm2 := (unhide TKc).lt
        have hwm := (unhide BXc).size
        clear hb2
        go_upto_region 17 with (first
          | (refine wpList_alloc_to rfl 24 rfl _ v2.heap.size rfl (alloc_win _) ?_)
          | (refine wpList_store_blk rfl 24 (.tmp 15) (.tmp 63) rfl v2.heap.size 24 _ #[.int .u32 (h' : Int), .int .u32 (s' : Int)] rfl rfl (unhide Q2) rfl (by kernel_rfl) (by intro v hv; simp at hv; rcases hv with rfl | rfl <;> rfl) ?_
             intro v3 hb hg
             have Q3 := hide hb
             have B3 := hide ((unhide B2).grown hg (fun e => by injection e with e; omega))
             have T3 := hide ((unhide T2).kept hg (fun e => by injection e with e; omega))
             have X3 := hide ((unhide X2).grown hg (unhide X2).size (fun j e => by injection e with e; omega))
             have hs3 : v2.heap.size < v3.heap.size := hb.lt
             clear hb hg)
          | fail)
        go_wp2_with (first
          | (refine wpList_load_row rfl 24 _ rfl w5.heap.size rfl 24 _ _ _ (unhide B3) Try.underlying24 rfl (by kernel_rfl) ?_)
          | fail)
        refine (unhide HS2 v3).mono ?_
        rintro e v4 ⟨he, hb4⟩
        obtain rfl : e = .returned (.tuple #[.agg #[.int .u32 (h' : Int), .int .u32 (s' : Int)], .int .i64 c']) := he
        have Q4 := hide (((unhide Q3).below hb4 (unhide Q3).lt).alloc (.cells #[.int .u32 0, .int .u32 0] 24))
        have B4 := hide (((unhide B3).below hb4 (unhide B3).lt).alloc (.cells #[.int .u32 0, .int .u32 0] 24))
        have T4 := hide (((unhide T3).below hb4 (unhide T3).lt).kept (World.grownBy_alloc v4 (.cells #[.int .u32 0, .int .u32 0] 24) none) (by simp))
        have P4 := hide (Blk.new v4 24 #[.int .u32 0, .int .u32 0])
        have X4 := hide (((unhide X3).trans (hb4.mono (unhide X3).size)).alloc (by have := hb4.size; omega) (.cells #[.int .u32 0, .int .u32 0] 24))
        have hs4 : v3.heap.size ≤ v4.heap.size := hb4.size
        clear hb4
        go_upto_region 18 with (first
          | (refine wpList_alloc_to rfl 24 rfl _ v4.heap.size rfl (alloc_win _) ?_)
          | (refine wpList_store_blk rfl 24 (.tmp 17) (.tmp 69) rfl v4.heap.size 24 _ #[.int .u32 (h' : Int), .int .u32 (s' : Int)] rfl rfl (unhide P4) rfl (by kernel_rfl) (by intro v hv; simp at hv; rcases hv with rfl | rfl <;> rfl) ?_
             intro v5 hb hg
             have P5 := hide hb
             have Q5 := hide ((unhide Q4).grown hg (fun e => by injection e with e; omega))
             have B5 := hide ((unhide B4).grown hg (fun e => by injection e with e; omega))
             have T5 := hide ((unhide T4).kept hg (fun e => by injection e with e; omega))
             have X5 := hide ((unhide X4).grown hg (unhide X4).size (fun j e => by injection e with e; omega))
             have hs5 : v4.heap.size < v5.heap.size := hb.lt
             clear hb hg)
          | fail)
        have q0 : v5.cell? ⟨v2.heap.size, 0, none⟩ = some (.int .u32 (h' : Int)) := (unhide Q5).cell 0
        have q1 : v5.cell? ⟨v2.heap.size, 1, none⟩ = some (.int .u32 (s' : Int)) := (unhide Q5).cell 1
        have r0 : v5.cell? ⟨v4.heap.size, 0, none⟩ = some (.int .u32 (h' : Int)) := (unhide P5).cell 0
        have r1 : v5.cell? ⟨v4.heap.size, 1, none⟩ = some (.int .u32 (s' : Int)) := (unhide P5).cell 1
        clear HS1 HS2 Q2 Q3 Q4 P4 B2 B3 B4 T2 T3 T4 X2 X3 X4
        rcases unhide HC with rfl | rfl
        case inr =>
          go_wp2_with fail
          go_roundw
          case rel => exact ⟨k + 1, h, s, m, T, by go_num, by omega, hh, hsl, by omega, unhide HINV, unhide B5, unhide T5, unhide X5⟩
          case measure => simp [intOf]; omega
        case inl =>
          have hT : T y = false := by
            cases e : T y with
            | false => rfl
            | true => exact absurd (unhide HON e) (by decide)
          obtain ⟨hle, hinv'⟩ := unhide HST rfl
          obtain ⟨hh', hs'⟩ := unhide HLT
          have HI := hide hinv'
          have hq := (unhide T5).look y hy
          rw [hT] at hq
          have c0 : v5.cell? ⟨w5.heap.size, 0, none⟩ = some (.int .u32 (h : Int)) := (unhide B5).cell 0
          have e3 : ((h' : Int) < (h : Int)) = False := by simp; omega
          clear hinv' hT
          go_upto_region 23 with fail
          clear hq c0 q0 q1 r0 r1
          have hne : v2.heap.size ≠ w5.heap.size + 1 := by omega
          obtain ⟨v6, hput, ht6, hg6⟩ := (show Taken v5.drew (w5.heap.size + 1) m T from unhide T5).put y hy (by unfold maxLen; omega)
          have hB0 : Below v5.heap.size v5 v5.drew := (Below.refl _ _).drew
          have hS0 : (fun wz => Blk wz v2.heap.size 24 #[.int .u32 (h' : Int), .int .u32 (s' : Int)]) v5.drew := unhide Q5
          refine wp_region_noPanic (wp_region_held_drew (S := fun wz => Blk wz v2.heap.size 24 #[.int .u32 (h' : Int), .int .u32 (s' : Int)]) (by kernel_rfl) hS0 (fun _ => ?_))
          refine th_take (i := 0) (v := ?_) rfl (by kernel_rfl) (by kernel_rfl) (by kernel_rfl) (Or.inl ⟨by rfl, fun wz hSw => ?_⟩) hS0 ?_
          rotate_left
          · go_simp
            with_reducible rfl
          simp only [Act.put, List.setIfInBounds_toArray, List.set_cons_zero, List.set_cons_succ]
          refine th_take (i := 1) (v := ?_) rfl (by kernel_rfl) (by kernel_rfl) (by kernel_rfl) (Or.inl ⟨by rfl, fun wz hSw => ?_⟩) hS0 ?_
          rotate_left
          · go_simp
            with_reducible rfl
          simp only [Act.put, List.setIfInBounds_toArray, List.set_cons_zero, List.set_cons_succ]
          refine th_take (i := 2) rfl (by kernel_rfl) (by kernel_rfl) (by kernel_rfl) (y_loadblk 24 (.tmp 15) (by rfl) rfl v2.heap.size rfl 24 #[.int .u32 (h' : Int), .int .u32 (s' : Int)] _ (fun _ h => h) Try.underlying24 rfl (by kernel_rfl)) hS0 ?_
          simp only [Act.put, List.setIfInBounds_toArray, List.set_cons_zero, List.set_cons_succ]
          refine th_one (i := 3) rfl (by kernel_rfl) (fun K hK => ?_)
          refine step_mapput (by rfl) 30 (.tmp 99) (.tmp 100) (.const (.bool true)) rfl _ _ _ rfl rfl rfl hput ?_
          have q6 : Blk v6 v2.heap.size 24 #[.int .u32 (h' : Int), .int .u32 (s' : Int)] := Blk.grown (w := v5.drew) (unhide Q5) hg6 (fun e => by injection e with e; omega)
          have b6 : Blk v6 w5.heap.size 24 #[.int .u32 (h : Int), .int .u32 (s : Int)] := Blk.grown (w := v5.drew) (unhide B5) hg6 (fun e => by injection e with e; omega)
          have x6 : Below w.heap.size w v6 := (unhide X5).drew.grown hg6 (unhide X5).size (fun j e => by injection e with e; omega)
          refine hK.out _ _ q6 (fun _ => ?_)
          clear hK K
          try simp only [Act.put]
          refine th_one (i := 4) rfl (by kernel_rfl) (fun K hK => ?_)
          refine step_store_blk (by rfl) 24 (.tmp 11) (.tmp 101) rfl w5.heap.size 24 _ #[.int .u32 (h' : Int), .int .u32 (s' : Int)] rfl rfl b6 rfl (by kernel_rfl) (by intro v hv; simp at hv; rcases hv with rfl | rfl <;> rfl) ?_
          intro v7 hb7 hg7
          have q7 := q6.grown hg7 (fun e => by injection e with e; omega)
          have t7 := ht6.kept hg7 (fun e => by injection e with e; omega)
          have x7 := x6.grown hg7 x6.size (fun j e => by injection e with e; omega)
          refine hK.out _ _ q7 (fun _ => ?_)
          clear hK K
          try simp only [Act.put]
          refine wpAnyH_done (by kernel_rfl) (NoPanic.normal ?_) _
          have B7 := hide hb7
          have T7 := hide t7
          have X7 := hide x7
          clear hb7 t7 x7 hg7 q7 x6 b6 q6 hg6 ht6 hput hS0 hB0
          go_wp2_with fail
          go_roundw
          case rel => exact ⟨k + 1, h', s', m + 1, _, by go_num, by omega, hh', hs', by omega, unhide HI, unhide B7, unhide T7, unhide X7⟩
          case measure => simp [intOf]; omega
    · obtain rfl : k = n := by omega
      go_wp2_with fail
      go_ret
      exact ⟨rfl, unhide BX⟩
end Go.Proofs.Ytfbkkmnkpjgciaa
