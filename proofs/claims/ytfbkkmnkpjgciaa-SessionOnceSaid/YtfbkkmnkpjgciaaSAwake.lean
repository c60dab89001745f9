/- awake() is true (printed by wip/gen_sawake2.py). -/
import Derived.Test.YtfbkkmnkpjgciaaSAwakeM
namespace Go.Proofs.Ytfbkkmnkpjgciaa
open Go.RowKit
set_option maxRecDepth 100000 in
set_option maxHeartbeats 16000000 in
theorem awake_sx (w : World) : Calls Try.prog 5 #[] w fun e w' => e = .returned (.bool true) ∧ Below w.heap.size w w' := by
  have WB : Hid (Blk (((w.alloc (.cells exU0.cs.toArray 39)).alloc (.cells exH0.cs.toArray 42)).alloc (.cells #[.slice none 0 0, .slice none 0 0] 45)) (w.heap.size + 2) 45 #[.slice none 0 0, .slice none 0 0]) := hide (Blk.new' (by simp))
  have WU : Hid (Blk (((w.alloc (.cells exU0.cs.toArray 39)).alloc (.cells exH0.cs.toArray 42)).alloc (.cells #[.slice none 0 0, .slice none 0 0] 45)) w.heap.size 39 exU0.cs.toArray) := hide (((Blk.new w 39 exU0.cs.toArray).alloc _).alloc _)
  have WH : Hid (Blk (((w.alloc (.cells exU0.cs.toArray 39)).alloc (.cells exH0.cs.toArray 42)).alloc (.cells #[.slice none 0 0, .slice none 0 0] 45)) (w.heap.size + 1) 42 exH0.cs.toArray) := hide ((Blk.new' (by simp)).alloc _)
  have WX : Hid (Below w.heap.size w (((w.alloc (.cells exU0.cs.toArray 39)).alloc (.cells exH0.cs.toArray 42)).alloc (.cells #[.slice none 0 0, .slice none 0 0] 45))) := hide ((((Below.refl _ _).alloc (Nat.le_refl _) _).alloc (by rw [size_alloc]; omega) _).alloc (by rw [size_alloc2]; omega) _)
  go_enter Try.func5, Try.ntmps5
  go_upto_region 2 with (first
    | (refine wpList_build_cs rfl 36 _ rfl [(0, .int .u8 7)] rfl _ build_k7 ?_)
    | (refine wpList_build_cs rfl 39 _ rfl [(0, .string ⟨opN.toArray⟩), (1, .agg (bsV k7).toArray), (2, .bool true), (3, .int .i64 2)] rfl _ build_u0 ?_)
    | (refine wpList_build_cs rfl 42 _ rfl [(0, .int .i64 1), (1, .int .i64 3)] rfl _ build_h0 ?_)
    | (refine wpList_bslice rfl 40 1 _ rfl [(0, .agg exU0.cs.toArray)] rfl _ _ (run_us w) ?_)
    | (refine wpList_bslice rfl 43 1 _ rfl [(0, .agg exH0.cs.toArray)] rfl _ _ (run_hs _ (w.heap.size + 1) (size_alloc _ _)) ?_)
    | (refine wpList_alloc_to rfl 45 rfl _ (w.heap.size + 2) (size_alloc2 _ _ _) (alloc_acc _) ?_)
    | (refine wpList_store_blk rfl 45 (.tmp 1) (.tmp 20) rfl (w.heap.size + 2) 45 _ #[.slice (some ⟨w.heap.size, 0, none⟩) 1 1, .slice (some ⟨w.heap.size + 1, 0, none⟩) 1 1] rfl rfl (unhide WB) rfl (by kernel_rfl) (by intro v hv; simp at hv; rcases hv with rfl | rfl <;> rfl) ?_
       intro w1 hb1 hg1
       have A1 := hide hb1
       have U1 := hide ((unhide WU).grown hg1 (fun e => by injection e with e; omega))
       have H1 := hide ((unhide WH).grown hg1 (fun e => by injection e with e; omega))
       have X1 := hide ((unhide WX).grown hg1 (unhide WX).size (fun j e => by injection e with e; omega))
       clear hb1 hg1)
    | fail)
  go_wp2_with (first
    | (refine wpList_build_cs rfl 36 _ rfl [(0, .int .u8 7)] rfl _ build_k7 ?_)
    | fail)
  refine (ex_begin w1).mono ?_
  rintro e w2 ⟨vb, rfl, hob, hb2⟩
  obtain ⟨Ab, cb, hvb, hb1c, hb2c⟩ := slice_of_own hob
  subst hvb
  have hs1 : w.heap.size < w1.heap.size := by have := (unhide A1).lt; omega
  have A2 := hide (((unhide A1).below hb2 (unhide A1).lt).alloc (.cells zCli.cs.toArray 48))
  have U2 := hide (((unhide U1).below hb2 (unhide U1).lt).alloc (.cells zCli.cs.toArray 48))
  have H2 := hide (((unhide H1).below hb2 (unhide H1).lt).alloc (.cells zCli.cs.toArray 48))
  have X2 := hide (((unhide X1).trans (hb2.mono (unhide X1).size)).alloc (by have := (unhide X1).size; have := hb2.size; omega) (.cells zCli.cs.toArray 48))
  have OB2 := hide ((own_more hob (unhide X1).size).alloc (.cells zCli.cs.toArray 48))
  have C2 := hide (Blk.new w2 48 zCli.cs.toArray)
  have hs2 : w1.heap.size ≤ w2.heap.size := hb2.size
  have ha2 := (unhide A1).lt
  have hl1 : exB1.length = 14 := rfl
  clear hb2 hob
  have hsq0 := Cli.size_eq exC0_ok
  go_upto_region 3 with (first
    | (refine wpList_alloc_to rfl 48 rfl _ w2.heap.size rfl (alloc_cli _) ?_)
    | (refine wpList_store_blk rfl 48 (.tmp 2) (.tmp 24) rfl w2.heap.size 48 _ exC0.cs.toArray rfl rfl (unhide C2) hsq0 (cli_info exC0_ok) (fun v hv => Cli.one v (by simpa using hv)) ?_
       intro w3 hb3 hg3
       have C3 := hide hb3
       have A3 := hide ((unhide A2).grown hg3 (fun e => by injection e with e; omega))
       have U3 := hide ((unhide U2).grown hg3 (fun e => by injection e with e; omega))
       have H3 := hide ((unhide H2).grown hg3 (fun e => by injection e with e; omega))
       have X3 := hide ((unhide X2).grown hg3 (unhide X2).size (fun j e => by injection e with e; omega))
       have OB3 := hide (World.ownsRow.kept (unhide OB2) hg3 (.inr (own_blk_ne (unhide OB2) (unhide C2) (by decide))))
       have hs3 : w2.heap.size < w3.heap.size := hb3.lt
       clear hb3 hg3)
    | fail)
  obtain ⟨g2, hg2⟩ : ∃ k, w2.heap.size = k := ⟨_, rfl⟩
  have C3' : Hid (Blk w3 g2 48 exC0.cs.toArray) := hide (hg2 ▸ unhide C3)
  have hs2' : w1.heap.size ≤ g2 := by omega
  have hs3' : g2 < w3.heap.size := by omega
  rw [hg2]
  clear C3 C2 hs3 hs2
  go_cut [3, 5, 6] from 27 to 34 (fun b p e W => ∃ A c Bd bd g5, b = .slice Bd 13 bd ∧ p = .pointer (some ⟨g5, 0, none⟩) ∧ e = .int .i64 0 ∧ Blk W g5 53 #[.slice A 1 c, .int .u32 2] ∧ w3.heap.size ≤ g5 ∧ W.ownsRow w3.heap.size 84 26 (.slice A 1 c) 1 (flatS [exS0]) ∧ W.ownsRow w3.heap.size 5 1 (.slice Bd 13 bd) 13 (bsV exB2) ∧ 13 ≤ bd ∧ bd ≤ maxLen ∧ Below w3.heap.size w3 W)
  case first =>
    have hS0 : Below w3.heap.size w3 w3.drew := (Below.refl _ _).drew
    refine wp_region_noPanic (wp_region_held_drew (S := fun wz => Below w3.heap.size w3 wz) (by kernel_rfl) hS0 (fun _ => ?_))
    refine th_take (i := 1) rfl (by kernel_rfl) (by kernel_rfl) (by kernel_rfl) (y_loadblk 45 (.tmp 1) (by rfl) rfl (w.heap.size + 2) rfl 45 #[.slice (some ⟨w.heap.size, 0, none⟩) 1 1, .slice (some ⟨w.heap.size + 1, 0, none⟩) 1 1] _ (fun _ h => (unhide A3).below h (unhide A3).lt) Try.underlying45 rfl (by kernel_rfl)) hS0 ?_
    simp only [Act.put, List.setIfInBounds_toArray, List.set_cons_zero, List.set_cons_succ]
    refine th_take (i := 2) (v := ?_) rfl (by kernel_rfl) (by kernel_rfl) (by kernel_rfl) (Or.inl ⟨by rfl, fun wz hSw => ?_⟩) hS0 ?_
    rotate_left
    · go_simp
      with_reducible rfl
    simp only [Act.put, List.setIfInBounds_toArray, List.set_cons_zero, List.set_cons_succ]
    refine th_two (i := 0) (j := 8) rfl rfl (by kernel_rfl) (fun K hK => ?_) (fun K hK => ?_)
    · skip
      rw [if_pos (by rfl)]
      go_simp
      refine (new_sx w3.drew).mono ?_
      rintro e wn ⟨rfl, hbn⟩
      have hwn : Below w3.heap.size w3 wn := hS0.trans (hbn.mono hS0.size)
      refine hK.out _ _ hwn (fun _ => ?_)
      clear hK K
      try simp only [Act.put, List.setIfInBounds_toArray, List.set_cons_zero, List.set_cons_succ]
      refine th_two (i := 3) (j := 8) rfl rfl (by kernel_rfl) (fun K hK => ?_) (fun K hK => ?_)
      · skip
        rw [if_pos (by rfl)]
        go_simp
        refine (ex_helloC wn w.heap.size (w.heap.size + 1) ((unhide U3).below hwn (unhide U3).lt) ((unhide H3).below hwn (unhide H3).lt) Ab cb (((Reads.of_own (unhide OB3)).below hwn).more hwn.size) hb1c hb2c).mono ?_
        rintro e wh ⟨A, c, Bd, bd, rfl, ho1, ho2, hc1, hc2, hbn⟩
        have hwh : Below w3.heap.size w3 wh := hwn.trans (hbn.mono hwn.size)
        have ho1 := own_more ho1 hwn.size
        have ho2 := own_more ho2 hwn.size
        refine hK.out _ _ hwh (fun _ => ?_)
        clear hK K
        try simp only [Act.put, List.setIfInBounds_toArray, List.set_cons_zero, List.set_cons_succ]
        refine th_take (i := 4) (v := ?_) rfl (by kernel_rfl) (by kernel_rfl) (by kernel_rfl) (Or.inl ⟨by rfl, fun wz hSw => ?_⟩) hwh ?_
        rotate_left
        · go_simp
          with_reducible rfl
        simp only [Act.put, List.setIfInBounds_toArray, List.set_cons_zero, List.set_cons_succ]
        refine th_take (i := 5) (v := ?_) rfl (by kernel_rfl) (by kernel_rfl) (by kernel_rfl) (Or.inl ⟨by rfl, fun wz hSw => ?_⟩) hwh ?_
        rotate_left
        · go_simp
          with_reducible rfl
        simp only [Act.put, List.setIfInBounds_toArray, List.set_cons_zero, List.set_cons_succ]
        refine th_take (i := 6) (v := ?_) rfl (by kernel_rfl) (by kernel_rfl) (by kernel_rfl) (Or.inl ⟨by rfl, fun wz hSw => ?_⟩) hwh ?_
        rotate_left
        · go_simp
          with_reducible rfl
        simp only [Act.put, List.setIfInBounds_toArray, List.set_cons_zero, List.set_cons_succ]
        refine th_take (i := 7) (v := ?_) rfl (by kernel_rfl) (by kernel_rfl) (by kernel_rfl) (Or.inl ⟨by rfl, fun wz hSw => ?_⟩) hwh ?_
        rotate_left
        · go_simp
          with_reducible rfl
        simp only [Act.put, List.setIfInBounds_toArray, List.set_cons_zero, List.set_cons_succ]
        refine th_one (i := 8) rfl (by kernel_rfl) (fun K hK => ?_)
        have ho1' := ho1
        rw [if_pos (by rfl)]
        obtain ⟨g5, hg5⟩ : ∃ k, (wh).heap.size = k := ⟨_, rfl⟩
        have hz5 : Blk (wh.alloc (.cells #[.slice none 0 0, .int .u32 0] 53)) g5 53 #[.slice none 0 0, .int .u32 0] := by rw [← hg5]; exact Blk.new wh _ _
        have h5g : w3.heap.size ≤ g5 := by rw [← hg5]; exact hwh.size
        refine step_alloc_ 53 rfl (alloc_sl _) ?_
        have ha : Below w3.heap.size w3 (wh.alloc (.cells #[.slice none 0 0, .int .u32 0] 53)) := hwh.alloc hwh.size _
        refine hK.out _ _ ha (fun _ => ?_)
        clear hK K
        try simp only [Act.put, List.setIfInBounds_toArray, List.set_cons_zero, List.set_cons_succ]
        rw [hg5]
        clear hg5
        have ho1 := ho1.alloc (.cells #[.slice none 0 0, .int .u32 0] 53)
        have ho2 := ho2.alloc (.cells #[.slice none 0 0, .int .u32 0] 53)
        refine th_one (i := 9) rfl (by kernel_rfl) (fun K hK => ?_)
        refine step_store_blk (by rfl) 53 (.tmp 5) (.tmp 32) rfl g5 53 _ #[.slice A 1 c, .int .u32 2] rfl rfl hz5 rfl (by kernel_rfl) (by intro v hv; simp at hv; rcases hv with rfl | rfl <;> rfl) ?_
        intro w9 hb9 hg9
        have h9 : Below w3.heap.size w3 w9 := ha.grown hg9 ha.size (fun j e => by injection e with e; omega)
        have ho1 := World.ownsRow.kept ho1 hg9 (.inr (own_blk_ne ho1 hz5 (by decide)))
        have ho2 := World.ownsRow.kept ho2 hg9 (.inr (own_blk_ne ho2 hz5 (by decide)))
        refine hK.out _ _ h9 (fun _ => ?_)
        clear hK K
        try simp only [Act.put]
        refine th_take (i := 10) (v := ?_) rfl (by kernel_rfl) (by kernel_rfl) (by kernel_rfl) (Or.inl ⟨by rfl, fun wz hSw => ?_⟩) h9 ?_
        rotate_left
        · go_simp
          with_reducible rfl
        simp only [Act.put, List.setIfInBounds_toArray, List.set_cons_zero, List.set_cons_succ]
        refine th_take (i := 11) (v := ?_) rfl (by kernel_rfl) (by kernel_rfl) (by kernel_rfl) (Or.inl ⟨by rfl, fun wz hSw => ?_⟩) h9 ?_
        rotate_left
        · go_simp
          with_reducible rfl
        simp only [Act.put, List.setIfInBounds_toArray, List.set_cons_zero, List.set_cons_succ]
        refine wpAnyH_done (by kernel_rfl) (NoPanic.normal ?_) _
        go_wp2_with fail
        go_meet
        exact ⟨A, c, Bd, bd, g5, rfl, rfl, rfl, hb9, h5g, ho1, ho2, hc1, hc2, h9⟩
      · skip
        rw [if_pos (by rfl)]
        obtain ⟨g5, hg5⟩ : ∃ k, (wn).heap.size = k := ⟨_, rfl⟩
        have hz5 : Blk (wn.alloc (.cells #[.slice none 0 0, .int .u32 0] 53)) g5 53 #[.slice none 0 0, .int .u32 0] := by rw [← hg5]; exact Blk.new wn _ _
        have h5g : w3.heap.size ≤ g5 := by rw [← hg5]; exact hwn.size
        refine step_alloc_ 53 rfl (alloc_sl _) ?_
        have ha : Below w3.heap.size w3 (wn.alloc (.cells #[.slice none 0 0, .int .u32 0] 53)) := hwn.alloc hwn.size _
        refine hK.out _ _ ha (fun _ => ?_)
        clear hK K
        try simp only [Act.put, List.setIfInBounds_toArray, List.set_cons_zero, List.set_cons_succ]
        rw [hg5]
        clear hg5
        refine th_one (i := 3) rfl (by kernel_rfl) (fun K hK => ?_)
        rw [if_pos (by rfl)]
        go_simp
        refine (ex_helloC (wn.alloc (.cells #[.slice none 0 0, .int .u32 0] 53)) w.heap.size (w.heap.size + 1) ((unhide U3).below ha (unhide U3).lt) ((unhide H3).below ha (unhide H3).lt) Ab cb (((Reads.of_own (unhide OB3)).below ha).more ha.size) hb1c hb2c).mono ?_
        rintro e wh ⟨A, c, Bd, bd, rfl, ho1, ho2, hc1, hc2, hbn⟩
        have hwh : Below w3.heap.size w3 wh := ha.trans (hbn.mono ha.size)
        have ho1 := own_more ho1 ha.size
        have ho2 := own_more ho2 ha.size
        have hz5 := hz5.below hbn hz5.lt
        refine hK.out _ _ hwh (fun _ => ?_)
        clear hK K
        try simp only [Act.put, List.setIfInBounds_toArray, List.set_cons_zero, List.set_cons_succ]
        refine th_take (i := 4) (v := ?_) rfl (by kernel_rfl) (by kernel_rfl) (by kernel_rfl) (Or.inl ⟨by rfl, fun wz hSw => ?_⟩) hwh ?_
        rotate_left
        · go_simp
          with_reducible rfl
        simp only [Act.put, List.setIfInBounds_toArray, List.set_cons_zero, List.set_cons_succ]
        refine th_take (i := 5) (v := ?_) rfl (by kernel_rfl) (by kernel_rfl) (by kernel_rfl) (Or.inl ⟨by rfl, fun wz hSw => ?_⟩) hwh ?_
        rotate_left
        · go_simp
          with_reducible rfl
        simp only [Act.put, List.setIfInBounds_toArray, List.set_cons_zero, List.set_cons_succ]
        refine th_take (i := 6) (v := ?_) rfl (by kernel_rfl) (by kernel_rfl) (by kernel_rfl) (Or.inl ⟨by rfl, fun wz hSw => ?_⟩) hwh ?_
        rotate_left
        · go_simp
          with_reducible rfl
        simp only [Act.put, List.setIfInBounds_toArray, List.set_cons_zero, List.set_cons_succ]
        refine th_take (i := 7) (v := ?_) rfl (by kernel_rfl) (by kernel_rfl) (by kernel_rfl) (Or.inl ⟨by rfl, fun wz hSw => ?_⟩) hwh ?_
        rotate_left
        · go_simp
          with_reducible rfl
        simp only [Act.put, List.setIfInBounds_toArray, List.set_cons_zero, List.set_cons_succ]
        refine th_one (i := 9) rfl (by kernel_rfl) (fun K hK => ?_)
        refine step_store_blk (by rfl) 53 (.tmp 5) (.tmp 32) rfl g5 53 _ #[.slice A 1 c, .int .u32 2] rfl rfl hz5 rfl (by kernel_rfl) (by intro v hv; simp at hv; rcases hv with rfl | rfl <;> rfl) ?_
        intro w9 hb9 hg9
        have h9 : Below w3.heap.size w3 w9 := hwh.grown hg9 hwh.size (fun j e => by injection e with e; omega)
        have ho1 := World.ownsRow.kept ho1 hg9 (.inr (own_blk_ne ho1 hz5 (by decide)))
        have ho2 := World.ownsRow.kept ho2 hg9 (.inr (own_blk_ne ho2 hz5 (by decide)))
        refine hK.out _ _ h9 (fun _ => ?_)
        clear hK K
        try simp only [Act.put]
        refine th_take (i := 10) (v := ?_) rfl (by kernel_rfl) (by kernel_rfl) (by kernel_rfl) (Or.inl ⟨by rfl, fun wz hSw => ?_⟩) h9 ?_
        rotate_left
        · go_simp
          with_reducible rfl
        simp only [Act.put, List.setIfInBounds_toArray, List.set_cons_zero, List.set_cons_succ]
        refine th_take (i := 11) (v := ?_) rfl (by kernel_rfl) (by kernel_rfl) (by kernel_rfl) (Or.inl ⟨by rfl, fun wz hSw => ?_⟩) h9 ?_
        rotate_left
        · go_simp
          with_reducible rfl
        simp only [Act.put, List.setIfInBounds_toArray, List.set_cons_zero, List.set_cons_succ]
        refine wpAnyH_done (by kernel_rfl) (NoPanic.normal ?_) _
        go_wp2_with fail
        go_meet
        exact ⟨A, c, Bd, bd, g5, rfl, rfl, rfl, hb9, h5g, ho1, ho2, hc1, hc2, h9⟩
    · skip
      rw [if_pos (by rfl)]
      obtain ⟨g5, hg5⟩ : ∃ k, (w3.drew).heap.size = k := ⟨_, rfl⟩
      have hz5 : Blk (w3.drew.alloc (.cells #[.slice none 0 0, .int .u32 0] 53)) g5 53 #[.slice none 0 0, .int .u32 0] := by rw [← hg5]; exact Blk.new w3.drew _ _
      have h5g : w3.heap.size ≤ g5 := by rw [← hg5]; exact hS0.size
      refine step_alloc_ 53 rfl (alloc_sl _) ?_
      have ha : Below w3.heap.size w3 (w3.drew.alloc (.cells #[.slice none 0 0, .int .u32 0] 53)) := hS0.alloc hS0.size _
      refine hK.out _ _ ha (fun _ => ?_)
      clear hK K
      try simp only [Act.put, List.setIfInBounds_toArray, List.set_cons_zero, List.set_cons_succ]
      rw [hg5]
      clear hg5
      refine th_one (i := 0) rfl (by kernel_rfl) (fun K hK => ?_)
      rw [if_pos (by rfl)]
      go_simp
      refine (new_sx (w3.drew.alloc (.cells #[.slice none 0 0, .int .u32 0] 53))).mono ?_
      rintro e wn ⟨rfl, hbn⟩
      have hwn : Below w3.heap.size w3 wn := ha.trans (hbn.mono ha.size)
      refine hK.out _ _ hwn (fun _ => ?_)
      clear hK K
      try simp only [Act.put, List.setIfInBounds_toArray, List.set_cons_zero, List.set_cons_succ]
      have hz5 := hz5.below hbn hz5.lt
      refine th_one (i := 3) rfl (by kernel_rfl) (fun K hK => ?_)
      rw [if_pos (by rfl)]
      go_simp
      refine (ex_helloC wn w.heap.size (w.heap.size + 1) ((unhide U3).below hwn (unhide U3).lt) ((unhide H3).below hwn (unhide H3).lt) Ab cb (((Reads.of_own (unhide OB3)).below hwn).more hwn.size) hb1c hb2c).mono ?_
      rintro e wh ⟨A, c, Bd, bd, rfl, ho1, ho2, hc1, hc2, hbn⟩
      have hwh : Below w3.heap.size w3 wh := hwn.trans (hbn.mono hwn.size)
      have ho1 := own_more ho1 hwn.size
      have ho2 := own_more ho2 hwn.size
      have hz5 := hz5.below hbn hz5.lt
      refine hK.out _ _ hwh (fun _ => ?_)
      clear hK K
      try simp only [Act.put, List.setIfInBounds_toArray, List.set_cons_zero, List.set_cons_succ]
      refine th_take (i := 4) (v := ?_) rfl (by kernel_rfl) (by kernel_rfl) (by kernel_rfl) (Or.inl ⟨by rfl, fun wz hSw => ?_⟩) hwh ?_
      rotate_left
      · go_simp
        with_reducible rfl
      simp only [Act.put, List.setIfInBounds_toArray, List.set_cons_zero, List.set_cons_succ]
      refine th_take (i := 5) (v := ?_) rfl (by kernel_rfl) (by kernel_rfl) (by kernel_rfl) (Or.inl ⟨by rfl, fun wz hSw => ?_⟩) hwh ?_
      rotate_left
      · go_simp
        with_reducible rfl
      simp only [Act.put, List.setIfInBounds_toArray, List.set_cons_zero, List.set_cons_succ]
      refine th_take (i := 6) (v := ?_) rfl (by kernel_rfl) (by kernel_rfl) (by kernel_rfl) (Or.inl ⟨by rfl, fun wz hSw => ?_⟩) hwh ?_
      rotate_left
      · go_simp
        with_reducible rfl
      simp only [Act.put, List.setIfInBounds_toArray, List.set_cons_zero, List.set_cons_succ]
      refine th_take (i := 7) (v := ?_) rfl (by kernel_rfl) (by kernel_rfl) (by kernel_rfl) (Or.inl ⟨by rfl, fun wz hSw => ?_⟩) hwh ?_
      rotate_left
      · go_simp
        with_reducible rfl
      simp only [Act.put, List.setIfInBounds_toArray, List.set_cons_zero, List.set_cons_succ]
      refine th_one (i := 9) rfl (by kernel_rfl) (fun K hK => ?_)
      refine step_store_blk (by rfl) 53 (.tmp 5) (.tmp 32) rfl g5 53 _ #[.slice A 1 c, .int .u32 2] rfl rfl hz5 rfl (by kernel_rfl) (by intro v hv; simp at hv; rcases hv with rfl | rfl <;> rfl) ?_
      intro w9 hb9 hg9
      have h9 : Below w3.heap.size w3 w9 := hwh.grown hg9 hwh.size (fun j e => by injection e with e; omega)
      have ho1 := World.ownsRow.kept ho1 hg9 (.inr (own_blk_ne ho1 hz5 (by decide)))
      have ho2 := World.ownsRow.kept ho2 hg9 (.inr (own_blk_ne ho2 hz5 (by decide)))
      refine hK.out _ _ h9 (fun _ => ?_)
      clear hK K
      try simp only [Act.put]
      refine th_take (i := 10) (v := ?_) rfl (by kernel_rfl) (by kernel_rfl) (by kernel_rfl) (Or.inl ⟨by rfl, fun wz hSw => ?_⟩) h9 ?_
      rotate_left
      · go_simp
        with_reducible rfl
      simp only [Act.put, List.setIfInBounds_toArray, List.set_cons_zero, List.set_cons_succ]
      refine th_take (i := 11) (v := ?_) rfl (by kernel_rfl) (by kernel_rfl) (by kernel_rfl) (Or.inl ⟨by rfl, fun wz hSw => ?_⟩) h9 ?_
      rotate_left
      · go_simp
        with_reducible rfl
      simp only [Act.put, List.setIfInBounds_toArray, List.set_cons_zero, List.set_cons_succ]
      refine wpAnyH_done (by kernel_rfl) (NoPanic.normal ?_) _
      go_wp2_with fail
      go_meet
      exact ⟨A, c, Bd, bd, g5, rfl, rfl, rfl, hb9, h5g, ho1, ho2, hc1, hc2, h9⟩
  case rest =>
    obtain ⟨A, c, Bd, bd, g5, rfl, rfl, rfl, hb9, h5g, ho1, ho2, hc1, hc2, h9⟩ := hcut
    have S4 := hide hb9
    have O4 := hide ho1
    have P4 := hide ho2
    have C4 := hide ((unhide C3').below h9 hs3')
    have X4 := hide ((unhide X3).trans (h9.mono (by omega)))
    have hs4 : w3.heap.size ≤ wc.heap.size := h9.size
    clear hb9 ho1 ho2 h9 OB3 U3 H3 A3 C3'
    clear A2 U2 H2 OB2 X2 A1 U1 H1 X1 WB WU WH WX hsq0
    have h25 : g2 ≠ g5 := by omega
    have g2b : w.heap.size ≤ g2 := by omega
    go_wp2_with (first
      | (refine wpList_load_row rfl 48 _ rfl g2 rfl 48 _ _ _ (unhide C4) Try.underlying48 rfl (cli_info exC0_ok) ?_)
      | fail)
    refine (ex_answer wc Bd bd (Reads.of_own (unhide P4)) hc1).mono ?_
    rintro e w5 ⟨vb, rfl, hob, hb⟩
    rw [show exB3.length = 13 from provF_len _ _ _ _ _ _] at hob
    obtain ⟨Be, be, hvb, he1, he2⟩ := slice_of_own hob
    subst hvb
    have P5 := hide hob
    have S5 := hide ((unhide S4).below hb (unhide S4).lt)
    have C5 := hide ((unhide C4).below hb (unhide C4).lt)
    have X5 := hide ((unhide X4).trans (hb.mono (unhide X4).size))
    have O5 := hide (own_below (unhide O4) hb)
    clear hb hob
    have hsq6 : exC1.cs.toArray.size = exC0.cs.toArray.size := by rw [Cli.size exC1_ok, Cli.size exC0_ok]
    go_upto_region 5 with (first
      | (refine wpList_store_blk rfl 48 (.tmp 2) (.tmp 39) rfl g2 48 _ exC1.cs.toArray rfl rfl (unhide C5) hsq6 (cli_info exC1_ok) (fun v hv => Cli.one v (by simpa using hv)) ?_
         intro w6 hb hg
         have C6 := hide hb
         have S6 := hide ((unhide S5).grown hg (fun e => by injection e with e; omega))
         have O6 := hide (World.ownsRow.kept (unhide O5) hg (.inr (own_blk_ne (unhide O5) (unhide C5) (by decide))))
         have P6 := hide (World.ownsRow.kept (unhide P5) hg (.inr (own_blk_ne (unhide P5) (unhide C5) (by decide))))
         have X6 := hide ((unhide X5).grown hg (unhide X5).size (fun j e => by injection e with e; have := g2b; omega))
         clear hb hg)
      | fail)
    go_wp2_with (first
      | (refine wpList_load_row rfl 53 _ rfl g5 rfl 53 _ _ _ (unhide S6) Try.underlying53 rfl (by kernel_rfl) ?_)
      | fail)
    refine (ex_proofC w6 A c (SessL.of_own (unhide O6) (fun x hx => by simp at hx; subst hx; exact exS0_ok)) Be be (Reads.of_own (unhide P6)) he1 he2).mono ?_
    rintro e w7 ⟨Ag, cg, Bf, bf, rfl, hos, hob, hf1, hf2, hb⟩
    have hl4 : exB4.length = 13 := provF_len _ _ _ _ _ _
    rw [hl4] at hob hf1
    rw [hl4]
    have P7 := hide hob
    have O7 := hide hos
    have S7 := hide ((unhide S6).below hb (unhide S6).lt)
    have C7 := hide ((unhide C6).below hb (unhide C6).lt)
    have X7 := hide ((unhide X6).trans (hb.mono (unhide X6).size))
    clear hb hob hos hl4
    go_upto_region 6 with (first
      | (refine wpList_store_blk rfl 53 (.tmp 5) (.tmp 46) rfl g5 53 _ #[.slice Ag 1 cg, .int .u32 2] rfl rfl (unhide S7) rfl (by kernel_rfl) (by intro v hv; simp at hv; rcases hv with rfl | rfl <;> rfl) ?_
         intro w8 hb hg
         have S8 := hide hb
         have C8 := hide ((unhide C7).grown hg (fun e => by injection e with e; omega))
         have O8 := hide (World.ownsRow.kept (unhide O7) hg (.inr (own_blk_ne (unhide O7) (unhide S7) (by decide))))
         have P8 := hide (World.ownsRow.kept (unhide P7) hg (.inr (own_blk_ne (unhide P7) (unhide S7) (by decide))))
         have X8 := hide ((unhide X7).grown hg (unhide X7).size (fun j e => by injection e with e; have := g2b; omega))
         clear hb hg)
      | fail)
    go_wp2_with (first
      | (refine wpList_load_row rfl 48 _ rfl g2 rfl 48 _ _ _ (unhide C8) Try.underlying48 rfl (cli_info exC1_ok) ?_)
      | fail)
    refine (ex_accept w8 Bf bf (Reads.of_own (unhide P8)) hf1).mono ?_
    rintro e w9 ⟨rfl, hb⟩
    have S9 := hide ((unhide S8).below hb (unhide S8).lt)
    have C9 := hide ((unhide C8).below hb (unhide C8).lt)
    have X9 := hide ((unhide X8).trans (hb.mono (unhide X8).size))
    have O9 := hide (own_below (unhide O8) hb)
    have P9 := hide (own_below (unhide P8) hb)
    clear hb
    have hsq10 : exC2.cs.toArray.size = exC1.cs.toArray.size := by rw [Cli.size exC2_ok, Cli.size exC1_ok]
    go_upto_region 7 with (first
      | (refine wpList_store_blk rfl 48 (.tmp 2) (.tmp 53) rfl g2 48 _ exC2.cs.toArray rfl rfl (unhide C9) hsq10 (cli_info exC2_ok) (fun v hv => Cli.one v (by simpa using hv)) ?_
         intro w10 hb hg
         have C10 := hide hb
         have S10 := hide ((unhide S9).grown hg (fun e => by injection e with e; omega))
         have O10 := hide (World.ownsRow.kept (unhide O9) hg (.inr (own_blk_ne (unhide O9) (unhide C9) (by decide))))
         have P10 := hide (World.ownsRow.kept (unhide P9) hg (.inr (own_blk_ne (unhide P9) (unhide C9) (by decide))))
         have X10 := hide ((unhide X9).grown hg (unhide X9).size (fun j e => by injection e with e; have := g2b; omega))
         clear hb hg)
      | fail)
    go_wp2_with (first
      | (refine wpList_load_row rfl 48 _ rfl g2 rfl 48 _ _ _ (unhide C10) Try.underlying48 rfl (cli_info exC2_ok) ?_)
      | (refine wpList_bslice rfl 32 1 _ rfl [(0, .int .u8 9)] rfl _ _ (run_b9 w10) ?_)
      | fail)
    have hz9 : Blk (w10.alloc (.cells (bsV [9]).toArray 5)) w10.heap.size 5 (bsV [9]).toArray := Blk.new w10 _ _
    have hr9 : Reads (w10.alloc (.cells (bsV [9]).toArray 5)) (w10.alloc (.cells (bsV [9]).toArray 5)).heap.size 1 (some ⟨w10.heap.size, 0, none⟩) 1 (bsV [9]) := Reads.of_blk (cs := bsV [9]) hz9 0 1 (by decide) hz9.lt
    refine (ex_post _ (some ⟨w10.heap.size, 0, none⟩) 1 hr9 (by decide) (by decide)).mono ?_
    clear hr9 hz9
    rintro e w11 ⟨vb, rfl, hob, hb⟩
    rw [exB5_len] at hob
    obtain ⟨Bh, bh, hvb, hh1, hh2⟩ := slice_of_own hob
    subst hvb
    have hb : Below w10.heap.size w10 w11 := ((Below.refl _ _).alloc (Nat.le_refl _) _).trans (hb.mono (by rw [size_alloc]; omega))
    have P11 := hide hob
    have S11 := hide ((unhide S10).below hb (unhide S10).lt)
    have C11 := hide ((unhide C10).below hb (unhide C10).lt)
    have X11 := hide ((unhide X10).trans (hb.mono (unhide X10).size))
    have O11 := hide (own_below (unhide O10) hb)
    clear hb hob
    have hsq12 : exC3.cs.toArray.size = exC2.cs.toArray.size := by rw [Cli.size exC3_ok, Cli.size exC2_ok]
    go_upto_region 8 with (first
      | (refine wpList_store_blk rfl 48 (.tmp 2) (.tmp 59) rfl g2 48 _ exC3.cs.toArray rfl rfl (unhide C11) hsq12 (cli_info exC3_ok) (fun v hv => Cli.one v (by simpa using hv)) ?_
         intro w12 hb hg
         have C12 := hide hb
         have S12 := hide ((unhide S11).grown hg (fun e => by injection e with e; omega))
         have O12 := hide (World.ownsRow.kept (unhide O11) hg (.inr (own_blk_ne (unhide O11) (unhide C11) (by decide))))
         have P12 := hide (World.ownsRow.kept (unhide P11) hg (.inr (own_blk_ne (unhide P11) (unhide C11) (by decide))))
         have X12 := hide ((unhide X11).grown hg (unhide X11).size (fun j e => by injection e with e; have := g2b; omega))
         clear hb hg)
      | fail)
    go_wp2_with (first
      | (refine wpList_load_row rfl 53 _ rfl g5 rfl 53 _ _ _ (unhide S12) Try.underlying53 rfl (by kernel_rfl) ?_)
      | fail)
    refine (ex_recvC w12 Ag cg (SessL.of_own (unhide O12) (fun x hx => by simp at hx; subst hx; exact exS1_ok)) Bh bh (Reads.of_own (unhide P12)) hh1 hh2).mono ?_
    rintro e w13 ⟨Ak, ck, Bk, bk, rfl, hos, hob, hk1, hk2, hb⟩
    have P13 := hide hob
    have O13 := hide hos
    have S13 := hide ((unhide S12).below hb (unhide S12).lt)
    have C13 := hide ((unhide C12).below hb (unhide C12).lt)
    have X13 := hide ((unhide X12).trans (hb.mono (unhide X12).size))
    clear hb hob hos
    go_upto_region 9 with (first
      | (refine wpList_store_blk rfl 53 (.tmp 5) (.tmp 66) rfl g5 53 _ #[.slice Ak 1 ck, .int .u32 2] rfl rfl (unhide S13) rfl (by kernel_rfl) (by intro v hv; simp at hv; rcases hv with rfl | rfl <;> rfl) ?_
         intro w14 hb hg
         have S14 := hide hb
         have C14 := hide ((unhide C13).grown hg (fun e => by injection e with e; omega))
         have O14 := hide (World.ownsRow.kept (unhide O13) hg (.inr (own_blk_ne (unhide O13) (unhide S13) (by decide))))
         have P14 := hide (World.ownsRow.kept (unhide P13) hg (.inr (own_blk_ne (unhide P13) (unhide S13) (by decide))))
         have X14 := hide ((unhide X13).grown hg (unhide X13).size (fun j e => by injection e with e; have := g2b; omega))
         clear hb hg)
      | fail)
    have h37 : w14.cell? ⟨g2, 37, none⟩ = some (.bool true) := (Cli.blk exC3_ok (unhide C14)).opn
    have h40 : w14.cell? ⟨g2, 40, none⟩ = some (.int .u32 1) := (Cli.blk exC3_ok (unhide C14)).out
    have h50 : w14.cell? ⟨g5, 0, none⟩ = some (.slice Ak 1 ck) := (unhide S14).cell 0
    obtain ⟨g9, o9, hBk, _, hcell⟩ := spot_b (Reads.of_own (unhide P14)) (by decide)
    subst hBk
    have h90 : w14.cell? ⟨g9, o9, none⟩ = some (.int .u8 9) := hcell 0 9 rfl
    clear hcell
    go_wp2_with fail
    go_ret
    exact ⟨rfl, unhide X14⟩
end Go.Proofs.Ytfbkkmnkpjgciaa
