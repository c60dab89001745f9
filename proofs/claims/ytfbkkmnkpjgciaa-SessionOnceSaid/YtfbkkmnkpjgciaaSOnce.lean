/- the law SessionOnce walked (printed by wip/gen_sonce.py). -/
import Derived.Test.YtfbkkmnkpjgciaaSOneM
namespace Go.Proofs.Ytfbkkmnkpjgciaa
open Go.RowKit
set_option maxRecDepth 100000 in
set_option maxHeartbeats 16000000 in
theorem once_sx (w : World) (A0 : Option Addr) (n0 c0 : Nat) (bs : List UInt8) (hr : Reads w w.heap.size 1 A0 n0 (bsV bs)) (hnc : n0 ≤ c0) (hcm : c0 ≤ maxLen) : Calls Try.prog 4 #[.slice A0 n0 c0] w fun e w' => e = .returned (.bool true) ∧ Below w.heap.size w w' := by
  have HR := hide hr
  clear hr
  go_enter Try.func4, Try.ntmps4
  go_wp2_with fail
  refine (awake_sx _).mono ?_
  rintro e w1 ⟨rfl, hb1⟩
  have HR := hide (((unhide HR).below hb1).more hb1.size)
  have X1 := hide hb1
  have hs1 : w.heap.size ≤ w1.heap.size := hb1.size
  clear hb1
  go_wp2_with fail
  refine (new_any w1 A0 n0 c0 bs 200 (unhide HR) hnc hcm (by decide)).mono ?_
  rintro e w2 ⟨rfl, hc2, hb2⟩
  obtain ⟨gk, hgk⟩ : ∃ k, w1.heap.size = k := ⟨_, rfl⟩
  rw [hgk] at hc2 hb2 hs1 ⊢
  have K2 := hide hc2
  have X2 := hide ((unhide X1).trans (hb2.mono hs1))
  clear hb2 hc2 HR X1 hgk
  go_wp2_with fail
  refine (key_any w2 gk gk (unhide K2)).mono ?_
  rintro e w3 ⟨ks, hks, rfl, hc3, hg3⟩
  have K3 := hide hc3
  have X3 := hide ((unhide X2).grown hg3 (unhide X2).size (fun g e => by injection e with e; omega))
  have hk3 : gk < w3.heap.size := hc3.lt
  clear hg3 hc3 K2 X2
  have WB : Hid (Blk (((w3.alloc (.cells (onU0 ks).cs.toArray 39)).alloc (.cells onH0.cs.toArray 42)).alloc (.cells #[.slice none 0 0, .slice none 0 0] 45)) (w3.heap.size + 2) 45 #[.slice none 0 0, .slice none 0 0]) := hide (Blk.new' (by simp))
  have WU : Hid (Blk (((w3.alloc (.cells (onU0 ks).cs.toArray 39)).alloc (.cells onH0.cs.toArray 42)).alloc (.cells #[.slice none 0 0, .slice none 0 0] 45)) w3.heap.size 39 (onU0 ks).cs.toArray) := hide (((Blk.new w3 39 (onU0 ks).cs.toArray).alloc _).alloc _)
  have WH : Hid (Blk (((w3.alloc (.cells (onU0 ks).cs.toArray 39)).alloc (.cells onH0.cs.toArray 42)).alloc (.cells #[.slice none 0 0, .slice none 0 0] 45)) (w3.heap.size + 1) 42 onH0.cs.toArray) := hide ((Blk.new' (by simp)).alloc _)
  have WX : Hid (Below w3.heap.size w3 (((w3.alloc (.cells (onU0 ks).cs.toArray 39)).alloc (.cells onH0.cs.toArray 42)).alloc (.cells #[.slice none 0 0, .slice none 0 0] 45))) := hide ((((Below.refl _ _).alloc (Nat.le_refl _) _).alloc (by rw [size_alloc]; omega) _).alloc (by rw [size_alloc2]; omega) _)
  go_upto_region 5 with (first
    | (refine wpList_build_cs rfl 39 _ rfl [(0, .string ⟨adN.toArray⟩), (1, .agg (bsV ks).toArray), (2, .bool true), (3, .int .i64 3)] rfl _ (build_on hks) ?_)
    | (refine wpList_build_cs rfl 42 _ rfl [(0, .int .i64 0), (1, .int .i64 3)] rfl _ build_onh ?_)
    | (refine wpList_bslice rfl 40 1 _ rfl [(0, .agg (onU0 ks).cs.toArray)] rfl _ _ (run_onus hks w3) ?_)
    | (refine wpList_bslice rfl 43 1 _ rfl [(0, .agg onH0.cs.toArray)] rfl _ _ (run_onhs _ (w3.heap.size + 1) (size_alloc _ _)) ?_)
    | (refine wpList_alloc_to rfl 45 rfl _ (w3.heap.size + 2) (size_alloc2 _ _ _) (alloc_acc _) ?_)
    | (refine wpList_store_blk rfl 45 (.tmp 4) (.tmp 36) rfl (w3.heap.size + 2) 45 _ #[.slice (some ⟨w3.heap.size, 0, none⟩) 1 1, .slice (some ⟨w3.heap.size + 1, 0, none⟩) 1 1] rfl rfl (unhide WB) rfl (by kernel_rfl) (by intro v hv; simp at hv; rcases hv with rfl | rfl <;> rfl) ?_
       intro w4 hb4 hg4
       have A4 := hide hb4
       have U4 := hide ((unhide WU).grown hg4 (fun e => by injection e with e; omega))
       have H4 := hide ((unhide WH).grown hg4 (fun e => by injection e with e; omega))
       have Y4 := hide ((unhide WX).grown hg4 (by rw [size_alloc3]; omega) (fun j e => by injection e with e; omega))
       have hs4 : w3.heap.size + 2 < w4.heap.size := hb4.lt
       clear hb4 hg4)
    | fail)
  have X4 := hide ((unhide X3).trans ((unhide Y4).mono (unhide X3).size))
  have K4 := hide ((unhide K3).below (unhide Y4) hk3)
  clear WB WU WH WX K3
  have c40 : w4.cell? ⟨w3.heap.size + 2, 0, none⟩ = some (.slice (some ⟨w3.heap.size, 0, none⟩) 1 1) := (unhide A4).cell 0
  have hpart : ∀ (j : Nat) v, (bsV ks)[j]? = some v → (onU0 ks).cs.toArray[1 + j]? = some v := fun j v hv => by
    have := (Usr.at_ (onU_ok hks (onU0 ks) (by simp [onU, onU0]))).key j v hv
    simpa using this
  have HPT := hide hpart
  have hik : (Try.prog.info? 36).map (·.size) = some (bsV ks).length := by rw [show (bsV ks).length = 16 by simp [bsV, hks]]; kernel_rfl
  have HIK := hide hik
  clear hpart hik
  go_wp2_with (first
    | (refine wpList_load_part rfl 36 _ rfl w3.heap.size 1 39 (onU0 ks).cs.toArray (bsV ks) _ rfl (unhide U4) (unhide HPT) Try.underlying36 rfl (unhide HIK) ?_)
    | fail)

  refine (on_beginC hks w4).mono ?_
  rintro e w5 ⟨vb, rfl, hob, hb5⟩
  obtain ⟨Ab, cb, hvb, hb1c, hb2c⟩ := slice_of_own hob
  subst hvb
  have A5 := hide (((unhide A4).below hb5 (unhide A4).lt).alloc (.cells zCli.cs.toArray 48))
  have U5 := hide (((unhide U4).below hb5 (unhide U4).lt).alloc (.cells zCli.cs.toArray 48))
  have H5 := hide (((unhide H4).below hb5 (unhide H4).lt).alloc (.cells zCli.cs.toArray 48))
  have X5 := hide (((unhide X4).trans (hb5.mono (unhide X4).size)).alloc (by have := (unhide X4).size; have := hb5.size; omega) (.cells zCli.cs.toArray 48))
  have K5 := hide (((unhide K4).below hb5 (unhide K4).lt).below ((Below.refl _ _).alloc (Nat.le_refl _) (.cells zCli.cs.toArray 48)) (by have := hb5.size; have := (unhide K4).lt; omega))
  have OB5 := hide ((own_more hob (by omega : gk + 1 ≤ w4.heap.size)).alloc (.cells zCli.cs.toArray 48))
  have C5 := hide (Blk.new w5 48 zCli.cs.toArray)
  have hs5 : w4.heap.size ≤ w5.heap.size := hb5.size
  have hl1 : onB1.length = 15 := rfl
  clear hb5 hob c40 HPT HIK
  have hsq0 := Cli.size_eq (onC0_ok hks)
  go_upto_region 6 with (first
    | (refine wpList_alloc_to rfl 48 rfl _ w5.heap.size rfl (alloc_cli _) ?_)
    | (refine wpList_store_blk rfl 48 (.tmp 5) (.tmp 44) rfl w5.heap.size 48 _ (onC0 ks).cs.toArray rfl rfl (unhide C5) hsq0 (cli_info (onC0_ok hks)) (fun v hv => Cli.one v (by simpa using hv)) ?_
       intro w6 hb6 hg6
       have C6 := hide hb6
       have A6 := hide ((unhide A5).grown hg6 (fun e => by injection e with e; omega))
       have U6 := hide ((unhide U5).grown hg6 (fun e => by injection e with e; omega))
       have H6 := hide ((unhide H5).grown hg6 (fun e => by injection e with e; omega))
       have X6 := hide ((unhide X5).grown hg6 (unhide X5).size (fun j e => by injection e with e; omega))
       have K6 := hide (cut_k (unhide K5) hg6 (fun j e => by injection e with e; omega))
       have OB6 := hide (World.ownsRow.kept (unhide OB5) hg6 (.inr (own_blk_ne (unhide OB5) (unhide C5) (by decide))))
       have hs6 : w5.heap.size < w6.heap.size := hb6.lt
       clear hb6 hg6)
    | fail)
  obtain ⟨g2, hg2⟩ : ∃ k, w5.heap.size = k := ⟨_, rfl⟩
  have C6' : Hid (Blk w6 g2 48 (onC0 ks).cs.toArray) := hide (hg2 ▸ unhide C6)
  have hs5' : w4.heap.size ≤ g2 := by omega
  have hs6' : g2 < w6.heap.size := by omega
  rw [hg2]
  clear C6 C5 hs6 hs5
  go_cut [6, 8, 9] from 47 to 54 (fun b p e W => ∃ A c Bd bd g5, b = .slice Bd 13 bd ∧ p = .pointer (some ⟨g5, 0, none⟩) ∧ e = .int .i64 0 ∧ Blk W g5 53 #[.slice A 1 c, .int .u32 2] ∧ w6.heap.size ≤ g5 ∧ W.ownsRow w6.heap.size 84 26 (.slice A 1 c) 1 (flatS [onS0 ks]) ∧ W.ownsRow w6.heap.size 5 1 (.slice Bd 13 bd) 13 (bsV onB2) ∧ 13 ≤ bd ∧ bd ≤ maxLen ∧ Below w6.heap.size w6 W)
  case first =>
    have hS0 : Below w6.heap.size w6 w6.drew := (Below.refl _ _).drew
    refine wp_region_noPanic (wp_region_held_drew (S := fun wz => Below w6.heap.size w6 wz) (by kernel_rfl) hS0 (fun _ => ?_))
    refine th_take (i := 1) rfl (by kernel_rfl) (by kernel_rfl) (by kernel_rfl) (y_loadblk 45 (.tmp 4) (by rfl) rfl (w3.heap.size + 2) rfl 45 #[.slice (some ⟨w3.heap.size, 0, none⟩) 1 1, .slice (some ⟨w3.heap.size + 1, 0, none⟩) 1 1] _ (fun _ h => (unhide A6).below h (unhide A6).lt) Try.underlying45 rfl (by kernel_rfl)) hS0 ?_
    simp only [Act.put, List.setIfInBounds_toArray, List.set_cons_zero, List.set_cons_succ]
    refine th_take (i := 2) (v := ?_) rfl (by kernel_rfl) (by kernel_rfl) (by kernel_rfl) (Or.inl ⟨by rfl, fun wz hSw => ?_⟩) hS0 ?_
    rotate_left
    · go_simp
      with_reducible rfl
    simp only [Act.put, List.setIfInBounds_toArray, List.set_cons_zero, List.set_cons_succ]
    refine th_two (i := 0) (j := 8) rfl rfl (by kernel_rfl) (fun K hK => ?_) (fun K hK => ?_)
    · skip
      rw [if_pos (by rfl)]
      go_simp
      refine (new_sx w6.drew).mono ?_
      rintro e wn ⟨rfl, hbn⟩
      have hwn : Below w6.heap.size w6 wn := hS0.trans (hbn.mono hS0.size)
      refine hK.out _ _ hwn (fun _ => ?_)
      clear hK K
      try simp only [Act.put, List.setIfInBounds_toArray, List.set_cons_zero, List.set_cons_succ]
      refine th_two (i := 3) (j := 8) rfl rfl (by kernel_rfl) (fun K hK => ?_) (fun K hK => ?_)
      · skip
        rw [if_pos (by rfl)]
        go_simp
        refine (on_helloC hks wn w3.heap.size (w3.heap.size + 1) ((unhide U6).below hwn (unhide U6).lt) ((unhide H6).below hwn (unhide H6).lt) Ab cb (((Reads.of_own (unhide OB6)).below hwn).more hwn.size) hb1c hb2c).mono ?_
        rintro e wh ⟨A, c, Bd, bd, rfl, ho1, ho2, hc1, hc2, hbn⟩
        have hwh : Below w6.heap.size w6 wh := hwn.trans (hbn.mono hwn.size)
        have ho1 := own_more ho1 hwn.size
        have ho2 := own_more ho2 hwn.size
        refine hK.out _ _ hwh (fun _ => ?_)
        clear hK K
        try simp only [Act.put, List.setIfInBounds_toArray, List.set_cons_zero, List.set_cons_succ]
        refine th_take (i := 4) (v := ?_) rfl (by kernel_rfl) (by kernel_rfl) (by kernel_rfl) (Or.inl ⟨by rfl, fun wz hSw => ?_⟩) hwh ?_
        rotate_left
        · go_simp
          with_reducible rfl
        simp only [Act.put, List.setIfInBounds_toArray, List.set_cons_zero, List.set_cons_succ]
        refine th_take (i := 5) (v := ?_) rfl (by kernel_rfl) (by kernel_rfl) (by kernel_rfl) (Or.inl ⟨by rfl, fun wz hSw => ?_⟩) hwh ?_
        rotate_left
        · go_simp
          with_reducible rfl
        simp only [Act.put, List.setIfInBounds_toArray, List.set_cons_zero, List.set_cons_succ]
        refine th_take (i := 6) (v := ?_) rfl (by kernel_rfl) (by kernel_rfl) (by kernel_rfl) (Or.inl ⟨by rfl, fun wz hSw => ?_⟩) hwh ?_
        rotate_left
        · go_simp
          with_reducible rfl
        simp only [Act.put, List.setIfInBounds_toArray, List.set_cons_zero, List.set_cons_succ]
        refine th_take (i := 7) (v := ?_) rfl (by kernel_rfl) (by kernel_rfl) (by kernel_rfl) (Or.inl ⟨by rfl, fun wz hSw => ?_⟩) hwh ?_
        rotate_left
        · go_simp
          with_reducible rfl
        simp only [Act.put, List.setIfInBounds_toArray, List.set_cons_zero, List.set_cons_succ]
        refine th_one (i := 8) rfl (by kernel_rfl) (fun K hK => ?_)
        rw [if_pos (by rfl)]
        obtain ⟨g5, hg5⟩ : ∃ k, (wh).heap.size = k := ⟨_, rfl⟩
        have hz5 : Blk (wh.alloc (.cells #[.slice none 0 0, .int .u32 0] 53)) g5 53 #[.slice none 0 0, .int .u32 0] := by rw [← hg5]; exact Blk.new wh _ _
        have h5g : w6.heap.size ≤ g5 := by rw [← hg5]; exact hwh.size
        refine step_alloc_ 53 rfl (alloc_sl _) ?_
        have ha : Below w6.heap.size w6 (wh.alloc (.cells #[.slice none 0 0, .int .u32 0] 53)) := hwh.alloc hwh.size _
        refine hK.out _ _ ha (fun _ => ?_)
        clear hK K
        try simp only [Act.put, List.setIfInBounds_toArray, List.set_cons_zero, List.set_cons_succ]
        rw [hg5]
        clear hg5
        have ho1 := ho1.alloc (.cells #[.slice none 0 0, .int .u32 0] 53)
        have ho2 := ho2.alloc (.cells #[.slice none 0 0, .int .u32 0] 53)
        refine th_one (i := 9) rfl (by kernel_rfl) (fun K hK => ?_)
        refine step_store_blk (by rfl) 53 (.tmp 8) (.tmp 52) rfl g5 53 _ #[.slice A 1 c, .int .u32 2] rfl rfl hz5 rfl (by kernel_rfl) (by intro v hv; simp at hv; rcases hv with rfl | rfl <;> rfl) ?_
        intro w9 hb9 hg9
        have h9 : Below w6.heap.size w6 w9 := ha.grown hg9 ha.size (fun j e => by injection e with e; omega)
        have ho1 := World.ownsRow.kept ho1 hg9 (.inr (own_blk_ne ho1 hz5 (by decide)))
        have ho2 := World.ownsRow.kept ho2 hg9 (.inr (own_blk_ne ho2 hz5 (by decide)))
        refine hK.out _ _ h9 (fun _ => ?_)
        clear hK K
        try simp only [Act.put]
        refine th_take (i := 10) (v := ?_) rfl (by kernel_rfl) (by kernel_rfl) (by kernel_rfl) (Or.inl ⟨by rfl, fun wz hSw => ?_⟩) h9 ?_
        rotate_left
        · go_simp
          with_reducible rfl
        simp only [Act.put, List.setIfInBounds_toArray, List.set_cons_zero, List.set_cons_succ]
        refine th_take (i := 11) (v := ?_) rfl (by kernel_rfl) (by kernel_rfl) (by kernel_rfl) (Or.inl ⟨by rfl, fun wz hSw => ?_⟩) h9 ?_
        rotate_left
        · go_simp
          with_reducible rfl
        simp only [Act.put, List.setIfInBounds_toArray, List.set_cons_zero, List.set_cons_succ]
        refine wpAnyH_done (by kernel_rfl) (NoPanic.normal ?_) _
        go_wp2_with fail
        go_meet
        exact ⟨A, c, Bd, bd, g5, rfl, rfl, rfl, hb9, h5g, ho1, ho2, hc1, hc2, h9⟩
      · skip
        rw [if_pos (by rfl)]
        obtain ⟨g5, hg5⟩ : ∃ k, (wn).heap.size = k := ⟨_, rfl⟩
        have hz5 : Blk (wn.alloc (.cells #[.slice none 0 0, .int .u32 0] 53)) g5 53 #[.slice none 0 0, .int .u32 0] := by rw [← hg5]; exact Blk.new wn _ _
        have h5g : w6.heap.size ≤ g5 := by rw [← hg5]; exact hwn.size
        refine step_alloc_ 53 rfl (alloc_sl _) ?_
        have ha : Below w6.heap.size w6 (wn.alloc (.cells #[.slice none 0 0, .int .u32 0] 53)) := hwn.alloc hwn.size _
        refine hK.out _ _ ha (fun _ => ?_)
        clear hK K
        try simp only [Act.put, List.setIfInBounds_toArray, List.set_cons_zero, List.set_cons_succ]
        rw [hg5]
        clear hg5
        refine th_one (i := 3) rfl (by kernel_rfl) (fun K hK => ?_)
        rw [if_pos (by rfl)]
        go_simp
        refine (on_helloC hks (wn.alloc (.cells #[.slice none 0 0, .int .u32 0] 53)) w3.heap.size (w3.heap.size + 1) ((unhide U6).below ha (unhide U6).lt) ((unhide H6).below ha (unhide H6).lt) Ab cb (((Reads.of_own (unhide OB6)).below ha).more ha.size) hb1c hb2c).mono ?_
        rintro e wh ⟨A, c, Bd, bd, rfl, ho1, ho2, hc1, hc2, hbn⟩
        have hwh : Below w6.heap.size w6 wh := ha.trans (hbn.mono ha.size)
        have ho1 := own_more ho1 ha.size
        have ho2 := own_more ho2 ha.size
        have hz5 := hz5.below hbn hz5.lt
        refine hK.out _ _ hwh (fun _ => ?_)
        clear hK K
        try simp only [Act.put, List.setIfInBounds_toArray, List.set_cons_zero, List.set_cons_succ]
        refine th_take (i := 4) (v := ?_) rfl (by kernel_rfl) (by kernel_rfl) (by kernel_rfl) (Or.inl ⟨by rfl, fun wz hSw => ?_⟩) hwh ?_
        rotate_left
        · go_simp
          with_reducible rfl
        simp only [Act.put, List.setIfInBounds_toArray, List.set_cons_zero, List.set_cons_succ]
        refine th_take (i := 5) (v := ?_) rfl (by kernel_rfl) (by kernel_rfl) (by kernel_rfl) (Or.inl ⟨by rfl, fun wz hSw => ?_⟩) hwh ?_
        rotate_left
        · go_simp
          with_reducible rfl
        simp only [Act.put, List.setIfInBounds_toArray, List.set_cons_zero, List.set_cons_succ]
        refine th_take (i := 6) (v := ?_) rfl (by kernel_rfl) (by kernel_rfl) (by kernel_rfl) (Or.inl ⟨by rfl, fun wz hSw => ?_⟩) hwh ?_
        rotate_left
        · go_simp
          with_reducible rfl
        simp only [Act.put, List.setIfInBounds_toArray, List.set_cons_zero, List.set_cons_succ]
        refine th_take (i := 7) (v := ?_) rfl (by kernel_rfl) (by kernel_rfl) (by kernel_rfl) (Or.inl ⟨by rfl, fun wz hSw => ?_⟩) hwh ?_
        rotate_left
        · go_simp
          with_reducible rfl
        simp only [Act.put, List.setIfInBounds_toArray, List.set_cons_zero, List.set_cons_succ]
        refine th_one (i := 9) rfl (by kernel_rfl) (fun K hK => ?_)
        refine step_store_blk (by rfl) 53 (.tmp 8) (.tmp 52) rfl g5 53 _ #[.slice A 1 c, .int .u32 2] rfl rfl hz5 rfl (by kernel_rfl) (by intro v hv; simp at hv; rcases hv with rfl | rfl <;> rfl) ?_
        intro w9 hb9 hg9
        have h9 : Below w6.heap.size w6 w9 := hwh.grown hg9 hwh.size (fun j e => by injection e with e; omega)
        have ho1 := World.ownsRow.kept ho1 hg9 (.inr (own_blk_ne ho1 hz5 (by decide)))
        have ho2 := World.ownsRow.kept ho2 hg9 (.inr (own_blk_ne ho2 hz5 (by decide)))
        refine hK.out _ _ h9 (fun _ => ?_)
        clear hK K
        try simp only [Act.put]
        refine th_take (i := 10) (v := ?_) rfl (by kernel_rfl) (by kernel_rfl) (by kernel_rfl) (Or.inl ⟨by rfl, fun wz hSw => ?_⟩) h9 ?_
        rotate_left
        · go_simp
          with_reducible rfl
        simp only [Act.put, List.setIfInBounds_toArray, List.set_cons_zero, List.set_cons_succ]
        refine th_take (i := 11) (v := ?_) rfl (by kernel_rfl) (by kernel_rfl) (by kernel_rfl) (Or.inl ⟨by rfl, fun wz hSw => ?_⟩) h9 ?_
        rotate_left
        · go_simp
          with_reducible rfl
        simp only [Act.put, List.setIfInBounds_toArray, List.set_cons_zero, List.set_cons_succ]
        refine wpAnyH_done (by kernel_rfl) (NoPanic.normal ?_) _
        go_wp2_with fail
        go_meet
        exact ⟨A, c, Bd, bd, g5, rfl, rfl, rfl, hb9, h5g, ho1, ho2, hc1, hc2, h9⟩
    · skip
      rw [if_pos (by rfl)]
      obtain ⟨g5, hg5⟩ : ∃ k, (w6.drew).heap.size = k := ⟨_, rfl⟩
      have hz5 : Blk (w6.drew.alloc (.cells #[.slice none 0 0, .int .u32 0] 53)) g5 53 #[.slice none 0 0, .int .u32 0] := by rw [← hg5]; exact Blk.new w6.drew _ _
      have h5g : w6.heap.size ≤ g5 := by rw [← hg5]; exact hS0.size
      refine step_alloc_ 53 rfl (alloc_sl _) ?_
      have ha : Below w6.heap.size w6 (w6.drew.alloc (.cells #[.slice none 0 0, .int .u32 0] 53)) := hS0.alloc hS0.size _
      refine hK.out _ _ ha (fun _ => ?_)
      clear hK K
      try simp only [Act.put, List.setIfInBounds_toArray, List.set_cons_zero, List.set_cons_succ]
      rw [hg5]
      clear hg5
      refine th_one (i := 0) rfl (by kernel_rfl) (fun K hK => ?_)
      rw [if_pos (by rfl)]
      go_simp
      refine (new_sx (w6.drew.alloc (.cells #[.slice none 0 0, .int .u32 0] 53))).mono ?_
      rintro e wn ⟨rfl, hbn⟩
      have hwn : Below w6.heap.size w6 wn := ha.trans (hbn.mono ha.size)
      refine hK.out _ _ hwn (fun _ => ?_)
      clear hK K
      try simp only [Act.put, List.setIfInBounds_toArray, List.set_cons_zero, List.set_cons_succ]
      have hz5 := hz5.below hbn hz5.lt
      refine th_one (i := 3) rfl (by kernel_rfl) (fun K hK => ?_)
      rw [if_pos (by rfl)]
      go_simp
      refine (on_helloC hks wn w3.heap.size (w3.heap.size + 1) ((unhide U6).below hwn (unhide U6).lt) ((unhide H6).below hwn (unhide H6).lt) Ab cb (((Reads.of_own (unhide OB6)).below hwn).more hwn.size) hb1c hb2c).mono ?_
      rintro e wh ⟨A, c, Bd, bd, rfl, ho1, ho2, hc1, hc2, hbn⟩
      have hwh : Below w6.heap.size w6 wh := hwn.trans (hbn.mono hwn.size)
      have ho1 := own_more ho1 hwn.size
      have ho2 := own_more ho2 hwn.size
      have hz5 := hz5.below hbn hz5.lt
      refine hK.out _ _ hwh (fun _ => ?_)
      clear hK K
      try simp only [Act.put, List.setIfInBounds_toArray, List.set_cons_zero, List.set_cons_succ]
      refine th_take (i := 4) (v := ?_) rfl (by kernel_rfl) (by kernel_rfl) (by kernel_rfl) (Or.inl ⟨by rfl, fun wz hSw => ?_⟩) hwh ?_
      rotate_left
      · go_simp
        with_reducible rfl
      simp only [Act.put, List.setIfInBounds_toArray, List.set_cons_zero, List.set_cons_succ]
      refine th_take (i := 5) (v := ?_) rfl (by kernel_rfl) (by kernel_rfl) (by kernel_rfl) (Or.inl ⟨by rfl, fun wz hSw => ?_⟩) hwh ?_
      rotate_left
      · go_simp
        with_reducible rfl
      simp only [Act.put, List.setIfInBounds_toArray, List.set_cons_zero, List.set_cons_succ]
      refine th_take (i := 6) (v := ?_) rfl (by kernel_rfl) (by kernel_rfl) (by kernel_rfl) (Or.inl ⟨by rfl, fun wz hSw => ?_⟩) hwh ?_
      rotate_left
      · go_simp
        with_reducible rfl
      simp only [Act.put, List.setIfInBounds_toArray, List.set_cons_zero, List.set_cons_succ]
      refine th_take (i := 7) (v := ?_) rfl (by kernel_rfl) (by kernel_rfl) (by kernel_rfl) (Or.inl ⟨by rfl, fun wz hSw => ?_⟩) hwh ?_
      rotate_left
      · go_simp
        with_reducible rfl
      simp only [Act.put, List.setIfInBounds_toArray, List.set_cons_zero, List.set_cons_succ]
      refine th_one (i := 9) rfl (by kernel_rfl) (fun K hK => ?_)
      refine step_store_blk (by rfl) 53 (.tmp 8) (.tmp 52) rfl g5 53 _ #[.slice A 1 c, .int .u32 2] rfl rfl hz5 rfl (by kernel_rfl) (by intro v hv; simp at hv; rcases hv with rfl | rfl <;> rfl) ?_
      intro w9 hb9 hg9
      have h9 : Below w6.heap.size w6 w9 := hwh.grown hg9 hwh.size (fun j e => by injection e with e; omega)
      have ho1 := World.ownsRow.kept ho1 hg9 (.inr (own_blk_ne ho1 hz5 (by decide)))
      have ho2 := World.ownsRow.kept ho2 hg9 (.inr (own_blk_ne ho2 hz5 (by decide)))
      refine hK.out _ _ h9 (fun _ => ?_)
      clear hK K
      try simp only [Act.put]
      refine th_take (i := 10) (v := ?_) rfl (by kernel_rfl) (by kernel_rfl) (by kernel_rfl) (Or.inl ⟨by rfl, fun wz hSw => ?_⟩) h9 ?_
      rotate_left
      · go_simp
        with_reducible rfl
      simp only [Act.put, List.setIfInBounds_toArray, List.set_cons_zero, List.set_cons_succ]
      refine th_take (i := 11) (v := ?_) rfl (by kernel_rfl) (by kernel_rfl) (by kernel_rfl) (Or.inl ⟨by rfl, fun wz hSw => ?_⟩) h9 ?_
      rotate_left
      · go_simp
        with_reducible rfl
      simp only [Act.put, List.setIfInBounds_toArray, List.set_cons_zero, List.set_cons_succ]
      refine wpAnyH_done (by kernel_rfl) (NoPanic.normal ?_) _
      go_wp2_with fail
      go_meet
      exact ⟨A, c, Bd, bd, g5, rfl, rfl, rfl, hb9, h5g, ho1, ho2, hc1, hc2, h9⟩
  case rest =>
    obtain ⟨A, c, Bd, bd, g5, rfl, rfl, rfl, hb9, h5g, ho1, ho2, hc1, hc2, h9⟩ := hcut
    have S4 := hide hb9
    have O4 := hide (own_more ho1 (by omega : gk + 1 ≤ w6.heap.size))
    have P4 := hide (own_more ho2 (by omega : gk + 1 ≤ w6.heap.size))
    have C4 := hide ((unhide C6').below h9 hs6')
    have X4 := hide ((unhide X6).trans (h9.mono (by omega)))
    have K4 := hide ((unhide K6).below h9 (unhide K6).lt)
    have hs4 : w6.heap.size ≤ wc.heap.size := h9.size
    clear hb9 ho1 ho2 h9 OB6 U6 H6 A6 K6 C6' OB5
    clear A4 U4 H4 Y4 A5 U5 H5 X5 X6 K5 X3 hsq0
    have h25 : g2 ≠ g5 := by omega
    have g2b : gk < g2 := by omega
    have g5b : gk < g5 := by omega
    have g2w : g2 < wc.heap.size := by omega
    have g5w : g5 < wc.heap.size := (unhide S4).lt
    go_wp2_with (first
      | (refine wpList_load_row rfl 48 _ rfl g2 rfl 48 _ _ _ (unhide C4) Try.underlying48 rfl (cli_info (onC0_ok hks)) ?_)
      | fail)
    refine (on_answerC hks wc Bd bd (Reads.of_own (unhide P4)) hc1).mono ?_
    rintro e w15 ⟨vb, rfl, hob, hb⟩
    have hw15 := hb.size
    rw [show (onB3 ks).length = 13 from provF_len _ _ _ _ _ _] at hob
    obtain ⟨Be, be, hvb, he1, he2⟩ := slice_of_own hob
    subst hvb
    have P5 := hide (own_more hob (by omega : gk + 1 ≤ wc.heap.size))
    have S5 := hide ((unhide S4).below hb (unhide S4).lt)
    have C5 := hide ((unhide C4).below hb (unhide C4).lt)
    have X5 := hide ((unhide X4).trans (hb.mono (unhide X4).size))
    have K5 := hide ((unhide K4).below hb (unhide K4).lt)
    have O5 := hide (own_below (unhide O4) hb)
    clear hb hob
    have hsq6 : (onC1 ks).cs.toArray.size = (onC0 ks).cs.toArray.size := by rw [Cli.size (onC1_ok hks), Cli.size (onC0_ok hks)]
    go_upto_region 8 with (first
      | (refine wpList_store_blk rfl 48 (.tmp 5) (.tmp 59) rfl g2 48 _ (onC1 ks).cs.toArray rfl rfl (unhide C5) hsq6 (cli_info (onC1_ok hks)) (fun v hv => Cli.one v (by simpa using hv)) ?_
         intro w16 hb hg
         have C6 := hide hb
         have S6 := hide ((unhide S5).grown hg (fun e => by injection e with e; omega))
         have O6 := hide (World.ownsRow.kept (unhide O5) hg (.inr (own_blk_ne (unhide O5) (unhide C5) (by decide))))
         have P6 := hide (World.ownsRow.kept (unhide P5) hg (.inr (own_blk_ne (unhide P5) (unhide C5) (by decide))))
         have X6 := hide ((unhide X5).grown hg (unhide X5).size (fun j e => by injection e with e; have := g2b; omega))
         have K6 := hide (cut_k (unhide K5) hg (fun j e => by injection e with e; omega))
         clear hb hg)
      | fail)
    go_wp2_with (first
      | (refine wpList_load_row rfl 53 _ rfl g5 rfl 53 _ _ _ (unhide S6) Try.underlying53 rfl (by kernel_rfl) ?_)
      | fail)
    refine (on_proofC w16 A c (SessL.of_own (unhide O6) (fun x hx => by simp at hx; subst hx; exact onS0_ok hks)) Be be (Reads.of_own (unhide P6)) he1 he2).mono ?_
    rintro e w17 ⟨Ag, cg, Bf, bf, rfl, hos, hob, hf1, hf2, hb⟩
    have hl4 : (onB4 ks).length = 13 := provF_len _ _ _ _ _ _
    have hk16 := (unhide K6).lt
    rw [hl4] at hob hf1
    rw [hl4]
    have P7 := hide (own_more hob (by omega : gk + 1 ≤ w16.heap.size))
    have O7 := hide (own_more hos (by omega : gk + 1 ≤ w16.heap.size))
    have S7 := hide ((unhide S6).below hb (unhide S6).lt)
    have C7 := hide ((unhide C6).below hb (unhide C6).lt)
    have X7 := hide ((unhide X6).trans (hb.mono (unhide X6).size))
    have K7 := hide ((unhide K6).below hb (unhide K6).lt)
    clear hb hob hos hl4
    go_upto_region 9 with (first
      | (refine wpList_store_blk rfl 53 (.tmp 8) (.tmp 66) rfl g5 53 _ #[.slice Ag 1 cg, .int .u32 2] rfl rfl (unhide S7) rfl (by kernel_rfl) (by intro v hv; simp at hv; rcases hv with rfl | rfl <;> rfl) ?_
         intro w18 hb hg
         have S8 := hide hb
         have C8 := hide ((unhide C7).grown hg (fun e => by injection e with e; omega))
         have O8 := hide (World.ownsRow.kept (unhide O7) hg (.inr (own_blk_ne (unhide O7) (unhide S7) (by decide))))
         have P8 := hide (World.ownsRow.kept (unhide P7) hg (.inr (own_blk_ne (unhide P7) (unhide S7) (by decide))))
         have X8 := hide ((unhide X7).grown hg (unhide X7).size (fun j e => by injection e with e; have := g2b; omega))
         have K8 := hide (cut_k (unhide K7) hg (fun j e => by injection e with e; omega))
         clear hb hg)
      | fail)
    go_wp2_with (first
      | (refine wpList_load_row rfl 48 _ rfl g2 rfl 48 _ _ _ (unhide C8) Try.underlying48 rfl (cli_info (onC1_ok hks)) ?_)
      | fail)
    refine (on_acceptC hks w18 Bf bf (Reads.of_own (unhide P8)) hf1).mono ?_
    rintro e w19 ⟨rfl, hb⟩
    have S9 := hide ((unhide S8).below hb (unhide S8).lt)
    have C9 := hide ((unhide C8).below hb (unhide C8).lt)
    have X9 := hide ((unhide X8).trans (hb.mono (unhide X8).size))
    have K9 := hide ((unhide K8).below hb (unhide K8).lt)
    have O9 := hide (own_below (unhide O8) hb)
    have P9 := hide (own_below (unhide P8) hb)
    clear hb
    have h0k : 0 < 4294967296 := by decide
    have hsq10 : (onC ks 0).cs.toArray.size = (onC1 ks).cs.toArray.size := by rw [Cli.size (onC_ok hks h0k), Cli.size (onC1_ok hks)]
    go_upto_region 10 with (first
      | (refine wpList_store_blk rfl 48 (.tmp 5) (.tmp 73) rfl g2 48 _ (onC ks 0).cs.toArray rfl rfl (unhide C9) hsq10 (cli_info (onC_ok hks h0k)) (fun v hv => Cli.one v (by simpa using hv)) ?_
         intro w20 hb hg
         have C10 := hide hb
         have S10 := hide ((unhide S9).grown hg (fun e => by injection e with e; omega))
         have O10 := hide (World.ownsRow.kept (unhide O9) hg (.inr (own_blk_ne (unhide O9) (unhide C9) (by decide))))
         have P10 := hide (World.ownsRow.kept (unhide P9) hg (.inr (own_blk_ne (unhide P9) (unhide C9) (by decide))))
         have X10 := hide ((unhide X9).grown hg (unhide X9).size (fun j e => by injection e with e; have := g2b; omega))
         have K10 := hide (cut_k (unhide K9) hg (fun j e => by injection e with e; omega))
         clear hb hg)
      | fail)
    clear hsq6 hsq10
    go_upto_region 13 with fail
    obtain ⟨gm, hgm⟩ : ∃ k, w20.heap.size = k := ⟨_, rfl⟩
    have hmm : (Instr.makeMap 62 none).run Try.prog w20 = .ok (.map (some gm)) (w20.alloc (.map #[] 0)) := by rw [run_makeMap, hgm]
    have gmb : gk < gm := by have := (unhide K10).lt; omega
    have W0 : Hid (OnW w ks gk g2 g5 gm 0 0 0 0 0 0 (fun _ => false) none 0 [] Ag cg (w20.alloc (.map #[] 0))) := hide ⟨by omega, g2b, g5b, gmb, ⟨rfl, .inl ⟨rfl, rfl⟩⟩, Packs.nil _ _, (unhide C10).alloc _, (unhide S10).alloc _, (unhide O10).alloc _, hgm ▸ Counts.made w20, (unhide K10).below ((Below.refl _ _).alloc (Nat.le_refl _) _) (unhide K10).lt, (unhide X10).alloc (unhide X10).size _⟩
    clear hgm O4 O5 O6 O7 O8 O9 O10 P4 P5 P6 P7 P8 P9 P10 C4 C5 C6 C7 C8 C9 C10 S4 S5 S6 S7 S8 S9 S10 X4 X5 X6 X7 X8 X9 X10 K4 K5 K6 K7 K8 K9 K10
    go_wp2_with fail
    go_loopw [13, 15, 16] (fun s hi i wr => ∃ (n m h se q : Nat) (t : Int) (T : Nat → Bool) (A : Option Addr) (c : Nat) (V : List Value) (Al : Option Addr) (cl : Nat), i = .int .i64 (n : Int) ∧ n ≤ 60 ∧ m ≤ n ∧ q ≤ n ∧ hi = .int .i64 ((h : Int) - 1) ∧ s = .slice A m c ∧ 0 ≤ t ∧ t ≤ 5 ∧ OnInv h se T m ∧ OnW w ks gk g2 g5 gm m m h se q t T A c V Al cl wr) (fun _ _ i _ => 60 - (intOf i).toNat)
    case atStart => exact ⟨0, 0, 0, 0, 0, 0, _, none, 0, [], Ag, cg, rfl, by decide, Nat.le_refl _, Nat.le_refl _, rfl, rfl, by decide, by decide, OnInv.start, unhide W0⟩
    case round =>
      obtain ⟨n, m, h, se, q, t, T, A, c, V, Al, cl, rfl, hn, hmn, hqn, rfl, rfl, ht0, ht5, hinv, how⟩ := hrel
      have HI := hide hinv
      have W1 := hide how
      clear hinv how W0 hmm
      by_cases hlt : n < 60
      · have hlt2 : (n : Int) < 60 := by omega
        have hmi : (m : Int) < 60 := by omega
        go_upto_region 18 with fail
        go_cut [105] from 94 to 184 (fun b W => ∃ x, b = .bool x ∧ (x = false → 1 ≤ m) ∧ OnW w ks gk g2 g5 gm m m h se q t T A c V Al cl W)
        case first =>
          go_wp2_with fail
          refine (next_any wr gk gk 2 (unhide W1).cod (by decide) (by decide)).mono ?_
          rintro e v1 ⟨r, rfl, hr0, hr1, hc1, hg1⟩
          have N1 := hide ((unhide W1).next hc1 hg1)
          clear hc1 hg1 W1 HI
          by_cases hr : r = 0
          · subst hr
            go_wp2_with fail
            go_meet
            exact ⟨true, rfl, by simp, unhide N1⟩
          · have e1 : (r == 0) = false := by simp [hr]
            by_cases hm0 : m = 0
            · have e2 : ((m : Int) == 0) = true := by simp [hm0]
              clear hm0
              go_wp2_with fail
              go_meet
              exact ⟨true, rfl, by simp, unhide N1⟩
            · have e2 : ((m : Int) == 0) = false := by simp [hm0]
              have hm1 : 1 ≤ m := by omega
              clear hm0
              go_wp2_with fail
              go_meet
              exact ⟨false, rfl, fun _ => hm1, unhide N1⟩
        case rest =>
          obtain ⟨x, rfl, hx, how⟩ := hcut
          have W2 := hide how
          have HX := hide hx
          clear how hx W1
          go_upto_if 105 with fail
          go_cut [13] from 94 to 184 (fun s W => ∃ (m' : Nat) (A' : Option Addr) (c' : Nat) (V' : List Value), s = .slice A' m' c' ∧ 1 ≤ m' ∧ m' ≤ n + 1 ∧ m ≤ m' ∧ OnW w ks gk g2 g5 gm m' m' h se q t T A' c' V' Al cl W)
          case first =>
            cases x with
            | false =>
              have h1m := unhide HX rfl
              go_wp2_with fail
              go_meet
              exact ⟨m, A, c, V, rfl, h1m, by omega, Nat.le_refl _, unhide W2⟩
            | true =>
              have hw8 : IntKind.u8.wrap (m : Int) = ((UInt8.ofNat m).toNat : Int) := by rw [IntKind.wrap_u8', UInt8.toNat_ofNat']; omega
              have hm32 : m < 4294967296 := by omega
              have hmN : m < 60 := by omega
              have WC := hide (unhide W2).cli
              go_wp2_with (first
                | (refine wpList_load_row rfl 48 _ rfl g2 rfl 48 _ _ _ (unhide WC) Try.underlying48 rfl (cli_info (onC_ok hks hm32)) ?_)
                | (refine wpList_bslice rfl 32 1 _ rfl [(0, .int .u8 ((UInt8.ofNat m).toNat : Int))] rfl _ _ (run_slice_b wc (UInt8.ofNat m)) ?_)
                | fail)
              have hz9 : Blk (wc.alloc (.cells #[.int .u8 ((UInt8.ofNat m).toNat : Int)] 5)) wc.heap.size 5 (bsV [UInt8.ofNat m]).toArray := Blk.new wc _ _
              have hr9 : Reads (wc.alloc (.cells #[.int .u8 ((UInt8.ofNat m).toNat : Int)] 5)) (wc.alloc (.cells #[.int .u8 ((UInt8.ofNat m).toNat : Int)] 5)).heap.size 1 (some ⟨wc.heap.size, 0, none⟩) 1 (bsV [UInt8.ofNat m]) := Reads.of_blk (cs := bsV [UInt8.ofNat m]) hz9 0 1 (by simp [bsV]) hz9.lt
              refine (on_postC hks _ m hmN (some ⟨wc.heap.size, 0, none⟩) 1 hr9 (by decide) (by decide)).mono ?_
              clear hr9 hz9
              rintro e v2 ⟨vb, rfl, hob, hb⟩
              rw [onP_len] at hob
              obtain ⟨Bh, bh, hvb, hh1, hh2⟩ := slice_of_own hob
              subst hvb
              have hb : Below wc.heap.size wc v2 := ((Below.refl _ _).alloc (Nat.le_refl _) _).trans (hb.mono (by rw [size_alloc]; omega))
              have hkw : gk < wc.heap.size := (unhide W2).cod.lt
              have O3 := hide ((own_more hob (by rw [size_alloc]; omega : gk + 1 ≤ (wc.alloc (.cells #[.int .u8 ((UInt8.ofNat m).toNat : Int)] 5)).heap.size)).alloc (.cells zCli.cs.toArray 48))
              have W3 := hide ((unhide W2).below hb)
              have Y3 := hide (Blk.new v2 48 zCli.cs.toArray)
              have hsq0 := Cli.size_eq (onC_ok hks (show m + 1 < 4294967296 by omega))
              have hv2 : wc.heap.size ≤ v2.heap.size := hb.size
              clear hb hob hw8 WC
              go_upto_region 20 with (first
                | (refine wpList_alloc_to rfl 48 rfl _ v2.heap.size rfl (alloc_cli _) ?_)
                | (refine wpList_store_blk rfl 48 (.tmp 17) (.tmp 113) rfl v2.heap.size 48 _ (onC ks (m + 1)).cs.toArray rfl rfl (unhide Y3) hsq0 (cli_info (onC_ok hks (show m + 1 < 4294967296 by omega))) (fun v hv => Cli.one v (by simpa using hv)) ?_
                   intro v4 hb hg
                   have Y4 := hide hb
                   have O4 := hide (World.ownsRow.kept (unhide O3) hg (.inr (own_blk_ne (unhide O3) (unhide Y3) (by decide))))
                   have W4 := hide ((unhide W3).below (((Below.refl v2.heap.size v2).alloc (Nat.le_refl _) _).grown hg (by rw [size_alloc]; omega) (fun g e => by injection e with e; omega)))
                   clear hb hg)
                | fail)
              go_upto_region 22 with (first
                | fail)
              have hsq1 : (onC ks (m + 1)).cs.toArray.size = (onC ks m).cs.toArray.size := by rw [Cli.size (onC_ok hks (show m + 1 < 4294967296 by omega)), Cli.size (onC_ok hks hm32)]
              obtain ⟨ib, hib, hiz, his, hiy⟩ := bytes_info
              have HIB := hide hib
              have HIZ := hide hiz
              have HIS := hide his
              have HIY := hide hiy
              have W5 := hide ((unhide W4).drew.alloc (.cells #[.slice Bh 19 bh] 32))
              have O5 := hide (show (v4.drew).ownsRow (gk + 1) 5 1 (.slice Bh 19 bh) 19 (bsV (onP ks m)) from unhide O4)
              have O5 := hide ((unhide O5).alloc (.cells #[.slice Bh 19 bh] 32))
              have G2 := (unhide W2).cli.lt
              have GK := (unhide W4).cod.lt
              clear hib hiz his hiy
              have hB0 : Below v4.heap.size v4 v4.drew := (Below.refl _ _).drew
              have hS0 : (fun wz => Blk wz v2.heap.size 48 (onC ks (m + 1)).cs.toArray) v4.drew := (unhide Y4)
              refine wp_region_noPanic (wp_region_held_drew (S := fun wz => Blk wz v2.heap.size 48 (onC ks (m + 1)).cs.toArray) (by kernel_rfl) hS0 (fun _ => ?_))
              refine th_take (i := 0) rfl (by kernel_rfl) (by kernel_rfl) (by kernel_rfl) (y_loadblk 48 (.tmp 17) (by rfl) rfl v2.heap.size rfl 48 (onC ks (m + 1)).cs.toArray _ (fun _ h => h) Try.underlying48 rfl (cli_info (onC_ok hks (show m + 1 < 4294967296 by omega)))) hS0 ?_
              simp only [Act.put, List.setIfInBounds_toArray, List.set_cons_zero, List.set_cons_succ]
              refine th_take (i := 1) (v := ?_) rfl (by kernel_rfl) (by kernel_rfl) (by kernel_rfl) (Or.inl ⟨by rfl, fun wz hSw => ?_⟩) hS0 ?_
              rotate_left
              · go_simp
                with_reducible rfl
              simp only [Act.put, List.setIfInBounds_toArray, List.set_cons_zero, List.set_cons_succ]
              refine th_take (i := 2) (v := ?_) rfl (by kernel_rfl) (by kernel_rfl) (by kernel_rfl) (Or.inl ⟨by rfl, fun wz hSw => ?_⟩) hS0 ?_
              rotate_left
              · go_simp
                with_reducible rfl
              simp only [Act.put, List.setIfInBounds_toArray, List.set_cons_zero, List.set_cons_succ]
              refine th_one (i := 3) rfl (by kernel_rfl) (fun K hK => ?_)
              rw [if_pos (by rfl)]
              refine step_bslice 61 1 _ rfl [(0, .slice Bh 19 bh)] rfl _ _ (run_slice_1 v4.drew Bh 19 bh) ?_
              have q5 : Blk (v4.drew.alloc (.cells #[.slice Bh 19 bh] 32)) v2.heap.size 48 (onC ks (m + 1)).cs.toArray := (Blk.drew (unhide Y4)).alloc _
              refine hK.out _ _ q5 (fun _ => ?_)
              clear hK K
              try simp only [Act.put, List.setIfInBounds_toArray, List.set_cons_zero, List.set_cons_succ]
              refine th_one (i := 4) rfl (by kernel_rfl) (fun K hK => ?_)
              refine step_append_any (v4.drew.alloc (.cells #[.slice Bh 19 bh] 32)) rfl (.tmp 119) (.tmp 121) 61 rfl (gk + 1) 32 ib (.slice none 0 0) 1 24 Try.underlying61 (unhide HIB) (unhide HIZ) (unhide HIS) (unhide HIY) rfl (by decide) (.slice A m c) m V rfl (unhide W5).row (v4.heap.size + 1) (some ⟨v4.heap.size, 0, none⟩) 1 1 [.slice Bh 19 bh] rfl (Reads.of_blk (cs := [Value.slice Bh 19 bh]) (Blk.new v4.drew 32 _) 0 1 (by simp) (Nat.lt_succ_self _)) (by intro u hu; simp at hu; subst hu; rfl) (by unfold maxLen; omega) (by omega) (by rw [size_alloc]; show gk + 1 ≤ v4.heap.size + 1; omega) ?_
              intro v' w6 hown6 hg6 _
              have q6 : Blk w6 v2.heap.size 48 (onC ks (m + 1)).cs.toArray := q5.grown hg6 (fun e => (own_blk_ne (unhide W5).row q5 (by decide)) e.symm)
              obtain ⟨A', c', rfl, w6o⟩ := (unhide W5).push (by rw [onP_len]; exact unhide O5) hown6 hg6
              refine hK.out _ _ q6 (fun _ => ?_)
              clear hK K
              try simp only [Act.put]
              refine th_one (i := 5) rfl (by kernel_rfl) (fun K hK => ?_)
              refine step_store_blk (by rfl) 48 (.tmp 5) (.tmp 118) rfl g2 48 _ (onC ks (m + 1)).cs.toArray rfl rfl w6o.cli hsq1 (cli_info (onC_ok hks (show m + 1 < 4294967296 by omega))) (fun v hv => Cli.one v (by simpa using hv)) ?_
              intro w7 hb7 hg7
              have w7o := w6o.client hb7 hg7
              have q7 := q6.grown hg7 (fun e => by injection e with e; omega)
              refine hK.out _ _ q7 (fun _ => ?_)
              clear hK K
              try simp only [Act.put]
              refine th_take (i := 6) (v := ?_) rfl (by kernel_rfl) (by kernel_rfl) (by kernel_rfl) (Or.inl ⟨by rfl, fun wz hSw => ?_⟩) q7 ?_
              rotate_left
              · go_simp
                with_reducible rfl
              simp only [Act.put, List.setIfInBounds_toArray, List.set_cons_zero, List.set_cons_succ]
              refine wpAnyH_done (by kernel_rfl) (NoPanic.normal ?_) _
              go_wp2_with fail
              go_meet
              exact ⟨m + 1, A', c', _, rfl, by omega, by omega, by omega, w7o⟩
          case rest =>
            obtain ⟨m1, A1, c1, V1, rfl, hm1, hmn1, hmm1, how⟩ := hcut
            have W3 := hide how
            have HI1 := hide ((unhide HI).more hmm1)
            clear how W2 HX HI
            have hm61 : (m1 : Int) < 61 := by omega
            go_upto_region 23 with (first
              | fail)
            go_cut [20] from 94 to 184 (fun v W => ∃ k : Nat, v = .int .i64 (k : Int) ∧ k < m1 ∧ OnW w ks gk g2 g5 gm m1 m1 h se q t T A1 c1 V1 Al cl W)
            case first =>
              rcases Int.lt_or_le 40 (m1 : Int) with e40 | e40
              all_goals
                go_wp2_with fail
                refine (next_any wc gk gk _ (unhide W3).cod (by omega) (by omega)).mono ?_
                rintro e v1 ⟨r, rfl, hr0, hr1, hc1, hg1⟩
                obtain ⟨k, hk⟩ : ∃ k : Nat, (m1 : Int) - 1 - r = (k : Int) := ⟨((m1 : Int) - 1 - r).toNat, by omega⟩
                have hkm : k < m1 := by omega
                have W4 := hide ((unhide W3).next hc1 hg1)
                clear hc1 hg1 W3 HI1
                go_wp2_with fail
                go_meet
                exact ⟨k, (by first | rfl | exact congrArg (Value.int .i64) hk), hkm, unhide W4⟩
            case rest =>
              obtain ⟨k, rfl, hkm, how⟩ := hcut
              have W4 := hide how
              have hkm2 : (k : Int) < (m1 : Int) := by omega
              have hk60 : (k : Int) < 60 := by omega
              clear how W3
              obtain ⟨⟨h1, s1, q1⟩, hp⟩ : ∃ p, shiftF h se (k + 1) = p := ⟨_, rfl⟩
              have hcodes := shift_codes h se (k + 1)
              have hstep := (unhide HI1).step (n := k + 1) (by omega) (by omega) (by omega)
              have hnew := (unhide HI1).new (n := k + 1)
              have href := bit_refuse (n := k + 1) (unhide HI1).bit (by omega)
              have hmax := shift_max (h := h) (s := se) (n := k + 1)
              rw [hp] at hcodes hstep hnew href hmax
              dsimp only at hcodes hstep hnew href hmax
              have HP := hide hp
              have HCO := hide hcodes
              have HST := hide hstep
              have HNE := hide hnew
              have HRE := hide href
              have HMA := hide hmax
              clear hp hcodes hstep hnew href hmax
              go_upto_region 24 with (first
                | fail)
              obtain ⟨g, o2, Ak, ck, hA1, hgl, hck, hrk, hk19, hkm19⟩ := (unhide W4).packet hkm
              subst hA1
              have HCK := hide hck
              have HRK := hide hrk
              have GS := hide (unhide W4).ses
              clear hck hrk
              go_cut [21, 24, 25] from 94 to 184 (fun p d j W => ∃ (g21 : Nat) (A2 : Option Addr) (n2 c2 : Nat) (Ad : Option Addr) (nd cd : Nat) (x2 : Int), p = .pointer (some ⟨g21, 0, none⟩) ∧ d = .slice Ad nd cd ∧ j = .int .i64 q1 ∧ Blk W g21 53 #[.slice A2 n2 c2, .int .u32 x2] ∧ OnW w ks gk g2 g5 gm m1 m1 h se q t T (some ⟨g, o2, none⟩) c1 V1 Al cl W ∧ (q1 = 0 → n2 = 1 ∧ x2 = 2 ∧ nd = 1 ∧ W.ownsRow (gk + 1) 84 26 (.slice A2 1 c2) 1 (flatS [onS ks h1 s1 5]) ∧ W.ownsRow (gk + 1) 5 1 (.slice Ad 1 cd) 1 (bsV [UInt8.ofNat k])))
              case first =>
                have hS0 : Below wc.heap.size wc wc.drew := (Below.refl _ _).drew
                refine wp_region_noPanic (wp_region_held_drew (S := fun wz => Below wc.heap.size wc wz) (by kernel_rfl) hS0 (fun _ => ?_))
                have hkv : gk < wc.heap.size := (unhide W4).cod.lt
                refine th_take (i := 0) rfl (by kernel_rfl) (by kernel_rfl) (by kernel_rfl) (y_loadblk 53 (.tmp 8) (by rfl) rfl g5 rfl 53 #[.slice Al 1 cl, .int .u32 2] _ (fun _ h => (unhide GS).below h (unhide GS).lt) Try.underlying53 rfl (by kernel_rfl)) hS0 ?_
                simp only [Act.put, List.setIfInBounds_toArray, List.set_cons_zero, List.set_cons_succ]
                refine th_take (i := 1) (v := ?_) rfl (by kernel_rfl) (by kernel_rfl) (by kernel_rfl) (Or.inl ⟨by rfl, fun wz hSw => ?_⟩) hS0 ?_
                rotate_left
                · go_simp
                  with_reducible rfl
                simp only [Act.put, List.setIfInBounds_toArray, List.set_cons_zero, List.set_cons_succ]
                refine th_take (i := 2) (v := ?_) rfl (by kernel_rfl) (by kernel_rfl) (by kernel_rfl) (Or.inl ⟨by rfl, fun wz hSw => ?_⟩) hS0 ?_
                rotate_left
                · go_simp
                  with_reducible rfl
                simp only [Act.put, List.setIfInBounds_toArray, List.set_cons_zero, List.set_cons_succ]
                refine th_take (i := 3) (v := ?_) rfl (by kernel_rfl) (by kernel_rfl) (by kernel_rfl) (Or.inl ⟨by rfl, fun wz hSw => ?_⟩) hS0 ?_
                rotate_left
                · go_simp
                  with_reducible rfl
                simp only [Act.put, List.setIfInBounds_toArray, List.set_cons_zero, List.set_cons_succ]
                refine th_take (i := 4) (v := (.slice Ak 19 ck)) rfl (by kernel_rfl) (by kernel_rfl) (by kernel_rfl) (Or.inl ⟨by rfl, fun wz hSw => ?_⟩) hS0 ?_
                · have hcz : wz.cell? ⟨g, o2 + k, none⟩ = some (.slice Ak 19 ck) := (hSw.cell (p := ⟨g, o2 + k, none⟩) hgl).trans (unhide HCK)
                  go_simp
                simp only [Act.put, List.setIfInBounds_toArray, List.set_cons_zero, List.set_cons_succ]
                refine th_two (i := 5) (j := 12) rfl rfl (by kernel_rfl) (fun K hK => ?_) (fun K hK => ?_)
                · skip
                  rw [if_pos (by rfl)]
                  go_simp
                  refine (on_recvU wc.drew Al cl h se t ⟨ht0, ht5⟩ (SessL.of_own (own_below (unhide W4).sl hS0) (fun x hx => by simp at hx; subst hx; exact onS_ok hks t (unhide HI1).hl (unhide HI1).sl)) k (by omega) Ak ck (((unhide HRK).below hS0).more hS0.size) hk19 hkm19).mono ?_
                  rintro e wn hrc
                  unfold RcvU at hrc
                  rw [unhide HP] at hrc
                  dsimp only at hrc
                  obtain ⟨A2, n2, c2, Ad, nd, cd, x2, y2, z2, rfl, hbn, hco⟩ := hrc
                  have hwn : Below wc.heap.size wc wn := hS0.trans (hbn.mono hS0.size)
                  have hgs : gk + 1 ≤ (wc.drew).heap.size := by have := hS0.size; omega
                  refine hK.out _ _ hwn (fun _ => ?_)
                  clear hK K
                  try simp only [Act.put, List.setIfInBounds_toArray, List.set_cons_zero, List.set_cons_succ]
                  refine th_take (i := 6) (v := ?_) rfl (by kernel_rfl) (by kernel_rfl) (by kernel_rfl) (Or.inl ⟨by rfl, fun wz hSw => ?_⟩) hwn ?_
                  rotate_left
                  · go_simp
                    with_reducible rfl
                  simp only [Act.put, List.setIfInBounds_toArray, List.set_cons_zero, List.set_cons_succ]
                  refine th_take (i := 7) (v := ?_) rfl (by kernel_rfl) (by kernel_rfl) (by kernel_rfl) (Or.inl ⟨by rfl, fun wz hSw => ?_⟩) hwn ?_
                  rotate_left
                  · go_simp
                    with_reducible rfl
                  simp only [Act.put, List.setIfInBounds_toArray, List.set_cons_zero, List.set_cons_succ]
                  refine th_take (i := 8) (v := ?_) rfl (by kernel_rfl) (by kernel_rfl) (by kernel_rfl) (Or.inl ⟨by rfl, fun wz hSw => ?_⟩) hwn ?_
                  rotate_left
                  · go_simp
                    with_reducible rfl
                  simp only [Act.put, List.setIfInBounds_toArray, List.set_cons_zero, List.set_cons_succ]
                  refine th_take (i := 9) (v := ?_) rfl (by kernel_rfl) (by kernel_rfl) (by kernel_rfl) (Or.inl ⟨by rfl, fun wz hSw => ?_⟩) hwn ?_
                  rotate_left
                  · go_simp
                    with_reducible rfl
                  simp only [Act.put, List.setIfInBounds_toArray, List.set_cons_zero, List.set_cons_succ]
                  refine th_take (i := 10) (v := ?_) rfl (by kernel_rfl) (by kernel_rfl) (by kernel_rfl) (Or.inl ⟨by rfl, fun wz hSw => ?_⟩) hwn ?_
                  rotate_left
                  · go_simp
                    with_reducible rfl
                  simp only [Act.put, List.setIfInBounds_toArray, List.set_cons_zero, List.set_cons_succ]
                  refine th_take (i := 11) (v := ?_) rfl (by kernel_rfl) (by kernel_rfl) (by kernel_rfl) (Or.inl ⟨by rfl, fun wz hSw => ?_⟩) hwn ?_
                  rotate_left
                  · go_simp
                    with_reducible rfl
                  simp only [Act.put, List.setIfInBounds_toArray, List.set_cons_zero, List.set_cons_succ]
                  refine th_one (i := 12) rfl (by kernel_rfl) (fun K hK => ?_)
                  rw [if_pos (by rfl)]
                  obtain ⟨g21, hg21⟩ : ∃ k, (wn).heap.size = k := ⟨_, rfl⟩
                  have hz5 : Blk (wn.alloc (.cells #[.slice none 0 0, .int .u32 0] 53)) g21 53 #[.slice none 0 0, .int .u32 0] := by rw [← hg21]; exact Blk.new wn _ _
                  have h5g : wc.heap.size ≤ g21 := by rw [← hg21]; exact hwn.size
                  refine step_alloc_ 53 rfl (alloc_sl _) ?_
                  have ha : Below wc.heap.size wc (wn.alloc (.cells #[.slice none 0 0, .int .u32 0] 53)) := hwn.alloc hwn.size _
                  refine hK.out _ _ ha (fun _ => ?_)
                  clear hK K
                  try simp only [Act.put, List.setIfInBounds_toArray, List.set_cons_zero, List.set_cons_succ]
                  rw [hg21]
                  clear hg21
                  refine th_one (i := 13) rfl (by kernel_rfl) (fun K hK => ?_)
                  refine step_store_blk (by rfl) 53 (.tmp 21) (.tmp 139) rfl g21 53 _ #[.slice A2 n2 c2, .int .u32 x2] rfl rfl hz5 rfl (by kernel_rfl) (by intro v hv; simp at hv; rcases hv with rfl | rfl <;> rfl) ?_
                  intro w9 hb9 hg9
                  have h9 : Below wc.heap.size wc w9 := ha.grown hg9 ha.size (fun j e => by injection e with e; omega)
                  have hfin : q1 = 0 → n2 = 1 ∧ x2 = 2 ∧ nd = 1 ∧ w9.ownsRow (gk + 1) 84 26 (.slice A2 1 c2) 1 (flatS [onS ks h1 s1 5]) ∧ w9.ownsRow (gk + 1) 5 1 (.slice Ad 1 cd) 1 (bsV [UInt8.ofNat k]) := fun h0 => by
                    obtain ⟨e1, e2, e3, o1, o2⟩ := hco h0
                    have o1 := (own_more o1 hgs).alloc (.cells #[.slice none 0 0, .int .u32 0] 53)
                    have o2 := (own_more o2 hgs).alloc (.cells #[.slice none 0 0, .int .u32 0] 53)
                    exact ⟨e1, e2, e3, World.ownsRow.kept o1 hg9 (.inr (own_blk_ne o1 hz5 (by decide))), World.ownsRow.kept o2 hg9 (.inr (own_blk_ne o2 hz5 (by decide)))⟩
                  refine hK.out _ _ h9 (fun _ => ?_)
                  clear hK K
                  try simp only [Act.put]
                  refine th_take (i := 14) (v := ?_) rfl (by kernel_rfl) (by kernel_rfl) (by kernel_rfl) (Or.inl ⟨by rfl, fun wz hSw => ?_⟩) h9 ?_
                  rotate_left
                  · go_simp
                    with_reducible rfl
                  simp only [Act.put, List.setIfInBounds_toArray, List.set_cons_zero, List.set_cons_succ]
                  refine th_take (i := 15) (v := ?_) rfl (by kernel_rfl) (by kernel_rfl) (by kernel_rfl) (Or.inl ⟨by rfl, fun wz hSw => ?_⟩) h9 ?_
                  rotate_left
                  · go_simp
                    with_reducible rfl
                  simp only [Act.put, List.setIfInBounds_toArray, List.set_cons_zero, List.set_cons_succ]
                  refine th_take (i := 16) (v := ?_) rfl (by kernel_rfl) (by kernel_rfl) (by kernel_rfl) (Or.inl ⟨by rfl, fun wz hSw => ?_⟩) h9 ?_
                  rotate_left
                  · go_simp
                    with_reducible rfl
                  simp only [Act.put, List.setIfInBounds_toArray, List.set_cons_zero, List.set_cons_succ]
                  refine th_take (i := 17) (v := ?_) rfl (by kernel_rfl) (by kernel_rfl) (by kernel_rfl) (Or.inl ⟨by rfl, fun wz hSw => ?_⟩) h9 ?_
                  rotate_left
                  · go_simp
                    with_reducible rfl
                  simp only [Act.put, List.setIfInBounds_toArray, List.set_cons_zero, List.set_cons_succ]
                  refine wpAnyH_done (by kernel_rfl) (NoPanic.normal ?_) _
                  go_wp2_with fail
                  go_meet
                  exact ⟨g21, A2, n2, c2, Ad, nd, cd, x2, rfl, rfl, rfl, hb9, (unhide W4).below h9, hfin⟩
                · skip
                  rw [if_pos (by rfl)]
                  obtain ⟨g21, hg21⟩ : ∃ k, (wc.drew).heap.size = k := ⟨_, rfl⟩
                  have hz5 : Blk (wc.drew.alloc (.cells #[.slice none 0 0, .int .u32 0] 53)) g21 53 #[.slice none 0 0, .int .u32 0] := by rw [← hg21]; exact Blk.new wc.drew _ _
                  have h5g : wc.heap.size ≤ g21 := by rw [← hg21]; exact hS0.size
                  refine step_alloc_ 53 rfl (alloc_sl _) ?_
                  have ha : Below wc.heap.size wc (wc.drew.alloc (.cells #[.slice none 0 0, .int .u32 0] 53)) := hS0.alloc hS0.size _
                  refine hK.out _ _ ha (fun _ => ?_)
                  clear hK K
                  try simp only [Act.put, List.setIfInBounds_toArray, List.set_cons_zero, List.set_cons_succ]
                  rw [hg21]
                  clear hg21
                  refine th_one (i := 5) rfl (by kernel_rfl) (fun K hK => ?_)
                  rw [if_pos (by rfl)]
                  go_simp
                  refine (on_recvU (wc.drew.alloc (.cells #[.slice none 0 0, .int .u32 0] 53)) Al cl h se t ⟨ht0, ht5⟩ (SessL.of_own (own_below (unhide W4).sl ha) (fun x hx => by simp at hx; subst hx; exact onS_ok hks t (unhide HI1).hl (unhide HI1).sl)) k (by omega) Ak ck (((unhide HRK).below ha).more ha.size) hk19 hkm19).mono ?_
                  rintro e wn hrc
                  unfold RcvU at hrc
                  rw [unhide HP] at hrc
                  dsimp only at hrc
                  obtain ⟨A2, n2, c2, Ad, nd, cd, x2, y2, z2, rfl, hbn, hco⟩ := hrc
                  have hwn : Below wc.heap.size wc wn := ha.trans (hbn.mono ha.size)
                  have hgs : gk + 1 ≤ ((wc.drew.alloc (.cells #[.slice none 0 0, .int .u32 0] 53))).heap.size := by have := ha.size; omega
                  have hz5 := hz5.below hbn hz5.lt
                  refine hK.out _ _ hwn (fun _ => ?_)
                  clear hK K
                  try simp only [Act.put, List.setIfInBounds_toArray, List.set_cons_zero, List.set_cons_succ]
                  refine th_take (i := 6) (v := ?_) rfl (by kernel_rfl) (by kernel_rfl) (by kernel_rfl) (Or.inl ⟨by rfl, fun wz hSw => ?_⟩) hwn ?_
                  rotate_left
                  · go_simp
                    with_reducible rfl
                  simp only [Act.put, List.setIfInBounds_toArray, List.set_cons_zero, List.set_cons_succ]
                  refine th_take (i := 7) (v := ?_) rfl (by kernel_rfl) (by kernel_rfl) (by kernel_rfl) (Or.inl ⟨by rfl, fun wz hSw => ?_⟩) hwn ?_
                  rotate_left
                  · go_simp
                    with_reducible rfl
                  simp only [Act.put, List.setIfInBounds_toArray, List.set_cons_zero, List.set_cons_succ]
                  refine th_take (i := 8) (v := ?_) rfl (by kernel_rfl) (by kernel_rfl) (by kernel_rfl) (Or.inl ⟨by rfl, fun wz hSw => ?_⟩) hwn ?_
                  rotate_left
                  · go_simp
                    with_reducible rfl
                  simp only [Act.put, List.setIfInBounds_toArray, List.set_cons_zero, List.set_cons_succ]
                  refine th_take (i := 9) (v := ?_) rfl (by kernel_rfl) (by kernel_rfl) (by kernel_rfl) (Or.inl ⟨by rfl, fun wz hSw => ?_⟩) hwn ?_
                  rotate_left
                  · go_simp
                    with_reducible rfl
                  simp only [Act.put, List.setIfInBounds_toArray, List.set_cons_zero, List.set_cons_succ]
                  refine th_take (i := 10) (v := ?_) rfl (by kernel_rfl) (by kernel_rfl) (by kernel_rfl) (Or.inl ⟨by rfl, fun wz hSw => ?_⟩) hwn ?_
                  rotate_left
                  · go_simp
                    with_reducible rfl
                  simp only [Act.put, List.setIfInBounds_toArray, List.set_cons_zero, List.set_cons_succ]
                  refine th_take (i := 11) (v := ?_) rfl (by kernel_rfl) (by kernel_rfl) (by kernel_rfl) (Or.inl ⟨by rfl, fun wz hSw => ?_⟩) hwn ?_
                  rotate_left
                  · go_simp
                    with_reducible rfl
                  simp only [Act.put, List.setIfInBounds_toArray, List.set_cons_zero, List.set_cons_succ]
                  refine th_one (i := 13) rfl (by kernel_rfl) (fun K hK => ?_)
                  refine step_store_blk (by rfl) 53 (.tmp 21) (.tmp 139) rfl g21 53 _ #[.slice A2 n2 c2, .int .u32 x2] rfl rfl hz5 rfl (by kernel_rfl) (by intro v hv; simp at hv; rcases hv with rfl | rfl <;> rfl) ?_
                  intro w9 hb9 hg9
                  have h9 : Below wc.heap.size wc w9 := hwn.grown hg9 hwn.size (fun j e => by injection e with e; omega)
                  have hfin : q1 = 0 → n2 = 1 ∧ x2 = 2 ∧ nd = 1 ∧ w9.ownsRow (gk + 1) 84 26 (.slice A2 1 c2) 1 (flatS [onS ks h1 s1 5]) ∧ w9.ownsRow (gk + 1) 5 1 (.slice Ad 1 cd) 1 (bsV [UInt8.ofNat k]) := fun h0 => by
                    obtain ⟨e1, e2, e3, o1, o2⟩ := hco h0
                    have o1 := (own_more o1 hgs)
                    have o2 := (own_more o2 hgs)
                    exact ⟨e1, e2, e3, World.ownsRow.kept o1 hg9 (.inr (own_blk_ne o1 hz5 (by decide))), World.ownsRow.kept o2 hg9 (.inr (own_blk_ne o2 hz5 (by decide)))⟩
                  refine hK.out _ _ h9 (fun _ => ?_)
                  clear hK K
                  try simp only [Act.put]
                  refine th_take (i := 14) (v := ?_) rfl (by kernel_rfl) (by kernel_rfl) (by kernel_rfl) (Or.inl ⟨by rfl, fun wz hSw => ?_⟩) h9 ?_
                  rotate_left
                  · go_simp
                    with_reducible rfl
                  simp only [Act.put, List.setIfInBounds_toArray, List.set_cons_zero, List.set_cons_succ]
                  refine th_take (i := 15) (v := ?_) rfl (by kernel_rfl) (by kernel_rfl) (by kernel_rfl) (Or.inl ⟨by rfl, fun wz hSw => ?_⟩) h9 ?_
                  rotate_left
                  · go_simp
                    with_reducible rfl
                  simp only [Act.put, List.setIfInBounds_toArray, List.set_cons_zero, List.set_cons_succ]
                  refine th_take (i := 16) (v := ?_) rfl (by kernel_rfl) (by kernel_rfl) (by kernel_rfl) (Or.inl ⟨by rfl, fun wz hSw => ?_⟩) h9 ?_
                  rotate_left
                  · go_simp
                    with_reducible rfl
                  simp only [Act.put, List.setIfInBounds_toArray, List.set_cons_zero, List.set_cons_succ]
                  refine th_take (i := 17) (v := ?_) rfl (by kernel_rfl) (by kernel_rfl) (by kernel_rfl) (Or.inl ⟨by rfl, fun wz hSw => ?_⟩) h9 ?_
                  rotate_left
                  · go_simp
                    with_reducible rfl
                  simp only [Act.put, List.setIfInBounds_toArray, List.set_cons_zero, List.set_cons_succ]
                  refine wpAnyH_done (by kernel_rfl) (NoPanic.normal ?_) _
                  go_wp2_with fail
                  go_meet
                  exact ⟨g21, A2, n2, c2, Ad, nd, cd, x2, rfl, rfl, rfl, hb9, (unhide W4).below h9, hfin⟩
              case rest =>
                obtain ⟨g21, A2, n2, c2, Ad, nd, cd, x2, rfl, rfl, rfl, hb9, how, hfin⟩ := hcut
                have W5 := hide how
                have G21 := hide hb9
                clear how hb9 W4 GS HCK HRK
                have hk32 : k < 4294967296 := by omega
                rcases unhide HCO with hq0 | hq0
                · subst hq0
                  obtain ⟨rfl, rfl, rfl, ho1, ho2⟩ := hfin rfl
                  have hnew := unhide HNE rfl
                  have HQI := hide (unhide HST rfl)
                  have HMX := hide (unhide HMA rfl)
                  have P1 := hide ho1
                  have P2 := hide ho2
                  have GS := hide (unhide W5).ses
                  clear hfin ho1 ho2 HNE HST HRE HMA HCO
                  go_upto_region 29 with (first
                    | (refine wpList_load_row rfl 53 _ rfl g21 rfl 53 _ _ _ (unhide G21) Try.underlying53 rfl (by kernel_rfl) ?_)
                    | (refine wpList_store_blk rfl 53 (.tmp 8) (.tmp 160) rfl g5 53 _ #[.slice A2 1 c2, .int .u32 2] rfl rfl (unhide GS) rfl (by kernel_rfl) (by intro v hv; simp at hv; rcases hv with rfl | rfl <;> rfl) ?_
                       intro w6 hb hg
                       have W6 := hide ((unhide W5).took (unhide P1) hb hg)
                       have D6 := hide (World.ownsRow.kept (unhide P2) hg (.inr (own_blk_ne (unhide P2) (unhide GS) (by decide))))
                       clear hb hg)
                    | fail)
                  have hl0 := (unhide W6).cnt.look k hk32
                  obtain ⟨w7, hput, hcnt, hg7⟩ := (unhide W6).cnt.put k hk32 (by unfold maxLen; omega) 1 (by decide)
                  rw [cnt_put] at hcnt
                  have W7 := hide ((unhide W6).counted hcnt hg7)
                  have D7 := hide (World.ownsRow.kept (unhide D6) hg7 (.inr fun e => ((unhide W6).cnt.own_ne (unhide D6)) e.symm))
                  have hl1 := (unhide W7).cnt.look k hk32
                  rw [show cntF T k = 0 by unfold cntF; rw [hnew]; rfl] at hl0
                  rw [show cntF (fun y => y == k + 1 || T y) k = 1 by unfold cntF; simp] at hl1
                  have hl0 : (Instr.lookup 62 (.map (some gm)) (.int .i64 (k : Int)) false).run Try.prog w6 = .ok (.int .i64 0) w6 := hl0
                  have hl1 : (Instr.lookup 62 (.map (some gm)) (.int .i64 (k : Int)) false).run Try.prog w7 = .ok (.int .i64 1) w7 := hl1
                  have hput : (Instr.mapUpdate 62 (.map (some gm)) (.int .i64 (k : Int)) (.int .i64 1)).run Try.prog w6 = .ok () w7 := hput
                  clear hcnt hg7 W6 D6 W5 G21 P1 P2 GS hnew
                  go_upto_region 30 with (first
                    | (refine wpList_mapput rfl 62 (.tmp 161) (.tmp 162) (.tmp 164) rfl _ _ _ rfl rfl rfl hput ?_)
                    | fail)
                  clear hl0 hput
                  obtain ⟨gd, od, hAd, hgdl, hcell⟩ := spot_b (Reads.of_own (unhide D7)) (by decide)
                  subst hAd
                  have hk8 : ((UInt8.ofNat k).toNat : Int) = (k : Int) := by rw [UInt8.toNat_ofNat']; omega
                  have hcd : w7.cell? ⟨gd, od, none⟩ = some (.int .u8 (k : Int)) := by have := hcell 0 (UInt8.ofNat k) rfl; rw [hk8] at this; exact this
                  have eqk : ((k : Int) != (k : Int)) = false := by simp
                  clear hcell hk8 hgdl D7
                  go_wp2_with (first
                    | fail)
                  go_roundw
                  case rel => exact ⟨n + 1, m1, h1, s1, q + 1, 5, _, _, c1, V1, A2, c2, by go_num, by omega, by omega, by omega, congrArg (Value.int .i64) (by have := unhide HMX; omega), rfl, by decide, by decide, unhide HQI, unhide W7⟩
                  case measure => simp [intOf]; omega
                · subst hq0
                  have href := unhide HRE (by decide)
                  have hl0 := (unhide W5).cnt.look k hk32
                  have hh60 : (h : Int) ≤ 60 := by have := (unhide HI1).le; omega
                  clear hfin HST HNE HMA HRE HCO HP
                  cases hT : T (k + 1) with
                  | true =>
                    rw [show cntF T k = 1 by unfold cntF; rw [hT]; rfl] at hl0
                    have hl0 : (Instr.lookup 62 (.map (some gm)) (.int .i64 (k : Int)) false).run Try.prog wc = .ok (.int .i64 1) wc := hl0
                    clear href hT
                    go_wp2_with fail
                    go_roundw
                    case rel => exact ⟨n + 1, m1, h, se, q, t, T, _, c1, V1, Al, cl, by go_num, by omega, by omega, by omega, rfl, rfl, ht0, ht5, unhide HI1, unhide W5⟩
                    case measure => simp [intOf]; omega
                  | false =>
                    rw [show cntF T k = 0 by unfold cntF; rw [hT]; rfl] at hl0
                    have hl0 : (Instr.lookup 62 (.map (some gm)) (.int .i64 (k : Int)) false).run Try.prog wc = .ok (.int .i64 0) wc := hl0
                    have hfar : ((h : Int) - 1 - (k : Int) ≤ 32) = False := by
                      rw [hT] at href
                      have := href.resolve_left (by simp)
                      simp
                      omega
                    clear href hT
                    go_wp2_with fail
                    go_roundw
                    case rel => exact ⟨n + 1, m1, h, se, q, t, T, _, c1, V1, Al, cl, by go_num, by omega, by omega, by omega, rfl, rfl, ht0, ht5, unhide HI1, unhide W5⟩
                    case measure => simp [intOf]; omega
      · obtain rfl : n = 60 := by omega
        go_wp2_with fail
        go_ret
        exact ⟨rfl, (unhide W1).low⟩
theorem once_any (w : World) (A : Option Addr) (n c : Nat) (bs : List UInt8) (hn : n ≤ c) (hc : c ≤ maxLen) (hr : Reads w w.heap.size 1 A n (bsV bs)) : Calls Try.prog 4 #[.slice A n c] w fun e w' => e = .returned (.bool true) ∧ Below w.heap.size w w' := once_sx w A n c bs hr hn hc
end Go.Proofs.Ytfbkkmnkpjgciaa
