/- baseboardfield's Need and Needs: needs whose names are short (printed by wip/gen_vneed.py). No condition. -/
import Derived.Test.YtbcbleonpaemgaaDoorVInst
import Derived.Test.YtbcbleonpaemgaaDoorVRight
import Derived.Test.YtbcbleonpaemgaaDoorHHeld
import Derived.Deep.CutRange
namespace Go.Proofs.YtbcbleonpaemgaaDoor
open Go.RowKit
def NSt (w1 : World) (B g : Nat) (W : World) : Prop := CodesAt W B g ∧ w1.grownBy W (some g)
theorem NSt.alloc {w1 W : World} {B g : Nat} (h : NSt w1 B g W) (o : Obj) : NSt w1 B g (W.alloc o) :=
  ⟨codes_far h.1 (World.grownBy_alloc W o none) (fun j e => by cases e), grown_far h.2 (World.grownBy_alloc W o none) (fun j e => by cases e)⟩
theorem NSt.drew {w1 W : World} {B g : Nat} (h : NSt w1 B g W) : NSt w1 B g W.drew := ⟨h.1.keep fun _ _ => rfl, only_drew h.2⟩
theorem NSt.call {w1 W W' : World} {B g : Nat} (h : NSt w1 B g W) (hc : CodesAt W' B g) (hg : W.grownBy W' (some g)) : NSt w1 B g W' := ⟨hc, grown_trans_some h.2 hg⟩
theorem NSt.far {w1 W W' : World} {B g p : Nat} (h : NSt w1 B g W) (hg : W.grownBy W' (some p)) (hp : g < p) (hq : w1.heap.size ≤ p) : NSt w1 B g W' :=
  ⟨codes_far h.1 hg (fun j e => by injection e with e; omega), grown_far h.2 hg (fun j e => by injection e with e; omega)⟩
theorem NSt.size {w1 W : World} {B g : Nat} (h : NSt w1 B g W) : w1.heap.size ≤ W.heap.size := h.2.size
/-- What Need leaves. -/
def NeedPost (w : World) (B g : Nat) (e : Ending) (w' : World) : Prop :=
  ∃ x : NeedS, e = .returned (.agg x.cells) ∧ x.c.length ≤ 16 ∧ x.o.length ≤ 16 ∧ CodesAt w' B g ∧ w.grownBy w' (some g)
set_option maxRecDepth 100000 in
set_option maxHeartbeats 16000000 in
theorem need_any (w : World) (B g : Nat) (h : CodesAt w B g) : Calls Tryd.prog 38 #[.pointer (some ⟨g, 0, none⟩)] w (NeedPost w B g) := by
  have hg := h.lt
  obtain ⟨w1, hw1⟩ : ∃ w1, (w.alloc (.cells #[.string ⟨#[]⟩, .int .i64 0, .int .i64 0, .int .i64 0, .string ⟨#[]⟩, .int .i64 0, .int .i64 0, .int .i64 0] 50)).alloc (.cells nmCs 9) = w1 := ⟨_, rfl⟩
  have C1 : Hid (CodesAt w1 B g) := hide (hw1 ▸ (h.keep fun b hb => by rw [Below.heap_alloc _ _ b (by rw [size_alloc]; omega), Below.heap_alloc w _ b (by omega)]))
  have R1 : Hid (Blk w1 w.heap.size 50 #[.string ⟨#[]⟩, .int .i64 0, .int .i64 0, .int .i64 0, .string ⟨#[]⟩, .int .i64 0, .int .i64 0, .int .i64 0]) := hide (hw1 ▸ (Blk.new w _ _).alloc _)
  have N1 : Hid (Blk w1 (w.heap.size + 1) 9 nmCs) := hide (hw1 ▸ Blk.new' (by simp))
  have G1 : Hid (w.grownBy w1 (some g)) := hide (hw1 ▸ grown_far (World.grownBy_alloc w _ _) (World.grownBy_alloc _ _ none) (fun j e => by cases e))
  have hsz : w1.heap.size = w.heap.size + 1 + 1 := by rw [← hw1]; simp only [size_alloc]
  have HSZ := hide hsz
  have hgw : w.heap.size + 1 < w1.heap.size := by omega
  have HW1 := hide hw1
  have CALL := hide next_any
  have HN4 : Hid (∀ W, NSt w1 B g W → ∀ (k : Nat) (s : List UInt8), k < 6 → nmL.getD k [] = s → W.cell? ⟨w.heap.size + 1, k, none⟩ = some (.string ⟨s.toArray⟩)) := hide (fun W hW k s hk hs => by
    have h1 := ((unhide N1).grown hW.2 (by intro e; injection e with e; omega)).cell k
    rw [h1, (nm_at k hk).1, hs])
  have HLE : Hid (∀ (k : Nat) (s : List UInt8), k < 6 → nmL.getD k [] = s → s.length ≤ 4) := hide (fun k s hk hs => by rw [← hs]; exact (nm_at k hk).2)
  clear h hw1 hsz
  go_enter Tryd.func38, Tryd.ntmps38
  go_wp2_with fail
  refine (names_any _).mono ?_
  rintro e w2 ⟨rfl, rfl⟩
  go_upto_region 2 with fail
  rw [unhide HW1]
  go_cut [4] from 6 to 24 (fun p W => ∃ (q : Nat) (c o : List UInt8) (a b : Int), p = .pointer (some ⟨q, 0, none⟩) ∧ c.length ≤ 4 ∧ o.length ≤ 4 ∧ Blk W q 50 #[.string ⟨c.toArray⟩, .int .i64 a, .int .i64 0, .int .i64 0, .string ⟨o.toArray⟩, .int .i64 b, .int .i64 0, .int .i64 0] ∧ w1.heap.size ≤ q ∧ NSt w1 B g W)
  case first =>
    have hS0 : NSt w1 B g w1.drew := NSt.drew ⟨unhide C1, World.grownBy.refl _ _⟩
    refine wp_region_noPanic (wp_region_held_drew (S := NSt w1 B g) (by kernel_rfl) hS0 (fun _ => ?_))
    refine th_take (i := 0) (v := ?_) rfl (by kernel_rfl) (by kernel_rfl) (by kernel_rfl) (Or.inl ⟨by rfl, fun wz hSw => ?_⟩) hS0 ?_
    rotate_left
    · go_simp
      with_reducible rfl
    simp only [Act.put, List.setIfInBounds_toArray, List.set_cons_zero, List.set_cons_succ]
    refine th_take (i := 1) (v := ?_) rfl (by kernel_rfl) (by kernel_rfl) (by kernel_rfl) (Or.inl ⟨by rfl, fun wz hSw => ?_⟩) hS0 ?_
    rotate_left
    · go_simp
      with_reducible rfl
    simp only [Act.put, List.setIfInBounds_toArray, List.set_cons_zero, List.set_cons_succ]
    refine th_take (i := 5) (v := ?_) rfl (by kernel_rfl) (by kernel_rfl) (by kernel_rfl) (Or.inl ⟨by rfl, fun wz hSw => ?_⟩) hS0 ?_
    rotate_left
    · go_simp
      with_reducible rfl
    simp only [Act.put, List.setIfInBounds_toArray, List.set_cons_zero, List.set_cons_succ]
    refine th_take (i := 9) (v := ?_) rfl (by kernel_rfl) (by kernel_rfl) (by kernel_rfl) (Or.inl ⟨by rfl, fun wz hSw => ?_⟩) hS0 ?_
    rotate_left
    · go_simp
      with_reducible rfl
    simp only [Act.put, List.setIfInBounds_toArray, List.set_cons_zero, List.set_cons_succ]
    refine th_take (i := 10) (v := ?_) rfl (by kernel_rfl) (by kernel_rfl) (by kernel_rfl) (Or.inl ⟨by rfl, fun wz hSw => ?_⟩) hS0 ?_
    rotate_left
    · go_simp
      with_reducible rfl
    simp only [Act.put, List.setIfInBounds_toArray, List.set_cons_zero, List.set_cons_succ]
    refine th_take (i := 14) (v := ?_) rfl (by kernel_rfl) (by kernel_rfl) (by kernel_rfl) (Or.inl ⟨by rfl, fun wz hSw => ?_⟩) hS0 ?_
    rotate_left
    · go_simp
      with_reducible rfl
    simp only [Act.put, List.setIfInBounds_toArray, List.set_cons_zero, List.set_cons_succ]
    refine th_two (i := 2) (j := 19) rfl rfl (by kernel_rfl) (fun K hK => ?_) (fun K hK => ?_)
    · -- the call first
      rw [if_pos (by rfl)]
      go_simp
      refine (unhide CALL _ B g 4 hS0.1 (by omega) (by omega)).mono ?_
      rintro e wn1 ⟨r1, rfl, hr0, hr1, hcn, hgn⟩
      obtain ⟨r1, rfl⟩ := Int.eq_ofNat_of_zero_le hr0
      have hr1 : r1 < 4 := by omega
      have hS1 : NSt w1 B g wn1 := hS0.call hcn hgn
      clear hr0 hr1 hcn hgn
      obtain ⟨s1, hs1⟩ : ∃ s, nmL.getD r1 [] = s := ⟨_, rfl⟩
      have hl1 := (unhide HLE) r1 s1 (by omega) hs1
      have HS1 := hide hs1
      clear hs1
      have hz1 := size_list s1 4 hl1
      have hi1 : (r1 : Int) < 6 := by omega
      refine hK.out _ _ hS1 (fun _ => ?_)
      clear hK K
      try simp only [Act.put, List.setIfInBounds_toArray, List.set_cons_zero, List.set_cons_succ]
      refine th_take (i := 3) (v := ?_) rfl (by kernel_rfl) (by kernel_rfl) (by kernel_rfl) (Or.inl ⟨by rfl, fun wz hSw => ?_⟩) hS1 ?_
      rotate_left
      · go_simp
        with_reducible rfl
      simp only [Act.put, List.setIfInBounds_toArray, List.set_cons_zero, List.set_cons_succ]
      refine th_take (i := 4) (v := .string ⟨s1.toArray⟩) rfl (by kernel_rfl) (by kernel_rfl) (by kernel_rfl) (Or.inl ⟨by rfl, fun wz hSw => ?_⟩) hS1 ?_
      · have hc := (unhide HN4) wz hSw r1 s1 (by omega) (unhide HS1)
        go_simp
      simp only [Act.put, List.setIfInBounds_toArray, List.set_cons_zero, List.set_cons_succ]
      refine th_two (i := 6) (j := 19) rfl rfl (by kernel_rfl) (fun K hK => ?_) (fun K hK => ?_)
      · -- the call first
        rw [if_pos (by rfl)]
        go_simp
        refine (unhide CALL _ B g 3 hS1.1 (by omega) (by omega)).mono ?_
        rintro e wn2 ⟨r2, rfl, hr0, hr1, hcn, hgn⟩
        obtain ⟨r2, rfl⟩ := Int.eq_ofNat_of_zero_le hr0
        have hr2 : r2 < 3 := by omega
        have hS2 : NSt w1 B g wn2 := hS1.call hcn hgn
        clear hr0 hr1 hcn hgn
        have hw2 : IntKind.i64.wrap (1 + (r2 : Int)) = 1 + (r2 : Int) := IntWalk.i64_in _ (by omega)
        refine hK.out _ _ hS2 (fun _ => ?_)
        clear hK K
        try simp only [Act.put, List.setIfInBounds_toArray, List.set_cons_zero, List.set_cons_succ]
        refine th_take (i := 7) (v := ?_) rfl (by kernel_rfl) (by kernel_rfl) (by kernel_rfl) (Or.inl ⟨by rfl, fun wz hSw => ?_⟩) hS2 ?_
        rotate_left
        · go_simp
          with_reducible rfl
        simp only [Act.put, List.setIfInBounds_toArray, List.set_cons_zero, List.set_cons_succ]
        refine th_take (i := 8) (v := ?_) rfl (by kernel_rfl) (by kernel_rfl) (by kernel_rfl) (Or.inl ⟨by rfl, fun wz hSw => ?_⟩) hS2 ?_
        rotate_left
        · go_simp
          with_reducible rfl
        simp only [Act.put, List.setIfInBounds_toArray, List.set_cons_zero, List.set_cons_succ]
        refine th_two (i := 11) (j := 19) rfl rfl (by kernel_rfl) (fun K hK => ?_) (fun K hK => ?_)
        · -- the call first
          rw [if_pos (by rfl)]
          go_simp
          refine (unhide CALL _ B g 4 hS2.1 (by omega) (by omega)).mono ?_
          rintro e wn3 ⟨r3, rfl, hr0, hr1, hcn, hgn⟩
          obtain ⟨r3, rfl⟩ := Int.eq_ofNat_of_zero_le hr0
          have hr3 : r3 < 4 := by omega
          have hS3 : NSt w1 B g wn3 := hS2.call hcn hgn
          clear hr0 hr1 hcn hgn
          obtain ⟨s3, hs3⟩ : ∃ s, nmL.getD r3 [] = s := ⟨_, rfl⟩
          have hl3 := (unhide HLE) r3 s3 (by omega) hs3
          have HS3 := hide hs3
          clear hs3
          have hz3 := size_list s3 4 hl3
          have hi3 : (r3 : Int) < 6 := by omega
          refine hK.out _ _ hS3 (fun _ => ?_)
          clear hK K
          try simp only [Act.put, List.setIfInBounds_toArray, List.set_cons_zero, List.set_cons_succ]
          refine th_take (i := 12) (v := ?_) rfl (by kernel_rfl) (by kernel_rfl) (by kernel_rfl) (Or.inl ⟨by rfl, fun wz hSw => ?_⟩) hS3 ?_
          rotate_left
          · go_simp
            with_reducible rfl
          simp only [Act.put, List.setIfInBounds_toArray, List.set_cons_zero, List.set_cons_succ]
          refine th_take (i := 13) (v := .string ⟨s3.toArray⟩) rfl (by kernel_rfl) (by kernel_rfl) (by kernel_rfl) (Or.inl ⟨by rfl, fun wz hSw => ?_⟩) hS3 ?_
          · have hc := (unhide HN4) wz hSw r3 s3 (by omega) (unhide HS3)
            go_simp
          simp only [Act.put, List.setIfInBounds_toArray, List.set_cons_zero, List.set_cons_succ]
          refine th_two (i := 15) (j := 19) rfl rfl (by kernel_rfl) (fun K hK => ?_) (fun K hK => ?_)
          · -- the call first
            rw [if_pos (by rfl)]
            go_simp
            refine (unhide CALL _ B g 3 hS3.1 (by omega) (by omega)).mono ?_
            rintro e wn4 ⟨r4, rfl, hr0, hr1, hcn, hgn⟩
            obtain ⟨r4, rfl⟩ := Int.eq_ofNat_of_zero_le hr0
            have hr4 : r4 < 3 := by omega
            have hS4 : NSt w1 B g wn4 := hS3.call hcn hgn
            clear hr0 hr1 hcn hgn
            have hw4 : IntKind.i64.wrap (1 + (r4 : Int)) = 1 + (r4 : Int) := IntWalk.i64_in _ (by omega)
            refine hK.out _ _ hS4 (fun _ => ?_)
            clear hK K
            try simp only [Act.put, List.setIfInBounds_toArray, List.set_cons_zero, List.set_cons_succ]
            refine th_take (i := 16) (v := ?_) rfl (by kernel_rfl) (by kernel_rfl) (by kernel_rfl) (Or.inl ⟨by rfl, fun wz hSw => ?_⟩) hS4 ?_
            rotate_left
            · go_simp
              with_reducible rfl
            simp only [Act.put, List.setIfInBounds_toArray, List.set_cons_zero, List.set_cons_succ]
            refine th_take (i := 17) (v := ?_) rfl (by kernel_rfl) (by kernel_rfl) (by kernel_rfl) (Or.inl ⟨by rfl, fun wz hSw => ?_⟩) hS4 ?_
            rotate_left
            · go_simp
              with_reducible rfl
            simp only [Act.put, List.setIfInBounds_toArray, List.set_cons_zero, List.set_cons_succ]
            refine th_take (i := 18) (v := ?_) rfl (by kernel_rfl) (by kernel_rfl) (by kernel_rfl) (Or.inl ⟨by rfl, fun wz hSw => ?_⟩) hS4 ?_
            rotate_left
            · go_simp
              with_reducible rfl
            simp only [Act.put, List.setIfInBounds_toArray, List.set_cons_zero, List.set_cons_succ]
            refine th_one (i := 19) rfl (by kernel_rfl) (fun K hK => ?_)
            rw [if_pos (by rfl)]
            go_simp
            obtain ⟨q, hq⟩ : ∃ q, wn4.heap.size = q := ⟨_, rfl⟩
            have hq1 : w1.heap.size ≤ q := by rw [← hq]; exact hS4.size
            have hZ : Blk (wn4.alloc (.cells #[.string ⟨#[]⟩, .int .i64 0, .int .i64 0, .int .i64 0, .string ⟨#[]⟩, .int .i64 0, .int .i64 0, .int .i64 0] 50)) q 50 #[.string ⟨#[]⟩, .int .i64 0, .int .i64 0, .int .i64 0, .string ⟨#[]⟩, .int .i64 0, .int .i64 0, .int .i64 0] := by rw [← hq]; exact Blk.new wn4 _ _
            have hSa : NSt w1 B g (wn4.alloc (.cells #[.string ⟨#[]⟩, .int .i64 0, .int .i64 0, .int .i64 0, .string ⟨#[]⟩, .int .i64 0, .int .i64 0, .int .i64 0] 50)) := hS4.alloc _
            refine hK.out _ _ hSa (fun _ => ?_)
            clear hK K
            try simp only [Act.put, List.setIfInBounds_toArray, List.set_cons_zero, List.set_cons_succ]
            rw [hq]
            clear hq
            refine th_one (i := 20) rfl (by kernel_rfl) (fun K hK => ?_)
            refine step_store_blk (by rfl) 50 (.tmp 4) (.tmp 24) rfl q 50 _ #[.string ⟨s1.toArray⟩, .int .i64 (1 + (r2 : Int)), .int .i64 0, .int .i64 0, .string ⟨s3.toArray⟩, .int .i64 (1 + (r4 : Int)), .int .i64 0, .int .i64 0] rfl rfl hZ rfl (by kernel_rfl) (by intro u hu; simp at hu; rcases hu with rfl | rfl | rfl | rfl | rfl | rfl | rfl | rfl <;> rfl) ?_
            intro w7 hb7 hg7
            have hS7 : NSt w1 B g w7 := hSa.far hg7 (by have := (unhide C1).lt; omega) (by omega)
            refine hK.out _ _ hS7 (fun _ => ?_)
            clear hK K
            try simp only [Act.put]
            refine wpAnyH_done (by kernel_rfl) (NoPanic.normal ?_) _
            go_wp2_with fail
            go_meet
            exact ⟨q, s1, s3, 1 + (r2 : Int), 1 + (r4 : Int), rfl, hl1, hl3, hb7, by omega, hS7⟩
          · -- the variable first
            rw [if_pos (by rfl)]
            go_simp
            obtain ⟨q, hq⟩ : ∃ q, wn3.heap.size = q := ⟨_, rfl⟩
            have hq1 : w1.heap.size ≤ q := by rw [← hq]; exact hS3.size
            have hZ : Blk (wn3.alloc (.cells #[.string ⟨#[]⟩, .int .i64 0, .int .i64 0, .int .i64 0, .string ⟨#[]⟩, .int .i64 0, .int .i64 0, .int .i64 0] 50)) q 50 #[.string ⟨#[]⟩, .int .i64 0, .int .i64 0, .int .i64 0, .string ⟨#[]⟩, .int .i64 0, .int .i64 0, .int .i64 0] := by rw [← hq]; exact Blk.new wn3 _ _
            have hSa : NSt w1 B g (wn3.alloc (.cells #[.string ⟨#[]⟩, .int .i64 0, .int .i64 0, .int .i64 0, .string ⟨#[]⟩, .int .i64 0, .int .i64 0, .int .i64 0] 50)) := hS3.alloc _
            refine hK.out _ _ hSa (fun _ => ?_)
            clear hK K
            try simp only [Act.put, List.setIfInBounds_toArray, List.set_cons_zero, List.set_cons_succ]
            rw [hq]
            clear hq
            refine th_one (i := 15) rfl (by kernel_rfl) (fun K hK => ?_)
            rw [if_pos (by rfl)]
            go_simp
            refine (unhide CALL _ B g 3 hSa.1 (by omega) (by omega)).mono ?_
            rintro e wn4 ⟨r4, rfl, hr0, hr1, hcn, hgn⟩
            obtain ⟨r4, rfl⟩ := Int.eq_ofNat_of_zero_le hr0
            have hr4 : r4 < 3 := by omega
            have hS4 : NSt w1 B g wn4 := hSa.call hcn hgn
            have hZ4 := hZ.grown hgn (by intro e; injection e with e; have := (unhide C1).lt; omega)
            clear hr0 hr1 hcn hgn
            have hw4 : IntKind.i64.wrap (1 + (r4 : Int)) = 1 + (r4 : Int) := IntWalk.i64_in _ (by omega)
            refine hK.out _ _ hS4 (fun _ => ?_)
            clear hK K
            try simp only [Act.put, List.setIfInBounds_toArray, List.set_cons_zero, List.set_cons_succ]
            refine th_take (i := 16) (v := ?_) rfl (by kernel_rfl) (by kernel_rfl) (by kernel_rfl) (Or.inl ⟨by rfl, fun wz hSw => ?_⟩) hS4 ?_
            rotate_left
            · go_simp
              with_reducible rfl
            simp only [Act.put, List.setIfInBounds_toArray, List.set_cons_zero, List.set_cons_succ]
            refine th_take (i := 17) (v := ?_) rfl (by kernel_rfl) (by kernel_rfl) (by kernel_rfl) (Or.inl ⟨by rfl, fun wz hSw => ?_⟩) hS4 ?_
            rotate_left
            · go_simp
              with_reducible rfl
            simp only [Act.put, List.setIfInBounds_toArray, List.set_cons_zero, List.set_cons_succ]
            refine th_take (i := 18) (v := ?_) rfl (by kernel_rfl) (by kernel_rfl) (by kernel_rfl) (Or.inl ⟨by rfl, fun wz hSw => ?_⟩) hS4 ?_
            rotate_left
            · go_simp
              with_reducible rfl
            simp only [Act.put, List.setIfInBounds_toArray, List.set_cons_zero, List.set_cons_succ]
            refine th_one (i := 20) rfl (by kernel_rfl) (fun K hK => ?_)
            refine step_store_blk (by rfl) 50 (.tmp 4) (.tmp 24) rfl q 50 _ #[.string ⟨s1.toArray⟩, .int .i64 (1 + (r2 : Int)), .int .i64 0, .int .i64 0, .string ⟨s3.toArray⟩, .int .i64 (1 + (r4 : Int)), .int .i64 0, .int .i64 0] rfl rfl hZ4 rfl (by kernel_rfl) (by intro u hu; simp at hu; rcases hu with rfl | rfl | rfl | rfl | rfl | rfl | rfl | rfl <;> rfl) ?_
            intro w7 hb7 hg7
            have hS7 : NSt w1 B g w7 := hS4.far hg7 (by have := (unhide C1).lt; omega) (by omega)
            refine hK.out _ _ hS7 (fun _ => ?_)
            clear hK K
            try simp only [Act.put]
            refine wpAnyH_done (by kernel_rfl) (NoPanic.normal ?_) _
            go_wp2_with fail
            go_meet
            exact ⟨q, s1, s3, 1 + (r2 : Int), 1 + (r4 : Int), rfl, hl1, hl3, hb7, by omega, hS7⟩
        · -- the variable first
          rw [if_pos (by rfl)]
          go_simp
          obtain ⟨q, hq⟩ : ∃ q, wn2.heap.size = q := ⟨_, rfl⟩
          have hq1 : w1.heap.size ≤ q := by rw [← hq]; exact hS2.size
          have hZ : Blk (wn2.alloc (.cells #[.string ⟨#[]⟩, .int .i64 0, .int .i64 0, .int .i64 0, .string ⟨#[]⟩, .int .i64 0, .int .i64 0, .int .i64 0] 50)) q 50 #[.string ⟨#[]⟩, .int .i64 0, .int .i64 0, .int .i64 0, .string ⟨#[]⟩, .int .i64 0, .int .i64 0, .int .i64 0] := by rw [← hq]; exact Blk.new wn2 _ _
          have hSa : NSt w1 B g (wn2.alloc (.cells #[.string ⟨#[]⟩, .int .i64 0, .int .i64 0, .int .i64 0, .string ⟨#[]⟩, .int .i64 0, .int .i64 0, .int .i64 0] 50)) := hS2.alloc _
          refine hK.out _ _ hSa (fun _ => ?_)
          clear hK K
          try simp only [Act.put, List.setIfInBounds_toArray, List.set_cons_zero, List.set_cons_succ]
          rw [hq]
          clear hq
          refine th_one (i := 11) rfl (by kernel_rfl) (fun K hK => ?_)
          rw [if_pos (by rfl)]
          go_simp
          refine (unhide CALL _ B g 4 hSa.1 (by omega) (by omega)).mono ?_
          rintro e wn3 ⟨r3, rfl, hr0, hr1, hcn, hgn⟩
          obtain ⟨r3, rfl⟩ := Int.eq_ofNat_of_zero_le hr0
          have hr3 : r3 < 4 := by omega
          have hS3 : NSt w1 B g wn3 := hSa.call hcn hgn
          have hZ3 := hZ.grown hgn (by intro e; injection e with e; have := (unhide C1).lt; omega)
          clear hr0 hr1 hcn hgn
          obtain ⟨s3, hs3⟩ : ∃ s, nmL.getD r3 [] = s := ⟨_, rfl⟩
          have hl3 := (unhide HLE) r3 s3 (by omega) hs3
          have HS3 := hide hs3
          clear hs3
          have hz3 := size_list s3 4 hl3
          have hi3 : (r3 : Int) < 6 := by omega
          refine hK.out _ _ hS3 (fun _ => ?_)
          clear hK K
          try simp only [Act.put, List.setIfInBounds_toArray, List.set_cons_zero, List.set_cons_succ]
          refine th_take (i := 12) (v := ?_) rfl (by kernel_rfl) (by kernel_rfl) (by kernel_rfl) (Or.inl ⟨by rfl, fun wz hSw => ?_⟩) hS3 ?_
          rotate_left
          · go_simp
            with_reducible rfl
          simp only [Act.put, List.setIfInBounds_toArray, List.set_cons_zero, List.set_cons_succ]
          refine th_take (i := 13) (v := .string ⟨s3.toArray⟩) rfl (by kernel_rfl) (by kernel_rfl) (by kernel_rfl) (Or.inl ⟨by rfl, fun wz hSw => ?_⟩) hS3 ?_
          · have hc := (unhide HN4) wz hSw r3 s3 (by omega) (unhide HS3)
            go_simp
          simp only [Act.put, List.setIfInBounds_toArray, List.set_cons_zero, List.set_cons_succ]
          refine th_one (i := 15) rfl (by kernel_rfl) (fun K hK => ?_)
          rw [if_pos (by rfl)]
          go_simp
          refine (unhide CALL _ B g 3 hS3.1 (by omega) (by omega)).mono ?_
          rintro e wn4 ⟨r4, rfl, hr0, hr1, hcn, hgn⟩
          obtain ⟨r4, rfl⟩ := Int.eq_ofNat_of_zero_le hr0
          have hr4 : r4 < 3 := by omega
          have hS4 : NSt w1 B g wn4 := hS3.call hcn hgn
          have hZ4 := hZ3.grown hgn (by intro e; injection e with e; have := (unhide C1).lt; omega)
          clear hr0 hr1 hcn hgn
          have hw4 : IntKind.i64.wrap (1 + (r4 : Int)) = 1 + (r4 : Int) := IntWalk.i64_in _ (by omega)
          refine hK.out _ _ hS4 (fun _ => ?_)
          clear hK K
          try simp only [Act.put, List.setIfInBounds_toArray, List.set_cons_zero, List.set_cons_succ]
          refine th_take (i := 16) (v := ?_) rfl (by kernel_rfl) (by kernel_rfl) (by kernel_rfl) (Or.inl ⟨by rfl, fun wz hSw => ?_⟩) hS4 ?_
          rotate_left
          · go_simp
            with_reducible rfl
          simp only [Act.put, List.setIfInBounds_toArray, List.set_cons_zero, List.set_cons_succ]
          refine th_take (i := 17) (v := ?_) rfl (by kernel_rfl) (by kernel_rfl) (by kernel_rfl) (Or.inl ⟨by rfl, fun wz hSw => ?_⟩) hS4 ?_
          rotate_left
          · go_simp
            with_reducible rfl
          simp only [Act.put, List.setIfInBounds_toArray, List.set_cons_zero, List.set_cons_succ]
          refine th_take (i := 18) (v := ?_) rfl (by kernel_rfl) (by kernel_rfl) (by kernel_rfl) (Or.inl ⟨by rfl, fun wz hSw => ?_⟩) hS4 ?_
          rotate_left
          · go_simp
            with_reducible rfl
          simp only [Act.put, List.setIfInBounds_toArray, List.set_cons_zero, List.set_cons_succ]
          refine th_one (i := 20) rfl (by kernel_rfl) (fun K hK => ?_)
          refine step_store_blk (by rfl) 50 (.tmp 4) (.tmp 24) rfl q 50 _ #[.string ⟨s1.toArray⟩, .int .i64 (1 + (r2 : Int)), .int .i64 0, .int .i64 0, .string ⟨s3.toArray⟩, .int .i64 (1 + (r4 : Int)), .int .i64 0, .int .i64 0] rfl rfl hZ4 rfl (by kernel_rfl) (by intro u hu; simp at hu; rcases hu with rfl | rfl | rfl | rfl | rfl | rfl | rfl | rfl <;> rfl) ?_
          intro w7 hb7 hg7
          have hS7 : NSt w1 B g w7 := hS4.far hg7 (by have := (unhide C1).lt; omega) (by omega)
          refine hK.out _ _ hS7 (fun _ => ?_)
          clear hK K
          try simp only [Act.put]
          refine wpAnyH_done (by kernel_rfl) (NoPanic.normal ?_) _
          go_wp2_with fail
          go_meet
          exact ⟨q, s1, s3, 1 + (r2 : Int), 1 + (r4 : Int), rfl, hl1, hl3, hb7, by omega, hS7⟩
      · -- the variable first
        rw [if_pos (by rfl)]
        go_simp
        obtain ⟨q, hq⟩ : ∃ q, wn1.heap.size = q := ⟨_, rfl⟩
        have hq1 : w1.heap.size ≤ q := by rw [← hq]; exact hS1.size
        have hZ : Blk (wn1.alloc (.cells #[.string ⟨#[]⟩, .int .i64 0, .int .i64 0, .int .i64 0, .string ⟨#[]⟩, .int .i64 0, .int .i64 0, .int .i64 0] 50)) q 50 #[.string ⟨#[]⟩, .int .i64 0, .int .i64 0, .int .i64 0, .string ⟨#[]⟩, .int .i64 0, .int .i64 0, .int .i64 0] := by rw [← hq]; exact Blk.new wn1 _ _
        have hSa : NSt w1 B g (wn1.alloc (.cells #[.string ⟨#[]⟩, .int .i64 0, .int .i64 0, .int .i64 0, .string ⟨#[]⟩, .int .i64 0, .int .i64 0, .int .i64 0] 50)) := hS1.alloc _
        refine hK.out _ _ hSa (fun _ => ?_)
        clear hK K
        try simp only [Act.put, List.setIfInBounds_toArray, List.set_cons_zero, List.set_cons_succ]
        rw [hq]
        clear hq
        refine th_one (i := 6) rfl (by kernel_rfl) (fun K hK => ?_)
        rw [if_pos (by rfl)]
        go_simp
        refine (unhide CALL _ B g 3 hSa.1 (by omega) (by omega)).mono ?_
        rintro e wn2 ⟨r2, rfl, hr0, hr1, hcn, hgn⟩
        obtain ⟨r2, rfl⟩ := Int.eq_ofNat_of_zero_le hr0
        have hr2 : r2 < 3 := by omega
        have hS2 : NSt w1 B g wn2 := hSa.call hcn hgn
        have hZ2 := hZ.grown hgn (by intro e; injection e with e; have := (unhide C1).lt; omega)
        clear hr0 hr1 hcn hgn
        have hw2 : IntKind.i64.wrap (1 + (r2 : Int)) = 1 + (r2 : Int) := IntWalk.i64_in _ (by omega)
        refine hK.out _ _ hS2 (fun _ => ?_)
        clear hK K
        try simp only [Act.put, List.setIfInBounds_toArray, List.set_cons_zero, List.set_cons_succ]
        refine th_take (i := 7) (v := ?_) rfl (by kernel_rfl) (by kernel_rfl) (by kernel_rfl) (Or.inl ⟨by rfl, fun wz hSw => ?_⟩) hS2 ?_
        rotate_left
        · go_simp
          with_reducible rfl
        simp only [Act.put, List.setIfInBounds_toArray, List.set_cons_zero, List.set_cons_succ]
        refine th_take (i := 8) (v := ?_) rfl (by kernel_rfl) (by kernel_rfl) (by kernel_rfl) (Or.inl ⟨by rfl, fun wz hSw => ?_⟩) hS2 ?_
        rotate_left
        · go_simp
          with_reducible rfl
        simp only [Act.put, List.setIfInBounds_toArray, List.set_cons_zero, List.set_cons_succ]
        refine th_one (i := 11) rfl (by kernel_rfl) (fun K hK => ?_)
        rw [if_pos (by rfl)]
        go_simp
        refine (unhide CALL _ B g 4 hS2.1 (by omega) (by omega)).mono ?_
        rintro e wn3 ⟨r3, rfl, hr0, hr1, hcn, hgn⟩
        obtain ⟨r3, rfl⟩ := Int.eq_ofNat_of_zero_le hr0
        have hr3 : r3 < 4 := by omega
        have hS3 : NSt w1 B g wn3 := hS2.call hcn hgn
        have hZ3 := hZ2.grown hgn (by intro e; injection e with e; have := (unhide C1).lt; omega)
        clear hr0 hr1 hcn hgn
        obtain ⟨s3, hs3⟩ : ∃ s, nmL.getD r3 [] = s := ⟨_, rfl⟩
        have hl3 := (unhide HLE) r3 s3 (by omega) hs3
        have HS3 := hide hs3
        clear hs3
        have hz3 := size_list s3 4 hl3
        have hi3 : (r3 : Int) < 6 := by omega
        refine hK.out _ _ hS3 (fun _ => ?_)
        clear hK K
        try simp only [Act.put, List.setIfInBounds_toArray, List.set_cons_zero, List.set_cons_succ]
        refine th_take (i := 12) (v := ?_) rfl (by kernel_rfl) (by kernel_rfl) (by kernel_rfl) (Or.inl ⟨by rfl, fun wz hSw => ?_⟩) hS3 ?_
        rotate_left
        · go_simp
          with_reducible rfl
        simp only [Act.put, List.setIfInBounds_toArray, List.set_cons_zero, List.set_cons_succ]
        refine th_take (i := 13) (v := .string ⟨s3.toArray⟩) rfl (by kernel_rfl) (by kernel_rfl) (by kernel_rfl) (Or.inl ⟨by rfl, fun wz hSw => ?_⟩) hS3 ?_
        · have hc := (unhide HN4) wz hSw r3 s3 (by omega) (unhide HS3)
          go_simp
        simp only [Act.put, List.setIfInBounds_toArray, List.set_cons_zero, List.set_cons_succ]
        refine th_one (i := 15) rfl (by kernel_rfl) (fun K hK => ?_)
        rw [if_pos (by rfl)]
        go_simp
        refine (unhide CALL _ B g 3 hS3.1 (by omega) (by omega)).mono ?_
        rintro e wn4 ⟨r4, rfl, hr0, hr1, hcn, hgn⟩
        obtain ⟨r4, rfl⟩ := Int.eq_ofNat_of_zero_le hr0
        have hr4 : r4 < 3 := by omega
        have hS4 : NSt w1 B g wn4 := hS3.call hcn hgn
        have hZ4 := hZ3.grown hgn (by intro e; injection e with e; have := (unhide C1).lt; omega)
        clear hr0 hr1 hcn hgn
        have hw4 : IntKind.i64.wrap (1 + (r4 : Int)) = 1 + (r4 : Int) := IntWalk.i64_in _ (by omega)
        refine hK.out _ _ hS4 (fun _ => ?_)
        clear hK K
        try simp only [Act.put, List.setIfInBounds_toArray, List.set_cons_zero, List.set_cons_succ]
        refine th_take (i := 16) (v := ?_) rfl (by kernel_rfl) (by kernel_rfl) (by kernel_rfl) (Or.inl ⟨by rfl, fun wz hSw => ?_⟩) hS4 ?_
        rotate_left
        · go_simp
          with_reducible rfl
        simp only [Act.put, List.setIfInBounds_toArray, List.set_cons_zero, List.set_cons_succ]
        refine th_take (i := 17) (v := ?_) rfl (by kernel_rfl) (by kernel_rfl) (by kernel_rfl) (Or.inl ⟨by rfl, fun wz hSw => ?_⟩) hS4 ?_
        rotate_left
        · go_simp
          with_reducible rfl
        simp only [Act.put, List.setIfInBounds_toArray, List.set_cons_zero, List.set_cons_succ]
        refine th_take (i := 18) (v := ?_) rfl (by kernel_rfl) (by kernel_rfl) (by kernel_rfl) (Or.inl ⟨by rfl, fun wz hSw => ?_⟩) hS4 ?_
        rotate_left
        · go_simp
          with_reducible rfl
        simp only [Act.put, List.setIfInBounds_toArray, List.set_cons_zero, List.set_cons_succ]
        refine th_one (i := 20) rfl (by kernel_rfl) (fun K hK => ?_)
        refine step_store_blk (by rfl) 50 (.tmp 4) (.tmp 24) rfl q 50 _ #[.string ⟨s1.toArray⟩, .int .i64 (1 + (r2 : Int)), .int .i64 0, .int .i64 0, .string ⟨s3.toArray⟩, .int .i64 (1 + (r4 : Int)), .int .i64 0, .int .i64 0] rfl rfl hZ4 rfl (by kernel_rfl) (by intro u hu; simp at hu; rcases hu with rfl | rfl | rfl | rfl | rfl | rfl | rfl | rfl <;> rfl) ?_
        intro w7 hb7 hg7
        have hS7 : NSt w1 B g w7 := hS4.far hg7 (by have := (unhide C1).lt; omega) (by omega)
        refine hK.out _ _ hS7 (fun _ => ?_)
        clear hK K
        try simp only [Act.put]
        refine wpAnyH_done (by kernel_rfl) (NoPanic.normal ?_) _
        go_wp2_with fail
        go_meet
        exact ⟨q, s1, s3, 1 + (r2 : Int), 1 + (r4 : Int), rfl, hl1, hl3, hb7, by omega, hS7⟩
    · -- the variable first
      rw [if_pos (by rfl)]
      go_simp
      obtain ⟨q, hq⟩ : ∃ q, w1.heap.size = q := ⟨_, rfl⟩
      have hq1 : w1.heap.size ≤ q := by rw [← hq]; exact hS0.size
      have hZ : Blk (w1.drew.alloc (.cells #[.string ⟨#[]⟩, .int .i64 0, .int .i64 0, .int .i64 0, .string ⟨#[]⟩, .int .i64 0, .int .i64 0, .int .i64 0] 50)) q 50 #[.string ⟨#[]⟩, .int .i64 0, .int .i64 0, .int .i64 0, .string ⟨#[]⟩, .int .i64 0, .int .i64 0, .int .i64 0] := by rw [← hq]; exact Blk.new w1.drew _ _
      have hSa : NSt w1 B g (w1.drew.alloc (.cells #[.string ⟨#[]⟩, .int .i64 0, .int .i64 0, .int .i64 0, .string ⟨#[]⟩, .int .i64 0, .int .i64 0, .int .i64 0] 50)) := hS0.alloc _
      refine hK.out _ _ hSa (fun _ => ?_)
      clear hK K
      try simp only [Act.put, List.setIfInBounds_toArray, List.set_cons_zero, List.set_cons_succ]
      rw [hq]
      clear hq
      refine th_one (i := 2) rfl (by kernel_rfl) (fun K hK => ?_)
      rw [if_pos (by rfl)]
      go_simp
      refine (unhide CALL _ B g 4 hSa.1 (by omega) (by omega)).mono ?_
      rintro e wn1 ⟨r1, rfl, hr0, hr1, hcn, hgn⟩
      obtain ⟨r1, rfl⟩ := Int.eq_ofNat_of_zero_le hr0
      have hr1 : r1 < 4 := by omega
      have hS1 : NSt w1 B g wn1 := hSa.call hcn hgn
      have hZ1 := hZ.grown hgn (by intro e; injection e with e; have := (unhide C1).lt; omega)
      clear hr0 hr1 hcn hgn
      obtain ⟨s1, hs1⟩ : ∃ s, nmL.getD r1 [] = s := ⟨_, rfl⟩
      have hl1 := (unhide HLE) r1 s1 (by omega) hs1
      have HS1 := hide hs1
      clear hs1
      have hz1 := size_list s1 4 hl1
      have hi1 : (r1 : Int) < 6 := by omega
      refine hK.out _ _ hS1 (fun _ => ?_)
      clear hK K
      try simp only [Act.put, List.setIfInBounds_toArray, List.set_cons_zero, List.set_cons_succ]
      refine th_take (i := 3) (v := ?_) rfl (by kernel_rfl) (by kernel_rfl) (by kernel_rfl) (Or.inl ⟨by rfl, fun wz hSw => ?_⟩) hS1 ?_
      rotate_left
      · go_simp
        with_reducible rfl
      simp only [Act.put, List.setIfInBounds_toArray, List.set_cons_zero, List.set_cons_succ]
      refine th_take (i := 4) (v := .string ⟨s1.toArray⟩) rfl (by kernel_rfl) (by kernel_rfl) (by kernel_rfl) (Or.inl ⟨by rfl, fun wz hSw => ?_⟩) hS1 ?_
      · have hc := (unhide HN4) wz hSw r1 s1 (by omega) (unhide HS1)
        go_simp
      simp only [Act.put, List.setIfInBounds_toArray, List.set_cons_zero, List.set_cons_succ]
      refine th_one (i := 6) rfl (by kernel_rfl) (fun K hK => ?_)
      rw [if_pos (by rfl)]
      go_simp
      refine (unhide CALL _ B g 3 hS1.1 (by omega) (by omega)).mono ?_
      rintro e wn2 ⟨r2, rfl, hr0, hr1, hcn, hgn⟩
      obtain ⟨r2, rfl⟩ := Int.eq_ofNat_of_zero_le hr0
      have hr2 : r2 < 3 := by omega
      have hS2 : NSt w1 B g wn2 := hS1.call hcn hgn
      have hZ2 := hZ1.grown hgn (by intro e; injection e with e; have := (unhide C1).lt; omega)
      clear hr0 hr1 hcn hgn
      have hw2 : IntKind.i64.wrap (1 + (r2 : Int)) = 1 + (r2 : Int) := IntWalk.i64_in _ (by omega)
      refine hK.out _ _ hS2 (fun _ => ?_)
      clear hK K
      try simp only [Act.put, List.setIfInBounds_toArray, List.set_cons_zero, List.set_cons_succ]
      refine th_take (i := 7) (v := ?_) rfl (by kernel_rfl) (by kernel_rfl) (by kernel_rfl) (Or.inl ⟨by rfl, fun wz hSw => ?_⟩) hS2 ?_
      rotate_left
      · go_simp
        with_reducible rfl
      simp only [Act.put, List.setIfInBounds_toArray, List.set_cons_zero, List.set_cons_succ]
      refine th_take (i := 8) (v := ?_) rfl (by kernel_rfl) (by kernel_rfl) (by kernel_rfl) (Or.inl ⟨by rfl, fun wz hSw => ?_⟩) hS2 ?_
      rotate_left
      · go_simp
        with_reducible rfl
      simp only [Act.put, List.setIfInBounds_toArray, List.set_cons_zero, List.set_cons_succ]
      refine th_one (i := 11) rfl (by kernel_rfl) (fun K hK => ?_)
      rw [if_pos (by rfl)]
      go_simp
      refine (unhide CALL _ B g 4 hS2.1 (by omega) (by omega)).mono ?_
      rintro e wn3 ⟨r3, rfl, hr0, hr1, hcn, hgn⟩
      obtain ⟨r3, rfl⟩ := Int.eq_ofNat_of_zero_le hr0
      have hr3 : r3 < 4 := by omega
      have hS3 : NSt w1 B g wn3 := hS2.call hcn hgn
      have hZ3 := hZ2.grown hgn (by intro e; injection e with e; have := (unhide C1).lt; omega)
      clear hr0 hr1 hcn hgn
      obtain ⟨s3, hs3⟩ : ∃ s, nmL.getD r3 [] = s := ⟨_, rfl⟩
      have hl3 := (unhide HLE) r3 s3 (by omega) hs3
      have HS3 := hide hs3
      clear hs3
      have hz3 := size_list s3 4 hl3
      have hi3 : (r3 : Int) < 6 := by omega
      refine hK.out _ _ hS3 (fun _ => ?_)
      clear hK K
      try simp only [Act.put, List.setIfInBounds_toArray, List.set_cons_zero, List.set_cons_succ]
      refine th_take (i := 12) (v := ?_) rfl (by kernel_rfl) (by kernel_rfl) (by kernel_rfl) (Or.inl ⟨by rfl, fun wz hSw => ?_⟩) hS3 ?_
      rotate_left
      · go_simp
        with_reducible rfl
      simp only [Act.put, List.setIfInBounds_toArray, List.set_cons_zero, List.set_cons_succ]
      refine th_take (i := 13) (v := .string ⟨s3.toArray⟩) rfl (by kernel_rfl) (by kernel_rfl) (by kernel_rfl) (Or.inl ⟨by rfl, fun wz hSw => ?_⟩) hS3 ?_
      · have hc := (unhide HN4) wz hSw r3 s3 (by omega) (unhide HS3)
        go_simp
      simp only [Act.put, List.setIfInBounds_toArray, List.set_cons_zero, List.set_cons_succ]
      refine th_one (i := 15) rfl (by kernel_rfl) (fun K hK => ?_)
      rw [if_pos (by rfl)]
      go_simp
      refine (unhide CALL _ B g 3 hS3.1 (by omega) (by omega)).mono ?_
      rintro e wn4 ⟨r4, rfl, hr0, hr1, hcn, hgn⟩
      obtain ⟨r4, rfl⟩ := Int.eq_ofNat_of_zero_le hr0
      have hr4 : r4 < 3 := by omega
      have hS4 : NSt w1 B g wn4 := hS3.call hcn hgn
      have hZ4 := hZ3.grown hgn (by intro e; injection e with e; have := (unhide C1).lt; omega)
      clear hr0 hr1 hcn hgn
      have hw4 : IntKind.i64.wrap (1 + (r4 : Int)) = 1 + (r4 : Int) := IntWalk.i64_in _ (by omega)
      refine hK.out _ _ hS4 (fun _ => ?_)
      clear hK K
      try simp only [Act.put, List.setIfInBounds_toArray, List.set_cons_zero, List.set_cons_succ]
      refine th_take (i := 16) (v := ?_) rfl (by kernel_rfl) (by kernel_rfl) (by kernel_rfl) (Or.inl ⟨by rfl, fun wz hSw => ?_⟩) hS4 ?_
      rotate_left
      · go_simp
        with_reducible rfl
      simp only [Act.put, List.setIfInBounds_toArray, List.set_cons_zero, List.set_cons_succ]
      refine th_take (i := 17) (v := ?_) rfl (by kernel_rfl) (by kernel_rfl) (by kernel_rfl) (Or.inl ⟨by rfl, fun wz hSw => ?_⟩) hS4 ?_
      rotate_left
      · go_simp
        with_reducible rfl
      simp only [Act.put, List.setIfInBounds_toArray, List.set_cons_zero, List.set_cons_succ]
      refine th_take (i := 18) (v := ?_) rfl (by kernel_rfl) (by kernel_rfl) (by kernel_rfl) (Or.inl ⟨by rfl, fun wz hSw => ?_⟩) hS4 ?_
      rotate_left
      · go_simp
        with_reducible rfl
      simp only [Act.put, List.setIfInBounds_toArray, List.set_cons_zero, List.set_cons_succ]
      refine th_one (i := 20) rfl (by kernel_rfl) (fun K hK => ?_)
      refine step_store_blk (by rfl) 50 (.tmp 4) (.tmp 24) rfl q 50 _ #[.string ⟨s1.toArray⟩, .int .i64 (1 + (r2 : Int)), .int .i64 0, .int .i64 0, .string ⟨s3.toArray⟩, .int .i64 (1 + (r4 : Int)), .int .i64 0, .int .i64 0] rfl rfl hZ4 rfl (by kernel_rfl) (by intro u hu; simp at hu; rcases hu with rfl | rfl | rfl | rfl | rfl | rfl | rfl | rfl <;> rfl) ?_
      intro w7 hb7 hg7
      have hS7 : NSt w1 B g w7 := hS4.far hg7 (by have := (unhide C1).lt; omega) (by omega)
      refine hK.out _ _ hS7 (fun _ => ?_)
      clear hK K
      try simp only [Act.put]
      refine wpAnyH_done (by kernel_rfl) (NoPanic.normal ?_) _
      go_wp2_with fail
      go_meet
      exact ⟨q, s1, s3, 1 + (r2 : Int), 1 + (r4 : Int), rfl, hl1, hl3, hb7, by omega, hS7⟩
  case rest =>
    obtain ⟨q, c, o, a, b, rfl, hlc, hlo, hbq, hq1, hN⟩ := hcut
    have SC := hide hN.1
    have SG := hide hN.2
    have HQ := hide hbq
    have KR := hide ((unhide R1).grown hN.2 (by intro e; injection e with e; omega))
    have NB : Hid (∀ k s, k < 6 → nmL.getD k [] = s → wc.cell? ⟨w.heap.size + 1, k, none⟩ = some (.string ⟨s.toArray⟩)) := hide ((unhide HN4) wc hN)
    have hgq : g < q := by have := (unhide C1).lt; omega
    have hzc := size_list c 4 hlc
    have hzo := size_list o 4 hlo
    have d0 : wc.cell? ⟨q, 0, none⟩ = some (.string ⟨c.toArray⟩) := hbq.cell 0
    have d4 : wc.cell? ⟨q, 4, none⟩ = some (.string ⟨o.toArray⟩) := hbq.cell 4
    have hql := hbq.lt
    clear hN hbq
    obtain ⟨b3, h3⟩ : ∃ b, (c == o) = b := ⟨_, rfl⟩
    cases b3
    case false =>
      go_wp2_with (first
        | (refine wpList_load_row rfl 50 _ rfl q rfl 50 _ _ _ (unhide HQ) Tryd.underlying50 rfl (by kernel_rfl) ?_)
        | (refine wpList_store_blk rfl 50 (.tmp 2) (.tmp 39) rfl w.heap.size 50 _ #[.string ⟨c.toArray⟩, .int .i64 a, .int .i64 0, .int .i64 0, .string ⟨o.toArray⟩, .int .i64 b, .int .i64 0, .int .i64 0] rfl rfl (unhide KR) rfl (by kernel_rfl) (by intro u hu; simp at hu; rcases hu with rfl | rfl | rfl | rfl | rfl | rfl | rfl | rfl <;> rfl) ?_
           intro w9 hb9 hg9
           have Z9 := hide hb9
           have C9 := hide (codes_far (unhide SC) hg9 (fun j e => by injection e with e; omega))
           have G9 := hide (grown_far (grown_trans_some (unhide G1) (unhide SG)) hg9 (fun j e => by injection e with e; omega))
           clear hb9 hg9)
        | fail)
      exact bodyPost_ret (v := .agg #[.string ⟨c.toArray⟩, .int .i64 a, .int .i64 0, .int .i64 0, .string ⟨o.toArray⟩, .int .i64 b, .int .i64 0, .int .i64 0]) (res1 rfl _ w.heap.size 50 #[.string ⟨c.toArray⟩, .int .i64 a, .int .i64 0, .int .i64 0, .string ⟨o.toArray⟩, .int .i64 b, .int .i64 0, .int .i64 0] _ rfl (unhide Z9) Tryd.underlying50 rfl (by kernel_rfl)) rfl ⟨⟨c, ⟨a, 0, 0⟩, o, ⟨b, 0, 0⟩⟩, rfl, by show c.length ≤ 16; omega, by show (o : List UInt8).length ≤ 16; omega, unhide C9, unhide G9⟩
    case true =>
      go_wp2_with fail
      refine (unhide CALL _ B g 6 (unhide SC) (by omega) (by omega)).mono ?_
      rintro e w5 ⟨r5, rfl, hr0, hr1, hc5, hg5⟩
      have hr5 : r5 < 6 := by omega
      have S5 := hide hc5
      have T5 := hide (grown_trans_some (unhide SG) hg5)
      have Q5 := hide ((unhide HQ).grown hg5 (by intro e; injection e with e; omega))
      have K5 := hide ((unhide KR).grown hg5 (by intro e; injection e with e; omega))
      have N5 : w5.cell? ⟨w.heap.size + 1, 4, none⟩ = some (.string ⟨#[120, 45, 49]⟩) := (unhide HN4) w5 ⟨unhide S5, unhide T5⟩ 4 [120, 45, 49] (by omega) rfl
      have hn5 := hg5.size
      clear hc5 hg5 hr1 d0 d4
      by_cases h5 : r5 < 5
      · have hd5 : decide (r5 < 5) = true := by simpa using h5
        have q4 : w5.cell? ⟨q, 4, none⟩ = some (.string ⟨o.toArray⟩) := (unhide Q5).cell 4
        have f4 : w5.frozen? ⟨q, 4, none⟩ = false := (unhide Q5).frozen 4
        have hq5 := (unhide Q5).lt
        have gs : w5.grownBy (w5.setCell ⟨q, 4, none⟩ (.string ⟨#[120, 45, 49]⟩)) (some q) := only_setCell (World.grownBy.refl w5 _) (.inl rfl) _
        have Q6 : Hid (Blk (w5.setCell ⟨q, 4, none⟩ (.string ⟨#[120, 45, 49]⟩)) q 50 #[.string ⟨c.toArray⟩, .int .i64 a, .int .i64 0, .int .i64 0, .string ⟨[120, 45, 49].toArray⟩, .int .i64 b, .int .i64 0, .int .i64 0]) := hide ((unhide Q5).set_ 4 _)
        have S6 := hide (codes_far (unhide S5) gs (fun j e => by injection e with e; omega))
        have T6 := hide (grown_far (unhide T5) gs (fun j e => by injection e with e; omega))
        have K6 := hide ((unhide K5).grown gs (by intro e; injection e with e; omega))
        clear gs
        go_wp2_with (first
          | (refine wpList_load_row rfl 50 _ rfl q rfl 50 _ _ _ (unhide Q6) Tryd.underlying50 rfl (by kernel_rfl) ?_)
          | (refine wpList_store_blk rfl 50 (.tmp 2) (.tmp 39) rfl w.heap.size 50 _ #[.string ⟨c.toArray⟩, .int .i64 a, .int .i64 0, .int .i64 0, .string ⟨[120, 45, 49].toArray⟩, .int .i64 b, .int .i64 0, .int .i64 0] rfl rfl (unhide K6) rfl (by kernel_rfl) (by intro u hu; simp at hu; rcases hu with rfl | rfl | rfl | rfl | rfl | rfl | rfl | rfl <;> rfl) ?_
             intro w9 hb9 hg9
             have Z9 := hide hb9
             have C9 := hide (codes_far (unhide S6) hg9 (fun j e => by injection e with e; omega))
             have G9 := hide (grown_far (grown_trans_some (unhide G1) (unhide T6)) hg9 (fun j e => by injection e with e; omega))
             clear hb9 hg9)
          | fail)
        exact bodyPost_ret (v := .agg #[.string ⟨c.toArray⟩, .int .i64 a, .int .i64 0, .int .i64 0, .string ⟨[120, 45, 49].toArray⟩, .int .i64 b, .int .i64 0, .int .i64 0]) (res1 rfl _ w.heap.size 50 #[.string ⟨c.toArray⟩, .int .i64 a, .int .i64 0, .int .i64 0, .string ⟨[120, 45, 49].toArray⟩, .int .i64 b, .int .i64 0, .int .i64 0] _ rfl (unhide Z9) Tryd.underlying50 rfl (by kernel_rfl)) rfl ⟨⟨c, ⟨a, 0, 0⟩, [120, 45, 49], ⟨b, 0, 0⟩⟩, rfl, by show c.length ≤ 16; omega, by show ([120, 45, 49] : List UInt8).length ≤ 16; decide, unhide C9, unhide G9⟩
      · have hd5 : decide (r5 < 5) = false := by simpa using h5
        go_wp2_with (first
          | (refine wpList_load_row rfl 50 _ rfl q rfl 50 _ _ _ (unhide Q5) Tryd.underlying50 rfl (by kernel_rfl) ?_)
          | (refine wpList_store_blk rfl 50 (.tmp 2) (.tmp 39) rfl w.heap.size 50 _ #[.string ⟨c.toArray⟩, .int .i64 a, .int .i64 0, .int .i64 0, .string ⟨o.toArray⟩, .int .i64 b, .int .i64 0, .int .i64 0] rfl rfl (unhide K5) rfl (by kernel_rfl) (by intro u hu; simp at hu; rcases hu with rfl | rfl | rfl | rfl | rfl | rfl | rfl | rfl <;> rfl) ?_
             intro w9 hb9 hg9
             have Z9 := hide hb9
             have C9 := hide (codes_far (unhide S5) hg9 (fun j e => by injection e with e; omega))
             have G9 := hide (grown_far (grown_trans_some (unhide G1) (unhide T5)) hg9 (fun j e => by injection e with e; omega))
             clear hb9 hg9)
          | fail)
        exact bodyPost_ret (v := .agg #[.string ⟨c.toArray⟩, .int .i64 a, .int .i64 0, .int .i64 0, .string ⟨o.toArray⟩, .int .i64 b, .int .i64 0, .int .i64 0]) (res1 rfl _ w.heap.size 50 #[.string ⟨c.toArray⟩, .int .i64 a, .int .i64 0, .int .i64 0, .string ⟨o.toArray⟩, .int .i64 b, .int .i64 0, .int .i64 0] _ rfl (unhide Z9) Tryd.underlying50 rfl (by kernel_rfl)) rfl ⟨⟨c, ⟨a, 0, 0⟩, o, ⟨b, 0, 0⟩⟩, rfl, by show c.length ≤ 16; omega, by show (o : List UInt8).length ≤ 16; omega, unhide C9, unhide G9⟩
end Go.Proofs.YtbcbleonpaemgaaDoor
