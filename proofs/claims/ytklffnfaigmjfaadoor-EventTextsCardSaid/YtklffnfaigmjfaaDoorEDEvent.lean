/- baseboardmade's Event: a valid event (printed by wip/gen_edev.py). No condition. -/
import Derived.Test.YtklffnfaigmjfaaDoorEDice
import Derived.Test.YtklffnfaigmjfaaDoorHHeld
import Derived.Deep.CutRange
namespace Go.Proofs.YtklffnfaigmjfaaDoor
open Go.RowKit
def DSt (w1 : World) (B g : Nat) (W : World) : Prop := DiceOk W B g ∧ w1.grownBy W (some g)
theorem grown_far {a b c : World} {g : Nat} {row : Option Nat} (h : a.grownBy b (some g)) (k : b.grownBy c row) (hr : ∀ j, row = some j → a.heap.size ≤ j) : a.grownBy c (some g) :=
  ⟨k.os.trans h.os, k.tape.trans h.tape, k.output.trans h.output, Nat.le_trans h.size k.size, fun i hi hn => (k.block i (Nat.lt_of_lt_of_le hi h.size) (fun e => by have := hr i e.symm; omega)).trans (h.block i hi hn)⟩
theorem DSt.alloc {w1 W : World} {B g : Nat} (h : DSt w1 B g W) (o : Obj) : DSt w1 B g (W.alloc o) :=
  ⟨h.1.far (World.grownBy_alloc W o none) (fun j e => by cases e), grown_far h.2 (World.grownBy_alloc W o none) (fun j e => by cases e)⟩
theorem DSt.drew {w1 W : World} {B g : Nat} (h : DSt w1 B g W) : DSt w1 B g W.drew := ⟨h.1.keep fun _ _ => rfl, only_drew h.2⟩
theorem DSt.call {w1 W W' : World} {B g : Nat} (h : DSt w1 B g W) (hc : DiceOk W' B g) (hg : W.grownBy W' (some g)) : DSt w1 B g W' := ⟨hc, grown_tr h.2 hg⟩
theorem DSt.far {w1 W W' : World} {B g p : Nat} (h : DSt w1 B g W) (hg : W.grownBy W' (some p)) (hp : g < p) (hq : w1.heap.size ≤ p) : DSt w1 B g W' :=
  ⟨h.1.far hg (fun j e => by injection e with e; omega), grown_far h.2 hg (fun j e => by injection e with e; omega)⟩
theorem DSt.size {w1 W : World} {B g : Nat} (h : DSt w1 B g W) : w1.heap.size ≤ W.heap.size := h.2.size
def tyV : Array Value := #[.int .u8 1, .int .u8 111, .int .u8 127, .int .u8 3]
theorem tyV_at (j : Nat) (hj : j < 4) : ∃ v : Int, tyV[j]? = some (.int .u8 v) ∧ 0 ≤ v ∧ v ≤ 127 := by
  have : j = 0 ∨ j = 1 ∨ j = 2 ∨ j = 3 := by omega
  rcases this with rfl | rfl | rfl | rfl <;> exact ⟨_, rfl, by omega, by omega⟩
/-- What Event leaves. -/
def EvPost (w : World) (B g : Nat) (e : Ending) (w' : World) : Prop :=
  ∃ x : Ev, e = .returned (.agg x.c) ∧ x.In ∧ validE x = true ∧ x.id = 0 ∧ DiceOk w' B g ∧ w.grownBy w' (some g)
set_option maxRecDepth 100000 in
set_option maxHeartbeats 32000000 in
theorem devent_any (w : World) (B g : Nat) (h : DiceOk w B g) : Calls Tryd.prog 23 #[.pointer (some ⟨g, 0, none⟩)] w (EvPost w B g) := by
  have hg := h.lt
  obtain ⟨w1, hw1⟩ : ∃ w1, (w.alloc (.cells #[.int .u16 0, .int .u32 0, .int .u16 0, .int .u8 0, .int .u8 0, .int .u8 0, .bool false, .int .u8 0, .int .u8 0, .int .u8 0] 26)).alloc (.cells tyV 67) = w1 := ⟨_, rfl⟩
  have C1 : Hid (DiceOk w1 B g) := hide (hw1 ▸ ((h.far (World.grownBy_alloc w _ none) (fun j e => by cases e)).far (World.grownBy_alloc _ _ none) (fun j e => by cases e)))
  have R1 : Hid (Blk w1 w.heap.size 26 #[.int .u16 0, .int .u32 0, .int .u16 0, .int .u8 0, .int .u8 0, .int .u8 0, .bool false, .int .u8 0, .int .u8 0, .int .u8 0]) := hide (hw1 ▸ (Blk.new w _ _).alloc _)
  have N1 : Hid (Blk w1 (w.heap.size + 1) 67 tyV) := hide (hw1 ▸ Blk.new' (by simp))
  have G1 : Hid (w.grownBy w1 (some g)) := hide (hw1 ▸ grown_far (World.grownBy_alloc w _ _) (World.grownBy_alloc _ _ none) (fun j e => by cases e))
  have hsz : w1.heap.size = w.heap.size + 1 + 1 := by rw [← hw1]; simp only [size_alloc]
  have HSZ := hide hsz
  have hgw : w.heap.size + 1 < w1.heap.size := by omega
  have HW1 := hide hw1
  have NX := hide dnext_any
  have BY := hide dbyte_any
  have BO := hide dbool_any
  have HN4 : Hid (∀ W, DSt w1 B g W → ∀ (k : Nat) (v : Int), tyV[k]? = some (.int .u8 v) → W.cell? ⟨w.heap.size + 1, k, none⟩ = some (.int .u8 v)) := hide (fun W hW k v hv => by
    rw [((unhide N1).grown hW.2 (by intro e; injection e with e; omega)).cell k, hv])
  clear h hw1 hsz
  go_enter Tryd.func23, Tryd.ntmps23
  go_upto_region 2 with fail
  have hw1 := unhide HW1
  simp only [tyV] at hw1
  rw [hw1]
  clear hw1
  go_cut [4] from 6 to 29 (fun p W => ∃ (q t u : Nat) (st sn ty d0 d1 d2 : Int) (ds : Bool), p = .pointer (some ⟨q, 0, none⟩) ∧ t < 2000000 ∧ u < 65536 ∧ 0 ≤ st ∧ st < 256 ∧ 0 ≤ sn ∧ sn < 256 ∧ 0 ≤ ty ∧ ty ≤ 127 ∧ 0 ≤ d0 ∧ d0 < 256 ∧ 0 ≤ d1 ∧ d1 < 256 ∧ 0 ≤ d2 ∧ d2 < 256 ∧ Blk W q 26 #[.int .u16 0, .int .u32 (t : Int), .int .u16 (u : Int), .int .u8 st, .int .u8 sn, .int .u8 ty, .bool ds, .int .u8 d0, .int .u8 d1, .int .u8 d2] ∧ w1.heap.size ≤ q ∧ DSt w1 B g W)
  case first =>
    have hS0 : DSt w1 B g w1.drew := DSt.drew ⟨unhide C1, World.grownBy.refl _ _⟩
    refine wp_region_noPanic (wp_region_held_drew (S := DSt w1 B g) (by kernel_rfl) hS0 (fun _ => ?_))
    refine th_take (i := 0) (v := ?_) rfl (by kernel_rfl) (by kernel_rfl) (by kernel_rfl) (Or.inl ⟨by rfl, fun wz hSw => ?_⟩) hS0 ?_
    rotate_left
    · go_simp
      with_reducible rfl
    simp only [Act.put, List.setIfInBounds_toArray, List.set_cons_zero, List.set_cons_succ]
    refine th_take (i := 3) (v := ?_) rfl (by kernel_rfl) (by kernel_rfl) (by kernel_rfl) (Or.inl ⟨by rfl, fun wz hSw => ?_⟩) hS0 ?_
    rotate_left
    · go_simp
      with_reducible rfl
    simp only [Act.put, List.setIfInBounds_toArray, List.set_cons_zero, List.set_cons_succ]
    refine th_take (i := 6) (v := ?_) rfl (by kernel_rfl) (by kernel_rfl) (by kernel_rfl) (Or.inl ⟨by rfl, fun wz hSw => ?_⟩) hS0 ?_
    rotate_left
    · go_simp
      with_reducible rfl
    simp only [Act.put, List.setIfInBounds_toArray, List.set_cons_zero, List.set_cons_succ]
    refine th_take (i := 8) (v := ?_) rfl (by kernel_rfl) (by kernel_rfl) (by kernel_rfl) (Or.inl ⟨by rfl, fun wz hSw => ?_⟩) hS0 ?_
    rotate_left
    · go_simp
      with_reducible rfl
    simp only [Act.put, List.setIfInBounds_toArray, List.set_cons_zero, List.set_cons_succ]
    refine th_take (i := 10) (v := ?_) rfl (by kernel_rfl) (by kernel_rfl) (by kernel_rfl) (Or.inl ⟨by rfl, fun wz hSw => ?_⟩) hS0 ?_
    rotate_left
    · go_simp
      with_reducible rfl
    simp only [Act.put, List.setIfInBounds_toArray, List.set_cons_zero, List.set_cons_succ]
    refine th_take (i := 14) (v := ?_) rfl (by kernel_rfl) (by kernel_rfl) (by kernel_rfl) (Or.inl ⟨by rfl, fun wz hSw => ?_⟩) hS0 ?_
    rotate_left
    · go_simp
      with_reducible rfl
    simp only [Act.put, List.setIfInBounds_toArray, List.set_cons_zero, List.set_cons_succ]
    refine th_take (i := 16) (v := ?_) rfl (by kernel_rfl) (by kernel_rfl) (by kernel_rfl) (Or.inl ⟨by rfl, fun wz hSw => ?_⟩) hS0 ?_
    rotate_left
    · go_simp
      with_reducible rfl
    simp only [Act.put, List.setIfInBounds_toArray, List.set_cons_zero, List.set_cons_succ]
    refine th_take (i := 18) (v := ?_) rfl (by kernel_rfl) (by kernel_rfl) (by kernel_rfl) (Or.inl ⟨by rfl, fun wz hSw => ?_⟩) hS0 ?_
    rotate_left
    · go_simp
      with_reducible rfl
    simp only [Act.put, List.setIfInBounds_toArray, List.set_cons_zero, List.set_cons_succ]
    refine th_take (i := 20) (v := ?_) rfl (by kernel_rfl) (by kernel_rfl) (by kernel_rfl) (Or.inl ⟨by rfl, fun wz hSw => ?_⟩) hS0 ?_
    rotate_left
    · go_simp
      with_reducible rfl
    simp only [Act.put, List.setIfInBounds_toArray, List.set_cons_zero, List.set_cons_succ]
    refine th_two (i := 1) (j := 24) rfl rfl (by kernel_rfl) (fun K hK => ?_) (fun K hK => ?_)
    · -- the call first
      rw [if_pos (by rfl)]
      go_simp
      refine (unhide NX _ B g 2000000 (by omega) (by omega) hS0.1).mono ?_
      rintro e wn1 ⟨j1, hj1, rfl, hcn, hgn⟩
      have hS1 : DSt w1 B g wn1 := hS0.call hcn hgn
      clear hcn hgn
      have hv1 : IntKind.u32.wrap (j1 : Int) = (j1 : Int) := IntWalk.u32_in _ (by omega)
      refine hK.out _ _ hS1 (fun _ => ?_)
      clear hK K
      try simp only [Act.put, List.setIfInBounds_toArray, List.set_cons_zero, List.set_cons_succ]
      refine th_take (i := 2) (v := ?_) rfl (by kernel_rfl) (by kernel_rfl) (by kernel_rfl) (Or.inl ⟨by rfl, fun wz hSw => ?_⟩) hS1 ?_
      rotate_left
      · go_simp
        with_reducible rfl
      simp only [Act.put, List.setIfInBounds_toArray, List.set_cons_zero, List.set_cons_succ]
      refine th_two (i := 4) (j := 24) rfl rfl (by kernel_rfl) (fun K hK => ?_) (fun K hK => ?_)
      · -- the call first
        rw [if_pos (by rfl)]
        go_simp
        refine (unhide NX _ B g 65536 (by omega) (by omega) hS1.1).mono ?_
        rintro e wn2 ⟨j2, hj2, rfl, hcn, hgn⟩
        have hS2 : DSt w1 B g wn2 := hS1.call hcn hgn
        clear hcn hgn
        have hv2 : IntKind.u16.wrap (j2 : Int) = (j2 : Int) := IntWalk.u16_in _ (by omega)
        refine hK.out _ _ hS2 (fun _ => ?_)
        clear hK K
        try simp only [Act.put, List.setIfInBounds_toArray, List.set_cons_zero, List.set_cons_succ]
        refine th_take (i := 5) (v := ?_) rfl (by kernel_rfl) (by kernel_rfl) (by kernel_rfl) (Or.inl ⟨by rfl, fun wz hSw => ?_⟩) hS2 ?_
        rotate_left
        · go_simp
          with_reducible rfl
        simp only [Act.put, List.setIfInBounds_toArray, List.set_cons_zero, List.set_cons_succ]
        refine th_two (i := 7) (j := 24) rfl rfl (by kernel_rfl) (fun K hK => ?_) (fun K hK => ?_)
        · -- the call first
          rw [if_pos (by rfl)]
          go_simp
          refine (unhide BY _ B g hS2.1).mono ?_
          rintro e wn3 ⟨x3, hx3, hy3, rfl, hcn, hgn⟩
          have hS3 : DSt w1 B g wn3 := hS2.call hcn hgn
          clear hcn hgn
          refine hK.out _ _ hS3 (fun _ => ?_)
          clear hK K
          try simp only [Act.put, List.setIfInBounds_toArray, List.set_cons_zero, List.set_cons_succ]
          refine th_two (i := 9) (j := 24) rfl rfl (by kernel_rfl) (fun K hK => ?_) (fun K hK => ?_)
          · -- the call first
            rw [if_pos (by rfl)]
            go_simp
            refine (unhide BY _ B g hS3.1).mono ?_
            rintro e wn4 ⟨x4, hx4, hy4, rfl, hcn, hgn⟩
            have hS4 : DSt w1 B g wn4 := hS3.call hcn hgn
            clear hcn hgn
            refine hK.out _ _ hS4 (fun _ => ?_)
            clear hK K
            try simp only [Act.put, List.setIfInBounds_toArray, List.set_cons_zero, List.set_cons_succ]
            refine th_two (i := 11) (j := 24) rfl rfl (by kernel_rfl) (fun K hK => ?_) (fun K hK => ?_)
            · -- the call first
              rw [if_pos (by rfl)]
              go_simp
              refine (unhide NX _ B g 4 (by omega) (by omega) hS4.1).mono ?_
              rintro e wn5 ⟨j5, hj5, rfl, hcn, hgn⟩
              have hS5 : DSt w1 B g wn5 := hS4.call hcn hgn
              clear hcn hgn
              obtain ⟨ty, hty, hty0, hty1⟩ := tyV_at j5 (by omega)
              have HTY := hide hty
              clear hty
              refine hK.out _ _ hS5 (fun _ => ?_)
              clear hK K
              try simp only [Act.put, List.setIfInBounds_toArray, List.set_cons_zero, List.set_cons_succ]
              refine th_take (i := 12) (v := ?_) rfl (by kernel_rfl) (by kernel_rfl) (by kernel_rfl) (Or.inl ⟨by rfl, fun wz hSw => ?_⟩) hS5 ?_
              rotate_left
              · go_simp
                with_reducible rfl
              simp only [Act.put, List.setIfInBounds_toArray, List.set_cons_zero, List.set_cons_succ]
              refine th_take (i := 13) (v := .int .u8 ty) rfl (by kernel_rfl) (by kernel_rfl) (by kernel_rfl) (Or.inl ⟨by rfl, fun wz hSw => ?_⟩) hS5 ?_
              · have hc := (unhide HN4) wz hSw j5 ty (unhide HTY)
                go_simp
              simp only [Act.put, List.setIfInBounds_toArray, List.set_cons_zero, List.set_cons_succ]
              refine th_two (i := 15) (j := 24) rfl rfl (by kernel_rfl) (fun K hK => ?_) (fun K hK => ?_)
              · -- the call first
                rw [if_pos (by rfl)]
                go_simp
                refine (unhide BO _ B g 2 (by omega) (by omega) hS5.1).mono ?_
                rintro e wn6 ⟨b6, rfl, hcn, hgn⟩
                have hS6 : DSt w1 B g wn6 := hS5.call hcn hgn
                clear hcn hgn
                refine hK.out _ _ hS6 (fun _ => ?_)
                clear hK K
                try simp only [Act.put, List.setIfInBounds_toArray, List.set_cons_zero, List.set_cons_succ]
                refine th_two (i := 17) (j := 24) rfl rfl (by kernel_rfl) (fun K hK => ?_) (fun K hK => ?_)
                · -- the call first
                  rw [if_pos (by rfl)]
                  go_simp
                  refine (unhide BY _ B g hS6.1).mono ?_
                  rintro e wn7 ⟨x7, hx7, hy7, rfl, hcn, hgn⟩
                  have hS7 : DSt w1 B g wn7 := hS6.call hcn hgn
                  clear hcn hgn
                  refine hK.out _ _ hS7 (fun _ => ?_)
                  clear hK K
                  try simp only [Act.put, List.setIfInBounds_toArray, List.set_cons_zero, List.set_cons_succ]
                  refine th_two (i := 19) (j := 24) rfl rfl (by kernel_rfl) (fun K hK => ?_) (fun K hK => ?_)
                  · -- the call first
                    rw [if_pos (by rfl)]
                    go_simp
                    refine (unhide BY _ B g hS7.1).mono ?_
                    rintro e wn8 ⟨x8, hx8, hy8, rfl, hcn, hgn⟩
                    have hS8 : DSt w1 B g wn8 := hS7.call hcn hgn
                    clear hcn hgn
                    refine hK.out _ _ hS8 (fun _ => ?_)
                    clear hK K
                    try simp only [Act.put, List.setIfInBounds_toArray, List.set_cons_zero, List.set_cons_succ]
                    refine th_two (i := 21) (j := 24) rfl rfl (by kernel_rfl) (fun K hK => ?_) (fun K hK => ?_)
                    · -- the call first
                      rw [if_pos (by rfl)]
                      go_simp
                      refine (unhide BY _ B g hS8.1).mono ?_
                      rintro e wn9 ⟨x9, hx9, hy9, rfl, hcn, hgn⟩
                      have hS9 : DSt w1 B g wn9 := hS8.call hcn hgn
                      clear hcn hgn
                      refine hK.out _ _ hS9 (fun _ => ?_)
                      clear hK K
                      try simp only [Act.put, List.setIfInBounds_toArray, List.set_cons_zero, List.set_cons_succ]
                      refine th_take (i := 22) (v := ?_) rfl (by kernel_rfl) (by kernel_rfl) (by kernel_rfl) (Or.inl ⟨by rfl, fun wz hSw => ?_⟩) hS9 ?_
                      rotate_left
                      · go_simp
                        with_reducible rfl
                      simp only [Act.put, List.setIfInBounds_toArray, List.set_cons_zero, List.set_cons_succ]
                      refine th_take (i := 23) (v := ?_) rfl (by kernel_rfl) (by kernel_rfl) (by kernel_rfl) (Or.inl ⟨by rfl, fun wz hSw => ?_⟩) hS9 ?_
                      rotate_left
                      · go_simp
                        with_reducible rfl
                      simp only [Act.put, List.setIfInBounds_toArray, List.set_cons_zero, List.set_cons_succ]
                      refine th_one (i := 24) rfl (by kernel_rfl) (fun K hK => ?_)
                      rw [if_pos (by rfl)]
                      go_simp
                      obtain ⟨q, hq⟩ : ∃ q, wn9.heap.size = q := ⟨_, rfl⟩
                      have hq1 : w1.heap.size ≤ q := by rw [← hq]; exact hS9.size
                      have hZ : Blk (wn9.alloc (.cells #[.int .u16 0, .int .u32 0, .int .u16 0, .int .u8 0, .int .u8 0, .int .u8 0, .bool false, .int .u8 0, .int .u8 0, .int .u8 0] 26)) q 26 #[.int .u16 0, .int .u32 0, .int .u16 0, .int .u8 0, .int .u8 0, .int .u8 0, .bool false, .int .u8 0, .int .u8 0, .int .u8 0] := by rw [← hq]; exact Blk.new wn9 _ _
                      have hSa : DSt w1 B g (wn9.alloc (.cells #[.int .u16 0, .int .u32 0, .int .u16 0, .int .u8 0, .int .u8 0, .int .u8 0, .bool false, .int .u8 0, .int .u8 0, .int .u8 0] 26)) := hS9.alloc _
                      refine hK.out _ _ hSa (fun _ => ?_)
                      clear hK K
                      try simp only [Act.put, List.setIfInBounds_toArray, List.set_cons_zero, List.set_cons_succ]
                      rw [hq]
                      clear hq
                      refine th_one (i := 25) rfl (by kernel_rfl) (fun K hK => ?_)
                      refine step_store_blk (by rfl) 26 (.tmp 4) (.tmp 29) rfl q 26 _ #[.int .u16 0, .int .u32 (j1 : Int), .int .u16 (j2 : Int), .int .u8 x3, .int .u8 x4, .int .u8 ty, .bool b6, .int .u8 x7, .int .u8 x8, .int .u8 x9] rfl rfl hZ rfl (by kernel_rfl) (by intro u hu; simp at hu; rcases hu with rfl | rfl | rfl | rfl | rfl | rfl | rfl | rfl | rfl | rfl <;> rfl) ?_
                      intro w7 hb7 hg7
                      have hS7 : DSt w1 B g w7 := hSa.far hg7 (by have := (unhide C1).lt; omega) (by omega)
                      refine hK.out _ _ hS7 (fun _ => ?_)
                      clear hK K
                      try simp only [Act.put]
                      refine wpAnyH_done (by kernel_rfl) (NoPanic.normal ?_) _
                      go_wp2_with fail
                      go_meet
                      exact ⟨q, j1, j2, x3, x4, ty, x7, x8, x9, b6, rfl, by omega, by omega, hx3, hy3, hx4, hy4, hty0, hty1, hx7, hy7, hx8, hy8, hx9, hy9, hb7, by omega, hS7⟩
                    · -- the variable first
                      rw [if_pos (by rfl)]
                      go_simp
                      obtain ⟨q, hq⟩ : ∃ q, wn8.heap.size = q := ⟨_, rfl⟩
                      have hq1 : w1.heap.size ≤ q := by rw [← hq]; exact hS8.size
                      have hZ : Blk (wn8.alloc (.cells #[.int .u16 0, .int .u32 0, .int .u16 0, .int .u8 0, .int .u8 0, .int .u8 0, .bool false, .int .u8 0, .int .u8 0, .int .u8 0] 26)) q 26 #[.int .u16 0, .int .u32 0, .int .u16 0, .int .u8 0, .int .u8 0, .int .u8 0, .bool false, .int .u8 0, .int .u8 0, .int .u8 0] := by rw [← hq]; exact Blk.new wn8 _ _
                      have hSa : DSt w1 B g (wn8.alloc (.cells #[.int .u16 0, .int .u32 0, .int .u16 0, .int .u8 0, .int .u8 0, .int .u8 0, .bool false, .int .u8 0, .int .u8 0, .int .u8 0] 26)) := hS8.alloc _
                      refine hK.out _ _ hSa (fun _ => ?_)
                      clear hK K
                      try simp only [Act.put, List.setIfInBounds_toArray, List.set_cons_zero, List.set_cons_succ]
                      rw [hq]
                      clear hq
                      refine th_one (i := 21) rfl (by kernel_rfl) (fun K hK => ?_)
                      rw [if_pos (by rfl)]
                      go_simp
                      refine (unhide BY _ B g hSa.1).mono ?_
                      rintro e wn9 ⟨x9, hx9, hy9, rfl, hcn, hgn⟩
                      have hS9 : DSt w1 B g wn9 := hSa.call hcn hgn
                      have hZ9 := hZ.grown hgn (by intro e; injection e with e; have := (unhide C1).lt; omega)
                      clear hcn hgn
                      refine hK.out _ _ hS9 (fun _ => ?_)
                      clear hK K
                      try simp only [Act.put, List.setIfInBounds_toArray, List.set_cons_zero, List.set_cons_succ]
                      refine th_take (i := 22) (v := ?_) rfl (by kernel_rfl) (by kernel_rfl) (by kernel_rfl) (Or.inl ⟨by rfl, fun wz hSw => ?_⟩) hS9 ?_
                      rotate_left
                      · go_simp
                        with_reducible rfl
                      simp only [Act.put, List.setIfInBounds_toArray, List.set_cons_zero, List.set_cons_succ]
                      refine th_take (i := 23) (v := ?_) rfl (by kernel_rfl) (by kernel_rfl) (by kernel_rfl) (Or.inl ⟨by rfl, fun wz hSw => ?_⟩) hS9 ?_
                      rotate_left
                      · go_simp
                        with_reducible rfl
                      simp only [Act.put, List.setIfInBounds_toArray, List.set_cons_zero, List.set_cons_succ]
                      refine th_one (i := 25) rfl (by kernel_rfl) (fun K hK => ?_)
                      refine step_store_blk (by rfl) 26 (.tmp 4) (.tmp 29) rfl q 26 _ #[.int .u16 0, .int .u32 (j1 : Int), .int .u16 (j2 : Int), .int .u8 x3, .int .u8 x4, .int .u8 ty, .bool b6, .int .u8 x7, .int .u8 x8, .int .u8 x9] rfl rfl hZ9 rfl (by kernel_rfl) (by intro u hu; simp at hu; rcases hu with rfl | rfl | rfl | rfl | rfl | rfl | rfl | rfl | rfl | rfl <;> rfl) ?_
                      intro w7 hb7 hg7
                      have hS7 : DSt w1 B g w7 := hS9.far hg7 (by have := (unhide C1).lt; omega) (by omega)
                      refine hK.out _ _ hS7 (fun _ => ?_)
                      clear hK K
                      try simp only [Act.put]
                      refine wpAnyH_done (by kernel_rfl) (NoPanic.normal ?_) _
                      go_wp2_with fail
                      go_meet
                      exact ⟨q, j1, j2, x3, x4, ty, x7, x8, x9, b6, rfl, by omega, by omega, hx3, hy3, hx4, hy4, hty0, hty1, hx7, hy7, hx8, hy8, hx9, hy9, hb7, by omega, hS7⟩
                  · -- the variable first
                    rw [if_pos (by rfl)]
                    go_simp
                    obtain ⟨q, hq⟩ : ∃ q, wn7.heap.size = q := ⟨_, rfl⟩
                    have hq1 : w1.heap.size ≤ q := by rw [← hq]; exact hS7.size
                    have hZ : Blk (wn7.alloc (.cells #[.int .u16 0, .int .u32 0, .int .u16 0, .int .u8 0, .int .u8 0, .int .u8 0, .bool false, .int .u8 0, .int .u8 0, .int .u8 0] 26)) q 26 #[.int .u16 0, .int .u32 0, .int .u16 0, .int .u8 0, .int .u8 0, .int .u8 0, .bool false, .int .u8 0, .int .u8 0, .int .u8 0] := by rw [← hq]; exact Blk.new wn7 _ _
                    have hSa : DSt w1 B g (wn7.alloc (.cells #[.int .u16 0, .int .u32 0, .int .u16 0, .int .u8 0, .int .u8 0, .int .u8 0, .bool false, .int .u8 0, .int .u8 0, .int .u8 0] 26)) := hS7.alloc _
                    refine hK.out _ _ hSa (fun _ => ?_)
                    clear hK K
                    try simp only [Act.put, List.setIfInBounds_toArray, List.set_cons_zero, List.set_cons_succ]
                    rw [hq]
                    clear hq
                    refine th_one (i := 19) rfl (by kernel_rfl) (fun K hK => ?_)
                    rw [if_pos (by rfl)]
                    go_simp
                    refine (unhide BY _ B g hSa.1).mono ?_
                    rintro e wn8 ⟨x8, hx8, hy8, rfl, hcn, hgn⟩
                    have hS8 : DSt w1 B g wn8 := hSa.call hcn hgn
                    have hZ8 := hZ.grown hgn (by intro e; injection e with e; have := (unhide C1).lt; omega)
                    clear hcn hgn
                    refine hK.out _ _ hS8 (fun _ => ?_)
                    clear hK K
                    try simp only [Act.put, List.setIfInBounds_toArray, List.set_cons_zero, List.set_cons_succ]
                    refine th_one (i := 21) rfl (by kernel_rfl) (fun K hK => ?_)
                    rw [if_pos (by rfl)]
                    go_simp
                    refine (unhide BY _ B g hS8.1).mono ?_
                    rintro e wn9 ⟨x9, hx9, hy9, rfl, hcn, hgn⟩
                    have hS9 : DSt w1 B g wn9 := hS8.call hcn hgn
                    have hZ9 := hZ8.grown hgn (by intro e; injection e with e; have := (unhide C1).lt; omega)
                    clear hcn hgn
                    refine hK.out _ _ hS9 (fun _ => ?_)
                    clear hK K
                    try simp only [Act.put, List.setIfInBounds_toArray, List.set_cons_zero, List.set_cons_succ]
                    refine th_take (i := 22) (v := ?_) rfl (by kernel_rfl) (by kernel_rfl) (by kernel_rfl) (Or.inl ⟨by rfl, fun wz hSw => ?_⟩) hS9 ?_
                    rotate_left
                    · go_simp
                      with_reducible rfl
                    simp only [Act.put, List.setIfInBounds_toArray, List.set_cons_zero, List.set_cons_succ]
                    refine th_take (i := 23) (v := ?_) rfl (by kernel_rfl) (by kernel_rfl) (by kernel_rfl) (Or.inl ⟨by rfl, fun wz hSw => ?_⟩) hS9 ?_
                    rotate_left
                    · go_simp
                      with_reducible rfl
                    simp only [Act.put, List.setIfInBounds_toArray, List.set_cons_zero, List.set_cons_succ]
                    refine th_one (i := 25) rfl (by kernel_rfl) (fun K hK => ?_)
                    refine step_store_blk (by rfl) 26 (.tmp 4) (.tmp 29) rfl q 26 _ #[.int .u16 0, .int .u32 (j1 : Int), .int .u16 (j2 : Int), .int .u8 x3, .int .u8 x4, .int .u8 ty, .bool b6, .int .u8 x7, .int .u8 x8, .int .u8 x9] rfl rfl hZ9 rfl (by kernel_rfl) (by intro u hu; simp at hu; rcases hu with rfl | rfl | rfl | rfl | rfl | rfl | rfl | rfl | rfl | rfl <;> rfl) ?_
                    intro w7 hb7 hg7
                    have hS7 : DSt w1 B g w7 := hS9.far hg7 (by have := (unhide C1).lt; omega) (by omega)
                    refine hK.out _ _ hS7 (fun _ => ?_)
                    clear hK K
                    try simp only [Act.put]
                    refine wpAnyH_done (by kernel_rfl) (NoPanic.normal ?_) _
                    go_wp2_with fail
                    go_meet
                    exact ⟨q, j1, j2, x3, x4, ty, x7, x8, x9, b6, rfl, by omega, by omega, hx3, hy3, hx4, hy4, hty0, hty1, hx7, hy7, hx8, hy8, hx9, hy9, hb7, by omega, hS7⟩
                · -- the variable first
                  rw [if_pos (by rfl)]
                  go_simp
                  obtain ⟨q, hq⟩ : ∃ q, wn6.heap.size = q := ⟨_, rfl⟩
                  have hq1 : w1.heap.size ≤ q := by rw [← hq]; exact hS6.size
                  have hZ : Blk (wn6.alloc (.cells #[.int .u16 0, .int .u32 0, .int .u16 0, .int .u8 0, .int .u8 0, .int .u8 0, .bool false, .int .u8 0, .int .u8 0, .int .u8 0] 26)) q 26 #[.int .u16 0, .int .u32 0, .int .u16 0, .int .u8 0, .int .u8 0, .int .u8 0, .bool false, .int .u8 0, .int .u8 0, .int .u8 0] := by rw [← hq]; exact Blk.new wn6 _ _
                  have hSa : DSt w1 B g (wn6.alloc (.cells #[.int .u16 0, .int .u32 0, .int .u16 0, .int .u8 0, .int .u8 0, .int .u8 0, .bool false, .int .u8 0, .int .u8 0, .int .u8 0] 26)) := hS6.alloc _
                  refine hK.out _ _ hSa (fun _ => ?_)
                  clear hK K
                  try simp only [Act.put, List.setIfInBounds_toArray, List.set_cons_zero, List.set_cons_succ]
                  rw [hq]
                  clear hq
                  refine th_one (i := 17) rfl (by kernel_rfl) (fun K hK => ?_)
                  rw [if_pos (by rfl)]
                  go_simp
                  refine (unhide BY _ B g hSa.1).mono ?_
                  rintro e wn7 ⟨x7, hx7, hy7, rfl, hcn, hgn⟩
                  have hS7 : DSt w1 B g wn7 := hSa.call hcn hgn
                  have hZ7 := hZ.grown hgn (by intro e; injection e with e; have := (unhide C1).lt; omega)
                  clear hcn hgn
                  refine hK.out _ _ hS7 (fun _ => ?_)
                  clear hK K
                  try simp only [Act.put, List.setIfInBounds_toArray, List.set_cons_zero, List.set_cons_succ]
                  refine th_one (i := 19) rfl (by kernel_rfl) (fun K hK => ?_)
                  rw [if_pos (by rfl)]
                  go_simp
                  refine (unhide BY _ B g hS7.1).mono ?_
                  rintro e wn8 ⟨x8, hx8, hy8, rfl, hcn, hgn⟩
                  have hS8 : DSt w1 B g wn8 := hS7.call hcn hgn
                  have hZ8 := hZ7.grown hgn (by intro e; injection e with e; have := (unhide C1).lt; omega)
                  clear hcn hgn
                  refine hK.out _ _ hS8 (fun _ => ?_)
                  clear hK K
                  try simp only [Act.put, List.setIfInBounds_toArray, List.set_cons_zero, List.set_cons_succ]
                  refine th_one (i := 21) rfl (by kernel_rfl) (fun K hK => ?_)
                  rw [if_pos (by rfl)]
                  go_simp
                  refine (unhide BY _ B g hS8.1).mono ?_
                  rintro e wn9 ⟨x9, hx9, hy9, rfl, hcn, hgn⟩
                  have hS9 : DSt w1 B g wn9 := hS8.call hcn hgn
                  have hZ9 := hZ8.grown hgn (by intro e; injection e with e; have := (unhide C1).lt; omega)
                  clear hcn hgn
                  refine hK.out _ _ hS9 (fun _ => ?_)
                  clear hK K
                  try simp only [Act.put, List.setIfInBounds_toArray, List.set_cons_zero, List.set_cons_succ]
                  refine th_take (i := 22) (v := ?_) rfl (by kernel_rfl) (by kernel_rfl) (by kernel_rfl) (Or.inl ⟨by rfl, fun wz hSw => ?_⟩) hS9 ?_
                  rotate_left
                  · go_simp
                    with_reducible rfl
                  simp only [Act.put, List.setIfInBounds_toArray, List.set_cons_zero, List.set_cons_succ]
                  refine th_take (i := 23) (v := ?_) rfl (by kernel_rfl) (by kernel_rfl) (by kernel_rfl) (Or.inl ⟨by rfl, fun wz hSw => ?_⟩) hS9 ?_
                  rotate_left
                  · go_simp
                    with_reducible rfl
                  simp only [Act.put, List.setIfInBounds_toArray, List.set_cons_zero, List.set_cons_succ]
                  refine th_one (i := 25) rfl (by kernel_rfl) (fun K hK => ?_)
                  refine step_store_blk (by rfl) 26 (.tmp 4) (.tmp 29) rfl q 26 _ #[.int .u16 0, .int .u32 (j1 : Int), .int .u16 (j2 : Int), .int .u8 x3, .int .u8 x4, .int .u8 ty, .bool b6, .int .u8 x7, .int .u8 x8, .int .u8 x9] rfl rfl hZ9 rfl (by kernel_rfl) (by intro u hu; simp at hu; rcases hu with rfl | rfl | rfl | rfl | rfl | rfl | rfl | rfl | rfl | rfl <;> rfl) ?_
                  intro w7 hb7 hg7
                  have hS7 : DSt w1 B g w7 := hS9.far hg7 (by have := (unhide C1).lt; omega) (by omega)
                  refine hK.out _ _ hS7 (fun _ => ?_)
                  clear hK K
                  try simp only [Act.put]
                  refine wpAnyH_done (by kernel_rfl) (NoPanic.normal ?_) _
                  go_wp2_with fail
                  go_meet
                  exact ⟨q, j1, j2, x3, x4, ty, x7, x8, x9, b6, rfl, by omega, by omega, hx3, hy3, hx4, hy4, hty0, hty1, hx7, hy7, hx8, hy8, hx9, hy9, hb7, by omega, hS7⟩
              · -- the variable first
                rw [if_pos (by rfl)]
                go_simp
                obtain ⟨q, hq⟩ : ∃ q, wn5.heap.size = q := ⟨_, rfl⟩
                have hq1 : w1.heap.size ≤ q := by rw [← hq]; exact hS5.size
                have hZ : Blk (wn5.alloc (.cells #[.int .u16 0, .int .u32 0, .int .u16 0, .int .u8 0, .int .u8 0, .int .u8 0, .bool false, .int .u8 0, .int .u8 0, .int .u8 0] 26)) q 26 #[.int .u16 0, .int .u32 0, .int .u16 0, .int .u8 0, .int .u8 0, .int .u8 0, .bool false, .int .u8 0, .int .u8 0, .int .u8 0] := by rw [← hq]; exact Blk.new wn5 _ _
                have hSa : DSt w1 B g (wn5.alloc (.cells #[.int .u16 0, .int .u32 0, .int .u16 0, .int .u8 0, .int .u8 0, .int .u8 0, .bool false, .int .u8 0, .int .u8 0, .int .u8 0] 26)) := hS5.alloc _
                refine hK.out _ _ hSa (fun _ => ?_)
                clear hK K
                try simp only [Act.put, List.setIfInBounds_toArray, List.set_cons_zero, List.set_cons_succ]
                rw [hq]
                clear hq
                refine th_one (i := 15) rfl (by kernel_rfl) (fun K hK => ?_)
                rw [if_pos (by rfl)]
                go_simp
                refine (unhide BO _ B g 2 (by omega) (by omega) hSa.1).mono ?_
                rintro e wn6 ⟨b6, rfl, hcn, hgn⟩
                have hS6 : DSt w1 B g wn6 := hSa.call hcn hgn
                have hZ6 := hZ.grown hgn (by intro e; injection e with e; have := (unhide C1).lt; omega)
                clear hcn hgn
                refine hK.out _ _ hS6 (fun _ => ?_)
                clear hK K
                try simp only [Act.put, List.setIfInBounds_toArray, List.set_cons_zero, List.set_cons_succ]
                refine th_one (i := 17) rfl (by kernel_rfl) (fun K hK => ?_)
                rw [if_pos (by rfl)]
                go_simp
                refine (unhide BY _ B g hS6.1).mono ?_
                rintro e wn7 ⟨x7, hx7, hy7, rfl, hcn, hgn⟩
                have hS7 : DSt w1 B g wn7 := hS6.call hcn hgn
                have hZ7 := hZ6.grown hgn (by intro e; injection e with e; have := (unhide C1).lt; omega)
                clear hcn hgn
                refine hK.out _ _ hS7 (fun _ => ?_)
                clear hK K
                try simp only [Act.put, List.setIfInBounds_toArray, List.set_cons_zero, List.set_cons_succ]
                refine th_one (i := 19) rfl (by kernel_rfl) (fun K hK => ?_)
                rw [if_pos (by rfl)]
                go_simp
                refine (unhide BY _ B g hS7.1).mono ?_
                rintro e wn8 ⟨x8, hx8, hy8, rfl, hcn, hgn⟩
                have hS8 : DSt w1 B g wn8 := hS7.call hcn hgn
                have hZ8 := hZ7.grown hgn (by intro e; injection e with e; have := (unhide C1).lt; omega)
                clear hcn hgn
                refine hK.out _ _ hS8 (fun _ => ?_)
                clear hK K
                try simp only [Act.put, List.setIfInBounds_toArray, List.set_cons_zero, List.set_cons_succ]
                refine th_one (i := 21) rfl (by kernel_rfl) (fun K hK => ?_)
                rw [if_pos (by rfl)]
                go_simp
                refine (unhide BY _ B g hS8.1).mono ?_
                rintro e wn9 ⟨x9, hx9, hy9, rfl, hcn, hgn⟩
                have hS9 : DSt w1 B g wn9 := hS8.call hcn hgn
                have hZ9 := hZ8.grown hgn (by intro e; injection e with e; have := (unhide C1).lt; omega)
                clear hcn hgn
                refine hK.out _ _ hS9 (fun _ => ?_)
                clear hK K
                try simp only [Act.put, List.setIfInBounds_toArray, List.set_cons_zero, List.set_cons_succ]
                refine th_take (i := 22) (v := ?_) rfl (by kernel_rfl) (by kernel_rfl) (by kernel_rfl) (Or.inl ⟨by rfl, fun wz hSw => ?_⟩) hS9 ?_
                rotate_left
                · go_simp
                  with_reducible rfl
                simp only [Act.put, List.setIfInBounds_toArray, List.set_cons_zero, List.set_cons_succ]
                refine th_take (i := 23) (v := ?_) rfl (by kernel_rfl) (by kernel_rfl) (by kernel_rfl) (Or.inl ⟨by rfl, fun wz hSw => ?_⟩) hS9 ?_
                rotate_left
                · go_simp
                  with_reducible rfl
                simp only [Act.put, List.setIfInBounds_toArray, List.set_cons_zero, List.set_cons_succ]
                refine th_one (i := 25) rfl (by kernel_rfl) (fun K hK => ?_)
                refine step_store_blk (by rfl) 26 (.tmp 4) (.tmp 29) rfl q 26 _ #[.int .u16 0, .int .u32 (j1 : Int), .int .u16 (j2 : Int), .int .u8 x3, .int .u8 x4, .int .u8 ty, .bool b6, .int .u8 x7, .int .u8 x8, .int .u8 x9] rfl rfl hZ9 rfl (by kernel_rfl) (by intro u hu; simp at hu; rcases hu with rfl | rfl | rfl | rfl | rfl | rfl | rfl | rfl | rfl | rfl <;> rfl) ?_
                intro w7 hb7 hg7
                have hS7 : DSt w1 B g w7 := hS9.far hg7 (by have := (unhide C1).lt; omega) (by omega)
                refine hK.out _ _ hS7 (fun _ => ?_)
                clear hK K
                try simp only [Act.put]
                refine wpAnyH_done (by kernel_rfl) (NoPanic.normal ?_) _
                go_wp2_with fail
                go_meet
                exact ⟨q, j1, j2, x3, x4, ty, x7, x8, x9, b6, rfl, by omega, by omega, hx3, hy3, hx4, hy4, hty0, hty1, hx7, hy7, hx8, hy8, hx9, hy9, hb7, by omega, hS7⟩
            · -- the variable first
              rw [if_pos (by rfl)]
              go_simp
              obtain ⟨q, hq⟩ : ∃ q, wn4.heap.size = q := ⟨_, rfl⟩
              have hq1 : w1.heap.size ≤ q := by rw [← hq]; exact hS4.size
              have hZ : Blk (wn4.alloc (.cells #[.int .u16 0, .int .u32 0, .int .u16 0, .int .u8 0, .int .u8 0, .int .u8 0, .bool false, .int .u8 0, .int .u8 0, .int .u8 0] 26)) q 26 #[.int .u16 0, .int .u32 0, .int .u16 0, .int .u8 0, .int .u8 0, .int .u8 0, .bool false, .int .u8 0, .int .u8 0, .int .u8 0] := by rw [← hq]; exact Blk.new wn4 _ _
              have hSa : DSt w1 B g (wn4.alloc (.cells #[.int .u16 0, .int .u32 0, .int .u16 0, .int .u8 0, .int .u8 0, .int .u8 0, .bool false, .int .u8 0, .int .u8 0, .int .u8 0] 26)) := hS4.alloc _
              refine hK.out _ _ hSa (fun _ => ?_)
              clear hK K
              try simp only [Act.put, List.setIfInBounds_toArray, List.set_cons_zero, List.set_cons_succ]
              rw [hq]
              clear hq
              refine th_one (i := 11) rfl (by kernel_rfl) (fun K hK => ?_)
              rw [if_pos (by rfl)]
              go_simp
              refine (unhide NX _ B g 4 (by omega) (by omega) hSa.1).mono ?_
              rintro e wn5 ⟨j5, hj5, rfl, hcn, hgn⟩
              have hS5 : DSt w1 B g wn5 := hSa.call hcn hgn
              have hZ5 := hZ.grown hgn (by intro e; injection e with e; have := (unhide C1).lt; omega)
              clear hcn hgn
              obtain ⟨ty, hty, hty0, hty1⟩ := tyV_at j5 (by omega)
              have HTY := hide hty
              clear hty
              refine hK.out _ _ hS5 (fun _ => ?_)
              clear hK K
              try simp only [Act.put, List.setIfInBounds_toArray, List.set_cons_zero, List.set_cons_succ]
              refine th_take (i := 12) (v := ?_) rfl (by kernel_rfl) (by kernel_rfl) (by kernel_rfl) (Or.inl ⟨by rfl, fun wz hSw => ?_⟩) hS5 ?_
              rotate_left
              · go_simp
                with_reducible rfl
              simp only [Act.put, List.setIfInBounds_toArray, List.set_cons_zero, List.set_cons_succ]
              refine th_take (i := 13) (v := .int .u8 ty) rfl (by kernel_rfl) (by kernel_rfl) (by kernel_rfl) (Or.inl ⟨by rfl, fun wz hSw => ?_⟩) hS5 ?_
              · have hc := (unhide HN4) wz hSw j5 ty (unhide HTY)
                go_simp
              simp only [Act.put, List.setIfInBounds_toArray, List.set_cons_zero, List.set_cons_succ]
              refine th_one (i := 15) rfl (by kernel_rfl) (fun K hK => ?_)
              rw [if_pos (by rfl)]
              go_simp
              refine (unhide BO _ B g 2 (by omega) (by omega) hS5.1).mono ?_
              rintro e wn6 ⟨b6, rfl, hcn, hgn⟩
              have hS6 : DSt w1 B g wn6 := hS5.call hcn hgn
              have hZ6 := hZ5.grown hgn (by intro e; injection e with e; have := (unhide C1).lt; omega)
              clear hcn hgn
              refine hK.out _ _ hS6 (fun _ => ?_)
              clear hK K
              try simp only [Act.put, List.setIfInBounds_toArray, List.set_cons_zero, List.set_cons_succ]
              refine th_one (i := 17) rfl (by kernel_rfl) (fun K hK => ?_)
              rw [if_pos (by rfl)]
              go_simp
              refine (unhide BY _ B g hS6.1).mono ?_
              rintro e wn7 ⟨x7, hx7, hy7, rfl, hcn, hgn⟩
              have hS7 : DSt w1 B g wn7 := hS6.call hcn hgn
              have hZ7 := hZ6.grown hgn (by intro e; injection e with e; have := (unhide C1).lt; omega)
              clear hcn hgn
              refine hK.out _ _ hS7 (fun _ => ?_)
              clear hK K
              try simp only [Act.put, List.setIfInBounds_toArray, List.set_cons_zero, List.set_cons_succ]
              refine th_one (i := 19) rfl (by kernel_rfl) (fun K hK => ?_)
              rw [if_pos (by rfl)]
              go_simp
              refine (unhide BY _ B g hS7.1).mono ?_
              rintro e wn8 ⟨x8, hx8, hy8, rfl, hcn, hgn⟩
              have hS8 : DSt w1 B g wn8 := hS7.call hcn hgn
              have hZ8 := hZ7.grown hgn (by intro e; injection e with e; have := (unhide C1).lt; omega)
              clear hcn hgn
              refine hK.out _ _ hS8 (fun _ => ?_)
              clear hK K
              try simp only [Act.put, List.setIfInBounds_toArray, List.set_cons_zero, List.set_cons_succ]
              refine th_one (i := 21) rfl (by kernel_rfl) (fun K hK => ?_)
              rw [if_pos (by rfl)]
              go_simp
              refine (unhide BY _ B g hS8.1).mono ?_
              rintro e wn9 ⟨x9, hx9, hy9, rfl, hcn, hgn⟩
              have hS9 : DSt w1 B g wn9 := hS8.call hcn hgn
              have hZ9 := hZ8.grown hgn (by intro e; injection e with e; have := (unhide C1).lt; omega)
              clear hcn hgn
              refine hK.out _ _ hS9 (fun _ => ?_)
              clear hK K
              try simp only [Act.put, List.setIfInBounds_toArray, List.set_cons_zero, List.set_cons_succ]
              refine th_take (i := 22) (v := ?_) rfl (by kernel_rfl) (by kernel_rfl) (by kernel_rfl) (Or.inl ⟨by rfl, fun wz hSw => ?_⟩) hS9 ?_
              rotate_left
              · go_simp
                with_reducible rfl
              simp only [Act.put, List.setIfInBounds_toArray, List.set_cons_zero, List.set_cons_succ]
              refine th_take (i := 23) (v := ?_) rfl (by kernel_rfl) (by kernel_rfl) (by kernel_rfl) (Or.inl ⟨by rfl, fun wz hSw => ?_⟩) hS9 ?_
              rotate_left
              · go_simp
                with_reducible rfl
              simp only [Act.put, List.setIfInBounds_toArray, List.set_cons_zero, List.set_cons_succ]
              refine th_one (i := 25) rfl (by kernel_rfl) (fun K hK => ?_)
              refine step_store_blk (by rfl) 26 (.tmp 4) (.tmp 29) rfl q 26 _ #[.int .u16 0, .int .u32 (j1 : Int), .int .u16 (j2 : Int), .int .u8 x3, .int .u8 x4, .int .u8 ty, .bool b6, .int .u8 x7, .int .u8 x8, .int .u8 x9] rfl rfl hZ9 rfl (by kernel_rfl) (by intro u hu; simp at hu; rcases hu with rfl | rfl | rfl | rfl | rfl | rfl | rfl | rfl | rfl | rfl <;> rfl) ?_
              intro w7 hb7 hg7
              have hS7 : DSt w1 B g w7 := hS9.far hg7 (by have := (unhide C1).lt; omega) (by omega)
              refine hK.out _ _ hS7 (fun _ => ?_)
              clear hK K
              try simp only [Act.put]
              refine wpAnyH_done (by kernel_rfl) (NoPanic.normal ?_) _
              go_wp2_with fail
              go_meet
              exact ⟨q, j1, j2, x3, x4, ty, x7, x8, x9, b6, rfl, by omega, by omega, hx3, hy3, hx4, hy4, hty0, hty1, hx7, hy7, hx8, hy8, hx9, hy9, hb7, by omega, hS7⟩
          · -- the variable first
            rw [if_pos (by rfl)]
            go_simp
            obtain ⟨q, hq⟩ : ∃ q, wn3.heap.size = q := ⟨_, rfl⟩
            have hq1 : w1.heap.size ≤ q := by rw [← hq]; exact hS3.size
            have hZ : Blk (wn3.alloc (.cells #[.int .u16 0, .int .u32 0, .int .u16 0, .int .u8 0, .int .u8 0, .int .u8 0, .bool false, .int .u8 0, .int .u8 0, .int .u8 0] 26)) q 26 #[.int .u16 0, .int .u32 0, .int .u16 0, .int .u8 0, .int .u8 0, .int .u8 0, .bool false, .int .u8 0, .int .u8 0, .int .u8 0] := by rw [← hq]; exact Blk.new wn3 _ _
            have hSa : DSt w1 B g (wn3.alloc (.cells #[.int .u16 0, .int .u32 0, .int .u16 0, .int .u8 0, .int .u8 0, .int .u8 0, .bool false, .int .u8 0, .int .u8 0, .int .u8 0] 26)) := hS3.alloc _
            refine hK.out _ _ hSa (fun _ => ?_)
            clear hK K
            try simp only [Act.put, List.setIfInBounds_toArray, List.set_cons_zero, List.set_cons_succ]
            rw [hq]
            clear hq
            refine th_one (i := 9) rfl (by kernel_rfl) (fun K hK => ?_)
            rw [if_pos (by rfl)]
            go_simp
            refine (unhide BY _ B g hSa.1).mono ?_
            rintro e wn4 ⟨x4, hx4, hy4, rfl, hcn, hgn⟩
            have hS4 : DSt w1 B g wn4 := hSa.call hcn hgn
            have hZ4 := hZ.grown hgn (by intro e; injection e with e; have := (unhide C1).lt; omega)
            clear hcn hgn
            refine hK.out _ _ hS4 (fun _ => ?_)
            clear hK K
            try simp only [Act.put, List.setIfInBounds_toArray, List.set_cons_zero, List.set_cons_succ]
            refine th_one (i := 11) rfl (by kernel_rfl) (fun K hK => ?_)
            rw [if_pos (by rfl)]
            go_simp
            refine (unhide NX _ B g 4 (by omega) (by omega) hS4.1).mono ?_
            rintro e wn5 ⟨j5, hj5, rfl, hcn, hgn⟩
            have hS5 : DSt w1 B g wn5 := hS4.call hcn hgn
            have hZ5 := hZ4.grown hgn (by intro e; injection e with e; have := (unhide C1).lt; omega)
            clear hcn hgn
            obtain ⟨ty, hty, hty0, hty1⟩ := tyV_at j5 (by omega)
            have HTY := hide hty
            clear hty
            refine hK.out _ _ hS5 (fun _ => ?_)
            clear hK K
            try simp only [Act.put, List.setIfInBounds_toArray, List.set_cons_zero, List.set_cons_succ]
            refine th_take (i := 12) (v := ?_) rfl (by kernel_rfl) (by kernel_rfl) (by kernel_rfl) (Or.inl ⟨by rfl, fun wz hSw => ?_⟩) hS5 ?_
            rotate_left
            · go_simp
              with_reducible rfl
            simp only [Act.put, List.setIfInBounds_toArray, List.set_cons_zero, List.set_cons_succ]
            refine th_take (i := 13) (v := .int .u8 ty) rfl (by kernel_rfl) (by kernel_rfl) (by kernel_rfl) (Or.inl ⟨by rfl, fun wz hSw => ?_⟩) hS5 ?_
            · have hc := (unhide HN4) wz hSw j5 ty (unhide HTY)
              go_simp
            simp only [Act.put, List.setIfInBounds_toArray, List.set_cons_zero, List.set_cons_succ]
            refine th_one (i := 15) rfl (by kernel_rfl) (fun K hK => ?_)
            rw [if_pos (by rfl)]
            go_simp
            refine (unhide BO _ B g 2 (by omega) (by omega) hS5.1).mono ?_
            rintro e wn6 ⟨b6, rfl, hcn, hgn⟩
            have hS6 : DSt w1 B g wn6 := hS5.call hcn hgn
            have hZ6 := hZ5.grown hgn (by intro e; injection e with e; have := (unhide C1).lt; omega)
            clear hcn hgn
            refine hK.out _ _ hS6 (fun _ => ?_)
            clear hK K
            try simp only [Act.put, List.setIfInBounds_toArray, List.set_cons_zero, List.set_cons_succ]
            refine th_one (i := 17) rfl (by kernel_rfl) (fun K hK => ?_)
            rw [if_pos (by rfl)]
            go_simp
            refine (unhide BY _ B g hS6.1).mono ?_
            rintro e wn7 ⟨x7, hx7, hy7, rfl, hcn, hgn⟩
            have hS7 : DSt w1 B g wn7 := hS6.call hcn hgn
            have hZ7 := hZ6.grown hgn (by intro e; injection e with e; have := (unhide C1).lt; omega)
            clear hcn hgn
            refine hK.out _ _ hS7 (fun _ => ?_)
            clear hK K
            try simp only [Act.put, List.setIfInBounds_toArray, List.set_cons_zero, List.set_cons_succ]
            refine th_one (i := 19) rfl (by kernel_rfl) (fun K hK => ?_)
            rw [if_pos (by rfl)]
            go_simp
            refine (unhide BY _ B g hS7.1).mono ?_
            rintro e wn8 ⟨x8, hx8, hy8, rfl, hcn, hgn⟩
            have hS8 : DSt w1 B g wn8 := hS7.call hcn hgn
            have hZ8 := hZ7.grown hgn (by intro e; injection e with e; have := (unhide C1).lt; omega)
            clear hcn hgn
            refine hK.out _ _ hS8 (fun _ => ?_)
            clear hK K
            try simp only [Act.put, List.setIfInBounds_toArray, List.set_cons_zero, List.set_cons_succ]
            refine th_one (i := 21) rfl (by kernel_rfl) (fun K hK => ?_)
            rw [if_pos (by rfl)]
            go_simp
            refine (unhide BY _ B g hS8.1).mono ?_
            rintro e wn9 ⟨x9, hx9, hy9, rfl, hcn, hgn⟩
            have hS9 : DSt w1 B g wn9 := hS8.call hcn hgn
            have hZ9 := hZ8.grown hgn (by intro e; injection e with e; have := (unhide C1).lt; omega)
            clear hcn hgn
            refine hK.out _ _ hS9 (fun _ => ?_)
            clear hK K
            try simp only [Act.put, List.setIfInBounds_toArray, List.set_cons_zero, List.set_cons_succ]
            refine th_take (i := 22) (v := ?_) rfl (by kernel_rfl) (by kernel_rfl) (by kernel_rfl) (Or.inl ⟨by rfl, fun wz hSw => ?_⟩) hS9 ?_
            rotate_left
            · go_simp
              with_reducible rfl
            simp only [Act.put, List.setIfInBounds_toArray, List.set_cons_zero, List.set_cons_succ]
            refine th_take (i := 23) (v := ?_) rfl (by kernel_rfl) (by kernel_rfl) (by kernel_rfl) (Or.inl ⟨by rfl, fun wz hSw => ?_⟩) hS9 ?_
            rotate_left
            · go_simp
              with_reducible rfl
            simp only [Act.put, List.setIfInBounds_toArray, List.set_cons_zero, List.set_cons_succ]
            refine th_one (i := 25) rfl (by kernel_rfl) (fun K hK => ?_)
            refine step_store_blk (by rfl) 26 (.tmp 4) (.tmp 29) rfl q 26 _ #[.int .u16 0, .int .u32 (j1 : Int), .int .u16 (j2 : Int), .int .u8 x3, .int .u8 x4, .int .u8 ty, .bool b6, .int .u8 x7, .int .u8 x8, .int .u8 x9] rfl rfl hZ9 rfl (by kernel_rfl) (by intro u hu; simp at hu; rcases hu with rfl | rfl | rfl | rfl | rfl | rfl | rfl | rfl | rfl | rfl <;> rfl) ?_
            intro w7 hb7 hg7
            have hS7 : DSt w1 B g w7 := hS9.far hg7 (by have := (unhide C1).lt; omega) (by omega)
            refine hK.out _ _ hS7 (fun _ => ?_)
            clear hK K
            try simp only [Act.put]
            refine wpAnyH_done (by kernel_rfl) (NoPanic.normal ?_) _
            go_wp2_with fail
            go_meet
            exact ⟨q, j1, j2, x3, x4, ty, x7, x8, x9, b6, rfl, by omega, by omega, hx3, hy3, hx4, hy4, hty0, hty1, hx7, hy7, hx8, hy8, hx9, hy9, hb7, by omega, hS7⟩
        · -- the variable first
          rw [if_pos (by rfl)]
          go_simp
          obtain ⟨q, hq⟩ : ∃ q, wn2.heap.size = q := ⟨_, rfl⟩
          have hq1 : w1.heap.size ≤ q := by rw [← hq]; exact hS2.size
          have hZ : Blk (wn2.alloc (.cells #[.int .u16 0, .int .u32 0, .int .u16 0, .int .u8 0, .int .u8 0, .int .u8 0, .bool false, .int .u8 0, .int .u8 0, .int .u8 0] 26)) q 26 #[.int .u16 0, .int .u32 0, .int .u16 0, .int .u8 0, .int .u8 0, .int .u8 0, .bool false, .int .u8 0, .int .u8 0, .int .u8 0] := by rw [← hq]; exact Blk.new wn2 _ _
          have hSa : DSt w1 B g (wn2.alloc (.cells #[.int .u16 0, .int .u32 0, .int .u16 0, .int .u8 0, .int .u8 0, .int .u8 0, .bool false, .int .u8 0, .int .u8 0, .int .u8 0] 26)) := hS2.alloc _
          refine hK.out _ _ hSa (fun _ => ?_)
          clear hK K
          try simp only [Act.put, List.setIfInBounds_toArray, List.set_cons_zero, List.set_cons_succ]
          rw [hq]
          clear hq
          refine th_one (i := 7) rfl (by kernel_rfl) (fun K hK => ?_)
          rw [if_pos (by rfl)]
          go_simp
          refine (unhide BY _ B g hSa.1).mono ?_
          rintro e wn3 ⟨x3, hx3, hy3, rfl, hcn, hgn⟩
          have hS3 : DSt w1 B g wn3 := hSa.call hcn hgn
          have hZ3 := hZ.grown hgn (by intro e; injection e with e; have := (unhide C1).lt; omega)
          clear hcn hgn
          refine hK.out _ _ hS3 (fun _ => ?_)
          clear hK K
          try simp only [Act.put, List.setIfInBounds_toArray, List.set_cons_zero, List.set_cons_succ]
          refine th_one (i := 9) rfl (by kernel_rfl) (fun K hK => ?_)
          rw [if_pos (by rfl)]
          go_simp
          refine (unhide BY _ B g hS3.1).mono ?_
          rintro e wn4 ⟨x4, hx4, hy4, rfl, hcn, hgn⟩
          have hS4 : DSt w1 B g wn4 := hS3.call hcn hgn
          have hZ4 := hZ3.grown hgn (by intro e; injection e with e; have := (unhide C1).lt; omega)
          clear hcn hgn
          refine hK.out _ _ hS4 (fun _ => ?_)
          clear hK K
          try simp only [Act.put, List.setIfInBounds_toArray, List.set_cons_zero, List.set_cons_succ]
          refine th_one (i := 11) rfl (by kernel_rfl) (fun K hK => ?_)
          rw [if_pos (by rfl)]
          go_simp
          refine (unhide NX _ B g 4 (by omega) (by omega) hS4.1).mono ?_
          rintro e wn5 ⟨j5, hj5, rfl, hcn, hgn⟩
          have hS5 : DSt w1 B g wn5 := hS4.call hcn hgn
          have hZ5 := hZ4.grown hgn (by intro e; injection e with e; have := (unhide C1).lt; omega)
          clear hcn hgn
          obtain ⟨ty, hty, hty0, hty1⟩ := tyV_at j5 (by omega)
          have HTY := hide hty
          clear hty
          refine hK.out _ _ hS5 (fun _ => ?_)
          clear hK K
          try simp only [Act.put, List.setIfInBounds_toArray, List.set_cons_zero, List.set_cons_succ]
          refine th_take (i := 12) (v := ?_) rfl (by kernel_rfl) (by kernel_rfl) (by kernel_rfl) (Or.inl ⟨by rfl, fun wz hSw => ?_⟩) hS5 ?_
          rotate_left
          · go_simp
            with_reducible rfl
          simp only [Act.put, List.setIfInBounds_toArray, List.set_cons_zero, List.set_cons_succ]
          refine th_take (i := 13) (v := .int .u8 ty) rfl (by kernel_rfl) (by kernel_rfl) (by kernel_rfl) (Or.inl ⟨by rfl, fun wz hSw => ?_⟩) hS5 ?_
          · have hc := (unhide HN4) wz hSw j5 ty (unhide HTY)
            go_simp
          simp only [Act.put, List.setIfInBounds_toArray, List.set_cons_zero, List.set_cons_succ]
          refine th_one (i := 15) rfl (by kernel_rfl) (fun K hK => ?_)
          rw [if_pos (by rfl)]
          go_simp
          refine (unhide BO _ B g 2 (by omega) (by omega) hS5.1).mono ?_
          rintro e wn6 ⟨b6, rfl, hcn, hgn⟩
          have hS6 : DSt w1 B g wn6 := hS5.call hcn hgn
          have hZ6 := hZ5.grown hgn (by intro e; injection e with e; have := (unhide C1).lt; omega)
          clear hcn hgn
          refine hK.out _ _ hS6 (fun _ => ?_)
          clear hK K
          try simp only [Act.put, List.setIfInBounds_toArray, List.set_cons_zero, List.set_cons_succ]
          refine th_one (i := 17) rfl (by kernel_rfl) (fun K hK => ?_)
          rw [if_pos (by rfl)]
          go_simp
          refine (unhide BY _ B g hS6.1).mono ?_
          rintro e wn7 ⟨x7, hx7, hy7, rfl, hcn, hgn⟩
          have hS7 : DSt w1 B g wn7 := hS6.call hcn hgn
          have hZ7 := hZ6.grown hgn (by intro e; injection e with e; have := (unhide C1).lt; omega)
          clear hcn hgn
          refine hK.out _ _ hS7 (fun _ => ?_)
          clear hK K
          try simp only [Act.put, List.setIfInBounds_toArray, List.set_cons_zero, List.set_cons_succ]
          refine th_one (i := 19) rfl (by kernel_rfl) (fun K hK => ?_)
          rw [if_pos (by rfl)]
          go_simp
          refine (unhide BY _ B g hS7.1).mono ?_
          rintro e wn8 ⟨x8, hx8, hy8, rfl, hcn, hgn⟩
          have hS8 : DSt w1 B g wn8 := hS7.call hcn hgn
          have hZ8 := hZ7.grown hgn (by intro e; injection e with e; have := (unhide C1).lt; omega)
          clear hcn hgn
          refine hK.out _ _ hS8 (fun _ => ?_)
          clear hK K
          try simp only [Act.put, List.setIfInBounds_toArray, List.set_cons_zero, List.set_cons_succ]
          refine th_one (i := 21) rfl (by kernel_rfl) (fun K hK => ?_)
          rw [if_pos (by rfl)]
          go_simp
          refine (unhide BY _ B g hS8.1).mono ?_
          rintro e wn9 ⟨x9, hx9, hy9, rfl, hcn, hgn⟩
          have hS9 : DSt w1 B g wn9 := hS8.call hcn hgn
          have hZ9 := hZ8.grown hgn (by intro e; injection e with e; have := (unhide C1).lt; omega)
          clear hcn hgn
          refine hK.out _ _ hS9 (fun _ => ?_)
          clear hK K
          try simp only [Act.put, List.setIfInBounds_toArray, List.set_cons_zero, List.set_cons_succ]
          refine th_take (i := 22) (v := ?_) rfl (by kernel_rfl) (by kernel_rfl) (by kernel_rfl) (Or.inl ⟨by rfl, fun wz hSw => ?_⟩) hS9 ?_
          rotate_left
          · go_simp
            with_reducible rfl
          simp only [Act.put, List.setIfInBounds_toArray, List.set_cons_zero, List.set_cons_succ]
          refine th_take (i := 23) (v := ?_) rfl (by kernel_rfl) (by kernel_rfl) (by kernel_rfl) (Or.inl ⟨by rfl, fun wz hSw => ?_⟩) hS9 ?_
          rotate_left
          · go_simp
            with_reducible rfl
          simp only [Act.put, List.setIfInBounds_toArray, List.set_cons_zero, List.set_cons_succ]
          refine th_one (i := 25) rfl (by kernel_rfl) (fun K hK => ?_)
          refine step_store_blk (by rfl) 26 (.tmp 4) (.tmp 29) rfl q 26 _ #[.int .u16 0, .int .u32 (j1 : Int), .int .u16 (j2 : Int), .int .u8 x3, .int .u8 x4, .int .u8 ty, .bool b6, .int .u8 x7, .int .u8 x8, .int .u8 x9] rfl rfl hZ9 rfl (by kernel_rfl) (by intro u hu; simp at hu; rcases hu with rfl | rfl | rfl | rfl | rfl | rfl | rfl | rfl | rfl | rfl <;> rfl) ?_
          intro w7 hb7 hg7
          have hS7 : DSt w1 B g w7 := hS9.far hg7 (by have := (unhide C1).lt; omega) (by omega)
          refine hK.out _ _ hS7 (fun _ => ?_)
          clear hK K
          try simp only [Act.put]
          refine wpAnyH_done (by kernel_rfl) (NoPanic.normal ?_) _
          go_wp2_with fail
          go_meet
          exact ⟨q, j1, j2, x3, x4, ty, x7, x8, x9, b6, rfl, by omega, by omega, hx3, hy3, hx4, hy4, hty0, hty1, hx7, hy7, hx8, hy8, hx9, hy9, hb7, by omega, hS7⟩
      · -- the variable first
        rw [if_pos (by rfl)]
        go_simp
        obtain ⟨q, hq⟩ : ∃ q, wn1.heap.size = q := ⟨_, rfl⟩
        have hq1 : w1.heap.size ≤ q := by rw [← hq]; exact hS1.size
        have hZ : Blk (wn1.alloc (.cells #[.int .u16 0, .int .u32 0, .int .u16 0, .int .u8 0, .int .u8 0, .int .u8 0, .bool false, .int .u8 0, .int .u8 0, .int .u8 0] 26)) q 26 #[.int .u16 0, .int .u32 0, .int .u16 0, .int .u8 0, .int .u8 0, .int .u8 0, .bool false, .int .u8 0, .int .u8 0, .int .u8 0] := by rw [← hq]; exact Blk.new wn1 _ _
        have hSa : DSt w1 B g (wn1.alloc (.cells #[.int .u16 0, .int .u32 0, .int .u16 0, .int .u8 0, .int .u8 0, .int .u8 0, .bool false, .int .u8 0, .int .u8 0, .int .u8 0] 26)) := hS1.alloc _
        refine hK.out _ _ hSa (fun _ => ?_)
        clear hK K
        try simp only [Act.put, List.setIfInBounds_toArray, List.set_cons_zero, List.set_cons_succ]
        rw [hq]
        clear hq
        refine th_one (i := 4) rfl (by kernel_rfl) (fun K hK => ?_)
        rw [if_pos (by rfl)]
        go_simp
        refine (unhide NX _ B g 65536 (by omega) (by omega) hSa.1).mono ?_
        rintro e wn2 ⟨j2, hj2, rfl, hcn, hgn⟩
        have hS2 : DSt w1 B g wn2 := hSa.call hcn hgn
        have hZ2 := hZ.grown hgn (by intro e; injection e with e; have := (unhide C1).lt; omega)
        clear hcn hgn
        have hv2 : IntKind.u16.wrap (j2 : Int) = (j2 : Int) := IntWalk.u16_in _ (by omega)
        refine hK.out _ _ hS2 (fun _ => ?_)
        clear hK K
        try simp only [Act.put, List.setIfInBounds_toArray, List.set_cons_zero, List.set_cons_succ]
        refine th_take (i := 5) (v := ?_) rfl (by kernel_rfl) (by kernel_rfl) (by kernel_rfl) (Or.inl ⟨by rfl, fun wz hSw => ?_⟩) hS2 ?_
        rotate_left
        · go_simp
          with_reducible rfl
        simp only [Act.put, List.setIfInBounds_toArray, List.set_cons_zero, List.set_cons_succ]
        refine th_one (i := 7) rfl (by kernel_rfl) (fun K hK => ?_)
        rw [if_pos (by rfl)]
        go_simp
        refine (unhide BY _ B g hS2.1).mono ?_
        rintro e wn3 ⟨x3, hx3, hy3, rfl, hcn, hgn⟩
        have hS3 : DSt w1 B g wn3 := hS2.call hcn hgn
        have hZ3 := hZ2.grown hgn (by intro e; injection e with e; have := (unhide C1).lt; omega)
        clear hcn hgn
        refine hK.out _ _ hS3 (fun _ => ?_)
        clear hK K
        try simp only [Act.put, List.setIfInBounds_toArray, List.set_cons_zero, List.set_cons_succ]
        refine th_one (i := 9) rfl (by kernel_rfl) (fun K hK => ?_)
        rw [if_pos (by rfl)]
        go_simp
        refine (unhide BY _ B g hS3.1).mono ?_
        rintro e wn4 ⟨x4, hx4, hy4, rfl, hcn, hgn⟩
        have hS4 : DSt w1 B g wn4 := hS3.call hcn hgn
        have hZ4 := hZ3.grown hgn (by intro e; injection e with e; have := (unhide C1).lt; omega)
        clear hcn hgn
        refine hK.out _ _ hS4 (fun _ => ?_)
        clear hK K
        try simp only [Act.put, List.setIfInBounds_toArray, List.set_cons_zero, List.set_cons_succ]
        refine th_one (i := 11) rfl (by kernel_rfl) (fun K hK => ?_)
        rw [if_pos (by rfl)]
        go_simp
        refine (unhide NX _ B g 4 (by omega) (by omega) hS4.1).mono ?_
        rintro e wn5 ⟨j5, hj5, rfl, hcn, hgn⟩
        have hS5 : DSt w1 B g wn5 := hS4.call hcn hgn
        have hZ5 := hZ4.grown hgn (by intro e; injection e with e; have := (unhide C1).lt; omega)
        clear hcn hgn
        obtain ⟨ty, hty, hty0, hty1⟩ := tyV_at j5 (by omega)
        have HTY := hide hty
        clear hty
        refine hK.out _ _ hS5 (fun _ => ?_)
        clear hK K
        try simp only [Act.put, List.setIfInBounds_toArray, List.set_cons_zero, List.set_cons_succ]
        refine th_take (i := 12) (v := ?_) rfl (by kernel_rfl) (by kernel_rfl) (by kernel_rfl) (Or.inl ⟨by rfl, fun wz hSw => ?_⟩) hS5 ?_
        rotate_left
        · go_simp
          with_reducible rfl
        simp only [Act.put, List.setIfInBounds_toArray, List.set_cons_zero, List.set_cons_succ]
        refine th_take (i := 13) (v := .int .u8 ty) rfl (by kernel_rfl) (by kernel_rfl) (by kernel_rfl) (Or.inl ⟨by rfl, fun wz hSw => ?_⟩) hS5 ?_
        · have hc := (unhide HN4) wz hSw j5 ty (unhide HTY)
          go_simp
        simp only [Act.put, List.setIfInBounds_toArray, List.set_cons_zero, List.set_cons_succ]
        refine th_one (i := 15) rfl (by kernel_rfl) (fun K hK => ?_)
        rw [if_pos (by rfl)]
        go_simp
        refine (unhide BO _ B g 2 (by omega) (by omega) hS5.1).mono ?_
        rintro e wn6 ⟨b6, rfl, hcn, hgn⟩
        have hS6 : DSt w1 B g wn6 := hS5.call hcn hgn
        have hZ6 := hZ5.grown hgn (by intro e; injection e with e; have := (unhide C1).lt; omega)
        clear hcn hgn
        refine hK.out _ _ hS6 (fun _ => ?_)
        clear hK K
        try simp only [Act.put, List.setIfInBounds_toArray, List.set_cons_zero, List.set_cons_succ]
        refine th_one (i := 17) rfl (by kernel_rfl) (fun K hK => ?_)
        rw [if_pos (by rfl)]
        go_simp
        refine (unhide BY _ B g hS6.1).mono ?_
        rintro e wn7 ⟨x7, hx7, hy7, rfl, hcn, hgn⟩
        have hS7 : DSt w1 B g wn7 := hS6.call hcn hgn
        have hZ7 := hZ6.grown hgn (by intro e; injection e with e; have := (unhide C1).lt; omega)
        clear hcn hgn
        refine hK.out _ _ hS7 (fun _ => ?_)
        clear hK K
        try simp only [Act.put, List.setIfInBounds_toArray, List.set_cons_zero, List.set_cons_succ]
        refine th_one (i := 19) rfl (by kernel_rfl) (fun K hK => ?_)
        rw [if_pos (by rfl)]
        go_simp
        refine (unhide BY _ B g hS7.1).mono ?_
        rintro e wn8 ⟨x8, hx8, hy8, rfl, hcn, hgn⟩
        have hS8 : DSt w1 B g wn8 := hS7.call hcn hgn
        have hZ8 := hZ7.grown hgn (by intro e; injection e with e; have := (unhide C1).lt; omega)
        clear hcn hgn
        refine hK.out _ _ hS8 (fun _ => ?_)
        clear hK K
        try simp only [Act.put, List.setIfInBounds_toArray, List.set_cons_zero, List.set_cons_succ]
        refine th_one (i := 21) rfl (by kernel_rfl) (fun K hK => ?_)
        rw [if_pos (by rfl)]
        go_simp
        refine (unhide BY _ B g hS8.1).mono ?_
        rintro e wn9 ⟨x9, hx9, hy9, rfl, hcn, hgn⟩
        have hS9 : DSt w1 B g wn9 := hS8.call hcn hgn
        have hZ9 := hZ8.grown hgn (by intro e; injection e with e; have := (unhide C1).lt; omega)
        clear hcn hgn
        refine hK.out _ _ hS9 (fun _ => ?_)
        clear hK K
        try simp only [Act.put, List.setIfInBounds_toArray, List.set_cons_zero, List.set_cons_succ]
        refine th_take (i := 22) (v := ?_) rfl (by kernel_rfl) (by kernel_rfl) (by kernel_rfl) (Or.inl ⟨by rfl, fun wz hSw => ?_⟩) hS9 ?_
        rotate_left
        · go_simp
          with_reducible rfl
        simp only [Act.put, List.setIfInBounds_toArray, List.set_cons_zero, List.set_cons_succ]
        refine th_take (i := 23) (v := ?_) rfl (by kernel_rfl) (by kernel_rfl) (by kernel_rfl) (Or.inl ⟨by rfl, fun wz hSw => ?_⟩) hS9 ?_
        rotate_left
        · go_simp
          with_reducible rfl
        simp only [Act.put, List.setIfInBounds_toArray, List.set_cons_zero, List.set_cons_succ]
        refine th_one (i := 25) rfl (by kernel_rfl) (fun K hK => ?_)
        refine step_store_blk (by rfl) 26 (.tmp 4) (.tmp 29) rfl q 26 _ #[.int .u16 0, .int .u32 (j1 : Int), .int .u16 (j2 : Int), .int .u8 x3, .int .u8 x4, .int .u8 ty, .bool b6, .int .u8 x7, .int .u8 x8, .int .u8 x9] rfl rfl hZ9 rfl (by kernel_rfl) (by intro u hu; simp at hu; rcases hu with rfl | rfl | rfl | rfl | rfl | rfl | rfl | rfl | rfl | rfl <;> rfl) ?_
        intro w7 hb7 hg7
        have hS7 : DSt w1 B g w7 := hS9.far hg7 (by have := (unhide C1).lt; omega) (by omega)
        refine hK.out _ _ hS7 (fun _ => ?_)
        clear hK K
        try simp only [Act.put]
        refine wpAnyH_done (by kernel_rfl) (NoPanic.normal ?_) _
        go_wp2_with fail
        go_meet
        exact ⟨q, j1, j2, x3, x4, ty, x7, x8, x9, b6, rfl, by omega, by omega, hx3, hy3, hx4, hy4, hty0, hty1, hx7, hy7, hx8, hy8, hx9, hy9, hb7, by omega, hS7⟩
    · -- the variable first
      rw [if_pos (by rfl)]
      go_simp
      obtain ⟨q, hq⟩ : ∃ q, w1.heap.size = q := ⟨_, rfl⟩
      have hq1 : w1.heap.size ≤ q := by rw [← hq]; exact hS0.size
      have hZ : Blk (w1.drew.alloc (.cells #[.int .u16 0, .int .u32 0, .int .u16 0, .int .u8 0, .int .u8 0, .int .u8 0, .bool false, .int .u8 0, .int .u8 0, .int .u8 0] 26)) q 26 #[.int .u16 0, .int .u32 0, .int .u16 0, .int .u8 0, .int .u8 0, .int .u8 0, .bool false, .int .u8 0, .int .u8 0, .int .u8 0] := by rw [← hq]; exact Blk.new w1.drew _ _
      have hSa : DSt w1 B g (w1.drew.alloc (.cells #[.int .u16 0, .int .u32 0, .int .u16 0, .int .u8 0, .int .u8 0, .int .u8 0, .bool false, .int .u8 0, .int .u8 0, .int .u8 0] 26)) := hS0.alloc _
      refine hK.out _ _ hSa (fun _ => ?_)
      clear hK K
      try simp only [Act.put, List.setIfInBounds_toArray, List.set_cons_zero, List.set_cons_succ]
      rw [hq]
      clear hq
      refine th_one (i := 1) rfl (by kernel_rfl) (fun K hK => ?_)
      rw [if_pos (by rfl)]
      go_simp
      refine (unhide NX _ B g 2000000 (by omega) (by omega) hSa.1).mono ?_
      rintro e wn1 ⟨j1, hj1, rfl, hcn, hgn⟩
      have hS1 : DSt w1 B g wn1 := hSa.call hcn hgn
      have hZ1 := hZ.grown hgn (by intro e; injection e with e; have := (unhide C1).lt; omega)
      clear hcn hgn
      have hv1 : IntKind.u32.wrap (j1 : Int) = (j1 : Int) := IntWalk.u32_in _ (by omega)
      refine hK.out _ _ hS1 (fun _ => ?_)
      clear hK K
      try simp only [Act.put, List.setIfInBounds_toArray, List.set_cons_zero, List.set_cons_succ]
      refine th_take (i := 2) (v := ?_) rfl (by kernel_rfl) (by kernel_rfl) (by kernel_rfl) (Or.inl ⟨by rfl, fun wz hSw => ?_⟩) hS1 ?_
      rotate_left
      · go_simp
        with_reducible rfl
      simp only [Act.put, List.setIfInBounds_toArray, List.set_cons_zero, List.set_cons_succ]
      refine th_one (i := 4) rfl (by kernel_rfl) (fun K hK => ?_)
      rw [if_pos (by rfl)]
      go_simp
      refine (unhide NX _ B g 65536 (by omega) (by omega) hS1.1).mono ?_
      rintro e wn2 ⟨j2, hj2, rfl, hcn, hgn⟩
      have hS2 : DSt w1 B g wn2 := hS1.call hcn hgn
      have hZ2 := hZ1.grown hgn (by intro e; injection e with e; have := (unhide C1).lt; omega)
      clear hcn hgn
      have hv2 : IntKind.u16.wrap (j2 : Int) = (j2 : Int) := IntWalk.u16_in _ (by omega)
      refine hK.out _ _ hS2 (fun _ => ?_)
      clear hK K
      try simp only [Act.put, List.setIfInBounds_toArray, List.set_cons_zero, List.set_cons_succ]
      refine th_take (i := 5) (v := ?_) rfl (by kernel_rfl) (by kernel_rfl) (by kernel_rfl) (Or.inl ⟨by rfl, fun wz hSw => ?_⟩) hS2 ?_
      rotate_left
      · go_simp
        with_reducible rfl
      simp only [Act.put, List.setIfInBounds_toArray, List.set_cons_zero, List.set_cons_succ]
      refine th_one (i := 7) rfl (by kernel_rfl) (fun K hK => ?_)
      rw [if_pos (by rfl)]
      go_simp
      refine (unhide BY _ B g hS2.1).mono ?_
      rintro e wn3 ⟨x3, hx3, hy3, rfl, hcn, hgn⟩
      have hS3 : DSt w1 B g wn3 := hS2.call hcn hgn
      have hZ3 := hZ2.grown hgn (by intro e; injection e with e; have := (unhide C1).lt; omega)
      clear hcn hgn
      refine hK.out _ _ hS3 (fun _ => ?_)
      clear hK K
      try simp only [Act.put, List.setIfInBounds_toArray, List.set_cons_zero, List.set_cons_succ]
      refine th_one (i := 9) rfl (by kernel_rfl) (fun K hK => ?_)
      rw [if_pos (by rfl)]
      go_simp
      refine (unhide BY _ B g hS3.1).mono ?_
      rintro e wn4 ⟨x4, hx4, hy4, rfl, hcn, hgn⟩
      have hS4 : DSt w1 B g wn4 := hS3.call hcn hgn
      have hZ4 := hZ3.grown hgn (by intro e; injection e with e; have := (unhide C1).lt; omega)
      clear hcn hgn
      refine hK.out _ _ hS4 (fun _ => ?_)
      clear hK K
      try simp only [Act.put, List.setIfInBounds_toArray, List.set_cons_zero, List.set_cons_succ]
      refine th_one (i := 11) rfl (by kernel_rfl) (fun K hK => ?_)
      rw [if_pos (by rfl)]
      go_simp
      refine (unhide NX _ B g 4 (by omega) (by omega) hS4.1).mono ?_
      rintro e wn5 ⟨j5, hj5, rfl, hcn, hgn⟩
      have hS5 : DSt w1 B g wn5 := hS4.call hcn hgn
      have hZ5 := hZ4.grown hgn (by intro e; injection e with e; have := (unhide C1).lt; omega)
      clear hcn hgn
      obtain ⟨ty, hty, hty0, hty1⟩ := tyV_at j5 (by omega)
      have HTY := hide hty
      clear hty
      refine hK.out _ _ hS5 (fun _ => ?_)
      clear hK K
      try simp only [Act.put, List.setIfInBounds_toArray, List.set_cons_zero, List.set_cons_succ]
      refine th_take (i := 12) (v := ?_) rfl (by kernel_rfl) (by kernel_rfl) (by kernel_rfl) (Or.inl ⟨by rfl, fun wz hSw => ?_⟩) hS5 ?_
      rotate_left
      · go_simp
        with_reducible rfl
      simp only [Act.put, List.setIfInBounds_toArray, List.set_cons_zero, List.set_cons_succ]
      refine th_take (i := 13) (v := .int .u8 ty) rfl (by kernel_rfl) (by kernel_rfl) (by kernel_rfl) (Or.inl ⟨by rfl, fun wz hSw => ?_⟩) hS5 ?_
      · have hc := (unhide HN4) wz hSw j5 ty (unhide HTY)
        go_simp
      simp only [Act.put, List.setIfInBounds_toArray, List.set_cons_zero, List.set_cons_succ]
      refine th_one (i := 15) rfl (by kernel_rfl) (fun K hK => ?_)
      rw [if_pos (by rfl)]
      go_simp
      refine (unhide BO _ B g 2 (by omega) (by omega) hS5.1).mono ?_
      rintro e wn6 ⟨b6, rfl, hcn, hgn⟩
      have hS6 : DSt w1 B g wn6 := hS5.call hcn hgn
      have hZ6 := hZ5.grown hgn (by intro e; injection e with e; have := (unhide C1).lt; omega)
      clear hcn hgn
      refine hK.out _ _ hS6 (fun _ => ?_)
      clear hK K
      try simp only [Act.put, List.setIfInBounds_toArray, List.set_cons_zero, List.set_cons_succ]
      refine th_one (i := 17) rfl (by kernel_rfl) (fun K hK => ?_)
      rw [if_pos (by rfl)]
      go_simp
      refine (unhide BY _ B g hS6.1).mono ?_
      rintro e wn7 ⟨x7, hx7, hy7, rfl, hcn, hgn⟩
      have hS7 : DSt w1 B g wn7 := hS6.call hcn hgn
      have hZ7 := hZ6.grown hgn (by intro e; injection e with e; have := (unhide C1).lt; omega)
      clear hcn hgn
      refine hK.out _ _ hS7 (fun _ => ?_)
      clear hK K
      try simp only [Act.put, List.setIfInBounds_toArray, List.set_cons_zero, List.set_cons_succ]
      refine th_one (i := 19) rfl (by kernel_rfl) (fun K hK => ?_)
      rw [if_pos (by rfl)]
      go_simp
      refine (unhide BY _ B g hS7.1).mono ?_
      rintro e wn8 ⟨x8, hx8, hy8, rfl, hcn, hgn⟩
      have hS8 : DSt w1 B g wn8 := hS7.call hcn hgn
      have hZ8 := hZ7.grown hgn (by intro e; injection e with e; have := (unhide C1).lt; omega)
      clear hcn hgn
      refine hK.out _ _ hS8 (fun _ => ?_)
      clear hK K
      try simp only [Act.put, List.setIfInBounds_toArray, List.set_cons_zero, List.set_cons_succ]
      refine th_one (i := 21) rfl (by kernel_rfl) (fun K hK => ?_)
      rw [if_pos (by rfl)]
      go_simp
      refine (unhide BY _ B g hS8.1).mono ?_
      rintro e wn9 ⟨x9, hx9, hy9, rfl, hcn, hgn⟩
      have hS9 : DSt w1 B g wn9 := hS8.call hcn hgn
      have hZ9 := hZ8.grown hgn (by intro e; injection e with e; have := (unhide C1).lt; omega)
      clear hcn hgn
      refine hK.out _ _ hS9 (fun _ => ?_)
      clear hK K
      try simp only [Act.put, List.setIfInBounds_toArray, List.set_cons_zero, List.set_cons_succ]
      refine th_take (i := 22) (v := ?_) rfl (by kernel_rfl) (by kernel_rfl) (by kernel_rfl) (Or.inl ⟨by rfl, fun wz hSw => ?_⟩) hS9 ?_
      rotate_left
      · go_simp
        with_reducible rfl
      simp only [Act.put, List.setIfInBounds_toArray, List.set_cons_zero, List.set_cons_succ]
      refine th_take (i := 23) (v := ?_) rfl (by kernel_rfl) (by kernel_rfl) (by kernel_rfl) (Or.inl ⟨by rfl, fun wz hSw => ?_⟩) hS9 ?_
      rotate_left
      · go_simp
        with_reducible rfl
      simp only [Act.put, List.setIfInBounds_toArray, List.set_cons_zero, List.set_cons_succ]
      refine th_one (i := 25) rfl (by kernel_rfl) (fun K hK => ?_)
      refine step_store_blk (by rfl) 26 (.tmp 4) (.tmp 29) rfl q 26 _ #[.int .u16 0, .int .u32 (j1 : Int), .int .u16 (j2 : Int), .int .u8 x3, .int .u8 x4, .int .u8 ty, .bool b6, .int .u8 x7, .int .u8 x8, .int .u8 x9] rfl rfl hZ9 rfl (by kernel_rfl) (by intro u hu; simp at hu; rcases hu with rfl | rfl | rfl | rfl | rfl | rfl | rfl | rfl | rfl | rfl <;> rfl) ?_
      intro w7 hb7 hg7
      have hS7 : DSt w1 B g w7 := hS9.far hg7 (by have := (unhide C1).lt; omega) (by omega)
      refine hK.out _ _ hS7 (fun _ => ?_)
      clear hK K
      try simp only [Act.put]
      refine wpAnyH_done (by kernel_rfl) (NoPanic.normal ?_) _
      go_wp2_with fail
      go_meet
      exact ⟨q, j1, j2, x3, x4, ty, x7, x8, x9, b6, rfl, by omega, by omega, hx3, hy3, hx4, hy4, hty0, hty1, hx7, hy7, hx8, hy8, hx9, hy9, hb7, by omega, hS7⟩
  case rest =>
    obtain ⟨q, t, u, st, sn, ty, d0, d1, d2, ds, rfl, ht, hu, hst, hst', hsn, hsn', hty, hty', h0, h0', h1, h1', h2, h2', hbq, hq1, hN⟩ := hcut
    have SN := hide hN
    have HQ := hide hbq
    have KR := hide ((unhide R1).grown hN.2 (by intro e; injection e with e; omega))
    have hgq : g < q := by have := (unhide C1).lt; omega
    clear hN hbq
    go_wp2_with fail
    refine (unhide BO _ B g 8 (by omega) (by omega) (unhide SN).1).mono ?_
    rintro e w5 ⟨b, rfl, hd, hgr⟩
    have S5 := hide ((unhide SN).call hd hgr)
    have Q5 := hide ((unhide HQ).grown hgr (by intro e; injection e with e; omega))
    have K5 := hide ((unhide KR).grown hgr (by intro e; injection e with e; omega))
    clear hd hgr
    cases b
    · skip
      go_wp2_with (first
        | (refine wpList_load_row rfl 26 _ rfl q rfl 26 _ _ _ (unhide Q5) Tryd.underlying26 rfl (by kernel_rfl) ?_)
        | (refine wpList_store_blk rfl 26 (.tmp 2) (.tmp 33) rfl w.heap.size 26 _ #[.int .u16 0, .int .u32 (t : Int), .int .u16 (u : Int), .int .u8 st, .int .u8 sn, .int .u8 ty, .bool ds, .int .u8 d0, .int .u8 d1, .int .u8 d2] rfl rfl (unhide K5) rfl (by kernel_rfl) (by intro u hu; simp at hu; rcases hu with rfl | rfl | rfl | rfl | rfl | rfl | rfl | rfl | rfl | rfl <;> rfl) ?_
           intro w9 hb9 hg9
           have Z9 := hide hb9
           have C9 := hide ((unhide S5).1.far hg9 (fun j e => by injection e with e; omega))
           have G9 := hide (grown_far (grown_tr (unhide G1) (unhide S5).2) hg9 (fun j e => by injection e with e; omega))
           clear hb9 hg9)
        | fail)
      exact bodyPost_ret (v := .agg #[.int .u16 0, .int .u32 (t : Int), .int .u16 (u : Int), .int .u8 st, .int .u8 sn, .int .u8 ty, .bool ds, .int .u8 d0, .int .u8 d1, .int .u8 d2]) (res1 rfl _ w.heap.size 26 #[.int .u16 0, .int .u32 (t : Int), .int .u16 (u : Int), .int .u8 st, .int .u8 sn, .int .u8 ty, .bool ds, .int .u8 d0, .int .u8 d1, .int .u8 d2] _ rfl (unhide Z9) Tryd.underlying26 rfl (by kernel_rfl)) rfl ⟨⟨0, (t : Int), u, st, sn, ty, ds, d0, d1, d2⟩, rfl, in_mk (by omega) (by omega) (by omega) (by omega) (by omega) (by omega) (by omega) (by omega) (by omega), by simp [validE]; omega, rfl, unhide C9, unhide G9⟩
    · have q1 : w5.cell? ⟨q, 1, none⟩ = some (.int .u32 (t : Int)) := (unhide Q5).cell 1
      have f1 : w5.frozen? ⟨q, 1, none⟩ = false := (unhide Q5).frozen 1
      have hq5 := (unhide Q5).lt
      have gs : w5.grownBy (w5.setCell ⟨q, 1, none⟩ (.int .u32 4294967294)) (some q) := only_setCell (World.grownBy.refl w5 _) (.inl rfl) _
      have Q6 : Hid (Blk (w5.setCell ⟨q, 1, none⟩ (.int .u32 4294967294)) q 26 #[.int .u16 0, .int .u32 4294967294, .int .u16 (u : Int), .int .u8 st, .int .u8 sn, .int .u8 ty, .bool ds, .int .u8 d0, .int .u8 d1, .int .u8 d2]) := hide ((unhide Q5).set_ 1 _)
      have S6 := hide ((unhide S5).far gs hgq hq1)
      have K6 := hide ((unhide K5).grown gs (by intro e; injection e with e; omega))
      clear gs
      go_wp2_with (first
        | (refine wpList_load_row rfl 26 _ rfl q rfl 26 _ _ _ (unhide Q6) Tryd.underlying26 rfl (by kernel_rfl) ?_)
        | (refine wpList_store_blk rfl 26 (.tmp 2) (.tmp 33) rfl w.heap.size 26 _ #[.int .u16 0, .int .u32 4294967294, .int .u16 (u : Int), .int .u8 st, .int .u8 sn, .int .u8 ty, .bool ds, .int .u8 d0, .int .u8 d1, .int .u8 d2] rfl rfl (unhide K6) rfl (by kernel_rfl) (by intro u hu; simp at hu; rcases hu with rfl | rfl | rfl | rfl | rfl | rfl | rfl | rfl | rfl | rfl <;> rfl) ?_
           intro w9 hb9 hg9
           have Z9 := hide hb9
           have C9 := hide ((unhide S6).1.far hg9 (fun j e => by injection e with e; omega))
           have G9 := hide (grown_far (grown_tr (unhide G1) (unhide S6).2) hg9 (fun j e => by injection e with e; omega))
           clear hb9 hg9)
        | fail)
      exact bodyPost_ret (v := .agg #[.int .u16 0, .int .u32 4294967294, .int .u16 (u : Int), .int .u8 st, .int .u8 sn, .int .u8 ty, .bool ds, .int .u8 d0, .int .u8 d1, .int .u8 d2]) (res1 rfl _ w.heap.size 26 #[.int .u16 0, .int .u32 4294967294, .int .u16 (u : Int), .int .u8 st, .int .u8 sn, .int .u8 ty, .bool ds, .int .u8 d0, .int .u8 d1, .int .u8 d2] _ rfl (unhide Z9) Tryd.underlying26 rfl (by kernel_rfl)) rfl ⟨⟨0, 4294967294, u, st, sn, ty, ds, d0, d1, d2⟩, rfl, in_mk (by omega) (by omega) (by omega) (by omega) (by omega) (by omega) (by omega) (by omega) (by omega), by simp [validE]; omega, rfl, unhide C9, unhide G9⟩
end Go.Proofs.YtklffnfaigmjfaaDoor
