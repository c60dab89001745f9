/- The reference's Decode (printed by wip/gen_erdec.py). No condition. -/
import Derived.Test.YtklffnfaigmjfaaDoorEDec16
namespace Go.Proofs.YtklffnfaigmjfaaDoor
open Go.RowKit
set_option maxHeartbeats 1000000 in
theorem rdec_short (w : World) (A : Option Addr) (n c : Nat) (h : n < 16) :
    Calls Tryd.prog 32 #[.slice A n c] w (DecPost w zeroEv 4) := by
  have h1 : (n : Int) < 16 := by omega
  go_enter Tryd.func32, Tryd.ntmps32
  go_wp2_with fail
  refine bodyPost_ret (v := .tuple #[.agg zeroEv.c, .int .i64 4]) ?_ rfl ?_
  · exact res2 rfl _ w.heap.size 26 zeroEv.c _ _ rfl rfl (Blk.new w _ _) Tryd.underlying26 rfl (by kernel_rfl)
  · exact ⟨rfl, (Below.refl _ _).alloc (Nat.le_refl _) _⟩
set_option maxHeartbeats 1000000 in
theorem rdec_long (w : World) (A : Option Addr) (n c : Nat) (h : 16 < n) :
    Calls Tryd.prog 32 #[.slice A n c] w (DecPost w zeroEv 6) := by
  have h1 : ((n : Int) < 16) = False := by simp; omega
  have h2 : (16 : Int) < (n : Int) := by omega
  go_enter Tryd.func32, Tryd.ntmps32
  go_wp2_with fail
  refine bodyPost_ret (v := .tuple #[.agg zeroEv.c, .int .i64 6]) ?_ rfl ?_
  · exact res2 rfl _ w.heap.size 26 zeroEv.c _ _ rfl rfl (Blk.new w _ _) Tryd.underlying26 rfl (by kernel_rfl)
  · exact ⟨rfl, (Below.refl _ _).alloc (Nat.le_refl _) _⟩
set_option maxHeartbeats 1000000 in
theorem rdec_form2 (w : World) (g o : Nat) (c : Nat) (x2 : Int) (hc2 : (w.alloc (.cells zc 26)).cell? ⟨g, o + 2, none⟩ = some (.int .u8 x2)) (h : x2 ≠ 2) :
    Calls Tryd.prog 32 #[.slice (some ⟨g, o, none⟩) 16 c] w (DecPost w zeroEv 6) := by
  unfold zc at hc2
  have hd : (x2 != 2) = true := by simpa using h
  go_enter Tryd.func32, Tryd.ntmps32
  go_wp2_with fail
  refine bodyPost_ret (v := .tuple #[.agg zeroEv.c, .int .i64 6]) ?_ rfl ?_
  · exact res2 rfl _ w.heap.size 26 zeroEv.c _ _ rfl rfl (Blk.new w _ _) Tryd.underlying26 rfl (by kernel_rfl)
  · exact ⟨rfl, (Below.refl _ _).alloc (Nat.le_refl _) _⟩
set_option maxHeartbeats 1000000 in
theorem rdec_form9 (w : World) (g o : Nat) (c : Nat) (x9 : Int) (hc2 : (w.alloc (.cells zc 26)).cell? ⟨g, o + 2, none⟩ = some (.int .u8 2)) (hc9 : (w.alloc (.cells zc 26)).cell? ⟨g, o + 9, none⟩ = some (.int .u8 x9)) (h : x9 ≠ 4) :
    Calls Tryd.prog 32 #[.slice (some ⟨g, o, none⟩) 16 c] w (DecPost w zeroEv 6) := by
  unfold zc at hc2 hc9
  have hd : (x9 != 4) = true := by simpa using h
  go_enter Tryd.func32, Tryd.ntmps32
  go_wp2_with fail
  refine bodyPost_ret (v := .tuple #[.agg zeroEv.c, .int .i64 6]) ?_ rfl ?_
  · exact res2 rfl _ w.heap.size 26 zeroEv.c _ _ rfl rfl (Blk.new w _ _) Tryd.underlying26 rfl (by kernel_rfl)
  · exact ⟨rfl, (Below.refl _ _).alloc (Nat.le_refl _) _⟩
set_option maxRecDepth 100000 in
set_option maxHeartbeats 32000000 in
theorem rdec_16 (w : World) (g o c : Nat) (hg : g < w.heap.size) (h16 : 16 ≤ c) (x0 x1 x3 x4 x5 x6 x7 x8 x10 x11 x12 x13 x14 x15 : Int) (hb : BytesL [x0, x1, 2, x3, x4, x5, x6, x7, x8, 4, x10, x11, x12, x13, x14, x15])
    (hc : ∀ j u, (u8V [x0, x1, 2, x3, x4, x5, x6, x7, x8, 4, x10, x11, x12, x13, x14, x15])[j]? = some u → w.cell? ⟨g, o + j, none⟩ = some u) (X : Ev) (hX : decE x0 x1 x3 x4 x5 x6 x7 x8 x10 x11 x12 x13 x14 x15 = X) (Y : Ev) (f : Int) (hY : (if validE X = true then (X, 0) else (zeroEv, 1)) = (Y, f)) :
    Calls Tryd.prog 32 #[.slice (some ⟨g, o, none⟩) 16 c] w (DecPost w Y f) := by
  obtain ⟨w1, hw1⟩ : ∃ w1, w.alloc (.cells #[.int .u16 0, .int .u32 0, .int .u16 0, .int .u8 0, .int .u8 0, .int .u8 0, .bool false, .int .u8 0, .int .u8 0, .int .u8 0] 26) = w1 := ⟨_, rfl⟩
  have R1 : Hid (Blk w1 w.heap.size 26 #[.int .u16 0, .int .u32 0, .int .u16 0, .int .u8 0, .int .u8 0, .int .u8 0, .bool false, .int .u8 0, .int .u8 0, .int .u8 0]) := hide (hw1 ▸ Blk.new w _ _)
  have hsz : w1.heap.size = w.heap.size + 1 := by rw [← hw1]; simp only [size_alloc]
  have B1 : Hid (Below w.heap.size w w1) := hide (hw1 ▸ (Below.refl _ _).alloc (Nat.le_refl _) _)
  have HC : Hid (∀ W, Below w1.heap.size w1 W → ∀ j u, (u8V [x0, x1, 2, x3, x4, x5, x6, x7, x8, 4, x10, x11, x12, x13, x14, x15])[j]? = some u → W.cell? ⟨g, o + j, none⟩ = some u) := hide (fun W hW j u hu => by
    rw [hW.cell (p := ⟨g, o + j, none⟩) (by show g < _; omega), ← hw1, World.cell?_alloc_lt w _ _ (by show g < _; omega)]
    exact hc j u hu)
  have HR : Hid (∀ W, Below w1.heap.size w1 W → Reads W w1.heap.size 1 (some ⟨g, o, none⟩) 16 (u8V [x0, x1, 2, x3, x4, x5, x6, x7, x8, 4, x10, x11, x12, x13, x14, x15])) := hide (fun W hW => ⟨rfl, fun _ => ⟨_, rfl, (by show g < _; omega), fun j u hu => by rw [add_mk]; exact (unhide HC) W hW j u hu⟩⟩)
  have ax0 := (hb x0 (by simp)).1
  have bx0 := (hb x0 (by simp)).2
  have ax1 := (hb x1 (by simp)).1
  have bx1 := (hb x1 (by simp)).2
  have ax3 := (hb x3 (by simp)).1
  have bx3 := (hb x3 (by simp)).2
  have ax4 := (hb x4 (by simp)).1
  have bx4 := (hb x4 (by simp)).2
  have ax5 := (hb x5 (by simp)).1
  have bx5 := (hb x5 (by simp)).2
  have ax6 := (hb x6 (by simp)).1
  have bx6 := (hb x6 (by simp)).2
  have ax7 := (hb x7 (by simp)).1
  have bx7 := (hb x7 (by simp)).2
  have ax8 := (hb x8 (by simp)).1
  have bx8 := (hb x8 (by simp)).2
  have ax10 := (hb x10 (by simp)).1
  have bx10 := (hb x10 (by simp)).2
  have ax11 := (hb x11 (by simp)).1
  have bx11 := (hb x11 (by simp)).2
  have ax12 := (hb x12 (by simp)).1
  have bx12 := (hb x12 (by simp)).2
  have ax13 := (hb x13 (by simp)).1
  have bx13 := (hb x13 (by simp)).2
  have ax14 := (hb x14 (by simp)).1
  have bx14 := (hb x14 (by simp)).2
  have ax15 := (hb x15 (by simp)).1
  have bx15 := (hb x15 (by simp)).2
  have N1 : Hid (∀ W, Below w1.heap.size w1 W → Calls Tryd.prog 44 #[.slice (some ⟨g, o, none⟩) 2 c] W fun e w' => e = .returned (.int .u64 (x0 + 256 * x1)) ∧ w' = W) := hide (fun W hW => by
    have hr := Reads.sub (k := 0) (m := 2) ((unhide HR) W hW) (by omega)
    rw [add_mk] at hr
    exact num_any W w1.heap.size _ 2 _ [x0, x1] (by omega) hr (fun x hx => hb x (by simp at hx ⊢; rcases hx with rfl | rfl <;> simp)) _ (by simp only [numL]; omega))
  have N2 : Hid (∀ W, Below w1.heap.size w1 W → Calls Tryd.prog 44 #[.slice (some ⟨g, o + 3, none⟩) 4 (c - 3)] W fun e w' => e = .returned (.int .u64 (x3 + 256 * x4 + 65536 * x5 + 16777216 * x6)) ∧ w' = W) := hide (fun W hW => by
    have hr := Reads.sub (k := 3) (m := 4) ((unhide HR) W hW) (by omega)
    rw [add_mk] at hr
    exact num_any W w1.heap.size _ 4 _ [x3, x4, x5, x6] (by omega) hr (fun x hx => hb x (by simp at hx ⊢; rcases hx with rfl | rfl | rfl | rfl <;> simp)) _ (by simp only [numL]; omega))
  have N3 : Hid (∀ W, Below w1.heap.size w1 W → Calls Tryd.prog 44 #[.slice (some ⟨g, o + 7, none⟩) 2 (c - 7)] W fun e w' => e = .returned (.int .u64 (x7 + 256 * x8)) ∧ w' = W) := hide (fun W hW => by
    have hr := Reads.sub (k := 7) (m := 2) ((unhide HR) W hW) (by omega)
    rw [add_mk] at hr
    exact num_any W w1.heap.size _ 2 _ [x7, x8] (by omega) hr (fun x hx => hb x (by simp at hx ⊢; rcases hx with rfl | rfl <;> simp)) _ (by simp only [numL]; omega))
  have wr1 : IntKind.u16.wrap (x0 + 256 * x1) = x0 + 256 * x1 := IntWalk.u16_in _ (by omega)
  have wr2 : IntKind.u32.wrap (x3 + 256 * x4 + 65536 * x5 + 16777216 * x6) = x3 + 256 * x4 + 65536 * x5 + 16777216 * x6 := IntWalk.u32_in _ (by omega)
  have wr3 : IntKind.u16.wrap (x7 + 256 * x8) = x7 + 256 * x8 := IntWalk.u16_in _ (by omega)
  have wr4 : IntKind.u8.wrap (x12 % 128) = x12 % 128 := IntWalk.u8_in _ (by omega)
  have htm : x12.tmod 128 = x12 % 128 := Int.tmod_eq_emod_of_nonneg ax12
  have hc0 : (c = 0) = False := by simp; omega
  have hc3 : (c = 3) = False := by simp; omega
  have hc7 : (c = 7) = False := by simp; omega
  have hl2 : (2 : Int) ≤ (c : Int) := by omega
  have hl7 : (7 : Int) ≤ (c : Int) := by omega
  have hl9 : (9 : Int) ≤ (c : Int) := by omega
  have HW1 := hide hw1
  subst hX
  obtain ⟨b, hbv⟩ : ∃ b, validE (decE x0 x1 x3 x4 x5 x6 x7 x8 x10 x11 x12 x13 x14 x15) = b := ⟨_, rfl⟩
  have HVA : Hid (∀ W, Calls Tryd.prog 29 #[.agg #[.int .u16 (x0 + 256 * x1), .int .u32 (x3 + 256 * x4 + 65536 * x5 + 16777216 * x6), .int .u16 (x7 + 256 * x8), .int .u8 x10, .int .u8 x11, .int .u8 (x12 % 128), .bool (decide (128 ≤ x12)), .int .u8 x13, .int .u8 x14, .int .u8 x15]] W fun z w' => z = .returned (.bool b) ∧ Below W.heap.size W w') := hide fun W => (rvalid_any W (decE x0 x1 x3 x4 x5 x6 x7 x8 x10 x11 x12 x13 x14 x15) b hbv).mono (fun z w' h => ⟨h.1, by rw [h.2]; exact (Below.refl _ _).alloc (Nat.le_refl _) _⟩)
  rw [hbv] at hY
  have HY := hide hY
  have hgw : w.heap.size < w1.heap.size := by omega
  clear hw1 hc hb hY hsz hbv
  have hcc2 : Hid (w1.cell? ⟨g, o + 2, none⟩ = some (.int .u8 2)) := hide ((unhide HC) w1 (Below.refl _ _) 2 _ rfl)
  have hcc9 : Hid (w1.cell? ⟨g, o + 9, none⟩ = some (.int .u8 4)) := hide ((unhide HC) w1 (Below.refl _ _) 9 _ rfl)
  go_enter Tryd.func32, Tryd.ntmps32
  go_upto_region 1 with fail
  rw [unhide HW1]
  have hcc2' := unhide hcc2
  have hcc9' := unhide hcc9
  go_upto_region 5 with fail
  clear hcc2' hcc9'
  go_cut [4] from 25 to 61 (fun p W => ∃ q : Nat, p = .pointer (some ⟨q, 0, none⟩) ∧ Blk W q 26 #[.int .u16 (x0 + 256 * x1), .int .u32 (x3 + 256 * x4 + 65536 * x5 + 16777216 * x6), .int .u16 (x7 + 256 * x8), .int .u8 x10, .int .u8 x11, .int .u8 (x12 % 128), .bool (decide (128 ≤ x12)), .int .u8 x13, .int .u8 x14, .int .u8 x15] ∧ w1.heap.size ≤ q ∧ Below w1.heap.size w1 W)
  case first =>
    have hS0 : Below w1.heap.size w1 w1.drew := (Below.refl _ _).drew
    refine wp_region_noPanic (wp_region_held_drew (S := fun W => Below w1.heap.size w1 W) (by kernel_rfl) hS0 (fun _ => ?_))
    refine th_take (i := 0) (v := ?_) rfl (by kernel_rfl) (by kernel_rfl) (by kernel_rfl) (Or.inl ⟨by rfl, fun wz hSw => ?_⟩) hS0 ?_
    rotate_left
    · go_simp
      with_reducible rfl
    simp only [Act.put, List.setIfInBounds_toArray, List.set_cons_zero, List.set_cons_succ]
    refine th_take (i := 1) (v := ?_) rfl (by kernel_rfl) (by kernel_rfl) (by kernel_rfl) (Or.inl ⟨by rfl, fun wz hSw => ?_⟩) hS0 ?_
    rotate_left
    · go_simp
      with_reducible rfl
    simp only [Act.put, List.setIfInBounds_toArray, List.set_cons_zero, List.set_cons_succ]
    refine th_take (i := 4) (v := ?_) rfl (by kernel_rfl) (by kernel_rfl) (by kernel_rfl) (Or.inl ⟨by rfl, fun wz hSw => ?_⟩) hS0 ?_
    rotate_left
    · go_simp
      with_reducible rfl
    simp only [Act.put, List.setIfInBounds_toArray, List.set_cons_zero, List.set_cons_succ]
    refine th_take (i := 5) (v := ?_) rfl (by kernel_rfl) (by kernel_rfl) (by kernel_rfl) (Or.inl ⟨by rfl, fun wz hSw => ?_⟩) hS0 ?_
    rotate_left
    · go_simp
      with_reducible rfl
    simp only [Act.put, List.setIfInBounds_toArray, List.set_cons_zero, List.set_cons_succ]
    refine th_take (i := 8) (v := ?_) rfl (by kernel_rfl) (by kernel_rfl) (by kernel_rfl) (Or.inl ⟨by rfl, fun wz hSw => ?_⟩) hS0 ?_
    rotate_left
    · go_simp
      with_reducible rfl
    simp only [Act.put, List.setIfInBounds_toArray, List.set_cons_zero, List.set_cons_succ]
    refine th_take (i := 9) (v := ?_) rfl (by kernel_rfl) (by kernel_rfl) (by kernel_rfl) (Or.inl ⟨by rfl, fun wz hSw => ?_⟩) hS0 ?_
    rotate_left
    · go_simp
      with_reducible rfl
    simp only [Act.put, List.setIfInBounds_toArray, List.set_cons_zero, List.set_cons_succ]
    refine th_take (i := 12) (v := ?_) rfl (by kernel_rfl) (by kernel_rfl) (by kernel_rfl) (Or.inl ⟨by rfl, fun wz hSw => ?_⟩) hS0 ?_
    rotate_left
    · go_simp
      with_reducible rfl
    simp only [Act.put, List.setIfInBounds_toArray, List.set_cons_zero, List.set_cons_succ]
    refine th_take (i := 13) (v := ?_) rfl (by kernel_rfl) (by kernel_rfl) (by kernel_rfl) (Or.inl ⟨by rfl, fun wz hSw => ?_⟩) hS0 ?_
    rotate_left
    · go_simp
      with_reducible rfl
    simp only [Act.put, List.setIfInBounds_toArray, List.set_cons_zero, List.set_cons_succ]
    refine th_take (i := 14) (v := .int .u8 x10) rfl (by kernel_rfl) (by kernel_rfl) (by kernel_rfl) (Or.inl ⟨by rfl, fun wz hSw => ?_⟩) hS0 ?_
    · have hc : wz.cell? ⟨g, o + 10, none⟩ = some (.int .u8 x10) := (unhide HC) wz hSw 10 _ rfl
      go_simp
    simp only [Act.put, List.setIfInBounds_toArray, List.set_cons_zero, List.set_cons_succ]
    refine th_take (i := 15) (v := ?_) rfl (by kernel_rfl) (by kernel_rfl) (by kernel_rfl) (Or.inl ⟨by rfl, fun wz hSw => ?_⟩) hS0 ?_
    rotate_left
    · go_simp
      with_reducible rfl
    simp only [Act.put, List.setIfInBounds_toArray, List.set_cons_zero, List.set_cons_succ]
    refine th_take (i := 16) (v := ?_) rfl (by kernel_rfl) (by kernel_rfl) (by kernel_rfl) (Or.inl ⟨by rfl, fun wz hSw => ?_⟩) hS0 ?_
    rotate_left
    · go_simp
      with_reducible rfl
    simp only [Act.put, List.setIfInBounds_toArray, List.set_cons_zero, List.set_cons_succ]
    refine th_take (i := 17) (v := .int .u8 x11) rfl (by kernel_rfl) (by kernel_rfl) (by kernel_rfl) (Or.inl ⟨by rfl, fun wz hSw => ?_⟩) hS0 ?_
    · have hc : wz.cell? ⟨g, o + 11, none⟩ = some (.int .u8 x11) := (unhide HC) wz hSw 11 _ rfl
      go_simp
    simp only [Act.put, List.setIfInBounds_toArray, List.set_cons_zero, List.set_cons_succ]
    refine th_take (i := 18) (v := ?_) rfl (by kernel_rfl) (by kernel_rfl) (by kernel_rfl) (Or.inl ⟨by rfl, fun wz hSw => ?_⟩) hS0 ?_
    rotate_left
    · go_simp
      with_reducible rfl
    simp only [Act.put, List.setIfInBounds_toArray, List.set_cons_zero, List.set_cons_succ]
    refine th_take (i := 19) (v := ?_) rfl (by kernel_rfl) (by kernel_rfl) (by kernel_rfl) (Or.inl ⟨by rfl, fun wz hSw => ?_⟩) hS0 ?_
    rotate_left
    · go_simp
      with_reducible rfl
    simp only [Act.put, List.setIfInBounds_toArray, List.set_cons_zero, List.set_cons_succ]
    refine th_take (i := 20) (v := .int .u8 x12) rfl (by kernel_rfl) (by kernel_rfl) (by kernel_rfl) (Or.inl ⟨by rfl, fun wz hSw => ?_⟩) hS0 ?_
    · have hc : wz.cell? ⟨g, o + 12, none⟩ = some (.int .u8 x12) := (unhide HC) wz hSw 12 _ rfl
      go_simp
    simp only [Act.put, List.setIfInBounds_toArray, List.set_cons_zero, List.set_cons_succ]
    refine th_take (i := 21) (v := .int .u8 (x12 % 128)) rfl (by kernel_rfl) (by kernel_rfl) (by kernel_rfl) (Or.inl ⟨by rfl, fun wz hSw => ?_⟩) hS0 ?_
    · have ho := htm
      go_simp
    simp only [Act.put, List.setIfInBounds_toArray, List.set_cons_zero, List.set_cons_succ]
    refine th_take (i := 22) (v := ?_) rfl (by kernel_rfl) (by kernel_rfl) (by kernel_rfl) (Or.inl ⟨by rfl, fun wz hSw => ?_⟩) hS0 ?_
    rotate_left
    · go_simp
      with_reducible rfl
    simp only [Act.put, List.setIfInBounds_toArray, List.set_cons_zero, List.set_cons_succ]
    refine th_take (i := 23) (v := ?_) rfl (by kernel_rfl) (by kernel_rfl) (by kernel_rfl) (Or.inl ⟨by rfl, fun wz hSw => ?_⟩) hS0 ?_
    rotate_left
    · go_simp
      with_reducible rfl
    simp only [Act.put, List.setIfInBounds_toArray, List.set_cons_zero, List.set_cons_succ]
    refine th_take (i := 24) (v := .int .u8 x12) rfl (by kernel_rfl) (by kernel_rfl) (by kernel_rfl) (Or.inl ⟨by rfl, fun wz hSw => ?_⟩) hS0 ?_
    · have hc : wz.cell? ⟨g, o + 12, none⟩ = some (.int .u8 x12) := (unhide HC) wz hSw 12 _ rfl
      go_simp
    simp only [Act.put, List.setIfInBounds_toArray, List.set_cons_zero, List.set_cons_succ]
    refine th_take (i := 25) (v := .bool (decide (128 ≤ x12))) rfl (by kernel_rfl) (by kernel_rfl) (by kernel_rfl) (Or.inl ⟨by rfl, fun wz hSw => ?_⟩) hS0 ?_
    · have ho := htm
      go_simp
    simp only [Act.put, List.setIfInBounds_toArray, List.set_cons_zero, List.set_cons_succ]
    refine th_take (i := 26) (v := ?_) rfl (by kernel_rfl) (by kernel_rfl) (by kernel_rfl) (Or.inl ⟨by rfl, fun wz hSw => ?_⟩) hS0 ?_
    rotate_left
    · go_simp
      with_reducible rfl
    simp only [Act.put, List.setIfInBounds_toArray, List.set_cons_zero, List.set_cons_succ]
    refine th_take (i := 27) (v := ?_) rfl (by kernel_rfl) (by kernel_rfl) (by kernel_rfl) (Or.inl ⟨by rfl, fun wz hSw => ?_⟩) hS0 ?_
    rotate_left
    · go_simp
      with_reducible rfl
    simp only [Act.put, List.setIfInBounds_toArray, List.set_cons_zero, List.set_cons_succ]
    refine th_take (i := 28) (v := .int .u8 x13) rfl (by kernel_rfl) (by kernel_rfl) (by kernel_rfl) (Or.inl ⟨by rfl, fun wz hSw => ?_⟩) hS0 ?_
    · have hc : wz.cell? ⟨g, o + 13, none⟩ = some (.int .u8 x13) := (unhide HC) wz hSw 13 _ rfl
      go_simp
    simp only [Act.put, List.setIfInBounds_toArray, List.set_cons_zero, List.set_cons_succ]
    refine th_take (i := 29) (v := ?_) rfl (by kernel_rfl) (by kernel_rfl) (by kernel_rfl) (Or.inl ⟨by rfl, fun wz hSw => ?_⟩) hS0 ?_
    rotate_left
    · go_simp
      with_reducible rfl
    simp only [Act.put, List.setIfInBounds_toArray, List.set_cons_zero, List.set_cons_succ]
    refine th_take (i := 30) (v := ?_) rfl (by kernel_rfl) (by kernel_rfl) (by kernel_rfl) (Or.inl ⟨by rfl, fun wz hSw => ?_⟩) hS0 ?_
    rotate_left
    · go_simp
      with_reducible rfl
    simp only [Act.put, List.setIfInBounds_toArray, List.set_cons_zero, List.set_cons_succ]
    refine th_take (i := 31) (v := .int .u8 x14) rfl (by kernel_rfl) (by kernel_rfl) (by kernel_rfl) (Or.inl ⟨by rfl, fun wz hSw => ?_⟩) hS0 ?_
    · have hc : wz.cell? ⟨g, o + 14, none⟩ = some (.int .u8 x14) := (unhide HC) wz hSw 14 _ rfl
      go_simp
    simp only [Act.put, List.setIfInBounds_toArray, List.set_cons_zero, List.set_cons_succ]
    refine th_take (i := 32) (v := ?_) rfl (by kernel_rfl) (by kernel_rfl) (by kernel_rfl) (Or.inl ⟨by rfl, fun wz hSw => ?_⟩) hS0 ?_
    rotate_left
    · go_simp
      with_reducible rfl
    simp only [Act.put, List.setIfInBounds_toArray, List.set_cons_zero, List.set_cons_succ]
    refine th_take (i := 33) (v := ?_) rfl (by kernel_rfl) (by kernel_rfl) (by kernel_rfl) (Or.inl ⟨by rfl, fun wz hSw => ?_⟩) hS0 ?_
    rotate_left
    · go_simp
      with_reducible rfl
    simp only [Act.put, List.setIfInBounds_toArray, List.set_cons_zero, List.set_cons_succ]
    refine th_take (i := 34) (v := .int .u8 x15) rfl (by kernel_rfl) (by kernel_rfl) (by kernel_rfl) (Or.inl ⟨by rfl, fun wz hSw => ?_⟩) hS0 ?_
    · have hc : wz.cell? ⟨g, o + 15, none⟩ = some (.int .u8 x15) := (unhide HC) wz hSw 15 _ rfl
      go_simp
    simp only [Act.put, List.setIfInBounds_toArray, List.set_cons_zero, List.set_cons_succ]
    refine th_take (i := 35) (v := ?_) rfl (by kernel_rfl) (by kernel_rfl) (by kernel_rfl) (Or.inl ⟨by rfl, fun wz hSw => ?_⟩) hS0 ?_
    rotate_left
    · go_simp
      with_reducible rfl
    simp only [Act.put, List.setIfInBounds_toArray, List.set_cons_zero, List.set_cons_succ]
    refine th_two (i := 2) (j := 37) rfl rfl (by kernel_rfl) (fun K hK => ?_) (fun K hK => ?_)
    · -- the call first
      rw [if_pos (by rfl)]
      go_simp
      refine (unhide N1 _ hS0).mono ?_
      rintro e w' ⟨rfl, rfl⟩
      refine hK.out _ _ hS0 (fun _ => ?_)
      clear hK K
      try simp only [Act.put, List.setIfInBounds_toArray, List.set_cons_zero, List.set_cons_succ]
      refine th_take (i := 3) (v := ?_) rfl (by kernel_rfl) (by kernel_rfl) (by kernel_rfl) (Or.inl ⟨by rfl, fun wz hSw => ?_⟩) hS0 ?_
      rotate_left
      · go_simp
        with_reducible rfl
      simp only [Act.put, List.setIfInBounds_toArray, List.set_cons_zero, List.set_cons_succ]
      refine th_two (i := 6) (j := 37) rfl rfl (by kernel_rfl) (fun K hK => ?_) (fun K hK => ?_)
      · -- the call first
        rw [if_pos (by rfl)]
        go_simp
        refine (unhide N2 _ hS0).mono ?_
        rintro e w' ⟨rfl, rfl⟩
        refine hK.out _ _ hS0 (fun _ => ?_)
        clear hK K
        try simp only [Act.put, List.setIfInBounds_toArray, List.set_cons_zero, List.set_cons_succ]
        refine th_take (i := 7) (v := ?_) rfl (by kernel_rfl) (by kernel_rfl) (by kernel_rfl) (Or.inl ⟨by rfl, fun wz hSw => ?_⟩) hS0 ?_
        rotate_left
        · go_simp
          with_reducible rfl
        simp only [Act.put, List.setIfInBounds_toArray, List.set_cons_zero, List.set_cons_succ]
        refine th_two (i := 10) (j := 37) rfl rfl (by kernel_rfl) (fun K hK => ?_) (fun K hK => ?_)
        · -- the call first
          rw [if_pos (by rfl)]
          go_simp
          refine (unhide N3 _ hS0).mono ?_
          rintro e w' ⟨rfl, rfl⟩
          refine hK.out _ _ hS0 (fun _ => ?_)
          clear hK K
          try simp only [Act.put, List.setIfInBounds_toArray, List.set_cons_zero, List.set_cons_succ]
          refine th_take (i := 11) (v := ?_) rfl (by kernel_rfl) (by kernel_rfl) (by kernel_rfl) (Or.inl ⟨by rfl, fun wz hSw => ?_⟩) hS0 ?_
          rotate_left
          · go_simp
            with_reducible rfl
          simp only [Act.put, List.setIfInBounds_toArray, List.set_cons_zero, List.set_cons_succ]
          refine th_take (i := 36) (v := ?_) rfl (by kernel_rfl) (by kernel_rfl) (by kernel_rfl) (Or.inl ⟨by rfl, fun wz hSw => ?_⟩) hS0 ?_
          rotate_left
          · go_simp
            with_reducible rfl
          simp only [Act.put, List.setIfInBounds_toArray, List.set_cons_zero, List.set_cons_succ]
          refine th_one (i := 37) rfl (by kernel_rfl) (fun K hK => ?_)
          rw [if_pos (by rfl)]
          go_simp
          have hZ : Blk (w1.drew.alloc (.cells #[.int .u16 0, .int .u32 0, .int .u16 0, .int .u8 0, .int .u8 0, .int .u8 0, .bool false, .int .u8 0, .int .u8 0, .int .u8 0] 26)) w1.heap.size 26 #[.int .u16 0, .int .u32 0, .int .u16 0, .int .u8 0, .int .u8 0, .int .u8 0, .bool false, .int .u8 0, .int .u8 0, .int .u8 0] := Blk.new w1.drew _ _
          have hSa : Below w1.heap.size w1 (w1.drew.alloc (.cells #[.int .u16 0, .int .u32 0, .int .u16 0, .int .u8 0, .int .u8 0, .int .u8 0, .bool false, .int .u8 0, .int .u8 0, .int .u8 0] 26)) := hS0.alloc (Nat.le_refl _) _
          refine hK.out _ _ hSa (fun _ => ?_)
          clear hK K
          try simp only [Act.put, List.setIfInBounds_toArray, List.set_cons_zero, List.set_cons_succ]
          refine th_one (i := 38) rfl (by kernel_rfl) (fun K hK => ?_)
          refine step_store_blk (by rfl) 26 (.tmp 4) (.tmp 61) rfl w1.heap.size 26 _ #[.int .u16 (x0 + 256 * x1), .int .u32 (x3 + 256 * x4 + 65536 * x5 + 16777216 * x6), .int .u16 (x7 + 256 * x8), .int .u8 x10, .int .u8 x11, .int .u8 (x12 % 128), .bool (decide (128 ≤ x12)), .int .u8 x13, .int .u8 x14, .int .u8 x15] rfl rfl hZ rfl (by kernel_rfl) (by intro v hv; simp at hv; rcases hv with rfl | rfl | rfl | rfl | rfl | rfl | rfl | rfl | rfl | rfl <;> rfl) ?_
          intro w7 hb7 hg7
          have hS7 : Below w1.heap.size w1 w7 := hSa.grown hg7 (by simp only [size_alloc]; exact Nat.le_succ _) (fun j e => by injection e with e; omega)
          refine hK.out _ _ hS7 (fun _ => ?_)
          clear hK K
          try simp only [Act.put]
          refine wpAnyH_done (by kernel_rfl) (NoPanic.normal ?_) _
          go_wp2_with fail
          go_meet
          exact ⟨w1.heap.size, rfl, hb7, Nat.le_refl _, hS7⟩
        · -- the variable first
          rw [if_pos (by rfl)]
          go_simp
          have hZ : Blk (w1.drew.alloc (.cells #[.int .u16 0, .int .u32 0, .int .u16 0, .int .u8 0, .int .u8 0, .int .u8 0, .bool false, .int .u8 0, .int .u8 0, .int .u8 0] 26)) w1.heap.size 26 #[.int .u16 0, .int .u32 0, .int .u16 0, .int .u8 0, .int .u8 0, .int .u8 0, .bool false, .int .u8 0, .int .u8 0, .int .u8 0] := Blk.new w1.drew _ _
          have hSa : Below w1.heap.size w1 (w1.drew.alloc (.cells #[.int .u16 0, .int .u32 0, .int .u16 0, .int .u8 0, .int .u8 0, .int .u8 0, .bool false, .int .u8 0, .int .u8 0, .int .u8 0] 26)) := hS0.alloc (Nat.le_refl _) _
          refine hK.out _ _ hSa (fun _ => ?_)
          clear hK K
          try simp only [Act.put, List.setIfInBounds_toArray, List.set_cons_zero, List.set_cons_succ]
          refine th_one (i := 10) rfl (by kernel_rfl) (fun K hK => ?_)
          rw [if_pos (by rfl)]
          go_simp
          refine (unhide N3 _ hSa).mono ?_
          rintro e w' ⟨rfl, rfl⟩
          refine hK.out _ _ hSa (fun _ => ?_)
          clear hK K
          try simp only [Act.put, List.setIfInBounds_toArray, List.set_cons_zero, List.set_cons_succ]
          refine th_take (i := 11) (v := ?_) rfl (by kernel_rfl) (by kernel_rfl) (by kernel_rfl) (Or.inl ⟨by rfl, fun wz hSw => ?_⟩) hSa ?_
          rotate_left
          · go_simp
            with_reducible rfl
          simp only [Act.put, List.setIfInBounds_toArray, List.set_cons_zero, List.set_cons_succ]
          refine th_take (i := 36) (v := ?_) rfl (by kernel_rfl) (by kernel_rfl) (by kernel_rfl) (Or.inl ⟨by rfl, fun wz hSw => ?_⟩) hSa ?_
          rotate_left
          · go_simp
            with_reducible rfl
          simp only [Act.put, List.setIfInBounds_toArray, List.set_cons_zero, List.set_cons_succ]
          refine th_one (i := 38) rfl (by kernel_rfl) (fun K hK => ?_)
          refine step_store_blk (by rfl) 26 (.tmp 4) (.tmp 61) rfl w1.heap.size 26 _ #[.int .u16 (x0 + 256 * x1), .int .u32 (x3 + 256 * x4 + 65536 * x5 + 16777216 * x6), .int .u16 (x7 + 256 * x8), .int .u8 x10, .int .u8 x11, .int .u8 (x12 % 128), .bool (decide (128 ≤ x12)), .int .u8 x13, .int .u8 x14, .int .u8 x15] rfl rfl hZ rfl (by kernel_rfl) (by intro v hv; simp at hv; rcases hv with rfl | rfl | rfl | rfl | rfl | rfl | rfl | rfl | rfl | rfl <;> rfl) ?_
          intro w7 hb7 hg7
          have hS7 : Below w1.heap.size w1 w7 := hSa.grown hg7 (by simp only [size_alloc]; exact Nat.le_succ _) (fun j e => by injection e with e; omega)
          refine hK.out _ _ hS7 (fun _ => ?_)
          clear hK K
          try simp only [Act.put]
          refine wpAnyH_done (by kernel_rfl) (NoPanic.normal ?_) _
          go_wp2_with fail
          go_meet
          exact ⟨w1.heap.size, rfl, hb7, Nat.le_refl _, hS7⟩
      · -- the variable first
        rw [if_pos (by rfl)]
        go_simp
        have hZ : Blk (w1.drew.alloc (.cells #[.int .u16 0, .int .u32 0, .int .u16 0, .int .u8 0, .int .u8 0, .int .u8 0, .bool false, .int .u8 0, .int .u8 0, .int .u8 0] 26)) w1.heap.size 26 #[.int .u16 0, .int .u32 0, .int .u16 0, .int .u8 0, .int .u8 0, .int .u8 0, .bool false, .int .u8 0, .int .u8 0, .int .u8 0] := Blk.new w1.drew _ _
        have hSa : Below w1.heap.size w1 (w1.drew.alloc (.cells #[.int .u16 0, .int .u32 0, .int .u16 0, .int .u8 0, .int .u8 0, .int .u8 0, .bool false, .int .u8 0, .int .u8 0, .int .u8 0] 26)) := hS0.alloc (Nat.le_refl _) _
        refine hK.out _ _ hSa (fun _ => ?_)
        clear hK K
        try simp only [Act.put, List.setIfInBounds_toArray, List.set_cons_zero, List.set_cons_succ]
        refine th_one (i := 6) rfl (by kernel_rfl) (fun K hK => ?_)
        rw [if_pos (by rfl)]
        go_simp
        refine (unhide N2 _ hSa).mono ?_
        rintro e w' ⟨rfl, rfl⟩
        refine hK.out _ _ hSa (fun _ => ?_)
        clear hK K
        try simp only [Act.put, List.setIfInBounds_toArray, List.set_cons_zero, List.set_cons_succ]
        refine th_take (i := 7) (v := ?_) rfl (by kernel_rfl) (by kernel_rfl) (by kernel_rfl) (Or.inl ⟨by rfl, fun wz hSw => ?_⟩) hSa ?_
        rotate_left
        · go_simp
          with_reducible rfl
        simp only [Act.put, List.setIfInBounds_toArray, List.set_cons_zero, List.set_cons_succ]
        refine th_one (i := 10) rfl (by kernel_rfl) (fun K hK => ?_)
        rw [if_pos (by rfl)]
        go_simp
        refine (unhide N3 _ hSa).mono ?_
        rintro e w' ⟨rfl, rfl⟩
        refine hK.out _ _ hSa (fun _ => ?_)
        clear hK K
        try simp only [Act.put, List.setIfInBounds_toArray, List.set_cons_zero, List.set_cons_succ]
        refine th_take (i := 11) (v := ?_) rfl (by kernel_rfl) (by kernel_rfl) (by kernel_rfl) (Or.inl ⟨by rfl, fun wz hSw => ?_⟩) hSa ?_
        rotate_left
        · go_simp
          with_reducible rfl
        simp only [Act.put, List.setIfInBounds_toArray, List.set_cons_zero, List.set_cons_succ]
        refine th_take (i := 36) (v := ?_) rfl (by kernel_rfl) (by kernel_rfl) (by kernel_rfl) (Or.inl ⟨by rfl, fun wz hSw => ?_⟩) hSa ?_
        rotate_left
        · go_simp
          with_reducible rfl
        simp only [Act.put, List.setIfInBounds_toArray, List.set_cons_zero, List.set_cons_succ]
        refine th_one (i := 38) rfl (by kernel_rfl) (fun K hK => ?_)
        refine step_store_blk (by rfl) 26 (.tmp 4) (.tmp 61) rfl w1.heap.size 26 _ #[.int .u16 (x0 + 256 * x1), .int .u32 (x3 + 256 * x4 + 65536 * x5 + 16777216 * x6), .int .u16 (x7 + 256 * x8), .int .u8 x10, .int .u8 x11, .int .u8 (x12 % 128), .bool (decide (128 ≤ x12)), .int .u8 x13, .int .u8 x14, .int .u8 x15] rfl rfl hZ rfl (by kernel_rfl) (by intro v hv; simp at hv; rcases hv with rfl | rfl | rfl | rfl | rfl | rfl | rfl | rfl | rfl | rfl <;> rfl) ?_
        intro w7 hb7 hg7
        have hS7 : Below w1.heap.size w1 w7 := hSa.grown hg7 (by simp only [size_alloc]; exact Nat.le_succ _) (fun j e => by injection e with e; omega)
        refine hK.out _ _ hS7 (fun _ => ?_)
        clear hK K
        try simp only [Act.put]
        refine wpAnyH_done (by kernel_rfl) (NoPanic.normal ?_) _
        go_wp2_with fail
        go_meet
        exact ⟨w1.heap.size, rfl, hb7, Nat.le_refl _, hS7⟩
    · -- the variable first
      rw [if_pos (by rfl)]
      go_simp
      have hZ : Blk (w1.drew.alloc (.cells #[.int .u16 0, .int .u32 0, .int .u16 0, .int .u8 0, .int .u8 0, .int .u8 0, .bool false, .int .u8 0, .int .u8 0, .int .u8 0] 26)) w1.heap.size 26 #[.int .u16 0, .int .u32 0, .int .u16 0, .int .u8 0, .int .u8 0, .int .u8 0, .bool false, .int .u8 0, .int .u8 0, .int .u8 0] := Blk.new w1.drew _ _
      have hSa : Below w1.heap.size w1 (w1.drew.alloc (.cells #[.int .u16 0, .int .u32 0, .int .u16 0, .int .u8 0, .int .u8 0, .int .u8 0, .bool false, .int .u8 0, .int .u8 0, .int .u8 0] 26)) := hS0.alloc (Nat.le_refl _) _
      refine hK.out _ _ hSa (fun _ => ?_)
      clear hK K
      try simp only [Act.put, List.setIfInBounds_toArray, List.set_cons_zero, List.set_cons_succ]
      refine th_one (i := 2) rfl (by kernel_rfl) (fun K hK => ?_)
      rw [if_pos (by rfl)]
      go_simp
      refine (unhide N1 _ hSa).mono ?_
      rintro e w' ⟨rfl, rfl⟩
      refine hK.out _ _ hSa (fun _ => ?_)
      clear hK K
      try simp only [Act.put, List.setIfInBounds_toArray, List.set_cons_zero, List.set_cons_succ]
      refine th_take (i := 3) (v := ?_) rfl (by kernel_rfl) (by kernel_rfl) (by kernel_rfl) (Or.inl ⟨by rfl, fun wz hSw => ?_⟩) hSa ?_
      rotate_left
      · go_simp
        with_reducible rfl
      simp only [Act.put, List.setIfInBounds_toArray, List.set_cons_zero, List.set_cons_succ]
      refine th_one (i := 6) rfl (by kernel_rfl) (fun K hK => ?_)
      rw [if_pos (by rfl)]
      go_simp
      refine (unhide N2 _ hSa).mono ?_
      rintro e w' ⟨rfl, rfl⟩
      refine hK.out _ _ hSa (fun _ => ?_)
      clear hK K
      try simp only [Act.put, List.setIfInBounds_toArray, List.set_cons_zero, List.set_cons_succ]
      refine th_take (i := 7) (v := ?_) rfl (by kernel_rfl) (by kernel_rfl) (by kernel_rfl) (Or.inl ⟨by rfl, fun wz hSw => ?_⟩) hSa ?_
      rotate_left
      · go_simp
        with_reducible rfl
      simp only [Act.put, List.setIfInBounds_toArray, List.set_cons_zero, List.set_cons_succ]
      refine th_one (i := 10) rfl (by kernel_rfl) (fun K hK => ?_)
      rw [if_pos (by rfl)]
      go_simp
      refine (unhide N3 _ hSa).mono ?_
      rintro e w' ⟨rfl, rfl⟩
      refine hK.out _ _ hSa (fun _ => ?_)
      clear hK K
      try simp only [Act.put, List.setIfInBounds_toArray, List.set_cons_zero, List.set_cons_succ]
      refine th_take (i := 11) (v := ?_) rfl (by kernel_rfl) (by kernel_rfl) (by kernel_rfl) (Or.inl ⟨by rfl, fun wz hSw => ?_⟩) hSa ?_
      rotate_left
      · go_simp
        with_reducible rfl
      simp only [Act.put, List.setIfInBounds_toArray, List.set_cons_zero, List.set_cons_succ]
      refine th_take (i := 36) (v := ?_) rfl (by kernel_rfl) (by kernel_rfl) (by kernel_rfl) (Or.inl ⟨by rfl, fun wz hSw => ?_⟩) hSa ?_
      rotate_left
      · go_simp
        with_reducible rfl
      simp only [Act.put, List.setIfInBounds_toArray, List.set_cons_zero, List.set_cons_succ]
      refine th_one (i := 38) rfl (by kernel_rfl) (fun K hK => ?_)
      refine step_store_blk (by rfl) 26 (.tmp 4) (.tmp 61) rfl w1.heap.size 26 _ #[.int .u16 (x0 + 256 * x1), .int .u32 (x3 + 256 * x4 + 65536 * x5 + 16777216 * x6), .int .u16 (x7 + 256 * x8), .int .u8 x10, .int .u8 x11, .int .u8 (x12 % 128), .bool (decide (128 ≤ x12)), .int .u8 x13, .int .u8 x14, .int .u8 x15] rfl rfl hZ rfl (by kernel_rfl) (by intro v hv; simp at hv; rcases hv with rfl | rfl | rfl | rfl | rfl | rfl | rfl | rfl | rfl | rfl <;> rfl) ?_
      intro w7 hb7 hg7
      have hS7 : Below w1.heap.size w1 w7 := hSa.grown hg7 (by simp only [size_alloc]; exact Nat.le_succ _) (fun j e => by injection e with e; omega)
      refine hK.out _ _ hS7 (fun _ => ?_)
      clear hK K
      try simp only [Act.put]
      refine wpAnyH_done (by kernel_rfl) (NoPanic.normal ?_) _
      go_wp2_with fail
      go_meet
      exact ⟨w1.heap.size, rfl, hb7, Nat.le_refl _, hS7⟩
  case rest =>
    obtain ⟨q, rfl, hb7, hq1, hS7⟩ := hcut
    have E7 := hide hb7
    have S7 := hide hS7
    have K7 := hide ((unhide R1).below hS7 (unhide R1).lt)
    clear hb7 hS7
    go_wp2_with (first | (refine wpList_load_row rfl 26 _ rfl q rfl 26 _ _ _ (unhide E7) Tryd.underlying26 rfl (by kernel_rfl) ?_) | fail)
    refine (unhide HVA _).mono ?_
    rintro e w8 ⟨rfl, hb8⟩
    have E8 := hide ((unhide E7).below hb8 (unhide E7).lt)
    have K8 := hide ((unhide K7).below hb8 (unhide K7).lt)
    have S8 := hide ((unhide S7).trans (hb8.mono (unhide S7).size))
    clear hb8
    cases b
    · skip
      go_wp2_with (first
      | (refine wpList_load_row rfl 26 _ rfl q rfl 26 _ _ _ (unhide E8) Tryd.underlying26 rfl (by kernel_rfl) ?_)
      | (refine wpList_store_blk rfl 26 (.tmp 2) (.tmp 65) rfl w.heap.size 26 _ #[.int .u16 0, .int .u32 0, .int .u16 0, .int .u8 0, .int .u8 0, .int .u8 0, .bool false, .int .u8 0, .int .u8 0, .int .u8 0] rfl rfl (unhide K8) rfl (by kernel_rfl) (by intro v hv; simp at hv; rcases hv with rfl | rfl | rfl | rfl | rfl | rfl | rfl | rfl | rfl | rfl <;> rfl) ?_
         intro w9 hb9 hg9
         have Z9 := hide hb9
         have B9 := hide (((unhide B1).trans ((unhide S8).mono (Nat.le_of_lt hgw))).grown hg9 (Nat.le_trans (Nat.le_of_lt hgw) (unhide S8).size) (fun j e => by injection e with e; omega))
         clear hb9 hg9)
      | fail)
      have hY := unhide HY
      simp at hY
      obtain ⟨rfl, rfl⟩ := hY
      exact bodyPost_ret (v := .tuple #[.agg #[.int .u16 0, .int .u32 0, .int .u16 0, .int .u8 0, .int .u8 0, .int .u8 0, .bool false, .int .u8 0, .int .u8 0, .int .u8 0], .int .i64 1]) (res2 rfl _ w.heap.size 26 #[.int .u16 0, .int .u32 0, .int .u16 0, .int .u8 0, .int .u8 0, .int .u8 0, .bool false, .int .u8 0, .int .u8 0, .int .u8 0] _ _ rfl rfl (unhide Z9) Tryd.underlying26 rfl (by kernel_rfl)) rfl (show DecPost w _ _ _ _ from ⟨rfl, unhide B9⟩)
    · skip
      go_wp2_with (first
      | (refine wpList_load_row rfl 26 _ rfl q rfl 26 _ _ _ (unhide E8) Tryd.underlying26 rfl (by kernel_rfl) ?_)
      | (refine wpList_store_blk rfl 26 (.tmp 2) (.tmp 66) rfl w.heap.size 26 _ #[.int .u16 (x0 + 256 * x1), .int .u32 (x3 + 256 * x4 + 65536 * x5 + 16777216 * x6), .int .u16 (x7 + 256 * x8), .int .u8 x10, .int .u8 x11, .int .u8 (x12 % 128), .bool (decide (128 ≤ x12)), .int .u8 x13, .int .u8 x14, .int .u8 x15] rfl rfl (unhide K8) rfl (by kernel_rfl) (by intro v hv; simp at hv; rcases hv with rfl | rfl | rfl | rfl | rfl | rfl | rfl | rfl | rfl | rfl <;> rfl) ?_
         intro w9 hb9 hg9
         have Z9 := hide hb9
         have B9 := hide (((unhide B1).trans ((unhide S8).mono (Nat.le_of_lt hgw))).grown hg9 (Nat.le_trans (Nat.le_of_lt hgw) (unhide S8).size) (fun j e => by injection e with e; omega))
         clear hb9 hg9)
      | fail)
      have hY := unhide HY
      simp at hY
      obtain ⟨rfl, rfl⟩ := hY
      exact bodyPost_ret (v := .tuple #[.agg #[.int .u16 (x0 + 256 * x1), .int .u32 (x3 + 256 * x4 + 65536 * x5 + 16777216 * x6), .int .u16 (x7 + 256 * x8), .int .u8 x10, .int .u8 x11, .int .u8 (x12 % 128), .bool (decide (128 ≤ x12)), .int .u8 x13, .int .u8 x14, .int .u8 x15], .int .i64 0]) (res2 rfl _ w.heap.size 26 #[.int .u16 (x0 + 256 * x1), .int .u32 (x3 + 256 * x4 + 65536 * x5 + 16777216 * x6), .int .u16 (x7 + 256 * x8), .int .u8 x10, .int .u8 x11, .int .u8 (x12 % 128), .bool (decide (128 ≤ x12)), .int .u8 x13, .int .u8 x14, .int .u8 x15] _ _ rfl rfl (unhide Z9) Tryd.underlying26 rfl (by kernel_rfl)) rfl (show DecPost w _ _ _ _ from ⟨rfl, unhide B9⟩)
end Go.Proofs.YtklffnfaigmjfaaDoor
