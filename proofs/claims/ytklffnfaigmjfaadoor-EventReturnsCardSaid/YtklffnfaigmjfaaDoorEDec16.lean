/- event.Decode of sixteen bytes (printed by wip/gen_edec.py). No condition. -/
import Derived.Test.YtklffnfaigmjfaaDoorEDecW
import Derived.Laws.Cover3
namespace Go.Proofs.YtklffnfaigmjfaaDoor
open Go.RowKit
theorem or_u16 (x y : Nat) (hx : x < 65536) (hy : y < 65536) : bits .or .u16 (x : Int) (y : Int) = ((x ||| y : Nat) : Int) := by
  have hz : x ||| y < 2 ^ 16 := Nat.or_lt_two_pow (by omega) (by omega)
  show IntKind.u16.wrap ((BitVec.ofInt 16 (x : Int) ||| BitVec.ofInt 16 (y : Int)).toNat : Int) = _
  have e : ∀ a : Nat, a < 65536 → (BitVec.ofInt 16 (a : Int)).toNat = a := fun a ha => by
    rw [BitVec.ofInt_natCast, BitVec.toNat_ofNat]; exact Nat.mod_eq_of_lt (by omega)
  rw [BitVec.toNat_or, e x hx, e y hy, IntKind.wrap_u16]
  omega
theorem or_u32 (x y : Nat) (hx : x < 4294967296) (hy : y < 4294967296) : bits .or .u32 (x : Int) (y : Int) = ((x ||| y : Nat) : Int) := by
  have hz : x ||| y < 2 ^ 32 := Nat.or_lt_two_pow (by omega) (by omega)
  show IntKind.u32.wrap ((BitVec.ofInt 32 (x : Int) ||| BitVec.ofInt 32 (y : Int)).toNat : Int) = _
  have e : ∀ a : Nat, a < 4294967296 → (BitVec.ofInt 32 (a : Int)).toNat = a := fun a ha => by
    rw [BitVec.ofInt_natCast, BitVec.toNat_ofNat]; exact Nat.mod_eq_of_lt (by omega)
  rw [BitVec.toNat_or, e x hx, e y hy, IntKind.wrap_u32]
  omega
theorem shlOr16 (a b : Int) (ha : 0 ≤ a) (ha1 : a < 256) (hb : 0 ≤ b) (hb1 : b < 256) : bits .or .u16 a (IntKind.u16.wrap (b * 256)) = a + 256 * b := by
  rw [show IntKind.u16.wrap (b * 256) = b * 256 from IntWalk.u16_in _ (by omega)]
  obtain ⟨x, rfl⟩ := Int.eq_ofNat_of_zero_le ha
  obtain ⟨y, rfl⟩ := Int.eq_ofNat_of_zero_le hb
  have := or_u16 x (2 ^ 8 * y) (by omega) (by omega)
  rw [Nat.or_comm, ← Nat.two_pow_add_eq_or_of_lt (by omega : x < 2 ^ 8)] at this
  rw [show ((y : Int) * 256) = ((2 ^ 8 * y : Nat) : Int) by simp; omega, this]
  simp; omega
theorem shlOr32 (i : Nat) (K : Int) (hK : (2 : Int) ^ i = K) (a b : Int) (ha : 0 ≤ a) (ha1 : a < K) (hb : 0 ≤ b) (hlt : K * b + a < 4294967296) : bits .or .u32 a (IntKind.u32.wrap (b * K)) = a + K * b := by
  subst hK
  obtain ⟨x, rfl⟩ := Int.eq_ofNat_of_zero_le ha
  obtain ⟨y, rfl⟩ := Int.eq_ofNat_of_zero_le hb
  have h1 : x < 2 ^ i := by exact_mod_cast ha1
  have h2' : ((2 ^ i * y + x : Nat) : Int) < 4294967296 := by rw [Int.natCast_add, Int.natCast_mul, Int.natCast_pow]; exact hlt
  have h2 : 2 ^ i * y + x < 4294967296 := by omega
  have e : ((y : Int) * 2 ^ i) = ((2 ^ i * y : Nat) : Int) := by rw [Int.natCast_mul, Int.natCast_pow]; exact Int.mul_comm _ _
  have := or_u32 x (2 ^ i * y) (by omega) (by omega)
  rw [Nat.or_comm, ← Nat.two_pow_add_eq_or_of_lt h1] at this
  rw [e, show IntKind.u32.wrap ((2 ^ i * y : Nat) : Int) = ((2 ^ i * y : Nat) : Int) from IntWalk.u32_in _ (by constructor <;> omega), this]
  rw [Int.natCast_add, Int.natCast_mul, Int.natCast_pow, Int.add_comm]
  rfl
theorem andNot128 (x : Int) (h0 : 0 ≤ x) (h1 : x < 256) : bits .andNot .u8 x 128 = x % 128 := by
  obtain ⟨x, rfl⟩ := Int.eq_ofNat_of_zero_le h0
  have h : (List.range 256).all (fun x => bits .andNot .u8 (x : Int) 128 == (x : Int) % 128) = true := by decide +kernel
  have := List.all_eq_true.1 h x (List.mem_range.2 (by omega))
  simpa using this
theorem and128 (x : Int) (h0 : 0 ≤ x) (h1 : x < 256) : (bits .and .u8 x 128 != 0) = decide (128 ≤ x) := by
  obtain ⟨x, rfl⟩ := Int.eq_ofNat_of_zero_le h0
  have h : (List.range 256).all (fun x => (bits .and .u8 (x : Int) 128 != 0) == decide (128 ≤ (x : Int))) = true := by decide +kernel
  have := List.all_eq_true.1 h x (List.mem_range.2 (by omega))
  exact eq_of_beq this
set_option maxRecDepth 100000 in
set_option maxHeartbeats 32000000 in
theorem dec_16 (w : World) (g o c : Nat) (hg : g < w.heap.size) (h16 : 16 ≤ c) (x0 x1 x3 x4 x5 x6 x7 x8 x10 x11 x12 x13 x14 x15 : Int) (hb : BytesL [x0, x1, 2, x3, x4, x5, x6, x7, x8, 4, x10, x11, x12, x13, x14, x15])
    (hc : ∀ j u, (u8V [x0, x1, 2, x3, x4, x5, x6, x7, x8, 4, x10, x11, x12, x13, x14, x15])[j]? = some u → w.cell? ⟨g, o + j, none⟩ = some u) (X : Ev) (hX : decE x0 x1 x3 x4 x5 x6 x7 x8 x10 x11 x12 x13 x14 x15 = X) (Y : Ev) (f : Int) (hY : (if validE X = true then (X, 0) else (zeroEv, 1)) = (Y, f)) :
    Calls Tryd.prog 31 #[.slice (some ⟨g, o, none⟩) 16 c] w (DecPost w Y f) := by
  obtain ⟨w1, hw1⟩ : ∃ w1, w.alloc (.cells #[.int .u16 0, .int .u32 0, .int .u16 0, .int .u8 0, .int .u8 0, .int .u8 0, .bool false, .int .u8 0, .int .u8 0, .int .u8 0] 26) = w1 := ⟨_, rfl⟩
  have R1 : Hid (Blk w1 w.heap.size 26 #[.int .u16 0, .int .u32 0, .int .u16 0, .int .u8 0, .int .u8 0, .int .u8 0, .bool false, .int .u8 0, .int .u8 0, .int .u8 0]) := hide (hw1 ▸ Blk.new w _ _)
  have hsz : w1.heap.size = w.heap.size + 1 := by rw [← hw1]; simp only [size_alloc]
  have B1 : Hid (Below w.heap.size w w1) := hide (hw1 ▸ (Below.refl _ _).alloc (Nat.le_refl _) _)
  have HC : Hid (∀ W, Below w1.heap.size w1 W → ∀ j u, (u8V [x0, x1, 2, x3, x4, x5, x6, x7, x8, 4, x10, x11, x12, x13, x14, x15])[j]? = some u → W.cell? ⟨g, o + j, none⟩ = some u) := hide (fun W hW j u hu => by
    rw [hW.cell (p := ⟨g, o + j, none⟩) (by show g < _; omega), ← hw1, World.cell?_alloc_lt w _ _ (by show g < _; omega)]
    exact hc j u hu)

  have ax0 := (hb x0 (by simp)).1
  have bx0 := (hb x0 (by simp)).2
  have ax1 := (hb x1 (by simp)).1
  have bx1 := (hb x1 (by simp)).2
  have ax3 := (hb x3 (by simp)).1
  have bx3 := (hb x3 (by simp)).2
  have ax4 := (hb x4 (by simp)).1
  have bx4 := (hb x4 (by simp)).2
  have ax5 := (hb x5 (by simp)).1
  have bx5 := (hb x5 (by simp)).2
  have ax6 := (hb x6 (by simp)).1
  have bx6 := (hb x6 (by simp)).2
  have ax7 := (hb x7 (by simp)).1
  have bx7 := (hb x7 (by simp)).2
  have ax8 := (hb x8 (by simp)).1
  have bx8 := (hb x8 (by simp)).2
  have ax10 := (hb x10 (by simp)).1
  have bx10 := (hb x10 (by simp)).2
  have ax11 := (hb x11 (by simp)).1
  have bx11 := (hb x11 (by simp)).2
  have ax12 := (hb x12 (by simp)).1
  have bx12 := (hb x12 (by simp)).2
  have ax13 := (hb x13 (by simp)).1
  have bx13 := (hb x13 (by simp)).2
  have ax14 := (hb x14 (by simp)).1
  have bx14 := (hb x14 (by simp)).2
  have ax15 := (hb x15 (by simp)).1
  have bx15 := (hb x15 (by simp)).2
  have wx0 : IntKind.u16.wrap x0 = x0 := IntWalk.u16_in _ (by omega)
  have wx1 : IntKind.u16.wrap x1 = x1 := IntWalk.u16_in _ (by omega)
  have wx7 : IntKind.u16.wrap x7 = x7 := IntWalk.u16_in _ (by omega)
  have wx8 : IntKind.u16.wrap x8 = x8 := IntWalk.u16_in _ (by omega)
  have wx3 : IntKind.u32.wrap x3 = x3 := IntWalk.u32_in _ (by omega)
  have wx4 : IntKind.u32.wrap x4 = x4 := IntWalk.u32_in _ (by omega)
  have wx5 : IntKind.u32.wrap x5 = x5 := IntWalk.u32_in _ (by omega)
  have wx6 : IntKind.u32.wrap x6 = x6 := IntWalk.u32_in _ (by omega)
  have o01 := shlOr16 x0 x1 ax0 bx0 ax1 bx1
  have o78 := shlOr16 x7 x8 ax7 bx7 ax8 bx8
  have o34 := shlOr32 8 256 (by decide) x3 x4 ax3 bx3 ax4 (by omega)
  have o345 := shlOr32 16 65536 (by decide) (x3 + 256 * x4) x5 (by omega) (by omega) ax5 (by omega)
  have o3456 := shlOr32 24 16777216 (by decide) (x3 + 256 * x4 + 65536 * x5) x6 (by omega) (by omega) ax6 (by omega)
  have oty := andNot128 x12 ax12 bx12
  have ods := and128 x12 ax12 bx12
  have harr : ∀ (W : World) (a : Option Addr) (c : Nat), (Instr.arrayAt 24 (.slice a 3 c)).run Tryd.prog W = .ok (.pointer a) W := fun W a c => run_arrayAt W 24 5 3 a 3 c rfl (Nat.le_refl _)
  have HW1 := hide hw1
  have hc13 : (c = 13) = False := by simp; omega
  subst hX
  obtain ⟨b, hbv⟩ : ∃ b, validE (decE x0 x1 x3 x4 x5 x6 x7 x8 x10 x11 x12 x13 x14 x15) = b := ⟨_, rfl⟩
  have HVA : Hid (∀ W, Calls Tryd.prog 20 #[.agg #[.int .u16 (x0 + 256 * x1), .int .u32 (x3 + 256 * x4 + 65536 * x5 + 16777216 * x6), .int .u16 (x7 + 256 * x8), .int .u8 x10, .int .u8 x11, .int .u8 (x12 % 128), .bool (decide (128 ≤ x12)), .int .u8 x13, .int .u8 x14, .int .u8 x15]] W fun z w' => z = .returned (.bool b) ∧ Below W.heap.size W w') := hide fun W => (valid_any W (decE x0 x1 x3 x4 x5 x6 x7 x8 x10 x11 x12 x13 x14 x15) b hbv).mono (fun z w' h => ⟨h.1, by rw [h.2]; exact (Below.refl _ _).alloc (Nat.le_refl _) _⟩)
  rw [hbv] at hY
  have HY := hide hY
  have hgw : w.heap.size < w1.heap.size := by omega
  clear hw1 hc hb hY hsz hbv
  have hcc2 : Hid (w1.cell? ⟨g, o + 2, none⟩ = some (.int .u8 2)) := hide ((unhide HC) w1 (Below.refl _ _) 2 _ rfl)
  have hcc9 : Hid (w1.cell? ⟨g, o + 9, none⟩ = some (.int .u8 4)) := hide ((unhide HC) w1 (Below.refl _ _) 9 _ rfl)
  go_enter Tryd.func31, Tryd.ntmps31
  go_upto_region 1 with fail
  rw [unhide HW1]
  have hcc2' := unhide hcc2
  have hcc9' := unhide hcc9
  go_upto_region 5 with fail
  clear hcc2' hcc9'
  have hS0 : Below w1.heap.size w1 w1.drew := (Below.refl _ _).drew
  refine wp_region_noPanic (wp_region_held_drew (S := fun W => Below w1.heap.size w1 W) (by kernel_rfl) hS0 (fun _ => ?_))
  refine th_take (i := 0) (v := ?_) rfl (by kernel_rfl) (by kernel_rfl) (by kernel_rfl) (Or.inl ⟨by rfl, fun wz hSw => ?_⟩) hS0 ?_
  rotate_left
  · go_simp
    with_reducible rfl
  simp only [Act.put, List.setIfInBounds_toArray, List.set_cons_zero, List.set_cons_succ]
  refine th_take (i := 1) (v := ?_) rfl (by kernel_rfl) (by kernel_rfl) (by kernel_rfl) (Or.inl ⟨by rfl, fun wz hSw => ?_⟩) hS0 ?_
  rotate_left
  · go_simp
    with_reducible rfl
  simp only [Act.put, List.setIfInBounds_toArray, List.set_cons_zero, List.set_cons_succ]
  refine th_take (i := 2) (v := .int .u8 x0) rfl (by kernel_rfl) (by kernel_rfl) (by kernel_rfl) (Or.inl ⟨by rfl, fun wz hSw => ?_⟩) hS0 ?_
  · have hc : wz.cell? ⟨g, o, none⟩ = some (.int .u8 x0) := (unhide HC) wz hSw 0 _ rfl
    go_simp
  simp only [Act.put, List.setIfInBounds_toArray, List.set_cons_zero, List.set_cons_succ]
  refine th_take (i := 3) (v := ?_) rfl (by kernel_rfl) (by kernel_rfl) (by kernel_rfl) (Or.inl ⟨by rfl, fun wz hSw => ?_⟩) hS0 ?_
  rotate_left
  · go_simp
    with_reducible rfl
  simp only [Act.put, List.setIfInBounds_toArray, List.set_cons_zero, List.set_cons_succ]
  refine th_take (i := 4) (v := ?_) rfl (by kernel_rfl) (by kernel_rfl) (by kernel_rfl) (Or.inl ⟨by rfl, fun wz hSw => ?_⟩) hS0 ?_
  rotate_left
  · go_simp
    with_reducible rfl
  simp only [Act.put, List.setIfInBounds_toArray, List.set_cons_zero, List.set_cons_succ]
  refine th_take (i := 5) (v := ?_) rfl (by kernel_rfl) (by kernel_rfl) (by kernel_rfl) (Or.inl ⟨by rfl, fun wz hSw => ?_⟩) hS0 ?_
  rotate_left
  · go_simp
    with_reducible rfl
  simp only [Act.put, List.setIfInBounds_toArray, List.set_cons_zero, List.set_cons_succ]
  refine th_take (i := 6) (v := .int .u8 x1) rfl (by kernel_rfl) (by kernel_rfl) (by kernel_rfl) (Or.inl ⟨by rfl, fun wz hSw => ?_⟩) hS0 ?_
  · have hc : wz.cell? ⟨g, o + 1, none⟩ = some (.int .u8 x1) := (unhide HC) wz hSw 1 _ rfl
    go_simp
  simp only [Act.put, List.setIfInBounds_toArray, List.set_cons_zero, List.set_cons_succ]
  refine th_take (i := 7) (v := ?_) rfl (by kernel_rfl) (by kernel_rfl) (by kernel_rfl) (Or.inl ⟨by rfl, fun wz hSw => ?_⟩) hS0 ?_
  rotate_left
  · go_simp
    with_reducible rfl
  simp only [Act.put, List.setIfInBounds_toArray, List.set_cons_zero, List.set_cons_succ]
  refine th_take (i := 8) (v := ?_) rfl (by kernel_rfl) (by kernel_rfl) (by kernel_rfl) (Or.inl ⟨by rfl, fun wz hSw => ?_⟩) hS0 ?_
  rotate_left
  · go_simp
    with_reducible rfl
  simp only [Act.put, List.setIfInBounds_toArray, List.set_cons_zero, List.set_cons_succ]
  refine th_take (i := 9) (v := .int .u16 (x0 + 256 * x1)) rfl (by kernel_rfl) (by kernel_rfl) (by kernel_rfl) (Or.inl ⟨by rfl, fun wz hSw => ?_⟩) hS0 ?_
  · have ho := o01
    go_simp
  simp only [Act.put, List.setIfInBounds_toArray, List.set_cons_zero, List.set_cons_succ]
  refine th_take (i := 10) (v := ?_) rfl (by kernel_rfl) (by kernel_rfl) (by kernel_rfl) (Or.inl ⟨by rfl, fun wz hSw => ?_⟩) hS0 ?_
  rotate_left
  · go_simp
    with_reducible rfl
  simp only [Act.put, List.setIfInBounds_toArray, List.set_cons_zero, List.set_cons_succ]
  refine th_take (i := 11) (v := ?_) rfl (by kernel_rfl) (by kernel_rfl) (by kernel_rfl) (Or.inl ⟨by rfl, fun wz hSw => ?_⟩) hS0 ?_
  rotate_left
  · go_simp
    with_reducible rfl
  simp only [Act.put, List.setIfInBounds_toArray, List.set_cons_zero, List.set_cons_succ]
  refine th_take (i := 12) (v := .int .u8 x3) rfl (by kernel_rfl) (by kernel_rfl) (by kernel_rfl) (Or.inl ⟨by rfl, fun wz hSw => ?_⟩) hS0 ?_
  · have hc : wz.cell? ⟨g, o + 3, none⟩ = some (.int .u8 x3) := (unhide HC) wz hSw 3 _ rfl
    go_simp
  simp only [Act.put, List.setIfInBounds_toArray, List.set_cons_zero, List.set_cons_succ]
  refine th_take (i := 13) (v := ?_) rfl (by kernel_rfl) (by kernel_rfl) (by kernel_rfl) (Or.inl ⟨by rfl, fun wz hSw => ?_⟩) hS0 ?_
  rotate_left
  · go_simp
    with_reducible rfl
  simp only [Act.put, List.setIfInBounds_toArray, List.set_cons_zero, List.set_cons_succ]
  refine th_take (i := 14) (v := ?_) rfl (by kernel_rfl) (by kernel_rfl) (by kernel_rfl) (Or.inl ⟨by rfl, fun wz hSw => ?_⟩) hS0 ?_
  rotate_left
  · go_simp
    with_reducible rfl
  simp only [Act.put, List.setIfInBounds_toArray, List.set_cons_zero, List.set_cons_succ]
  refine th_take (i := 15) (v := ?_) rfl (by kernel_rfl) (by kernel_rfl) (by kernel_rfl) (Or.inl ⟨by rfl, fun wz hSw => ?_⟩) hS0 ?_
  rotate_left
  · go_simp
    with_reducible rfl
  simp only [Act.put, List.setIfInBounds_toArray, List.set_cons_zero, List.set_cons_succ]
  refine th_take (i := 16) (v := .int .u8 x4) rfl (by kernel_rfl) (by kernel_rfl) (by kernel_rfl) (Or.inl ⟨by rfl, fun wz hSw => ?_⟩) hS0 ?_
  · have hc : wz.cell? ⟨g, o + 4, none⟩ = some (.int .u8 x4) := (unhide HC) wz hSw 4 _ rfl
    go_simp
  simp only [Act.put, List.setIfInBounds_toArray, List.set_cons_zero, List.set_cons_succ]
  refine th_take (i := 17) (v := ?_) rfl (by kernel_rfl) (by kernel_rfl) (by kernel_rfl) (Or.inl ⟨by rfl, fun wz hSw => ?_⟩) hS0 ?_
  rotate_left
  · go_simp
    with_reducible rfl
  simp only [Act.put, List.setIfInBounds_toArray, List.set_cons_zero, List.set_cons_succ]
  refine th_take (i := 18) (v := ?_) rfl (by kernel_rfl) (by kernel_rfl) (by kernel_rfl) (Or.inl ⟨by rfl, fun wz hSw => ?_⟩) hS0 ?_
  rotate_left
  · go_simp
    with_reducible rfl
  simp only [Act.put, List.setIfInBounds_toArray, List.set_cons_zero, List.set_cons_succ]
  refine th_take (i := 19) (v := .int .u32 (x3 + 256 * x4)) rfl (by kernel_rfl) (by kernel_rfl) (by kernel_rfl) (Or.inl ⟨by rfl, fun wz hSw => ?_⟩) hS0 ?_
  · have ho := o34
    go_simp
  simp only [Act.put, List.setIfInBounds_toArray, List.set_cons_zero, List.set_cons_succ]
  refine th_take (i := 20) (v := ?_) rfl (by kernel_rfl) (by kernel_rfl) (by kernel_rfl) (Or.inl ⟨by rfl, fun wz hSw => ?_⟩) hS0 ?_
  rotate_left
  · go_simp
    with_reducible rfl
  simp only [Act.put, List.setIfInBounds_toArray, List.set_cons_zero, List.set_cons_succ]
  refine th_take (i := 21) (v := ?_) rfl (by kernel_rfl) (by kernel_rfl) (by kernel_rfl) (Or.inl ⟨by rfl, fun wz hSw => ?_⟩) hS0 ?_
  rotate_left
  · go_simp
    with_reducible rfl
  simp only [Act.put, List.setIfInBounds_toArray, List.set_cons_zero, List.set_cons_succ]
  refine th_take (i := 22) (v := .int .u8 x5) rfl (by kernel_rfl) (by kernel_rfl) (by kernel_rfl) (Or.inl ⟨by rfl, fun wz hSw => ?_⟩) hS0 ?_
  · have hc : wz.cell? ⟨g, o + 5, none⟩ = some (.int .u8 x5) := (unhide HC) wz hSw 5 _ rfl
    go_simp
  simp only [Act.put, List.setIfInBounds_toArray, List.set_cons_zero, List.set_cons_succ]
  refine th_take (i := 23) (v := ?_) rfl (by kernel_rfl) (by kernel_rfl) (by kernel_rfl) (Or.inl ⟨by rfl, fun wz hSw => ?_⟩) hS0 ?_
  rotate_left
  · go_simp
    with_reducible rfl
  simp only [Act.put, List.setIfInBounds_toArray, List.set_cons_zero, List.set_cons_succ]
  refine th_take (i := 24) (v := ?_) rfl (by kernel_rfl) (by kernel_rfl) (by kernel_rfl) (Or.inl ⟨by rfl, fun wz hSw => ?_⟩) hS0 ?_
  rotate_left
  · go_simp
    with_reducible rfl
  simp only [Act.put, List.setIfInBounds_toArray, List.set_cons_zero, List.set_cons_succ]
  refine th_take (i := 25) (v := .int .u32 (x3 + 256 * x4 + 65536 * x5)) rfl (by kernel_rfl) (by kernel_rfl) (by kernel_rfl) (Or.inl ⟨by rfl, fun wz hSw => ?_⟩) hS0 ?_
  · have ho := o345
    go_simp
  simp only [Act.put, List.setIfInBounds_toArray, List.set_cons_zero, List.set_cons_succ]
  refine th_take (i := 26) (v := ?_) rfl (by kernel_rfl) (by kernel_rfl) (by kernel_rfl) (Or.inl ⟨by rfl, fun wz hSw => ?_⟩) hS0 ?_
  rotate_left
  · go_simp
    with_reducible rfl
  simp only [Act.put, List.setIfInBounds_toArray, List.set_cons_zero, List.set_cons_succ]
  refine th_take (i := 27) (v := ?_) rfl (by kernel_rfl) (by kernel_rfl) (by kernel_rfl) (Or.inl ⟨by rfl, fun wz hSw => ?_⟩) hS0 ?_
  rotate_left
  · go_simp
    with_reducible rfl
  simp only [Act.put, List.setIfInBounds_toArray, List.set_cons_zero, List.set_cons_succ]
  refine th_take (i := 28) (v := .int .u8 x6) rfl (by kernel_rfl) (by kernel_rfl) (by kernel_rfl) (Or.inl ⟨by rfl, fun wz hSw => ?_⟩) hS0 ?_
  · have hc : wz.cell? ⟨g, o + 6, none⟩ = some (.int .u8 x6) := (unhide HC) wz hSw 6 _ rfl
    go_simp
  simp only [Act.put, List.setIfInBounds_toArray, List.set_cons_zero, List.set_cons_succ]
  refine th_take (i := 29) (v := ?_) rfl (by kernel_rfl) (by kernel_rfl) (by kernel_rfl) (Or.inl ⟨by rfl, fun wz hSw => ?_⟩) hS0 ?_
  rotate_left
  · go_simp
    with_reducible rfl
  simp only [Act.put, List.setIfInBounds_toArray, List.set_cons_zero, List.set_cons_succ]
  refine th_take (i := 30) (v := ?_) rfl (by kernel_rfl) (by kernel_rfl) (by kernel_rfl) (Or.inl ⟨by rfl, fun wz hSw => ?_⟩) hS0 ?_
  rotate_left
  · go_simp
    with_reducible rfl
  simp only [Act.put, List.setIfInBounds_toArray, List.set_cons_zero, List.set_cons_succ]
  refine th_take (i := 31) (v := .int .u32 (x3 + 256 * x4 + 65536 * x5 + 16777216 * x6)) rfl (by kernel_rfl) (by kernel_rfl) (by kernel_rfl) (Or.inl ⟨by rfl, fun wz hSw => ?_⟩) hS0 ?_
  · have ho := o3456
    go_simp
  simp only [Act.put, List.setIfInBounds_toArray, List.set_cons_zero, List.set_cons_succ]
  refine th_take (i := 32) (v := ?_) rfl (by kernel_rfl) (by kernel_rfl) (by kernel_rfl) (Or.inl ⟨by rfl, fun wz hSw => ?_⟩) hS0 ?_
  rotate_left
  · go_simp
    with_reducible rfl
  simp only [Act.put, List.setIfInBounds_toArray, List.set_cons_zero, List.set_cons_succ]
  refine th_take (i := 33) (v := ?_) rfl (by kernel_rfl) (by kernel_rfl) (by kernel_rfl) (Or.inl ⟨by rfl, fun wz hSw => ?_⟩) hS0 ?_
  rotate_left
  · go_simp
    with_reducible rfl
  simp only [Act.put, List.setIfInBounds_toArray, List.set_cons_zero, List.set_cons_succ]
  refine th_take (i := 34) (v := .int .u8 x7) rfl (by kernel_rfl) (by kernel_rfl) (by kernel_rfl) (Or.inl ⟨by rfl, fun wz hSw => ?_⟩) hS0 ?_
  · have hc : wz.cell? ⟨g, o + 7, none⟩ = some (.int .u8 x7) := (unhide HC) wz hSw 7 _ rfl
    go_simp
  simp only [Act.put, List.setIfInBounds_toArray, List.set_cons_zero, List.set_cons_succ]
  refine th_take (i := 35) (v := ?_) rfl (by kernel_rfl) (by kernel_rfl) (by kernel_rfl) (Or.inl ⟨by rfl, fun wz hSw => ?_⟩) hS0 ?_
  rotate_left
  · go_simp
    with_reducible rfl
  simp only [Act.put, List.setIfInBounds_toArray, List.set_cons_zero, List.set_cons_succ]
  refine th_take (i := 36) (v := ?_) rfl (by kernel_rfl) (by kernel_rfl) (by kernel_rfl) (Or.inl ⟨by rfl, fun wz hSw => ?_⟩) hS0 ?_
  rotate_left
  · go_simp
    with_reducible rfl
  simp only [Act.put, List.setIfInBounds_toArray, List.set_cons_zero, List.set_cons_succ]
  refine th_take (i := 37) (v := ?_) rfl (by kernel_rfl) (by kernel_rfl) (by kernel_rfl) (Or.inl ⟨by rfl, fun wz hSw => ?_⟩) hS0 ?_
  rotate_left
  · go_simp
    with_reducible rfl
  simp only [Act.put, List.setIfInBounds_toArray, List.set_cons_zero, List.set_cons_succ]
  refine th_take (i := 38) (v := .int .u8 x8) rfl (by kernel_rfl) (by kernel_rfl) (by kernel_rfl) (Or.inl ⟨by rfl, fun wz hSw => ?_⟩) hS0 ?_
  · have hc : wz.cell? ⟨g, o + 8, none⟩ = some (.int .u8 x8) := (unhide HC) wz hSw 8 _ rfl
    go_simp
  simp only [Act.put, List.setIfInBounds_toArray, List.set_cons_zero, List.set_cons_succ]
  refine th_take (i := 39) (v := ?_) rfl (by kernel_rfl) (by kernel_rfl) (by kernel_rfl) (Or.inl ⟨by rfl, fun wz hSw => ?_⟩) hS0 ?_
  rotate_left
  · go_simp
    with_reducible rfl
  simp only [Act.put, List.setIfInBounds_toArray, List.set_cons_zero, List.set_cons_succ]
  refine th_take (i := 40) (v := ?_) rfl (by kernel_rfl) (by kernel_rfl) (by kernel_rfl) (Or.inl ⟨by rfl, fun wz hSw => ?_⟩) hS0 ?_
  rotate_left
  · go_simp
    with_reducible rfl
  simp only [Act.put, List.setIfInBounds_toArray, List.set_cons_zero, List.set_cons_succ]
  refine th_take (i := 41) (v := .int .u16 (x7 + 256 * x8)) rfl (by kernel_rfl) (by kernel_rfl) (by kernel_rfl) (Or.inl ⟨by rfl, fun wz hSw => ?_⟩) hS0 ?_
  · have ho := o78
    go_simp
  simp only [Act.put, List.setIfInBounds_toArray, List.set_cons_zero, List.set_cons_succ]
  refine th_take (i := 42) (v := ?_) rfl (by kernel_rfl) (by kernel_rfl) (by kernel_rfl) (Or.inl ⟨by rfl, fun wz hSw => ?_⟩) hS0 ?_
  rotate_left
  · go_simp
    with_reducible rfl
  simp only [Act.put, List.setIfInBounds_toArray, List.set_cons_zero, List.set_cons_succ]
  refine th_take (i := 43) (v := ?_) rfl (by kernel_rfl) (by kernel_rfl) (by kernel_rfl) (Or.inl ⟨by rfl, fun wz hSw => ?_⟩) hS0 ?_
  rotate_left
  · go_simp
    with_reducible rfl
  simp only [Act.put, List.setIfInBounds_toArray, List.set_cons_zero, List.set_cons_succ]
  refine th_take (i := 44) (v := .int .u8 x10) rfl (by kernel_rfl) (by kernel_rfl) (by kernel_rfl) (Or.inl ⟨by rfl, fun wz hSw => ?_⟩) hS0 ?_
  · have hc : wz.cell? ⟨g, o + 10, none⟩ = some (.int .u8 x10) := (unhide HC) wz hSw 10 _ rfl
    go_simp
  simp only [Act.put, List.setIfInBounds_toArray, List.set_cons_zero, List.set_cons_succ]
  refine th_take (i := 45) (v := ?_) rfl (by kernel_rfl) (by kernel_rfl) (by kernel_rfl) (Or.inl ⟨by rfl, fun wz hSw => ?_⟩) hS0 ?_
  rotate_left
  · go_simp
    with_reducible rfl
  simp only [Act.put, List.setIfInBounds_toArray, List.set_cons_zero, List.set_cons_succ]
  refine th_take (i := 46) (v := ?_) rfl (by kernel_rfl) (by kernel_rfl) (by kernel_rfl) (Or.inl ⟨by rfl, fun wz hSw => ?_⟩) hS0 ?_
  rotate_left
  · go_simp
    with_reducible rfl
  simp only [Act.put, List.setIfInBounds_toArray, List.set_cons_zero, List.set_cons_succ]
  refine th_take (i := 47) (v := .int .u8 x11) rfl (by kernel_rfl) (by kernel_rfl) (by kernel_rfl) (Or.inl ⟨by rfl, fun wz hSw => ?_⟩) hS0 ?_
  · have hc : wz.cell? ⟨g, o + 11, none⟩ = some (.int .u8 x11) := (unhide HC) wz hSw 11 _ rfl
    go_simp
  simp only [Act.put, List.setIfInBounds_toArray, List.set_cons_zero, List.set_cons_succ]
  refine th_take (i := 48) (v := ?_) rfl (by kernel_rfl) (by kernel_rfl) (by kernel_rfl) (Or.inl ⟨by rfl, fun wz hSw => ?_⟩) hS0 ?_
  rotate_left
  · go_simp
    with_reducible rfl
  simp only [Act.put, List.setIfInBounds_toArray, List.set_cons_zero, List.set_cons_succ]
  refine th_take (i := 49) (v := ?_) rfl (by kernel_rfl) (by kernel_rfl) (by kernel_rfl) (Or.inl ⟨by rfl, fun wz hSw => ?_⟩) hS0 ?_
  rotate_left
  · go_simp
    with_reducible rfl
  simp only [Act.put, List.setIfInBounds_toArray, List.set_cons_zero, List.set_cons_succ]
  refine th_take (i := 50) (v := .int .u8 x12) rfl (by kernel_rfl) (by kernel_rfl) (by kernel_rfl) (Or.inl ⟨by rfl, fun wz hSw => ?_⟩) hS0 ?_
  · have hc : wz.cell? ⟨g, o + 12, none⟩ = some (.int .u8 x12) := (unhide HC) wz hSw 12 _ rfl
    go_simp
  simp only [Act.put, List.setIfInBounds_toArray, List.set_cons_zero, List.set_cons_succ]
  refine th_take (i := 51) (v := .int .u8 (x12 % 128)) rfl (by kernel_rfl) (by kernel_rfl) (by kernel_rfl) (Or.inl ⟨by rfl, fun wz hSw => ?_⟩) hS0 ?_
  · have ho := oty
    go_simp
  simp only [Act.put, List.setIfInBounds_toArray, List.set_cons_zero, List.set_cons_succ]
  refine th_take (i := 52) (v := ?_) rfl (by kernel_rfl) (by kernel_rfl) (by kernel_rfl) (Or.inl ⟨by rfl, fun wz hSw => ?_⟩) hS0 ?_
  rotate_left
  · go_simp
    with_reducible rfl
  simp only [Act.put, List.setIfInBounds_toArray, List.set_cons_zero, List.set_cons_succ]
  refine th_take (i := 53) (v := ?_) rfl (by kernel_rfl) (by kernel_rfl) (by kernel_rfl) (Or.inl ⟨by rfl, fun wz hSw => ?_⟩) hS0 ?_
  rotate_left
  · go_simp
    with_reducible rfl
  simp only [Act.put, List.setIfInBounds_toArray, List.set_cons_zero, List.set_cons_succ]
  refine th_take (i := 54) (v := .int .u8 x12) rfl (by kernel_rfl) (by kernel_rfl) (by kernel_rfl) (Or.inl ⟨by rfl, fun wz hSw => ?_⟩) hS0 ?_
  · have hc : wz.cell? ⟨g, o + 12, none⟩ = some (.int .u8 x12) := (unhide HC) wz hSw 12 _ rfl
    go_simp
  simp only [Act.put, List.setIfInBounds_toArray, List.set_cons_zero, List.set_cons_succ]
  refine th_take (i := 55) (v := ?_) rfl (by kernel_rfl) (by kernel_rfl) (by kernel_rfl) (Or.inl ⟨by rfl, fun wz hSw => ?_⟩) hS0 ?_
  rotate_left
  · go_simp
    with_reducible rfl
  simp only [Act.put, List.setIfInBounds_toArray, List.set_cons_zero, List.set_cons_succ]
  refine th_take (i := 56) (v := .bool (decide (128 ≤ x12))) rfl (by kernel_rfl) (by kernel_rfl) (by kernel_rfl) (Or.inl ⟨by rfl, fun wz hSw => ?_⟩) hS0 ?_
  · have ho := ods
    go_simp
  simp only [Act.put, List.setIfInBounds_toArray, List.set_cons_zero, List.set_cons_succ]
  refine th_take (i := 57) (v := ?_) rfl (by kernel_rfl) (by kernel_rfl) (by kernel_rfl) (Or.inl ⟨by rfl, fun wz hSw => ?_⟩) hS0 ?_
  rotate_left
  · go_simp
    with_reducible rfl
  simp only [Act.put, List.setIfInBounds_toArray, List.set_cons_zero, List.set_cons_succ]
  refine th_take (i := 58) (v := ?_) rfl (by kernel_rfl) (by kernel_rfl) (by kernel_rfl) (Or.inl ⟨by rfl, fun wz hSw => ?_⟩) hS0 ?_
  rotate_left
  · go_simp
    with_reducible rfl
  simp only [Act.put, List.setIfInBounds_toArray, List.set_cons_zero, List.set_cons_succ]
  refine th_take (i := 59) (v := ?_) rfl (by kernel_rfl) (by kernel_rfl) (by kernel_rfl) (Or.inl ⟨by rfl, fun wz hSw => ?_⟩) hS0 ?_
  rotate_left
  · go_simp
    with_reducible rfl
  simp only [Act.put, List.setIfInBounds_toArray, List.set_cons_zero, List.set_cons_succ]
  refine th_take (i := 60) (v := .agg #[.int .u8 x13, .int .u8 x14, .int .u8 x15]) rfl (by kernel_rfl) (by kernel_rfl) (by kernel_rfl) (Or.inl ⟨by rfl, fun wz hSw => ?_⟩) hS0 ?_
  · have d13 : wz.cell? ⟨g, o + 13, none⟩ = some (.int .u8 x13) := (unhide HC) wz hSw 13 _ rfl
    have d14 : wz.cell? ⟨g, o + 14, none⟩ = some (.int .u8 x14) := (unhide HC) wz hSw 14 _ rfl
    have d15 : wz.cell? ⟨g, o + 15, none⟩ = some (.int .u8 x15) := (unhide HC) wz hSw 15 _ rfl
    go_simp
  simp only [Act.put, List.setIfInBounds_toArray, List.set_cons_zero, List.set_cons_succ]
  refine th_take (i := 61) (v := ?_) rfl (by kernel_rfl) (by kernel_rfl) (by kernel_rfl) (Or.inl ⟨by rfl, fun wz hSw => ?_⟩) hS0 ?_
  rotate_left
  · go_simp
    with_reducible rfl
  simp only [Act.put, List.setIfInBounds_toArray, List.set_cons_zero, List.set_cons_succ]
  refine th_one (i := 62) rfl (by kernel_rfl) (fun K hK => ?_)
  rw [if_pos (by rfl)]
  go_simp
  have hZ : Blk (w1.drew.alloc (.cells #[.int .u16 0, .int .u32 0, .int .u16 0, .int .u8 0, .int .u8 0, .int .u8 0, .bool false, .int .u8 0, .int .u8 0, .int .u8 0] 26)) w1.heap.size 26 #[.int .u16 0, .int .u32 0, .int .u16 0, .int .u8 0, .int .u8 0, .int .u8 0, .bool false, .int .u8 0, .int .u8 0, .int .u8 0] := Blk.new w1.drew _ _
  have hSa : Below w1.heap.size w1 (w1.drew.alloc (.cells #[.int .u16 0, .int .u32 0, .int .u16 0, .int .u8 0, .int .u8 0, .int .u8 0, .bool false, .int .u8 0, .int .u8 0, .int .u8 0] 26)) := hS0.alloc (Nat.le_refl _) _
  refine hK.out _ _ hSa (fun _ => ?_)
  clear hK K
  try simp only [Act.put, List.setIfInBounds_toArray, List.set_cons_zero, List.set_cons_succ]
  refine th_one (i := 63) rfl (by kernel_rfl) (fun K hK => ?_)
  refine step_store_blk (by rfl) 26 (.tmp 4) (.tmp 88) rfl w1.heap.size 26 _ #[.int .u16 (x0 + 256 * x1), .int .u32 (x3 + 256 * x4 + 65536 * x5 + 16777216 * x6), .int .u16 (x7 + 256 * x8), .int .u8 x10, .int .u8 x11, .int .u8 (x12 % 128), .bool (decide (128 ≤ x12)), .int .u8 x13, .int .u8 x14, .int .u8 x15] rfl rfl hZ rfl (by kernel_rfl) (by intro v hv; simp at hv; rcases hv with rfl | rfl | rfl | rfl | rfl | rfl | rfl | rfl | rfl | rfl <;> rfl) ?_
  intro w7 hb7 hg7
  have hS7 : Below w1.heap.size w1 w7 := hSa.grown hg7 (by simp only [size_alloc]; exact Nat.le_succ _) (fun j e => by injection e with e; omega)
  refine hK.out _ _ hS7 (fun _ => ?_)
  clear hK K
  try simp only [Act.put]
  refine wpAnyH_done (by kernel_rfl) (NoPanic.normal ?_) _
  have E7 := hide hb7
  have S7 := hide hS7
  have K7 := hide ((unhide R1).below hS7 (unhide R1).lt)
  clear hb7 hg7 hS7 hSa hZ hS0
  go_wp2_with (first | (refine wpList_load_row rfl 26 _ rfl w1.heap.size rfl 26 _ _ _ (unhide E7) Tryd.underlying26 rfl (by kernel_rfl) ?_) | fail)
  refine (unhide HVA _).mono ?_
  rintro e w8 ⟨rfl, hb8⟩
  have E8 := hide ((unhide E7).below hb8 (unhide E7).lt)
  have K8 := hide ((unhide K7).below hb8 (unhide K7).lt)
  have S8 := hide ((unhide S7).trans (hb8.mono (unhide S7).size))
  clear hb8
  cases b
  · skip
    go_wp2_with (first
      | (refine wpList_load_row rfl 26 _ rfl w1.heap.size rfl 26 _ _ _ (unhide E8) Tryd.underlying26 rfl (by kernel_rfl) ?_)
      | (refine wpList_store_blk rfl 26 (.tmp 2) (.tmp 92) rfl w.heap.size 26 _ #[.int .u16 0, .int .u32 0, .int .u16 0, .int .u8 0, .int .u8 0, .int .u8 0, .bool false, .int .u8 0, .int .u8 0, .int .u8 0] rfl rfl (unhide K8) rfl (by kernel_rfl) (by intro v hv; simp at hv; rcases hv with rfl | rfl | rfl | rfl | rfl | rfl | rfl | rfl | rfl | rfl <;> rfl) ?_
         intro w9 hb9 hg9
         have Z9 := hide hb9
         have B9 := hide (((unhide B1).trans ((unhide S8).mono (Nat.le_of_lt hgw))).grown hg9 (Nat.le_trans (Nat.le_of_lt hgw) (unhide S8).size) (fun j e => by injection e with e; omega))
         clear hb9 hg9)
      | fail)
    have hY := unhide HY
    simp at hY
    obtain ⟨rfl, rfl⟩ := hY
    exact bodyPost_ret (v := .tuple #[.agg #[.int .u16 0, .int .u32 0, .int .u16 0, .int .u8 0, .int .u8 0, .int .u8 0, .bool false, .int .u8 0, .int .u8 0, .int .u8 0], .int .i64 1]) (res2 rfl _ w.heap.size 26 #[.int .u16 0, .int .u32 0, .int .u16 0, .int .u8 0, .int .u8 0, .int .u8 0, .bool false, .int .u8 0, .int .u8 0, .int .u8 0] _ _ rfl rfl (unhide Z9) Tryd.underlying26 rfl (by kernel_rfl)) rfl (show DecPost w _ _ _ _ from ⟨rfl, unhide B9⟩)
  · skip
    go_wp2_with (first
      | (refine wpList_load_row rfl 26 _ rfl w1.heap.size rfl 26 _ _ _ (unhide E8) Tryd.underlying26 rfl (by kernel_rfl) ?_)
      | (refine wpList_store_blk rfl 26 (.tmp 2) (.tmp 93) rfl w.heap.size 26 _ #[.int .u16 (x0 + 256 * x1), .int .u32 (x3 + 256 * x4 + 65536 * x5 + 16777216 * x6), .int .u16 (x7 + 256 * x8), .int .u8 x10, .int .u8 x11, .int .u8 (x12 % 128), .bool (decide (128 ≤ x12)), .int .u8 x13, .int .u8 x14, .int .u8 x15] rfl rfl (unhide K8) rfl (by kernel_rfl) (by intro v hv; simp at hv; rcases hv with rfl | rfl | rfl | rfl | rfl | rfl | rfl | rfl | rfl | rfl <;> rfl) ?_
         intro w9 hb9 hg9
         have Z9 := hide hb9
         have B9 := hide (((unhide B1).trans ((unhide S8).mono (Nat.le_of_lt hgw))).grown hg9 (Nat.le_trans (Nat.le_of_lt hgw) (unhide S8).size) (fun j e => by injection e with e; omega))
         clear hb9 hg9)
      | fail)
    have hY := unhide HY
    simp at hY
    obtain ⟨rfl, rfl⟩ := hY
    exact bodyPost_ret (v := .tuple #[.agg #[.int .u16 (x0 + 256 * x1), .int .u32 (x3 + 256 * x4 + 65536 * x5 + 16777216 * x6), .int .u16 (x7 + 256 * x8), .int .u8 x10, .int .u8 x11, .int .u8 (x12 % 128), .bool (decide (128 ≤ x12)), .int .u8 x13, .int .u8 x14, .int .u8 x15], .int .i64 0]) (res2 rfl _ w.heap.size 26 #[.int .u16 (x0 + 256 * x1), .int .u32 (x3 + 256 * x4 + 65536 * x5 + 16777216 * x6), .int .u16 (x7 + 256 * x8), .int .u8 x10, .int .u8 x11, .int .u8 (x12 % 128), .bool (decide (128 ≤ x12)), .int .u8 x13, .int .u8 x14, .int .u8 x15] _ _ rfl rfl (unhide Z9) Tryd.underlying26 rfl (by kernel_rfl)) rfl (show DecPost w _ _ _ _ from ⟨rfl, unhide B9⟩)
end Go.Proofs.YtklffnfaigmjfaaDoor
