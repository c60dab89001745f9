/- The reference's Format of a version (printed by wip/gen_vrfmt.py). No condition. -/
import Derived.Test.YtbcbleonpaemgaaDoorVDigits
import Derived.Test.YtbcbleonpaemgaaDoorHHeld
namespace Go.Proofs.YtbcbleonpaemgaaDoor
open Go.RowKit
def fmtV (a b c : Nat) : List UInt8 := (((Lib.decDigits a ++ [46]) ++ Lib.decDigits b) ++ [46]) ++ Lib.decDigits c
theorem rfmt_bad (w : World) (x : Ver) (hv : validV x = false) :
    Calls Tryd.prog 13 #[.agg #[.int .i64 x.a, .int .i64 x.b, .int .i64 x.c]] w fun e w' => e = .returned (.tuple #[.string ⟨#[]⟩, .int .i64 2]) ∧ Below w.heap.size w w' := by
  have HV := hide fun W => rval_any W x false hv
  obtain ⟨a, b, c⟩ := x
  clear hv
  dsimp only at HV ⊢
  go_enter Tryd.func13, Tryd.ntmps13
  go_wp2_with fail
  refine (unhide HV _).mono ?_
  rintro e w1 ⟨rfl, rfl⟩
  go_wp2_with fail
  go_ret2
  exact ⟨rfl, below2 _ _ _⟩
set_option maxRecDepth 100000 in
set_option maxHeartbeats 8000000 in
theorem rfmt_ok (w : World) (a b c : Nat) (ha : a < 1000) (hb : b < 1000) (hc : c < 1000) (D : List UInt8) (hD : fmtV a b c = D) :
    Calls Tryd.prog 13 #[.agg #[.int .i64 (a : Int), .int .i64 (b : Int), .int .i64 (c : Int)]] w fun e w' => e = .returned (.tuple #[.string ⟨D.toArray⟩, .int .i64 0]) ∧ Below w.heap.size w w' := by
  have hv : validV ⟨a, b, c⟩ = true := by simp [validV, validR, inN]; omega
  have HV := hide fun W => rval_any W ⟨a, b, c⟩ true hv
  dsimp only at HV
  obtain ⟨D1, h1⟩ : ∃ l, Lib.decDigits a = l := ⟨_, rfl⟩
  obtain ⟨D2, h2⟩ : ∃ l, Lib.decDigits b = l := ⟨_, rfl⟩
  obtain ⟨D3, h3⟩ : ∃ l, Lib.decDigits c = l := ⟨_, rfl⟩
  have G1 := hide fun W => rdig_any W a ha D1 h1
  have G2 := hide fun W => rdig_any W b hb D2 h2
  have G3 := hide fun W => rdig_any W c hc D3 h3
  have l1 : D1.length ≤ 3 := h1 ▸ dd_len 2 a (by omega)
  have l2 : D2.length ≤ 3 := h2 ▸ dd_len 2 b (by omega)
  have l3 : D3.length ≤ 3 := h3 ▸ dd_len 2 c (by omega)
  unfold fmtV at hD
  rw [h1, h2, h3] at hD
  obtain ⟨S1, e1⟩ : ∃ l, D1 ++ [46] = l := ⟨_, rfl⟩
  rw [e1] at hD
  obtain ⟨S2, e2⟩ : ∃ l, S1 ++ D2 = l := ⟨_, rfl⟩
  rw [e2] at hD
  obtain ⟨S3, e3⟩ : ∃ l, S2 ++ [46] = l := ⟨_, rfl⟩
  rw [e3] at hD
  have m1 : S1.length ≤ 4 := by rw [← e1]; simp; omega
  have m2 : S2.length ≤ 7 := by rw [← e2]; simp; omega
  have m3 : S3.length ≤ 8 := by rw [← e3]; simp; omega
  have q1 : (⟨D1.toArray⟩ : ByteArray) ++ ⟨#[46]⟩ = ⟨S1.toArray⟩ := by rw [show (⟨#[46]⟩ : ByteArray) = ⟨[46].toArray⟩ from rfl, app2s, e1]
  have q2 : (⟨S1.toArray⟩ : ByteArray) ++ ⟨D2.toArray⟩ = ⟨S2.toArray⟩ := by rw [app2s, e2]
  have q3 : (⟨S2.toArray⟩ : ByteArray) ++ ⟨#[46]⟩ = ⟨S3.toArray⟩ := by rw [show (⟨#[46]⟩ : ByteArray) = ⟨[46].toArray⟩ from rfl, app2s, e3]
  have q4 : (⟨S3.toArray⟩ : ByteArray) ++ ⟨D3.toArray⟩ = ⟨D.toArray⟩ := by rw [app2s, hD]
  have t1 : D1.length ≤ 9223372036854775806 := by omega
  have t2 : S1.length + D2.length ≤ 9223372036854775807 := by omega
  have t3 : S2.length ≤ 9223372036854775806 := by omega
  have t4 : S3.length + D3.length ≤ 9223372036854775807 := by omega
  obtain ⟨W1, hW1⟩ : ∃ W1, w.alloc (.cells #[.int .i64 (a : Int), .int .i64 (b : Int), .int .i64 (c : Int)] 26) = W1 := ⟨_, rfl⟩
  have X1 : Hid (Blk W1 w.heap.size 26 #[.int .i64 (a : Int), .int .i64 (b : Int), .int .i64 (c : Int)]) := hide (hW1 ▸ Blk.new w _ _)
  have B1 : Hid (Below w.heap.size w W1) := hide (hW1 ▸ (Below.refl _ _).alloc (Nat.le_refl _) _)
  have HW1 := hide hW1
  clear hv h1 h2 h3 e1 e2 e3 hD hW1 ha hb hc
  go_enter Tryd.func13, Tryd.ntmps13
  go_wp2_with fail
  rw [unhide HW1]
  refine (unhide HV _).mono ?_
  rintro e W2 ⟨rfl, rfl⟩
  go_upto_region 3 with fail
  obtain ⟨W3, hW3⟩ : ∃ W3, W1.alloc (.cells #[.int .i64 (a : Int), .int .i64 (b : Int), .int .i64 (c : Int)] 26) = W3 := ⟨_, rfl⟩
  have X3 : Hid (Blk W3 w.heap.size 26 #[.int .i64 (a : Int), .int .i64 (b : Int), .int .i64 (c : Int)]) := hide (hW3 ▸ (unhide X1).alloc _)
  have B3 : Hid (Below w.heap.size w W3) := hide (hW3 ▸ (unhide B1).alloc (unhide B1).size _)
  rw [hW3]
  clear hW3
  have HC : Hid (∀ W, Below W3.heap.size W3 W → Blk W w.heap.size 26 #[.int .i64 (a : Int), .int .i64 (b : Int), .int .i64 (c : Int)]) := hide (fun W hW => (unhide X3).below hW (unhide X3).lt)
  have hS0 : Below W3.heap.size W3 W3.drew := (Below.refl _ _).drew
  refine wp_region_noPanic (wp_region_held_drew (S := fun W => Below W3.heap.size W3 W) (by kernel_rfl) hS0 (fun _ => ?_))
  refine th_take (i := 0) (v := ?_) rfl (by kernel_rfl) (by kernel_rfl) (by kernel_rfl) (Or.inl ⟨by rfl, fun wz hSw => ?_⟩) hS0 ?_
  rotate_left
  · go_simp
    with_reducible rfl
  simp only [Act.put, List.setIfInBounds_toArray, List.set_cons_zero, List.set_cons_succ]
  refine th_take (i := 1) (v := .int .i64 (a : Int)) rfl (by kernel_rfl) (by kernel_rfl) (by kernel_rfl) (Or.inl ⟨by rfl, fun wz hSw => ?_⟩) hS0 ?_
  · have hc : wz.cell? ⟨w.heap.size, 0, none⟩ = some (.int .i64 (a : Int)) := ((unhide HC) wz hSw).cell 0
    go_simp
  simp only [Act.put, List.setIfInBounds_toArray, List.set_cons_zero, List.set_cons_succ]
  refine th_take (i := 4) (v := ?_) rfl (by kernel_rfl) (by kernel_rfl) (by kernel_rfl) (Or.inl ⟨by rfl, fun wz hSw => ?_⟩) hS0 ?_
  rotate_left
  · go_simp
    with_reducible rfl
  simp only [Act.put, List.setIfInBounds_toArray, List.set_cons_zero, List.set_cons_succ]
  refine th_take (i := 5) (v := .int .i64 (b : Int)) rfl (by kernel_rfl) (by kernel_rfl) (by kernel_rfl) (Or.inl ⟨by rfl, fun wz hSw => ?_⟩) hS0 ?_
  · have hc : wz.cell? ⟨w.heap.size, 1, none⟩ = some (.int .i64 (b : Int)) := ((unhide HC) wz hSw).cell 1
    go_simp
  simp only [Act.put, List.setIfInBounds_toArray, List.set_cons_zero, List.set_cons_succ]
  refine th_take (i := 9) (v := ?_) rfl (by kernel_rfl) (by kernel_rfl) (by kernel_rfl) (Or.inl ⟨by rfl, fun wz hSw => ?_⟩) hS0 ?_
  rotate_left
  · go_simp
    with_reducible rfl
  simp only [Act.put, List.setIfInBounds_toArray, List.set_cons_zero, List.set_cons_succ]
  refine th_take (i := 10) (v := .int .i64 (c : Int)) rfl (by kernel_rfl) (by kernel_rfl) (by kernel_rfl) (Or.inl ⟨by rfl, fun wz hSw => ?_⟩) hS0 ?_
  · have hc : wz.cell? ⟨w.heap.size, 2, none⟩ = some (.int .i64 (c : Int)) := ((unhide HC) wz hSw).cell 2
    go_simp
  simp only [Act.put, List.setIfInBounds_toArray, List.set_cons_zero, List.set_cons_succ]
  refine th_one (i := 2) rfl (by kernel_rfl) (fun K hK => ?_)
  rw [if_pos (by rfl)]
  go_simp
  refine (unhide G1 _).mono ?_
  rintro e w4 ⟨rfl, hb⟩
  have hS4 : Below W3.heap.size W3 w4 := hS0.trans (hb.mono hS0.size)
  clear hb
  refine hK.out _ _ hS4 (fun _ => ?_)
  clear hK K
  try simp only [Act.put, List.setIfInBounds_toArray, List.set_cons_zero, List.set_cons_succ]
  refine th_take (i := 3) (v := .string ⟨S1.toArray⟩) rfl (by kernel_rfl) (by kernel_rfl) (by kernel_rfl) (Or.inl ⟨by rfl, fun wz hSw => ?_⟩) hS4 ?_
  · have hq := q1
    go_simp
  simp only [Act.put, List.setIfInBounds_toArray, List.set_cons_zero, List.set_cons_succ]
  refine th_one (i := 6) rfl (by kernel_rfl) (fun K hK => ?_)
  rw [if_pos (by rfl)]
  go_simp
  refine (unhide G2 _).mono ?_
  rintro e w5 ⟨rfl, hb⟩
  have hS5 : Below W3.heap.size W3 w5 := hS4.trans (hb.mono hS4.size)
  clear hb
  refine hK.out _ _ hS5 (fun _ => ?_)
  clear hK K
  try simp only [Act.put, List.setIfInBounds_toArray, List.set_cons_zero, List.set_cons_succ]
  refine th_take (i := 7) (v := .string ⟨S2.toArray⟩) rfl (by kernel_rfl) (by kernel_rfl) (by kernel_rfl) (Or.inl ⟨by rfl, fun wz hSw => ?_⟩) hS5 ?_
  · have hq := q2
    go_simp
  simp only [Act.put, List.setIfInBounds_toArray, List.set_cons_zero, List.set_cons_succ]
  refine th_take (i := 8) (v := .string ⟨S3.toArray⟩) rfl (by kernel_rfl) (by kernel_rfl) (by kernel_rfl) (Or.inl ⟨by rfl, fun wz hSw => ?_⟩) hS5 ?_
  · have hq := q3
    go_simp
  simp only [Act.put, List.setIfInBounds_toArray, List.set_cons_zero, List.set_cons_succ]
  refine th_one (i := 11) rfl (by kernel_rfl) (fun K hK => ?_)
  rw [if_pos (by rfl)]
  go_simp
  refine (unhide G3 _).mono ?_
  rintro e w6 ⟨rfl, hb⟩
  have hS6 : Below W3.heap.size W3 w6 := hS5.trans (hb.mono hS5.size)
  clear hb
  refine hK.out _ _ hS6 (fun _ => ?_)
  clear hK K
  try simp only [Act.put, List.setIfInBounds_toArray, List.set_cons_zero, List.set_cons_succ]
  refine th_take (i := 12) (v := .string ⟨D.toArray⟩) rfl (by kernel_rfl) (by kernel_rfl) (by kernel_rfl) (Or.inl ⟨by rfl, fun wz hSw => ?_⟩) hS6 ?_
  · have hq := q4
    go_simp
  simp only [Act.put, List.setIfInBounds_toArray, List.set_cons_zero, List.set_cons_succ]
  refine th_take (i := 13) (v := ?_) rfl (by kernel_rfl) (by kernel_rfl) (by kernel_rfl) (Or.inl ⟨by rfl, fun wz hSw => ?_⟩) hS6 ?_
  rotate_left
  · go_simp
    with_reducible rfl
  simp only [Act.put, List.setIfInBounds_toArray, List.set_cons_zero, List.set_cons_succ]
  refine th_take (i := 14) (v := ?_) rfl (by kernel_rfl) (by kernel_rfl) (by kernel_rfl) (Or.inl ⟨by rfl, fun wz hSw => ?_⟩) hS6 ?_
  rotate_left
  · go_simp
    with_reducible rfl
  simp only [Act.put, List.setIfInBounds_toArray, List.set_cons_zero, List.set_cons_succ]
  refine wpAnyH_done (by kernel_rfl) (NoPanic.normal ?_) _
  have B6 := hide ((unhide B3).trans (hS6.mono (unhide B3).size))
  clear hS0 hS4 hS5 hS6
  go_wp2_with fail
  go_ret2
  exact ⟨rfl, unhide B6⟩
end Go.Proofs.YtbcbleonpaemgaaDoor
