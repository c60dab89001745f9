/- The law VersionReads, walked: it returns true (printed by wip/gen_vreads.py). No condition but the table of powers and the world's shape. -/
import Derived.Test.YtbcbleonpaemgaaDoorVRParse
import Derived.Test.YtbcbleonpaemgaaDoorVAwake
import Derived.Deep.CutRange
import Derived.OpenShut
namespace Go.Proofs.YtbcbleonpaemgaaDoor
open Go.RowKit
theorem ba_take (l : List UInt8) (k : Nat) : (⟨l.toArray⟩ : ByteArray).extract 0 k = ⟨(l.take k).toArray⟩ := by
  apply ByteArray.ext
  apply Array.ext'
  simp
theorem ba_drop (l : List UInt8) (k : Nat) : (⟨l.toArray⟩ : ByteArray).extract k l.length = ⟨(l.drop k).toArray⟩ := by
  apply ByteArray.ext
  apply Array.ext'
  simp [List.take_of_length_le]
set_option maxRecDepth 100000 in
theorem sl_take (wx : World) (l : List UInt8) (k : Nat) (h : k ≤ l.length) : (Instr.slice 9 (.string ⟨l.toArray⟩) none (some (.int .i64 (k : Int))) none).run Tryd.prog wx = .ok (.string ⟨(l.take k).toArray⟩) wx := by
  have := run_slice_string_h (P := Tryd.prog) (w := wx) (t := 9) (s := ⟨l.toArray⟩) Tryd.underlying9 .i64 (k : Int) (by omega) (by simp [ByteArray.size]; omega)
  rw [this, Int.toNat_natCast, ba_take]
set_option maxRecDepth 100000 in
theorem sl_drop (wx : World) (l : List UInt8) (k : Nat) (h : k ≤ l.length) : (Instr.slice 9 (.string ⟨l.toArray⟩) (some (.int .i64 (k : Int))) none none).run Tryd.prog wx = .ok (.string ⟨(l.drop k).toArray⟩) wx := by
  have := run_slice_string_l (P := Tryd.prog) (w := wx) (t := 9) (s := ⟨l.toArray⟩) Tryd.underlying9 .i64 (k : Int) (by omega) (by simp [ByteArray.size]; omega)
  rw [this, Int.toNat_natCast]
  congr 2
  exact ba_drop l k
theorem fmtV_len (a b c : Nat) (ha : a < 1000) (hb : b < 1000) (hc : c < 1000) : 5 ≤ (fmtV a b c).length ∧ (fmtV a b c).length ≤ 11 := by
  have h1 := dd_len 2 a (by omega)
  have h2 := dd_len 2 b (by omega)
  have h3 := dd_len 2 c (by omega)
  have k : ∀ n, 1 ≤ (Lib.decDigits n).length := fun n => by
    rcases h : Lib.decDigits n with _ | _
    · exact absurd h (dd_ne n)
    · simp
  have k1 := k a
  have k2 := k b
  have k3 := k c
  simp only [fmtV, List.length_append, List.length_cons, List.length_nil]
  omega
set_option maxRecDepth 100000 in
set_option maxHeartbeats 16000000 in
theorem reads_walk (w : World) (hsh : w.ShapedOpen Tryd.prog) (sl : List UInt8) (hsl : sl.length ≤ maxLen) (a b c : Nat) (hua : a < 65536) (hub : b < 65536) (huc : c < 65536) (m : Nat) (hm : m < 256) (y : Nat) (hy : y < 256) (hP : Pow10At w) :
    Calls Tryd.prog 8 #[.string ⟨sl.toArray⟩, .int .u16 (a : Int), .int .u16 (b : Int), .int .u16 (c : Int), .int .u8 (m : Int), .int .u8 (y : Int)] w fun e w' => e = .returned (.bool true) ∧ Below w.heap.size w w' := by
  have HA := hide awake_any
  have HSH := hide hsh
  have HP := hide hP
  have CFM := hide fmt_ok
  have CPA := hide parse_any
  have CRP := hide rparse_any
  unfold maxLen at hsl
  have hz := size_list sl _ hsl
  have ta : (a : Int).tmod 1000 = ((a % 1000 : Nat) : Int) := by rw [Int.tmod_eq_emod_of_nonneg (by omega)]; omega
  have tb : (b : Int).tmod 1000 = ((b % 1000 : Nat) : Int) := by rw [Int.tmod_eq_emod_of_nonneg (by omega)]; omega
  have tc : (c : Int).tmod 1000 = ((c % 1000 : Nat) : Int) := by rw [Int.tmod_eq_emod_of_nonneg (by omega)]; omega
  have pa : (a : Int) % 1000 = ((a % 1000 : Nat) : Int) := by omega
  have pb : (b : Int) % 1000 = ((b % 1000 : Nat) : Int) := by omega
  have pc : (c : Int) % 1000 = ((c % 1000 : Nat) : Int) := by omega
  have la : a % 1000 < 1000 := by omega
  have lb : b % 1000 < 1000 := by omega
  have lc : c % 1000 < 1000 := by omega
  generalize a % 1000 = p at ta pa la
  generalize b % 1000 = q at tb pb lb
  generalize c % 1000 = r at tc pc lc
  obtain ⟨D, hD⟩ : ∃ D, fmtV p q r = D := ⟨_, rfl⟩
  have hpf := parse_fmtV p q r la lb lc
  have hDl := fmtV_len p q r la lb lc
  rw [show (((Lib.decDigits p ++ [46]) ++ Lib.decDigits q) ++ [46]) ++ Lib.decDigits r = D from hD] at hpf
  rw [hD] at hDl
  have HD := hide hD
  have HPF := hide hpf
  clear hsh hP hD hpf
  go_enter Tryd.func8, Tryd.ntmps8
  go_wp2_with fail
  refine (unhide HA _).mono ?_
  rintro e w1 ⟨rfl, hb1⟩
  have B1 := hide hb1
  clear hb1
  by_cases hbig : 300 < sl.length
  · have hbi : ((300 : Int) < (sl.length : Int)) = True := by simp; omega
    go_wp2_with fail
    go_ret
    exact ⟨rfl, unhide B1⟩
  have hbi : ((300 : Int) < (sl.length : Int)) = False := by simp; omega
  have hsl3 : sl.length ≤ 300 := by omega
  clear hbig hsl
  have P1 := hide ((unhide HP).below (unhide B1))
  obtain ⟨W2, hW2⟩ : ∃ W2, w1.alloc (.cells #[.int .i64 (p : Int), .int .i64 (q : Int), .int .i64 (r : Int)] 26) = W2 := ⟨_, rfl⟩
  obtain ⟨g, hg⟩ : ∃ g, w1.heap.size = g := ⟨_, rfl⟩
  have X2 : Hid (Blk W2 g 26 #[.int .i64 (p : Int), .int .i64 (q : Int), .int .i64 (r : Int)]) := hide (hg ▸ hW2 ▸ Blk.new w1 _ _)
  have B2 : Hid (Below w.heap.size w W2) := hide (hW2 ▸ (unhide B1).alloc (unhide B1).size _)
  have HW2 := hide hW2
  have HG := hide hg
  clear hW2 hg
  go_upto_region 6 with fail
  rw [unhide HW2, unhide HG]
  have x0 : W2.cell? ⟨g, 0, none⟩ = some (.int .i64 (p : Int)) := (unhide X2).cell 0
  have x1 : W2.cell? ⟨g, 1, none⟩ = some (.int .i64 (q : Int)) := (unhide X2).cell 1
  have x2 : W2.cell? ⟨g, 2, none⟩ = some (.int .i64 (r : Int)) := (unhide X2).cell 2
  have hgl : g < W2.heap.size := (unhide X2).lt
  go_wp2_with fail
  refine (unhide CFM _ ((unhide HP).below (unhide B2)) p q r la lb lc D (unhide HD)).mono ?_
  rintro e w3 ⟨rfl, hb3⟩
  have X3 := hide ((unhide X2).below hb3 (unhide X2).lt)
  have B3 := hide ((unhide B2).trans (hb3.mono (unhide B2).size))
  clear hb3 x0 x1 x2 hgl
  go_wp2_with fail
  refine (unhide CPA _ (shape_below (unhide HSH) (unhide B3)) ((unhide HP).below (unhide B3)) D (by omega) _ _ (unhide HPF)).mono ?_
  rintro e w4 ⟨rfl, hb4⟩
  have X4 := hide ((unhide X3).below hb4 (unhide X3).lt)
  have B4 := hide ((unhide B3).trans (hb4.mono (unhide B3).size))
  clear hb4
  have x0 : w4.cell? ⟨g, 0, none⟩ = some (.int .i64 (p : Int)) := (unhide X4).cell 0
  have x1 : w4.cell? ⟨g, 1, none⟩ = some (.int .i64 (q : Int)) := (unhide X4).cell 1
  have x2 : w4.cell? ⟨g, 2, none⟩ = some (.int .i64 (r : Int)) := (unhide X4).cell 2
  have hgl : g < w4.heap.size := (unhide X4).lt
  have hl5 : ((D.length : Int) < 5) = False := by simp; omega
  have hzD := size_list D 11 hDl.2
  obtain ⟨kk, hKl, hKt, hKm⟩ : ∃ kk, kk < D.length ∧ (m : Int).tmod (D.length : Int) = (kk : Int) ∧ (m : Int) % (D.length : Int) = (kk : Int) := ⟨m % D.length, Nat.mod_lt _ (by omega), by rw [Int.tmod_eq_emod_of_nonneg (by omega)]; exact (Int.natCast_emod _ _).symm, (Int.natCast_emod _ _).symm⟩
  have hD0 : ((D.length : Int) == 0) = false := beq_eq_false_iff_ne.2 (by omega)
  have B5 := hide ((unhide B4).alloc (unhide B4).size (.cells #[.int .i64 (p : Int), .int .i64 (q : Int), .int .i64 (r : Int)] 26))
  go_upto_region 11 with fail

  obtain ⟨W6, hW6⟩ : ∃ W6, w4.alloc (.cells #[.int .i64 (p : Int), .int .i64 (q : Int), .int .i64 (r : Int)] 26) = W6 := ⟨_, rfl⟩
  rw [hW6] at B5 ⊢
  clear hW6 x0 x1 x2 hgl X2 B1 B2 B3 B4 X3 X4
  obtain ⟨K1, hK1n⟩ : ∃ K1, kk + 1 = K1 := ⟨_, rfl⟩
  have hK1 : (kk : Int) + 1 = (K1 : Int) := by omega
  have hKw : IntKind.i64.wrap ((kk : Int) + 1) = (K1 : Int) := by rw [hK1]; exact IntWalk.i64_in _ (by omega)
  have hKw2 : IntKind.i64.wrap (K1 : Int) = (K1 : Int) := IntWalk.i64_in _ (by omega)
  have hS0 : Below W6.heap.size W6 W6.drew := (Below.refl _ _).drew
  refine wp_region_noPanic (wp_region_held_drew (S := fun W => Below W6.heap.size W6 W) (by kernel_rfl) hS0 (fun _ => ?_))
  refine th_take (i := 0) (v := ?_) rfl (by kernel_rfl) (by kernel_rfl) (by kernel_rfl) (Or.inl ⟨by rfl, fun wz hSw => ?_⟩) hS0 ?_
  rotate_left
  · go_simp
    with_reducible rfl
  simp only [Act.put, List.setIfInBounds_toArray, List.set_cons_zero, List.set_cons_succ]
  refine th_take (i := 1) (v := ?_) rfl (by kernel_rfl) (by kernel_rfl) (by kernel_rfl) (Or.inl ⟨by rfl, fun wz hSw => ?_⟩) hS0 ?_
  rotate_left
  · go_simp
    with_reducible rfl
  simp only [Act.put, List.setIfInBounds_toArray, List.set_cons_zero, List.set_cons_succ]
  refine th_take (i := 2) (v := ?_) rfl (by kernel_rfl) (by kernel_rfl) (by kernel_rfl) (Or.inl ⟨by rfl, fun wz hSw => ?_⟩) hS0 ?_
  rotate_left
  · go_simp
    with_reducible rfl
  simp only [Act.put, List.setIfInBounds_toArray, List.set_cons_zero, List.set_cons_succ]
  refine th_take (i := 3) (v := .string ⟨(D.take kk).toArray⟩) rfl (by kernel_rfl) (by kernel_rfl) (by kernel_rfl) (Or.inl ⟨by rfl, fun wz hSw => ?_⟩) hS0 ?_
  · have hq := sl_take wz D kk (by omega)
    go_simp
  simp only [Act.put, List.setIfInBounds_toArray, List.set_cons_zero, List.set_cons_succ]
  refine th_take (i := 4) (v := ?_) rfl (by kernel_rfl) (by kernel_rfl) (by kernel_rfl) (Or.inl ⟨by rfl, fun wz hSw => ?_⟩) hS0 ?_
  rotate_left
  · go_simp
    with_reducible rfl
  simp only [Act.put, List.setIfInBounds_toArray, List.set_cons_zero, List.set_cons_succ]
  refine th_take (i := 8) (v := ?_) rfl (by kernel_rfl) (by kernel_rfl) (by kernel_rfl) (Or.inl ⟨by rfl, fun wz hSw => ?_⟩) hS0 ?_
  rotate_left
  · go_simp
    with_reducible rfl
  simp only [Act.put, List.setIfInBounds_toArray, List.set_cons_zero, List.set_cons_succ]
  refine th_take (i := 9) (v := ?_) rfl (by kernel_rfl) (by kernel_rfl) (by kernel_rfl) (Or.inl ⟨by rfl, fun wz hSw => ?_⟩) hS0 ?_
  rotate_left
  · go_simp
    with_reducible rfl
  simp only [Act.put, List.setIfInBounds_toArray, List.set_cons_zero, List.set_cons_succ]
  refine th_take (i := 10) (v := .int .i64 (K1 : Int)) rfl (by kernel_rfl) (by kernel_rfl) (by kernel_rfl) (Or.inl ⟨by rfl, fun wz hSw => ?_⟩) hS0 ?_
  · skip
    go_simp
  simp only [Act.put, List.setIfInBounds_toArray, List.set_cons_zero, List.set_cons_succ]
  refine th_take (i := 11) (v := .string ⟨(D.drop K1).toArray⟩) rfl (by kernel_rfl) (by kernel_rfl) (by kernel_rfl) (Or.inl ⟨by rfl, fun wz hSw => ?_⟩) hS0 ?_
  · have hq := sl_drop wz D K1 (by omega)
    go_simp
  simp only [Act.put, List.setIfInBounds_toArray, List.set_cons_zero, List.set_cons_succ]
  refine th_take (i := 13) (v := ?_) rfl (by kernel_rfl) (by kernel_rfl) (by kernel_rfl) (Or.inl ⟨by rfl, fun wz hSw => ?_⟩) hS0 ?_
  rotate_left
  · go_simp
    with_reducible rfl
  simp only [Act.put, List.setIfInBounds_toArray, List.set_cons_zero, List.set_cons_succ]
  refine th_take (i := 14) (v := ?_) rfl (by kernel_rfl) (by kernel_rfl) (by kernel_rfl) (Or.inl ⟨by rfl, fun wz hSw => ?_⟩) hS0 ?_
  rotate_left
  · go_simp
    with_reducible rfl
  simp only [Act.put, List.setIfInBounds_toArray, List.set_cons_zero, List.set_cons_succ]
  refine th_take (i := 15) (v := .string ⟨(D.take kk).toArray⟩) rfl (by kernel_rfl) (by kernel_rfl) (by kernel_rfl) (Or.inl ⟨by rfl, fun wz hSw => ?_⟩) hS0 ?_
  · have hq := sl_take wz D kk (by omega)
    go_simp
  simp only [Act.put, List.setIfInBounds_toArray, List.set_cons_zero, List.set_cons_succ]
  refine th_take (i := 16) (v := ?_) rfl (by kernel_rfl) (by kernel_rfl) (by kernel_rfl) (Or.inl ⟨by rfl, fun wz hSw => ?_⟩) hS0 ?_
  rotate_left
  · go_simp
    with_reducible rfl
  simp only [Act.put, List.setIfInBounds_toArray, List.set_cons_zero, List.set_cons_succ]
  obtain ⟨E1, hE1⟩ : ∃ l, D ++ [48] = l := ⟨_, rfl⟩
  obtain ⟨E2, hE2⟩ : ∃ l, 48 :: D = l := ⟨_, rfl⟩
  have q1 : (⟨D.toArray⟩ : ByteArray) ++ ⟨#[48]⟩ = ⟨E1.toArray⟩ := by rw [show (⟨#[48]⟩ : ByteArray) = ⟨[48].toArray⟩ from rfl, app2s, hE1]
  have q2 : (⟨#[48]⟩ : ByteArray) ++ ⟨D.toArray⟩ = ⟨E2.toArray⟩ := by rw [show (⟨#[48]⟩ : ByteArray) = ⟨[48].toArray⟩ from rfl, app2s, ← hE2]; rfl
  have hE1l : E1.length ≤ 1000 := by rw [← hE1]; simp; omega
  have hE2l : E2.length ≤ 1000 := by rw [← hE2]; simp; omega
  have t1 : D.length ≤ 9223372036854775806 := by omega
  have t2 : 1 + D.length ≤ 9223372036854775807 := by omega
  clear hE1 hE2
  refine th_take (i := 17) (v := .string ⟨E1.toArray⟩) rfl (by kernel_rfl) (by kernel_rfl) (by kernel_rfl) (Or.inl ⟨by rfl, fun wz hSw => ?_⟩) hS0 ?_
  · have hq := q1
    go_simp
  simp only [Act.put, List.setIfInBounds_toArray, List.set_cons_zero, List.set_cons_succ]
  refine th_take (i := 18) (v := ?_) rfl (by kernel_rfl) (by kernel_rfl) (by kernel_rfl) (Or.inl ⟨by rfl, fun wz hSw => ?_⟩) hS0 ?_
  rotate_left
  · go_simp
    with_reducible rfl
  simp only [Act.put, List.setIfInBounds_toArray, List.set_cons_zero, List.set_cons_succ]
  refine th_take (i := 19) (v := .string ⟨E2.toArray⟩) rfl (by kernel_rfl) (by kernel_rfl) (by kernel_rfl) (Or.inl ⟨by rfl, fun wz hSw => ?_⟩) hS0 ?_
  · have hq := q2
    go_simp
  simp only [Act.put, List.setIfInBounds_toArray, List.set_cons_zero, List.set_cons_succ]
  refine th_take (i := 20) (v := ?_) rfl (by kernel_rfl) (by kernel_rfl) (by kernel_rfl) (Or.inl ⟨by rfl, fun wz hSw => ?_⟩) hS0 ?_
  rotate_left
  · go_simp
    with_reducible rfl
  simp only [Act.put, List.setIfInBounds_toArray, List.set_cons_zero, List.set_cons_succ]
  refine th_take (i := 21) (v := ?_) rfl (by kernel_rfl) (by kernel_rfl) (by kernel_rfl) (Or.inl ⟨by rfl, fun wz hSw => ?_⟩) hS0 ?_
  rotate_left
  · go_simp
    with_reducible rfl
  simp only [Act.put, List.setIfInBounds_toArray, List.set_cons_zero, List.set_cons_succ]
  refine th_take (i := 22) (v := .string ⟨(D.drop kk).toArray⟩) rfl (by kernel_rfl) (by kernel_rfl) (by kernel_rfl) (Or.inl ⟨by rfl, fun wz hSw => ?_⟩) hS0 ?_
  · have hq := sl_drop wz D kk (by omega)
    go_simp
  simp only [Act.put, List.setIfInBounds_toArray, List.set_cons_zero, List.set_cons_succ]
  refine th_take (i := 25) (v := ?_) rfl (by kernel_rfl) (by kernel_rfl) (by kernel_rfl) (Or.inl ⟨by rfl, fun wz hSw => ?_⟩) hS0 ?_
  rotate_left
  · go_simp
    with_reducible rfl
  simp only [Act.put, List.setIfInBounds_toArray, List.set_cons_zero, List.set_cons_succ]
  obtain ⟨cy, hcy⟩ : ∃ cy, UInt8.ofNat y = cy := ⟨_, rfl⟩
  have hcyn : cy.toNat = y := by rw [← hcy]; simp; omega
  obtain ⟨W7, hW7⟩ : ∃ W7, W6.alloc (.cells #[.int .u8 (y : Int)] 5) = W7 := ⟨_, rfl⟩
  obtain ⟨qy, hqy⟩ : ∃ q, W6.heap.size = q := ⟨_, rfl⟩
  have hrd : Reads W7.drew (qy + 1) 1 (some ⟨qy, 0, none⟩) 1 (bsV [cy]) := by
    have h := Reads.of_blk (Blk.new W6 5 #[Value.int .u8 (y : Int)]).drew 0 1 (by simp) (Nat.lt_succ_self W6.heap.size)
    rw [hW7, hqy] at h
    simpa [bsV, hcyn] using h
  have hcv := run_bytes_str (P := Tryd.prog) (c := 1) hrd 22 9 5 Tryd.underlying22 Tryd.underlying5 Tryd.underlying9
  have hS7 : Below W6.heap.size W6 W7.drew := hW7 ▸ ((Below.refl _ _).alloc (Nat.le_refl _) _).drew
  refine th_one (i := 5) rfl (by kernel_rfl) (fun K hK => ?_)
  rw [if_pos (by rfl)]
  go_simp
  try simp only [hW7, hqy]
  refine hK.out _ _ hS7 (fun _ => ?_)
  clear hK K
  try simp only [Act.put, List.setIfInBounds_toArray, List.set_cons_zero, List.set_cons_succ]
  refine th_one (i := 6) rfl (by kernel_rfl) (fun K hK => ?_)
  rw [if_pos (by rfl)]
  go_simp
  refine hK.out _ _ hS7 (fun _ => ?_)
  clear hK K
  try simp only [Act.put, List.setIfInBounds_toArray, List.set_cons_zero, List.set_cons_succ]
  obtain ⟨T1, hT1⟩ : ∃ l, D.take kk = l := ⟨_, rfl⟩
  obtain ⟨T2, hT2⟩ : ∃ l, D.drop K1 = l := ⟨_, rfl⟩
  obtain ⟨T3, hT3⟩ : ∃ l, D.drop kk = l := ⟨_, rfl⟩
  have hT1l : T1.length ≤ 11 := by rw [← hT1]; simp; omega
  have hT2l : T2.length ≤ 11 := by rw [← hT2]; simp; omega
  have hT3l : T3.length ≤ 11 := by rw [← hT3]; simp; omega
  rw [hT1, hT2, hT3]
  obtain ⟨E3, hE3⟩ : ∃ l, T1 ++ [cy] = l := ⟨_, rfl⟩
  obtain ⟨E4, hE4⟩ : ∃ l, E3 ++ T2 = l := ⟨_, rfl⟩
  have hE3l : E3.length ≤ 12 := by rw [← hE3]; simp; omega
  have hE4l : E4.length ≤ 30 := by rw [← hE4]; simp; omega
  have q3 : (⟨T1.toArray⟩ : ByteArray) ++ ⟨#[cy]⟩ = ⟨E3.toArray⟩ := by rw [show (⟨#[cy]⟩ : ByteArray) = ⟨[cy].toArray⟩ from rfl, app2s, hE3]
  have q4 : (⟨E3.toArray⟩ : ByteArray) ++ ⟨T2.toArray⟩ = ⟨E4.toArray⟩ := by rw [app2s, hE4]
  have t3 : T1.length ≤ 9223372036854775806 := by omega
  have t4 : E3.length + T2.length ≤ 9223372036854775807 := by omega
  clear hT1 hT2 hT3 hE3 hE4 hcv hrd
  refine th_take (i := 7) (v := .string ⟨E3.toArray⟩) rfl (by kernel_rfl) (by kernel_rfl) (by kernel_rfl) (Or.inl ⟨by rfl, fun wz hSw => ?_⟩) hS7 ?_
  · have hq := q3
    go_simp
  simp only [Act.put, List.setIfInBounds_toArray, List.set_cons_zero, List.set_cons_succ]
  refine th_take (i := 12) (v := .string ⟨E4.toArray⟩) rfl (by kernel_rfl) (by kernel_rfl) (by kernel_rfl) (Or.inl ⟨by rfl, fun wz hSw => ?_⟩) hS7 ?_
  · have hq := q4
    go_simp
  simp only [Act.put, List.setIfInBounds_toArray, List.set_cons_zero, List.set_cons_succ]
  obtain ⟨W8, hW8⟩ : ∃ W8, W7.alloc (.cells #[.string ⟨sl.toArray⟩, .string ⟨E4.toArray⟩, .string ⟨T1.toArray⟩, .string ⟨E1.toArray⟩, .string ⟨E2.toArray⟩, .string ⟨T3.toArray⟩] 9) = W8 := ⟨_, rfl⟩
  obtain ⟨qs, hqs⟩ : ∃ q, W7.heap.size = q := ⟨_, rfl⟩
  have QS : Hid (Blk W8 qs 9 #[.string ⟨sl.toArray⟩, .string ⟨E4.toArray⟩, .string ⟨T1.toArray⟩, .string ⟨E1.toArray⟩, .string ⟨E2.toArray⟩, .string ⟨T3.toArray⟩]) := hide (hqs ▸ hW8 ▸ Blk.new W7 _ _)
  have hS8 : Below W6.heap.size W6 W8.drew := hW8 ▸ (((show Below W6.heap.size W6 W7 from ⟨hS7.os, hW7 ▸ rfl, hS7.output, hS7.size, hS7.block⟩).alloc hS7.size _).drew)
  refine th_one (i := 23) rfl (by kernel_rfl) (fun K hK => ?_)
  rw [if_pos (by rfl)]
  go_simp
  try simp only [hW8, hqs]
  refine hK.out _ _ hS8 (fun _ => ?_)
  clear hK K
  try simp only [Act.put, List.setIfInBounds_toArray, List.set_cons_zero, List.set_cons_succ]
  refine th_take (i := 24) (v := ?_) rfl (by kernel_rfl) (by kernel_rfl) (by kernel_rfl) (Or.inl ⟨by rfl, fun wz hSw => ?_⟩) hS8 ?_
  rotate_left
  · go_simp
    with_reducible rfl
  simp only [Act.put, List.setIfInBounds_toArray, List.set_cons_zero, List.set_cons_succ]
  refine wpAnyH_done (by kernel_rfl) (NoPanic.normal ?_) _
  have B8 : Hid (Below w.heap.size w W8.drew) := hide ((unhide B5).trans (hS8.mono (unhide B5).size))
  have BW := hide (Below.refl W8.drew.heap.size W8.drew)
  have QD : Hid (Blk W8.drew qs 9 #[.string ⟨sl.toArray⟩, .string ⟨E4.toArray⟩, .string ⟨T1.toArray⟩, .string ⟨E1.toArray⟩, .string ⟨E2.toArray⟩, .string ⟨T3.toArray⟩]) := hide (unhide QS).drew
  obtain ⟨w8, hw8⟩ : ∃ w8, W8.drew = w8 := ⟨_, rfl⟩
  rw [hw8] at B8 BW QD ⊢
  clear hw8 hS0 hS7 hS8 hW7 hqy hW8 hqs QS q1 q2 q3 q4 t1 t2 t3 t4 hK1 hKw hKw2 hKm hKt hcy hcyn B5 P1
  go_wp2_with fail
  go_loopw [96] (fun i wr => ∃ j : Nat, j ≤ 6 ∧ i = .int .i64 j ∧ Below w8.heap.size w8 wr) (fun i _ => 6 - (intOf i).toNat)
  case atStart => exact ⟨0, by omega, rfl, unhide BW⟩
  case round =>
    obtain ⟨j, hj, rfl, hB⟩ := hrel
    have BB := hide hB
    have B9 := hide ((unhide B8).trans (hB.mono (unhide B8).size))
    have hql := (unhide QD).below hB (unhide QD).lt
    clear hB
    by_cases hjt : j < 6
    · obtain ⟨xl, hcl, hxl⟩ : ∃ xl : List UInt8, wr.cell? ⟨qs, j, none⟩ = some (.string ⟨xl.toArray⟩) ∧ xl.length ≤ 1000000 := by
        rcases (show j = 0 ∨ j = 1 ∨ j = 2 ∨ j = 3 ∨ j = 4 ∨ j = 5 by omega) with rfl | rfl | rfl | rfl | rfl | rfl
        · exact ⟨sl, hql.cell 0, by omega⟩
        · exact ⟨E4, hql.cell 1, by omega⟩
        · exact ⟨T1, hql.cell 2, by omega⟩
        · exact ⟨E1, hql.cell 3, by omega⟩
        · exact ⟨E2, hql.cell 4, by omega⟩
        · exact ⟨T3, hql.cell 5, by omega⟩
      have hqsl : qs < wr.heap.size := hql.lt
      have hjt2 : (j : Int) < 6 := by omega
      obtain ⟨⟨⟨va, vb, vc⟩, ve⟩, hv⟩ : ∃ r, parseV xl = r := ⟨_, rfl⟩
      have HV := hide hv
      clear hql hv
      go_wp2_with fail
      refine (unhide CPA _ (shape_below (unhide HSH) (unhide B9)) ((unhide HP).below (unhide B9)) xl hxl _ _ (unhide HV)).mono ?_
      rintro e w10 ⟨rfl, hb⟩
      have B10 := hide ((unhide BB).trans (hb.mono (unhide BB).size))
      dsimp only
      obtain ⟨W11, hW11⟩ : ∃ W, w10.alloc (.cells #[.int .i64 va, .int .i64 vb, .int .i64 vc] 26) = W := ⟨_, rfl⟩
      obtain ⟨g1, hg1⟩ : ∃ q, w10.heap.size = q := ⟨_, rfl⟩
      have X11 : Hid (Blk W11 g1 26 #[.int .i64 va, .int .i64 vb, .int .i64 vc]) := hide (hg1 ▸ hW11 ▸ Blk.new w10 _ _)
      have B11 : Hid (Below w8.heap.size w8 W11) := hide (hW11 ▸ (unhide B10).alloc (unhide B10).size _)
      have HW11 := hide hW11
      have HG1 := hide hg1
      clear hb hcl hW11 hg1
      go_upto_region 15 with fail
      rw [unhide HW11, unhide HG1]
      go_wp2_with fail
      refine (unhide CRP _ xl hxl _ _ (unhide HV)).mono ?_
      rintro e w12 ⟨rfl, hb⟩
      have B12 := hide ((unhide B11).trans (hb.mono (unhide B11).size))
      have X12 := (unhide X11).below hb (unhide X11).lt
      have y0 : w12.cell? ⟨g1, 0, none⟩ = some (.int .i64 va) := X12.cell 0
      have y1 : w12.cell? ⟨g1, 1, none⟩ = some (.int .i64 vb) := X12.cell 1
      have y2 : w12.cell? ⟨g1, 2, none⟩ = some (.int .i64 vc) := X12.cell 2
      have hg1l : g1 < w12.heap.size := X12.lt
      have B13 := hide ((unhide B12).alloc (unhide B12).size (.cells #[.int .i64 va, .int .i64 vb, .int .i64 vc] 26))
      clear hb X12
      dsimp only
      go_wp2_with fail
      go_roundw
      case rel => exact ⟨j + 1, by omega, by go_num, unhide B13⟩
      case measure => simp [intOf]; omega
    · obtain rfl : j = 6 := by omega
      go_wp2_with fail
      go_ret
      exact ⟨rfl, unhide B9⟩



theorem reads_law (w : World) (hsh : w.ShapedOpen Tryd.prog) (s : ByteArray) (hs : s.size ≤ maxLen) (a : Int) (wa : (Lit.int .u16 a).wf = true) (b : Int) (wb : (Lit.int .u16 b).wf = true) (c : Int) (wc : (Lit.int .u16 c).wf = true) (m : Int) (wm : (Lit.int .u8 m).wf = true) (y : Int) (wy : (Lit.int .u8 y).wf = true) (hP : Pow10At w) :
    Calls Tryd.prog 8 #[.string s, .int .u16 a, .int .u16 b, .int .u16 c, .int .u8 m, .int .u8 y] w fun e w' => e = .returned (.bool true) ∧ Below w.heap.size w w' := by
  have ha := bounds_u16 wa
  have hb := bounds_u16 wb
  have hc := bounds_u16 wc
  have hm := bounds_u8 wm
  have hy := bounds_u8 wy
  obtain ⟨a, rfl⟩ := Int.eq_ofNat_of_zero_le ha.1
  obtain ⟨b, rfl⟩ := Int.eq_ofNat_of_zero_le hb.1
  obtain ⟨c, rfl⟩ := Int.eq_ofNat_of_zero_le hc.1
  obtain ⟨m, rfl⟩ := Int.eq_ofNat_of_zero_le hm.1
  obtain ⟨y, rfl⟩ := Int.eq_ofNat_of_zero_le hy.1
  obtain ⟨d⟩ := s
  have h : (⟨d⟩ : ByteArray) = ⟨d.toList.toArray⟩ := by simp
  rw [h]
  exact reads_walk w hsh d.toList hs a b c (by omega) (by omega) (by omega) m (by omega) y (by omega) hP
end Go.Proofs.YtbcbleonpaemgaaDoor
