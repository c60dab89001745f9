/- The law EventTexts, walked: it returns true (printed by wip/gen_etexts.py). No condition but the two tables and the world's shape. -/
import Derived.Test.YtklffnfaigmjfaaDoorEParseW
import Derived.Test.YtklffnfaigmjfaaDoorERetP
import Derived.Test.YtklffnfaigmjfaaDoorERFmt
import Derived.Test.YtklffnfaigmjfaaDoorEDText
import Derived.Test.YtklffnfaigmjfaaDoorEAwake
import Derived.Test.YtklffnfaigmjfaaDoorEEq
import Derived.Test.YtklffnfaigmjfaaDoorHeld
namespace Go.Proofs.YtklffnfaigmjfaaDoor
open Go.RowKit
theorem dice_roll0 (w : World) (B : Nat) (A : Option Addr) (n c : Nat) (zs : List Int) (hn : n ≤ 600) (hr : Reads w B 1 A n (intV zs)) (hB : B ≤ w.heap.size) : DiceOk (w.alloc (.cells #[.slice A n c, .int .i64 0] 66)) B w.heap.size :=
  ⟨A, n, c, 0, zs, Nat.zero_le _, hn, Blk.new w _ _, hr.alloc hB _, hB⟩
def fmtRE (e : Ev) : List UInt8 × Int := if validE e = true then (fmtE e, 0) else ([], 1)
theorem fmt_bad_ev (w : World) (e : Ev) (hv : validE e = false) : Calls Tryd.prog 25 #[.agg e.c] w fun z w' => z = .returned (.tuple #[.string ⟨#[]⟩, .int .i64 1]) ∧ Below w.heap.size w w' := by
  have VX := hide fun W => valid_any W e false hv
  obtain ⟨eid, etm, egn, est, esn, ety, eds, ed0, ed1, ed2⟩ := e
  simp only [Ev.c] at VX ⊢
  have B0 := hide ((Below.refl w.heap.size w).alloc (Nat.le_refl _) (.cells #[.int .u16 eid, .int .u32 etm, .int .u16 egn, .int .u8 est, .int .u8 esn, .int .u8 ety, .bool eds, .int .u8 ed0, .int .u8 ed1, .int .u8 ed2] 26))
  clear hv
  go_enter Tryd.func25, Tryd.ntmps25
  go_wp2_with fail
  refine (unhide VX _).mono ?_
  rintro z w1 ⟨rfl, rfl⟩
  have B1 := hide ((unhide B0).alloc (unhide B0).size (.cells #[.int .u16 eid, .int .u32 etm, .int .u16 egn, .int .u8 est, .int .u8 esn, .int .u8 ety, .bool eds, .int .u8 ed0, .int .u8 ed1, .int .u8 ed2] 26))
  go_wp2_with fail
  go_ret2
  exact ⟨rfl, unhide B1⟩
theorem format_ev (w : World) (hP : Pow10At w) (e : Ev) (he : e.In) (t : List UInt8) (g : Int) (h : fmtRE e = (t, g)) : Calls Tryd.prog 25 #[.agg e.c] w fun z w' => z = .returned (.tuple #[.string ⟨t.toArray⟩, .int .i64 g]) ∧ Below w.heap.size w w' := by
  by_cases hv : validE e = true
  · rw [fmtRE, if_pos hv] at h
    injection h with h1 h2
    subst h1 h2
    exact format_ok w hP e he hv _ rfl
  · have hv' : validE e = false := by simpa using hv
    rw [fmtRE, if_neg hv] at h
    injection h with h1 h2
    subst h1 h2
    exact fmt_bad_ev w e hv'
theorem fmtE_short {e : Ev} (he : e.In) (hv : validE e = true) : 1 ≤ (fmtE e).length ∧ (fmtE e).length ≤ 100 := by
  refine ⟨?_, ?_⟩
  · rw [fmtE_eq]
    simp
    omega
  · by_cases h : 100 < (fmtE e).length
    · have h1 := parse_bad (form_long h)
      have h2 := parse_fmtE he hv
      rw [parseE, h1] at h2
      injection h2 with _ h2
      omega
    · omega
theorem ba_take (l : List UInt8) (k : Nat) : (⟨l.toArray⟩ : ByteArray).extract 0 k = ⟨(l.take k).toArray⟩ := by
  apply ByteArray.ext
  apply Array.ext'
  simp
theorem ba_drop (l : List UInt8) (k : Nat) : (⟨l.toArray⟩ : ByteArray).extract k l.length = ⟨(l.drop k).toArray⟩ := by
  apply ByteArray.ext
  apply Array.ext'
  simp [List.take_of_length_le]
set_option maxRecDepth 100000 in
theorem sl_take (wx : World) (l : List UInt8) (k : Nat) (h : k ≤ l.length) : (Instr.slice 9 (.string ⟨l.toArray⟩) none (some (.int .i64 (k : Int))) none).run Tryd.prog wx = .ok (.string ⟨(l.take k).toArray⟩) wx := by
  have := run_slice_string_h (P := Tryd.prog) (w := wx) (t := 9) (s := ⟨l.toArray⟩) Tryd.underlying9 .i64 (k : Int) (by omega) (by simp [ByteArray.size]; omega)
  rw [this, Int.toNat_natCast, ba_take]
set_option maxRecDepth 100000 in
theorem sl_drop (wx : World) (l : List UInt8) (k : Nat) (h : k ≤ l.length) : (Instr.slice 9 (.string ⟨l.toArray⟩) (some (.int .i64 (k : Int))) none none).run Tryd.prog wx = .ok (.string ⟨(l.drop k).toArray⟩) wx := by
  have := run_slice_string_l (P := Tryd.prog) (w := wx) (t := 9) (s := ⟨l.toArray⟩) Tryd.underlying9 .i64 (k : Int) (by omega) (by simp [ByteArray.size]; omega)
  rw [this, Int.toNat_natCast]
  congr 2
  exact ba_drop l k
set_option maxRecDepth 100000 in
set_option maxHeartbeats 32000000 in
theorem texts_walk (w : World) (hsh : w.ShapedOpen Tryd.prog) (e : Ev) (he : e.In) (sl : List UInt8) (hsl : sl.length ≤ maxLen) (A' : Option Addr) (n' c' : Nat) (zs' : List Int) (_ : n' ≤ c') (_ : c' ≤ maxLen) (hr' : Reads w w.heap.size 1 A' n' (intV zs')) (hP : Pow10At w) (hO : OffAt w) :
    Calls Tryd.prog 8 #[.agg e.c, .string ⟨sl.toArray⟩, .slice A' n' c'] w fun e w' => e = .returned (.bool true) ∧ Below w.heap.size w w' := by
  unfold maxLen at hsl
  have hz := size_list sl _ hsl
  have HSH := hide hsh
  obtain ⟨W1, hW1⟩ : ∃ W1, w.alloc (.cells e.c 26) = W1 := ⟨_, rfl⟩
  have B1 : Below w.heap.size w W1 := hW1 ▸ (Below.refl _ _).alloc (Nat.le_refl _) _
  have hsz1 : W1.heap.size = w.heap.size + 1 := by rw [← hW1]; simp only [size_alloc]
  have HO0 := hide hO
  have HP0 := hide hP
  have HO := hide (hO.below B1)
  have HP := hide (hP.below B1)
  have HR' := hide (hr'.below B1)
  have E1 : Hid (Blk W1 w.heap.size 26 e.c) := hide (hW1 ▸ Blk.new w _ _)
  have HW1 := hide hW1
  have EI := hide he
  have CFM := hide format_ev
  have CRF := hide rformat_ev
  have CRP := hide rparse_any
  have CTX := hide dtext_any
  have CPA := hide parse_ev
  clear hO hP hr' hW1 he hsh
  obtain ⟨eid, etm, egn, est, esn, ety, eds, ed0, ed1, ed2⟩ := e
  simp only [Ev.c] at E1 HW1
  simp only [Ev.c]
  by_cases h1 : sl.length ≤ 200
  rotate_left
  · have hlt : ((200 : Int) < (sl.length : Int)) = True := by simp; omega
    clear h1
    go_enter Tryd.func8, Tryd.ntmps8
    go_upto_region 1 with fail
    rw [unhide HW1]
    go_wp2_with fail
    refine (awake_any _ (unhide HO) (unhide HP)).mono ?_
    rintro e w1 ⟨rfl, hb1⟩
    go_wp2_with fail
    go_ret
    exact ⟨rfl, B1.trans (hb1.mono B1.size)⟩
  have hlt : ((200 : Int) < (sl.length : Int)) = False := by simp; omega
  have hsl2 : sl.length ≤ 100000 := by omega
  clear h1 hsl
  by_cases h2 : n' ≤ 600
  rotate_left
  · have L2 := hide fun W => light_at W A' n' c' false (by simpa using h2)
    clear h2
    go_enter Tryd.func8, Tryd.ntmps8
    go_upto_region 1 with fail
    rw [unhide HW1]
    go_wp2_with fail
    refine (unhide L2 _).mono ?_
    rintro e w' ⟨rfl, rfl⟩
    go_wp2_with fail
    refine (awake_any _ (unhide HO) (unhide HP)).mono ?_
    rintro e w1 ⟨rfl, hb1⟩
    go_wp2_with fail
    go_ret
    exact ⟨rfl, B1.trans (hb1.mono B1.size)⟩
  have L2 := hide fun W => light_at W A' n' c' true (by simpa using h2)
  have D2 := hide (dice_roll0 W1 w.heap.size A' n' c' zs' h2 (unhide HR') (by omega))
  clear h2
  have EVT := hide devent_any
  have NX := hide dnext_any
  go_enter Tryd.func8, Tryd.ntmps8
  go_upto_region 1 with fail
  rw [unhide HW1]
  go_wp2_with fail
  refine (unhide L2 _).mono ?_
  rintro e w' ⟨rfl, rfl⟩
  go_wp2_with fail
  refine (roll_at _ A' n' c').mono ?_
  rintro e w' ⟨rfl, rfl⟩
  obtain ⟨g, hg⟩ : ∃ g, W1.heap.size = g := ⟨_, rfl⟩
  obtain ⟨W2, hW2⟩ : ∃ W2, W1.alloc (.cells #[.slice A' n' c', .int .i64 0] 66) = W2 := ⟨_, rfl⟩
  have B2 : Hid (Below w.heap.size w W2) := hide (hW2 ▸ B1.alloc (by omega) _)
  have D2' : Hid (DiceOk W2 w.heap.size g) := hide (hg ▸ hW2 ▸ unhide D2)
  have E2 : Hid (Blk W2 w.heap.size 26 #[.int .u16 eid, .int .u32 etm, .int .u16 egn, .int .u8 est, .int .u8 esn, .int .u8 ety, .bool eds, .int .u8 ed0, .int .u8 ed1, .int .u8 ed2]) := hide (hW2 ▸ (unhide E1).alloc _)
  have HW2 := hide hW2
  have hgw : w.heap.size < g := by omega
  have HG := hide hg
  clear hW2 hg hsz1 B1
  rw [unhide HW2, unhide HG]
  go_wp2_with fail
  refine (unhide EVT _ _ _ (unhide D2')).mono ?_
  rintro e w3 ⟨x, rfl, hxi, hxv, hx0, hd3, hg3⟩
  have XV := hide hxv
  have B3 := hide ((unhide B2).grown hg3 (unhide B2).size (fun j e => by injection e with e; omega))
  have E3 := hide ((unhide E2).grown hg3 (by intro e; injection e with e; omega))
  have hgl3 := hd3.lt
  have XI := hide hxi
  obtain ⟨q, hq⟩ : ∃ q, w3.heap.size = q := ⟨_, rfl⟩
  obtain ⟨W4, hW4⟩ : ∃ W4, w3.alloc (.cells x.c 26) = W4 := ⟨_, rfl⟩
  have G4 : w3.grownBy W4 (some g) := hW4 ▸ World.grownBy_alloc w3 _ _
  have B4 := hide (hW4 ▸ (unhide B3).alloc (unhide B3).size (.cells x.c 26))
  have D4 : Hid (DiceOk W4 w.heap.size g) := hide (hW4 ▸ hd3.far (World.grownBy_alloc w3 (.cells x.c 26) none) (fun j e => by cases e))
  have E4 := hide ((unhide E3).grown G4 (by intro e; injection e with e; omega))
  have X4 : Hid (Blk W4 q 26 x.c) := hide (hq ▸ hW4 ▸ Blk.new w3 _ _)
  have hgq : g < q := by omega
  have HW4 := hide hW4
  have HQ := hide hq
  clear hW4 hq hxi hxv hx0 hd3 hg3 G4
  obtain ⟨tf, htf⟩ : ∃ t, fmtE x = t := ⟨_, rfl⟩
  have htl := fmtE_short (unhide XI) (unhide XV)
  have RF := hide fun W => unhide CRF W x (unhide XI) tf 0 (by rw [if_pos (unhide XV), htf])
  rw [htf] at htl
  obtain ⟨htl1, htl2⟩ := htl
  obtain ⟨xid, xtm, xgn, xst, xsn, xty, xds, xd0, xd1, xd2⟩ := x
  simp only [Ev.c] at X4 HW4 RF
  simp only [Ev.c]
  clear htf
  go_upto_region 5 with fail
  rw [unhide HW4, unhide HQ]
  obtain ⟨p0, p1, p2, p3, p4, p5, p6, p7, p8, p9, hp⟩ := blk10 (unhide X4)
  go_wp2_with fail
  refine (unhide RF _).mono ?_
  rintro z w5 ⟨rfl, hb5⟩
  have B5 := hide ((unhide B4).trans (hb5.mono (unhide B4).size))
  have D5 : Hid (DiceOk w5 w.heap.size g) := hide ((unhide D4).keep fun b hb => hb5.block b (by have := (unhide D4).lt; omega))
  have E5 := hide ((unhide E4).below hb5 (unhide E4).lt)
  have X5 := hide ((unhide X4).below hb5 (unhide X4).lt)
  clear hb5 p0 p1 p2 p3 p4 p5 p6 p7 p8 p9 hp
  have hztf := size_list tf 100 htl2
  go_wp2_with fail
  refine (unhide NX _ w.heap.size g (tf.length : Int) (by omega) (by omega) (unhide D5)).mono ?_
  rintro z w6 ⟨kk, hkk, rfl, hd6, hg6⟩
  have B6 := hide ((unhide B5).grown hg6 (unhide B5).size (fun j e => by injection e with e; omega))
  have D6 := hide hd6
  have E6 := hide ((unhide E5).grown hg6 (by intro e; injection e with e; omega))
  have X6 := hide ((unhide X5).grown hg6 (by intro e; injection e with e; omega))
  have hkl : kk < tf.length := by omega
  clear hd6 hg6 hkk D2' D4 D5 E2 E3 E4 E5 X4 X5 B2 B3 B4 B5
  go_upto_region 7 with fail
  have hS0 : DSt w6 w.heap.size g w6.drew := DSt.drew ⟨unhide D6, World.grownBy.refl _ _⟩
  refine wp_region_noPanic (wp_region_held_drew (S := DSt w6 w.heap.size g) (by kernel_rfl) hS0 (fun _ => ?_))
  refine th_take (i := 0) (v := ?_) rfl (by kernel_rfl) (by kernel_rfl) (by kernel_rfl) (Or.inl ⟨by rfl, fun wz hSw => ?_⟩) hS0 ?_
  rotate_left
  · go_simp
    with_reducible rfl
  simp only [Act.put, List.setIfInBounds_toArray, List.set_cons_zero, List.set_cons_succ]
  refine th_take (i := 1) (v := ?_) rfl (by kernel_rfl) (by kernel_rfl) (by kernel_rfl) (Or.inl ⟨by rfl, fun wz hSw => ?_⟩) hS0 ?_
  rotate_left
  · go_simp
    with_reducible rfl
  simp only [Act.put, List.setIfInBounds_toArray, List.set_cons_zero, List.set_cons_succ]
  refine th_take (i := 2) (v := .string ⟨(tf.take kk).toArray⟩) rfl (by kernel_rfl) (by kernel_rfl) (by kernel_rfl) (Or.inl ⟨by rfl, fun wz hSw => ?_⟩) hS0 ?_
  · have hq := sl_take wz tf kk (by omega)
    go_simp
  simp only [Act.put, List.setIfInBounds_toArray, List.set_cons_zero, List.set_cons_succ]
  refine th_take (i := 3) (v := ?_) rfl (by kernel_rfl) (by kernel_rfl) (by kernel_rfl) (Or.inl ⟨by rfl, fun wz hSw => ?_⟩) hS0 ?_
  rotate_left
  · go_simp
    with_reducible rfl
  simp only [Act.put, List.setIfInBounds_toArray, List.set_cons_zero, List.set_cons_succ]
  refine th_take (i := 4) (v := ?_) rfl (by kernel_rfl) (by kernel_rfl) (by kernel_rfl) (Or.inl ⟨by rfl, fun wz hSw => ?_⟩) hS0 ?_
  rotate_left
  · go_simp
    with_reducible rfl
  simp only [Act.put, List.setIfInBounds_toArray, List.set_cons_zero, List.set_cons_succ]
  refine th_take (i := 8) (v := ?_) rfl (by kernel_rfl) (by kernel_rfl) (by kernel_rfl) (Or.inl ⟨by rfl, fun wz hSw => ?_⟩) hS0 ?_
  rotate_left
  · go_simp
    with_reducible rfl
  simp only [Act.put, List.setIfInBounds_toArray, List.set_cons_zero, List.set_cons_succ]
  refine th_take (i := 9) (v := ?_) rfl (by kernel_rfl) (by kernel_rfl) (by kernel_rfl) (Or.inl ⟨by rfl, fun wz hSw => ?_⟩) hS0 ?_
  rotate_left
  · go_simp
    with_reducible rfl
  simp only [Act.put, List.setIfInBounds_toArray, List.set_cons_zero, List.set_cons_succ]
  refine th_take (i := 10) (v := ?_) rfl (by kernel_rfl) (by kernel_rfl) (by kernel_rfl) (Or.inl ⟨by rfl, fun wz hSw => ?_⟩) hS0 ?_
  rotate_left
  · go_simp
    with_reducible rfl
  simp only [Act.put, List.setIfInBounds_toArray, List.set_cons_zero, List.set_cons_succ]
  refine th_one (i := 5) rfl (by kernel_rfl) (fun K hK => ?_)
  rw [if_pos (by rfl)]
  go_simp
  refine (unhide NX _ w.heap.size g 3 (by omega) (by omega) hS0.1).mono ?_
  rintro z w7 ⟨j3, hj3, rfl, hd7, hg7⟩
  have hS1 : DSt w6 w.heap.size g w7 := hS0.call hd7 hg7
  have hj3n : j3 < 3 := by omega
  clear hd7 hg7 hj3
  refine hK.out _ _ hS1 (fun _ => ?_)
  clear hK K
  try simp only [Act.put, List.setIfInBounds_toArray, List.set_cons_zero, List.set_cons_succ]
  refine th_one (i := 6) rfl (by kernel_rfl) (fun K hK => ?_)
  rw [if_pos (by rfl)]
  go_simp
  refine (unhide CTX _ w.heap.size g hS1.1 [32, 48, 45, 43, 97, 120, 57] (by decide) (by decide) j3 (by omega)).mono ?_
  rintro z w8 ⟨tx, htx, rfl, hd8, hg8⟩
  have hS2 : DSt w6 w.heap.size g w8 := hS1.call hd8 hg8
  clear hd8 hg8
  refine hK.out _ _ hS2 (fun _ => ?_)
  clear hK K
  try simp only [Act.put, List.setIfInBounds_toArray, List.set_cons_zero, List.set_cons_succ]
  obtain ⟨T1, hT1⟩ : ∃ l, tf.take kk = l := ⟨_, rfl⟩
  have hT1l : T1.length ≤ 100 := by rw [← hT1]; simp; omega
  obtain ⟨T2, hT2⟩ : ∃ l, T1 ++ tx = l := ⟨_, rfl⟩
  have hT2l : T2.length ≤ 102 := by rw [← hT2]; simp; omega
  have q1 : (⟨T1.toArray⟩ : ByteArray) ++ ⟨tx.toArray⟩ = ⟨T2.toArray⟩ := by rw [app2s, hT2]
  have t1 : T1.length + j3 ≤ 9223372036854775807 := by omega
  rw [hT1]
  clear hT1 hT2
  refine th_take (i := 7) (v := .string ⟨T2.toArray⟩) rfl (by kernel_rfl) (by kernel_rfl) (by kernel_rfl) (Or.inl ⟨by rfl, fun wz hSw => ?_⟩) hS2 ?_
  · have hq := q1
    go_simp
  simp only [Act.put, List.setIfInBounds_toArray, List.set_cons_zero, List.set_cons_succ]
  refine th_one (i := 11) rfl (by kernel_rfl) (fun K hK => ?_)
  rw [if_pos (by rfl)]
  go_simp
  refine (unhide NX _ w.heap.size g 2 (by omega) (by omega) hS2.1).mono ?_
  rintro z w9 ⟨j2, hj2, rfl, hd9, hg9⟩
  have hS3 : DSt w6 w.heap.size g w9 := hS2.call hd9 hg9
  have hj2n : j2 < 2 := by omega
  clear hd9 hg9 hj2
  refine hK.out _ _ hS3 (fun _ => ?_)
  clear hK K
  try simp only [Act.put, List.setIfInBounds_toArray, List.set_cons_zero, List.set_cons_succ]
  obtain ⟨k2, hk2⟩ : ∃ k2, kk + j2 = k2 := ⟨_, rfl⟩
  have hk2e : (kk : Int) + (j2 : Int) = (k2 : Int) := by omega
  have hk2w : IntKind.i64.wrap ((kk : Int) + (j2 : Int)) = (k2 : Int) := by rw [hk2e]; exact IntWalk.i64_in _ (by omega)
  have hk2w2 : IntKind.i64.wrap (k2 : Int) = (k2 : Int) := IntWalk.i64_in _ (by omega)
  refine th_take (i := 12) (v := .int .i64 (k2 : Int)) rfl (by kernel_rfl) (by kernel_rfl) (by kernel_rfl) (Or.inl ⟨by rfl, fun wz hSw => ?_⟩) hS3 ?_
  · skip
    go_simp
  simp only [Act.put, List.setIfInBounds_toArray, List.set_cons_zero, List.set_cons_succ]
  refine th_take (i := 13) (v := .string ⟨(tf.drop k2).toArray⟩) rfl (by kernel_rfl) (by kernel_rfl) (by kernel_rfl) (Or.inl ⟨by rfl, fun wz hSw => ?_⟩) hS3 ?_
  · have hq := sl_drop wz tf k2 (by omega)
    go_simp
  simp only [Act.put, List.setIfInBounds_toArray, List.set_cons_zero, List.set_cons_succ]
  obtain ⟨T3, hT3⟩ : ∃ l, tf.drop k2 = l := ⟨_, rfl⟩
  have hT3l : T3.length ≤ 100 := by rw [← hT3]; simp; omega
  obtain ⟨T4, hT4⟩ : ∃ l, T2 ++ T3 = l := ⟨_, rfl⟩
  have hT4l : T4.length ≤ 300 := by rw [← hT4]; simp; omega
  have q2 : (⟨T2.toArray⟩ : ByteArray) ++ ⟨T3.toArray⟩ = ⟨T4.toArray⟩ := by rw [app2s, hT4]
  have t2 : T2.length + T3.length ≤ 9223372036854775807 := by omega
  rw [hT3]
  clear hT3 hT4
  refine th_take (i := 14) (v := .string ⟨T4.toArray⟩) rfl (by kernel_rfl) (by kernel_rfl) (by kernel_rfl) (Or.inl ⟨by rfl, fun wz hSw => ?_⟩) hS3 ?_
  · have hq := q2
    go_simp
  simp only [Act.put, List.setIfInBounds_toArray, List.set_cons_zero, List.set_cons_succ]
  refine th_take (i := 15) (v := ?_) rfl (by kernel_rfl) (by kernel_rfl) (by kernel_rfl) (Or.inl ⟨by rfl, fun wz hSw => ?_⟩) hS3 ?_
  rotate_left
  · go_simp
    with_reducible rfl
  simp only [Act.put, List.setIfInBounds_toArray, List.set_cons_zero, List.set_cons_succ]
  refine wpAnyH_done (by kernel_rfl) (NoPanic.normal ?_) _
  have D9 := hide hS3.1
  have B9 := hide ((unhide B6).grown hS3.2 (unhide B6).size (fun j e => by injection e with e; omega))
  have E9 := hide ((unhide E6).grown hS3.2 (by intro e; injection e with e; omega))
  have X9 := hide ((unhide X6).grown hS3.2 (by intro e; injection e with e; omega))
  clear hS0 hS1 hS2 hS3 q1 q2 t1 t2 hk2e hk2w hk2w2 D6 E6 X6 B6
  go_upto_region 8 with fail
  obtain ⟨r0, r1, r2, r3, r4, r5, r6, r7, r8, r9, hrq⟩ := blk10 (unhide E9)
  obtain ⟨p0, p1, p2, p3, p4, p5, p6, p7, p8, p9, hp⟩ := blk10 (unhide X9)
  go_upto_region 9 with fail
  clear p0 p1 p2 p3 p4 p5 p6 p7 p8 p9 hp
  clear r0 r1 r2 r3 r4 r5 r6 r7 r8 r9 hrq
  obtain ⟨q7, hq7⟩ : ∃ q7, w9.heap.size = q7 := ⟨_, rfl⟩
  obtain ⟨W7, hW7⟩ : ∃ W7, w9.alloc (.cells #[.int .u16 eid, .int .u32 etm, .int .u16 egn, .int .u8 est, .int .u8 esn, .int .u8 ety, .bool eds, .int .u8 ed0, .int .u8 ed1, .int .u8 ed2, .int .u16 xid, .int .u32 xtm, .int .u16 xgn, .int .u8 xst, .int .u8 xsn, .int .u8 xty, .bool xds, .int .u8 xd0, .int .u8 xd1, .int .u8 xd2] 26) = W7 := ⟨_, rfl⟩
  have N7 : Hid (Blk W7 q7 26 #[.int .u16 eid, .int .u32 etm, .int .u16 egn, .int .u8 est, .int .u8 esn, .int .u8 ety, .bool eds, .int .u8 ed0, .int .u8 ed1, .int .u8 ed2, .int .u16 xid, .int .u32 xtm, .int .u16 xgn, .int .u8 xst, .int .u8 xsn, .int .u8 xty, .bool xds, .int .u8 xd0, .int .u8 xd1, .int .u8 xd2]) := hide (hq7 ▸ hW7 ▸ Blk.new w9 _ _)
  have B7 : Hid (Below w.heap.size w W7) := hide (hW7 ▸ (unhide B9).alloc (unhide B9).size _)
  have D7 : Hid (DiceOk W7 w.heap.size g) := hide (hW7 ▸ (unhide D9).far (World.grownBy_alloc w9 _ none) (fun j e => by cases e))
  have HW7 := hide hW7
  have HQ7 := hide hq7
  have HEI : Hid (Ev.mk eid etm egn est esn ety eds ed0 ed1 ed2).In := hide (unhide EI)
  have HXI : Hid (Ev.mk xid xtm xgn xst xsn xty xds xd0 xd1 xd2).In := hide (unhide XI)
  clear hW7 hq7
  rw [unhide HW7, unhide HQ7]
  go_loopw [66] (fun i wr => ∃ k : Nat, k ≤ 2 ∧ i = .int .i64 k ∧ Below W7.heap.size W7 wr) (fun i _ => 2 - (intOf i).toNat)
  case atStart => exact ⟨0, by omega, rfl, Below.refl _ _⟩
  case round =>
    obtain ⟨k, hk, rfl, hB⟩ := hrel
    have BB := hide hB
    have BW := hide ((unhide B7).trans (hB.mono (unhide B7).size))
    have DW : Hid (DiceOk wr w.heap.size g) := hide ((unhide D7).keep fun b hb => hB.block b (by have := (unhide D7).lt; omega))
    have N := (unhide N7).below hB (unhide N7).lt
    clear hB
    by_cases hk2 : k < 2
    · obtain ⟨y, yI, f0, f1, f2, f3, f4, f5, f6, f7, f8, f9⟩ : ∃ y : Ev, y.In ∧ wr.cell? ⟨q7, k * 10, none⟩ = some (.int .u16 y.id) ∧ wr.cell? ⟨q7, k * 10 + 1, none⟩ = some (.int .u32 y.tm) ∧ wr.cell? ⟨q7, k * 10 + 2, none⟩ = some (.int .u16 y.gn) ∧ wr.cell? ⟨q7, k * 10 + 3, none⟩ = some (.int .u8 y.st) ∧ wr.cell? ⟨q7, k * 10 + 4, none⟩ = some (.int .u8 y.sn) ∧ wr.cell? ⟨q7, k * 10 + 5, none⟩ = some (.int .u8 y.ty) ∧ wr.cell? ⟨q7, k * 10 + 6, none⟩ = some (.bool y.ds) ∧ wr.cell? ⟨q7, k * 10 + 7, none⟩ = some (.int .u8 y.d0) ∧ wr.cell? ⟨q7, k * 10 + 8, none⟩ = some (.int .u8 y.d1) ∧ wr.cell? ⟨q7, k * 10 + 9, none⟩ = some (.int .u8 y.d2) := by
        rcases (show k = 0 ∨ k = 1 by omega) with rfl | rfl
        · exact ⟨⟨eid, etm, egn, est, esn, ety, eds, ed0, ed1, ed2⟩, unhide HEI, N.cell 0, N.cell 1, N.cell 2, N.cell 3, N.cell 4, N.cell 5, N.cell 6, N.cell 7, N.cell 8, N.cell 9⟩
        · exact ⟨⟨xid, xtm, xgn, xst, xsn, xty, xds, xd0, xd1, xd2⟩, unhide HXI, N.cell 10, N.cell 11, N.cell 12, N.cell 13, N.cell 14, N.cell 15, N.cell 16, N.cell 17, N.cell 18, N.cell 19⟩
      have hql : q7 < wr.heap.size := N.lt
      have hk2i : (k : Int) < 2 := by omega
      obtain ⟨ty, gy, hty⟩ : ∃ l f, fmtRE y = (l, f) := ⟨_, _, rfl⟩
      have FX := hide fun W (h : Pow10At W) => unhide CFM W h y yI ty gy hty
      have RX := hide fun W => unhide CRF W y yI ty gy hty
      obtain ⟨yid, ytm, ygn, yst, ysn, yty, yds, yd0, yd1, yd2⟩ := y
      simp only [Ev.c] at FX RX
      dsimp only at f0 f1 f2 f3 f4 f5 f6 f7 f8 f9
      clear hty yI N
      obtain ⟨Wy, hWy⟩ : ∃ Wy, wr.alloc (.cells #[.int .u16 yid, .int .u32 ytm, .int .u16 ygn, .int .u8 yst, .int .u8 ysn, .int .u8 yty, .bool yds, .int .u8 yd0, .int .u8 yd1, .int .u8 yd2] 26) = Wy := ⟨_, rfl⟩
      obtain ⟨qy, hqy⟩ : ∃ q, wr.heap.size = q := ⟨_, rfl⟩
      have Y : Hid (Blk Wy qy 26 #[.int .u16 yid, .int .u32 ytm, .int .u16 ygn, .int .u8 yst, .int .u8 ysn, .int .u8 yty, .bool yds, .int .u8 yd0, .int .u8 yd1, .int .u8 yd2]) := hide (hqy ▸ hWy ▸ Blk.new wr _ _)
      have BY : Hid (Below W7.heap.size W7 Wy) := hide (hWy ▸ (unhide BB).alloc (unhide BB).size _)
      have HWy := hide hWy
      have HQy := hide hqy
      clear hWy hqy
      go_upto_region 11 with fail
      rw [unhide HWy, unhide HQy]
      clear f0 f1 f2 f3 f4 f5 f6 f7 f8 f9 hql
      obtain ⟨p0, p1, p2, p3, p4, p5, p6, p7, p8, p9, hp⟩ := blk10 (unhide Y)
      go_wp2_with fail
      refine (unhide FX _ ((unhide HP0).below ((unhide B7).trans ((unhide BY).mono (unhide B7).size)))).mono ?_
      rintro z w8' ⟨rfl, b1⟩
      clear p0 p1 p2 p3 p4 p5 p6 p7 p8 p9 hp
      have Y8 := hide ((unhide Y).below b1 (unhide Y).lt)
      have BY8 := hide ((unhide BY).trans (b1.mono (unhide BY).size))
      clear b1
      obtain ⟨p0, p1, p2, p3, p4, p5, p6, p7, p8, p9, hp⟩ := blk10 (unhide Y8)
      go_wp2_with fail
      refine (unhide RX _).mono ?_
      rintro z w9' ⟨rfl, b2⟩
      clear p0 p1 p2 p3 p4 p5 p6 p7 p8 p9 hp
      have BY9 := hide ((unhide BY8).trans (b2.mono (unhide BY8).size))
      have hgg : (gy != gy) = false := by simp
      clear b2
      go_wp2_with fail
      go_roundw
      case rel => exact ⟨k + 1, by omega, by go_num, unhide BY9⟩
      case measure => simp [intOf]; omega
    · have hkf : ((k : Int) < 2) = False := by simp; omega
      clear hk2 hk N BB
      have hls : sl.length ≤ 200 := by have := of_eq_false hlt; omega
      obtain ⟨Y3, hY3⟩ : ∃ l, [48, 32, 52, 50, 57, 52, 57, 54, 55, 50, 57, 54, 32] ++ sl = l := ⟨_, rfl⟩
      have hY3l : Y3.length ≤ 1000 := by rw [← hY3]; simp; omega
      have z3 : (⟨#[48, 32, 52, 50, 57, 52, 57, 54, 55, 50, 57, 54, 32]⟩ : ByteArray) ++ ⟨sl.toArray⟩ = ⟨Y3.toArray⟩ := by rw [show (⟨#[48, 32, 52, 50, 57, 52, 57, 54, 55, 50, 57, 54, 32]⟩ : ByteArray) = ⟨[48, 32, 52, 50, 57, 52, 57, 54, 55, 50, 57, 54, 32].toArray⟩ from rfl, app2s, hY3]
      have s3 : sl.length ≤ 9223372036854775794 := by omega
      have s3' : 13 + sl.length ≤ 9223372036854775807 := by omega
      clear hY3
      go_wp2_with fail
      refine (unhide CTX _ w.heap.size g (unhide DW) [48, 49, 50] (by decide) (by decide) 3 (by omega)).mono ?_
      rintro z w17 ⟨t3, ht3, rfl, hd17, hg17⟩
      have B17 := hide ((unhide BW).grown hg17 (unhide BW).size (fun j e => by injection e with e; omega))
      clear hd17 hg17
      obtain ⟨Y5, hY5⟩ : ∃ l, [49, 32, 49, 32, 49, 32, 49, 32, 49, 32] ++ t3 = l := ⟨_, rfl⟩
      have hY5l : Y5.length ≤ 13 := by rw [← hY5]; simp; omega
      have z5 : (⟨#[49, 32, 49, 32, 49, 32, 49, 32, 49, 32]⟩ : ByteArray) ++ ⟨t3.toArray⟩ = ⟨Y5.toArray⟩ := by rw [show (⟨#[49, 32, 49, 32, 49, 32, 49, 32, 49, 32]⟩ : ByteArray) = ⟨[49, 32, 49, 32, 49, 32, 49, 32, 49, 32].toArray⟩ from rfl, app2s, hY5]
      obtain ⟨Y6, hY6⟩ : ∃ l, Y5 ++ [32, 43, 32, 48, 48, 48, 48, 48, 48, 32] = l := ⟨_, rfl⟩
      have hY6l : Y6.length ≤ 30 := by rw [← hY6]; simp; omega
      have z6 : (⟨Y5.toArray⟩ : ByteArray) ++ ⟨#[32, 43, 32, 48, 48, 48, 48, 48, 48, 32]⟩ = ⟨Y6.toArray⟩ := by rw [show (⟨#[32, 43, 32, 48, 48, 48, 48, 48, 48, 32]⟩ : ByteArray) = ⟨[32, 43, 32, 48, 48, 48, 48, 48, 48, 32].toArray⟩ from rfl, app2s, hY6]
      obtain ⟨Y7, hY7⟩ : ∃ l, Y6 ++ sl = l := ⟨_, rfl⟩
      have hY7l : Y7.length ≤ 1000 := by rw [← hY7]; simp; omega
      have z7 : (⟨Y6.toArray⟩ : ByteArray) ++ ⟨sl.toArray⟩ = ⟨Y7.toArray⟩ := by rw [app2s, hY7]
      have s5 : t3.length ≤ 9223372036854775797 := by omega
      have s5' : 10 + t3.length ≤ 9223372036854775807 := by omega
      have s6 : Y5.length ≤ 9223372036854775797 := by omega
      have s7 : Y6.length + sl.length ≤ 9223372036854775807 := by omega
      clear hY5 hY6 hY7
      obtain ⟨W18, hW18⟩ : ∃ W, w17.alloc (.cells #[.string ⟨sl.toArray⟩, .string ⟨tf.toArray⟩, .string ⟨T4.toArray⟩, .string ⟨Y3.toArray⟩, .string ⟨#[48, 32, 52, 50, 57, 52, 57, 54, 55, 50, 57, 53, 32, 49, 32, 49, 32, 49, 32, 49, 32, 43, 32, 48, 48, 48, 48, 48, 48, 32, 116, 104, 114, 101, 115, 104, 111, 108, 100]⟩, .string ⟨Y7.toArray⟩] 9) = W := ⟨_, rfl⟩
      obtain ⟨qs, hqs⟩ : ∃ q, w17.heap.size = q := ⟨_, rfl⟩
      have QS : Hid (Blk W18 qs 9 #[.string ⟨sl.toArray⟩, .string ⟨tf.toArray⟩, .string ⟨T4.toArray⟩, .string ⟨Y3.toArray⟩, .string ⟨#[48, 32, 52, 50, 57, 52, 57, 54, 55, 50, 57, 53, 32, 49, 32, 49, 32, 49, 32, 49, 32, 43, 32, 48, 48, 48, 48, 48, 48, 32, 116, 104, 114, 101, 115, 104, 111, 108, 100]⟩, .string ⟨Y7.toArray⟩]) := hide (hqs ▸ hW18 ▸ Blk.new w17 _ _)
      have B18 : Hid (Below w.heap.size w W18) := hide (hW18 ▸ (unhide B17).alloc (unhide B17).size _)
      have BW18 := hide (Below.refl W18.heap.size W18)
      have HW18 := hide hW18
      have HQS := hide hqs
      clear hW18 hqs
      go_upto_region 17 with fail
      rw [unhide HW18, unhide HQS]
      clear z3 z5 z6 z7 s3 s3' s5 s5' s6 s7
      go_loopw [102] (fun i wr => ∃ j : Nat, j ≤ 6 ∧ i = .int .i64 j ∧ Below W18.heap.size W18 wr) (fun i _ => 6 - (intOf i).toNat)
      case atStart => exact ⟨0, by omega, rfl, unhide BW18⟩
      case round =>
        obtain ⟨j, hj, rfl, hB⟩ := hrel
        have BB := hide hB
        have B9 := hide ((unhide B18).trans (hB.mono (unhide B18).size))
        have hql := (unhide QS).below hB (unhide QS).lt
        clear hB
        by_cases hjt : j < 6
        · obtain ⟨xl, hcl, hxl⟩ : ∃ xl : List UInt8, wr.cell? ⟨qs, j, none⟩ = some (.string ⟨xl.toArray⟩) ∧ xl.length ≤ 100000 := by
            rcases (show j = 0 ∨ j = 1 ∨ j = 2 ∨ j = 3 ∨ j = 4 ∨ j = 5 by omega) with rfl | rfl | rfl | rfl | rfl | rfl
            · exact ⟨sl, hql.cell 0, by omega⟩
            · exact ⟨tf, hql.cell 1, by omega⟩
            · exact ⟨T4, hql.cell 2, by omega⟩
            · exact ⟨Y3, hql.cell 3, by omega⟩
            · exact ⟨[48, 32, 52, 50, 57, 52, 57, 54, 55, 50, 57, 53, 32, 49, 32, 49, 32, 49, 32, 49, 32, 43, 32, 48, 48, 48, 48, 48, 48, 32, 116, 104, 114, 101, 115, 104, 111, 108, 100], hql.cell 4, by decide⟩
            · exact ⟨Y7, hql.cell 5, by omega⟩
          have hqsl : qs < wr.heap.size := hql.lt
          have hjt2 : (j : Int) < 6 := by omega
          obtain ⟨v, ve, hv⟩ : ∃ v f, parseE xl = (v, f) := ⟨_, _, rfl⟩
          have PA := hide (unhide CPA wr (shape_below (unhide HSH) (unhide B9)) xl hxl v ve hv)
          have PB := hide fun W => unhide CRP W xl (by unfold maxLen; omega) v ve hv
          unfold EPost at PA PB
          obtain ⟨vid, vtm, vgn, vst, vsn, vty, vds, vd0, vd1, vd2⟩ := v
          simp only [Ev.c] at PA PB
          have heq3 := eq3
          have hee : (ve != ve) = false := by simp
          clear hql hv
          go_wp2_with fail
          refine (unhide PA).mono ?_
          rintro z w20 ⟨rfl, hb⟩
          have B20 := hide ((unhide BB).trans (hb.mono (unhide BB).size))
          obtain ⟨W21, hW21⟩ : ∃ W, w20.alloc (.cells #[.int .u16 vid, .int .u32 vtm, .int .u16 vgn, .int .u8 vst, .int .u8 vsn, .int .u8 vty, .bool vds, .int .u8 vd0, .int .u8 vd1, .int .u8 vd2] 26) = W := ⟨_, rfl⟩
          obtain ⟨g1, hg1⟩ : ∃ q, w20.heap.size = q := ⟨_, rfl⟩
          have X21 : Hid (Blk W21 g1 26 #[.int .u16 vid, .int .u32 vtm, .int .u16 vgn, .int .u8 vst, .int .u8 vsn, .int .u8 vty, .bool vds, .int .u8 vd0, .int .u8 vd1, .int .u8 vd2]) := hide (hg1 ▸ hW21 ▸ Blk.new w20 _ _)
          have B21 : Hid (Below W18.heap.size W18 W21) := hide (hW21 ▸ (unhide B20).alloc (unhide B20).size _)
          have HW21 := hide hW21
          have HG1 := hide hg1
          clear hb hcl hW21 hg1
          go_upto_region 20 with fail
          rw [unhide HW21, unhide HG1]
          go_wp2_with fail
          refine (unhide PB _).mono ?_
          rintro z w22 ⟨rfl, hb⟩
          obtain ⟨W23, hW23⟩ : ∃ W, w22.alloc (.cells #[.int .u16 vid, .int .u32 vtm, .int .u16 vgn, .int .u8 vst, .int .u8 vsn, .int .u8 vty, .bool vds, .int .u8 vd0, .int .u8 vd1, .int .u8 vd2] 26) = W := ⟨_, rfl⟩
          obtain ⟨g2, hg2⟩ : ∃ q, w22.heap.size = q := ⟨_, rfl⟩
          have X23 : Hid (Blk W23 g2 26 #[.int .u16 vid, .int .u32 vtm, .int .u16 vgn, .int .u8 vst, .int .u8 vsn, .int .u8 vty, .bool vds, .int .u8 vd0, .int .u8 vd1, .int .u8 vd2]) := hide (hg2 ▸ hW23 ▸ Blk.new w22 _ _)
          have X21b : Hid (Blk W23 g1 26 #[.int .u16 vid, .int .u32 vtm, .int .u16 vgn, .int .u8 vst, .int .u8 vsn, .int .u8 vty, .bool vds, .int .u8 vd0, .int .u8 vd1, .int .u8 vd2]) := hide (hW23 ▸ ((unhide X21).below hb (unhide X21).lt).alloc _)
          have B23 : Hid (Below W18.heap.size W18 W23) := hide (hW23 ▸ ((unhide B21).trans (hb.mono (unhide B21).size)).alloc ((unhide B21).trans (hb.mono (unhide B21).size)).size _)
          have HW23 := hide hW23
          have HG2 := hide hg2
          clear hb hW23 hg2
          go_upto_region 21 with fail
          rw [unhide HW23, unhide HG2]
          obtain ⟨r0, r1, r2, r3, r4, r5, r6, r7, r8, r9, hrq⟩ := blk10 (unhide X23)
          obtain ⟨p0, p1, p2, p3, p4, p5, p6, p7, p8, p9, hp⟩ := blk10 (unhide X21b)
          go_wp2_with fail
          go_roundw
          case rel => exact ⟨j + 1, by omega, by go_num, unhide B23⟩
          case measure => simp [intOf]; omega
        · have hjf : ((j : Int) < 6) = False := by simp; omega
          clear hjt hj hql
          go_wp2_with fail
          refine (awake_any _ ((unhide HO0).below (unhide B9)) ((unhide HP0).below (unhide B9))).mono ?_
          rintro e w30 ⟨rfl, hb30⟩
          go_wp2_with fail
          go_ret
          exact ⟨rfl, (unhide B9).trans (hb30.mono (unhide B9).size)⟩
theorem texts_law (w : World) (hsh : w.ShapedOpen Tryd.prog) (e : Ev) (he : e.In) (s : ByteArray) (hs : s.size ≤ maxLen) (A' : Option Addr) (n' c' : Nat) (zs' : List Int) (h1 : n' ≤ c') (h2 : c' ≤ maxLen) (hr' : Reads w w.heap.size 1 A' n' (intV zs')) (hP : Pow10At w) (hO : OffAt w) :
    Calls Tryd.prog 8 #[.agg e.c, .string s, .slice A' n' c'] w fun e w' => e = .returned (.bool true) ∧ Below w.heap.size w w' := by
  obtain ⟨d⟩ := s
  have h : (⟨d⟩ : ByteArray) = ⟨d.toList.toArray⟩ := by simp
  rw [h]
  exact texts_walk w hsh e he d.toList hs A' n' c' zs' h1 h2 hr' hP hO
end Go.Proofs.YtklffnfaigmjfaaDoor
