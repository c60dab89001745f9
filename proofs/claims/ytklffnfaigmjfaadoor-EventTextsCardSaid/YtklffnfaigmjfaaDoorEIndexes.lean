/- The law EventIndexes, walked: it returns true; Mod (printed by wip/gen_eidx.py). -/
import Derived.Test.YtklffnfaigmjfaaDoorEAwake
import Derived.Test.YtklffnfaigmjfaaDoorERefuses
import Derived.OpenShut
namespace Go.Proofs.YtklffnfaigmjfaaDoor
open Go.RowKit
set_option maxHeartbeats 1000000 in
theorem mod_at (w : World) (x n r : Int) (hn : 1 ≤ n) (hn2 : n ≤ 1000000000000) (hr : x % n = r) :
    Calls Tryd.prog 10 #[.int .i64 x, .int .i64 n] w fun e w' => e = .returned (.int .i64 r) ∧ w = w' := by
  have hb0 : 0 ≤ x % n := Int.emod_nonneg _ (by omega)
  have hb1 : x % n < n := Int.emod_lt_of_pos _ (by omega)
  have hnz : (n == 0) = false := by simp; omega
  have hn0 : ¬ n = 0 := by omega
  rw [hr] at hb0 hb1
  by_cases h : 0 ≤ x
  · have ht : x.tmod n = r := by rw [Int.tmod_eq_emod_of_nonneg h, hr]
    have hw : IntKind.i64.wrap r = r := IntWalk.i64_in _ (by omega)
    have hd : decide (r < 0) = false := by simp; omega
    have HR := hide hr
    clear hr h
    go_enter Tryd.func10, Tryd.ntmps10
    go_wp2_with fail
    go_ret
    exact ⟨rfl, rfl⟩
  · by_cases h0 : r = 0
    · have ht : x.tmod n = 0 := by
        have h1 : n ∣ x := Int.dvd_of_emod_eq_zero (by rw [hr, h0])
        exact Int.tmod_eq_zero_of_dvd h1
      subst h0
      clear hr h
      go_enter Tryd.func10, Tryd.ntmps10
      go_wp2_with fail
      go_ret
      exact ⟨rfl, rfl⟩
    · have ht : x.tmod n = r - n := by
        rw [Int.tmod_eq_emod, if_neg, hr]
        · rw [Int.natAbs_of_nonneg (by omega)]
        · rintro (h1 | h1)
          · exact h h1
          · exact h0 (by rw [← hr]; exact Int.emod_eq_zero_of_dvd h1)
      have hw : IntKind.i64.wrap (r - n) = r - n := IntWalk.i64_in _ (by omega)
      have hd : decide (r - n < 0) = true := by simp; omega
      have hd2 : r - n < 0 := by omega
      have hs : r - n + n = r := by omega
      have hw2 : IntKind.i64.wrap r = r := IntWalk.i64_in _ (by omega)
      have HR := hide hr
      clear hr h
      go_enter Tryd.func10, Tryd.ntmps10
      go_wp2_with fail
      go_ret
      exact ⟨by first | rfl | (simp; done) | (congr 1; simp; omega), rfl⟩
theorem in_mk {id tm gn st sn ty d0 d1 d2 : Int} {ds : Bool} (h1 : 0 ≤ id ∧ id < 65536) (h2 : 0 ≤ tm ∧ tm < 4294967296) (h3 : 0 ≤ gn ∧ gn < 65536) (h4 : 0 ≤ st ∧ st < 256) (h5 : 0 ≤ sn ∧ sn < 256) (h6 : 0 ≤ ty ∧ ty < 256) (h7 : 0 ≤ d0 ∧ d0 < 256) (h8 : 0 ≤ d1 ∧ d1 < 256) (h9 : 0 ≤ d2 ∧ d2 < 256) : (Ev.mk id tm gn st sn ty ds d0 d1 d2).In :=
  ⟨h1.1, h1.2, h2.1, h2.2, h3.1, h3.2, h4.1, h4.2, h5.1, h5.2, h6.1, h6.2, h7.1, h7.2, h8.1, h8.2, h9.1, h9.2⟩
theorem valid_bl (w : World) (e : Ev) (b : Bool) (hb : validE e = b) : Calls Tryd.prog 20 #[.agg e.c] w fun z w' => z = .returned (.bool b) ∧ Below w.heap.size w w' :=
  (valid_any w e b hb).mono fun _ _ h => ⟨h.1, h.2 ▸ (Below.refl _ _).alloc (Nat.le_refl _) _⟩
theorem off_add (k : Nat) (hk : k < 6) (x : Int) (h : offs.getD k 0 = x) : offIdx (80 + x) = k := by rw [Int.add_comm]; exact off_at k hk x h
set_option maxRecDepth 100000 in
set_option maxHeartbeats 8000000 in
theorem idx_true (w : World) (hO : OffAt w) (hP : Pow10At w) (st sn ix rd lm : Int) (i : Nat) (k x : Int) (hst : 0 ≤ st ∧ st < 256) (hsn : 0 ≤ sn ∧ sn < 256) (hrd : 0 ≤ rd ∧ rd < 256) (hlm : 0 ≤ lm ∧ lm < 256)
    (hi : ix % 6 = (i : Int)) (hi6 : i < 6) (hk : ix % 15 = k) (hk0 : 0 ≤ k) (hk1 : k ≤ 14) (hx : offs.getD i 0 = x) (hx0 : 0 ≤ x) (hx1 : x ≤ 11) :
    Calls Tryd.prog 4 #[.int .u8 st, .int .u8 sn, .int .i64 ix, .bool true, .int .u8 rd, .int .u8 lm] w fun e w' => e = .returned (.bool true) ∧ Below w.heap.size w w' := by
  have HO := hide hO
  have HP := hide hP
  have HI := hide hi
  have HK := hide hk
  have HX := hide hx
  have INA : Hid ((Ev.mk 0 0 32 st sn 1 false (80 + x) rd lm).In) := hide (in_mk (by decide) (by decide) (by decide) hst hsn (by decide) (by omega) hrd hlm)
  have INB : Hid ((Ev.mk 0 0 32 st sn 111 false k 255 255).In) := hide (in_mk (by decide) (by decide) (by decide) hst hsn (by decide) (by omega) (by decide) (by decide))
  have RA : Hid (idxR (Ev.mk 0 0 32 st sn 1 false (80 + x) rd lm) = ((i : Int), true, true)) := hide (by
    unfold idxR
    simp only [if_true]
    rw [off_add i hi6 x hx, if_pos (by omega)])
  have RB : Hid (idxR (Ev.mk 0 0 32 st sn 111 false k 255 255) = (k, false, true)) := hide (by
    unfold idxR
    rw [if_neg (by show ¬ (111 : Int) = 1; omega), if_pos ⟨rfl, hk1⟩])
  have VA : Hid (validE (Ev.mk 0 0 32 st sn 1 false (80 + x) rd lm) = true) := hide rfl
  have VB : Hid (validE (Ev.mk 0 0 32 st sn 111 false k 255 255) = true) := hide rfl
  have S1 : Hid (sevR (Ev.mk 0 0 32 st sn 1 false (80 + x) rd lm) = ((i : Int) % 3 + 1)) := hide (by unfold sevR; rw [unhide RA]; simp)
  have S2 : Hid (sevR (Ev.mk 0 0 32 st sn 111 false k 255 255) = 0) := hide (by unfold sevR; rw [unhide RB]; simp)
  have hb1 : ((i : Int) == (i : Int)) = true := by simp
  have hkk : (k == k) = true := by simp
  have hm : ((i : Int)).tmod 3 = (i : Int) % 3 := Int.tmod_eq_emod_of_nonneg (by omega)
  have hm0 : 0 ≤ (i : Int) % 3 := by omega
  have hm1 : (i : Int) % 3 < 3 := by omega
  clear hO hP hi hk hx hst hsn hrd hlm
  go_enter Tryd.func4, Tryd.ntmps4
  go_wp2_with fail
  refine (mod_at _ ix 6 (i : Int) (by omega) (by omega) (unhide HI)).mono ?_
  rintro e w' ⟨rfl, rfl⟩
  go_wp2_with fail
  refine (mod_at _ ix 15 k (by omega) (by omega) (unhide HK)).mono ?_
  rintro e w' ⟨rfl, rfl⟩
  go_wp2_with fail
  refine (thr_in _ (unhide HO) st sn i true rd lm hi6 x (unhide HX) hx0 hx1).mono ?_
  rintro e w1 ⟨rfl, hb1⟩
  rw [show (Ev.mk 0 0 32 st sn 1 (!true) (80 + x) rd lm).c = #[.int .u16 0, .int .u32 0, .int .u16 32, .int .u8 st, .int .u8 sn, .int .u8 1, .bool false, .int .u8 (80 + x), .int .u8 rd, .int .u8 lm] from rfl]
  have B1 := hide (hb1.alloc hb1.size (.cells #[.int .u16 0, .int .u32 0, .int .u16 32, .int .u8 st, .int .u8 sn, .int .u8 1, .bool false, .int .u8 (80 + x), .int .u8 rd, .int .u8 lm] 26))
  have K1 : Hid (Blk (w1.alloc (.cells #[.int .u16 0, .int .u32 0, .int .u16 32, .int .u8 st, .int .u8 sn, .int .u8 1, .bool false, .int .u8 (80 + x), .int .u8 rd, .int .u8 lm] 26)) w1.heap.size 26 #[.int .u16 0, .int .u32 0, .int .u16 32, .int .u8 st, .int .u8 sn, .int .u8 1, .bool false, .int .u8 (80 + x), .int .u8 rd, .int .u8 lm]) := hide (Blk.new w1 _ _)
  clear hb1
  go_wp2_with fail
  refine (sta_in _ st sn k true hk0 hk1).mono ?_
  rintro e w2 ⟨rfl, hb2⟩
  rw [show (Ev.mk 0 0 32 st sn 111 (!true) k 255 255).c = #[.int .u16 0, .int .u32 0, .int .u16 32, .int .u8 st, .int .u8 sn, .int .u8 111, .bool false, .int .u8 k, .int .u8 255, .int .u8 255] from rfl]
  obtain ⟨W2, hW2⟩ : ∃ W2, w2.alloc (.cells #[.int .u16 0, .int .u32 0, .int .u16 32, .int .u8 st, .int .u8 sn, .int .u8 111, .bool false, .int .u8 k, .int .u8 255, .int .u8 255] 26) = W2 := ⟨_, rfl⟩
  have B2 : Hid (Below w.heap.size w W2) := hide (hW2 ▸ ((unhide B1).trans (hb2.mono (unhide B1).size)).alloc ((unhide B1).trans (hb2.mono (unhide B1).size)).size (.cells #[.int .u16 0, .int .u32 0, .int .u16 32, .int .u8 st, .int .u8 sn, .int .u8 111, .bool false, .int .u8 k, .int .u8 255, .int .u8 255] 26))
  have K2 : Hid (Blk W2 w1.heap.size 26 #[.int .u16 0, .int .u32 0, .int .u16 32, .int .u8 st, .int .u8 sn, .int .u8 1, .bool false, .int .u8 (80 + x), .int .u8 rd, .int .u8 lm]) := hide (hW2 ▸ ((unhide K1).below hb2 (unhide K1).lt).alloc _)
  have L2 : Hid (Blk W2 w2.heap.size 26 #[.int .u16 0, .int .u32 0, .int .u16 32, .int .u8 st, .int .u8 sn, .int .u8 111, .bool false, .int .u8 k, .int .u8 255, .int .u8 255]) := hide (hW2 ▸ Blk.new w2 _ _)
  have HW2 := hide hW2
  clear hb2 hW2
  obtain ⟨a0, a1, a2, a3, a4, a5, a6, a7, a8, a9, halt⟩ := blk10 (unhide K2)
  obtain ⟨b0, b1, b2, b3, b4, b5, b6, b7, b8, b9, hblt⟩ := blk10 (unhide L2)
  go_upto_region 4 with fail
  rw [unhide HW2]
  go_wp2_with fail
  refine (idx_any _ ((unhide HO).below (unhide B2)) (Ev.mk 0 0 32 st sn 1 false (80 + x) rd lm) (unhide INA) _ (unhide RA)).mono ?_
  rintro e w3 ⟨rfl, hb3⟩
  have B3 := hide ((unhide B2).trans (hb3.mono (unhide B2).size))
  have K3 := hide ((unhide K2).below hb3 (unhide K2).lt)
  have L3 := hide ((unhide L2).below hb3 (unhide L2).lt)
  clear hb3 a0 a1 a2 a3 a4 a5 a6 a7 a8 a9 halt b0 b1 b2 b3 b4 b5 b6 b7 b8 b9 hblt
  obtain ⟨b0, b1, b2, b3, b4, b5, b6, b7, b8, b9, hblt⟩ := blk10 (unhide L3)
  dsimp only
  go_wp2_with fail
  refine (idx_any _ ((unhide HO).below (unhide B3)) (Ev.mk 0 0 32 st sn 111 false k 255 255) (unhide INB) _ (unhide RB)).mono ?_
  rintro e w4 ⟨rfl, hb4⟩
  have B4 := hide ((unhide B3).trans (hb4.mono (unhide B3).size))
  have K4 := hide ((unhide K3).below hb4 (unhide K3).lt)
  have L4 := hide ((unhide L3).below hb4 (unhide L3).lt)
  clear hb4 b0 b1 b2 b3 b4 b5 b6 b7 b8 b9 hblt
  obtain ⟨a0, a1, a2, a3, a4, a5, a6, a7, a8, a9, halt⟩ := blk10 (unhide K4)
  obtain ⟨b0, b1, b2, b3, b4, b5, b6, b7, b8, b9, hblt⟩ := blk10 (unhide L4)
  dsimp only
  go_wp2_with fail
  refine (valid_bl _ (Ev.mk 0 0 32 st sn 1 false (80 + x) rd lm) true (unhide VA)).mono ?_
  rintro e w5 ⟨rfl, hb5⟩
  have B5 := hide ((unhide B4).trans (hb5.mono (unhide B4).size))
  have K5 := hide ((unhide K4).below hb5 (unhide K4).lt)
  have L5 := hide ((unhide L4).below hb5 (unhide L4).lt)
  clear hb5 a0 a1 a2 a3 a4 a5 a6 a7 a8 a9 halt b0 b1 b2 b3 b4 b5 b6 b7 b8 b9 hblt
  obtain ⟨a0, a1, a2, a3, a4, a5, a6, a7, a8, a9, halt⟩ := blk10 (unhide K5)
  obtain ⟨b0, b1, b2, b3, b4, b5, b6, b7, b8, b9, hblt⟩ := blk10 (unhide L5)
  go_wp2_with fail
  refine (valid_bl _ (Ev.mk 0 0 32 st sn 111 false k 255 255) true (unhide VB)).mono ?_
  rintro e w6 ⟨rfl, hb6⟩
  have B6 := hide ((unhide B5).trans (hb6.mono (unhide B5).size))
  have K6 := hide ((unhide K5).below hb6 (unhide K5).lt)
  have L6 := hide ((unhide L5).below hb6 (unhide L5).lt)
  clear hb6 a0 a1 a2 a3 a4 a5 a6 a7 a8 a9 halt b0 b1 b2 b3 b4 b5 b6 b7 b8 b9 hblt
  obtain ⟨a0, a1, a2, a3, a4, a5, a6, a7, a8, a9, halt⟩ := blk10 (unhide K6)
  obtain ⟨b0, b1, b2, b3, b4, b5, b6, b7, b8, b9, hblt⟩ := blk10 (unhide L6)
  go_wp2_with fail
  refine (sev_any _ ((unhide HO).below (unhide B6)) (Ev.mk 0 0 32 st sn 1 false (80 + x) rd lm) (unhide INA) _ (unhide S1)).mono ?_
  rintro e w7 ⟨rfl, hb7⟩
  have B7 := hide ((unhide B6).trans (hb7.mono (unhide B6).size))
  have K7 := hide ((unhide K6).below hb7 (unhide K6).lt)
  have L7 := hide ((unhide L6).below hb7 (unhide L6).lt)
  clear hb7 a0 a1 a2 a3 a4 a5 a6 a7 a8 a9 halt b0 b1 b2 b3 b4 b5 b6 b7 b8 b9 hblt
  obtain ⟨a0, a1, a2, a3, a4, a5, a6, a7, a8, a9, halt⟩ := blk10 (unhide K7)
  obtain ⟨b0, b1, b2, b3, b4, b5, b6, b7, b8, b9, hblt⟩ := blk10 (unhide L7)
  go_wp2_with fail
  refine (sev_any _ ((unhide HO).below (unhide B7)) (Ev.mk 0 0 32 st sn 111 false k 255 255) (unhide INB) _ (unhide S2)).mono ?_
  rintro e w8 ⟨rfl, hb8⟩
  have B8 := hide ((unhide B7).trans (hb8.mono (unhide B7).size))
  have K8 := hide ((unhide K7).below hb8 (unhide K7).lt)
  have L8 := hide ((unhide L7).below hb8 (unhide L7).lt)
  clear hb8 a0 a1 a2 a3 a4 a5 a6 a7 a8 a9 halt b0 b1 b2 b3 b4 b5 b6 b7 b8 b9 hblt
  obtain ⟨a0, a1, a2, a3, a4, a5, a6, a7, a8, a9, halt⟩ := blk10 (unhide K8)
  obtain ⟨b0, b1, b2, b3, b4, b5, b6, b7, b8, b9, hblt⟩ := blk10 (unhide L8)
  go_wp2_with fail
  refine (awake_any _ ((unhide HO).below (unhide B8)) ((unhide HP).below (unhide B8))).mono ?_
  rintro e w9 ⟨rfl, hb9⟩
  have B9 := hide ((unhide B8).trans (hb9.mono (unhide B8).size))
  clear hb9
  go_wp2_with fail
  go_ret
  exact ⟨rfl, unhide B9⟩
set_option maxRecDepth 100000 in
set_option maxHeartbeats 8000000 in
theorem idx_false (w : World) (hO : OffAt w) (hP : Pow10At w) (st sn ix rd lm : Int) (i : Nat) (k x : Int) (hst : 0 ≤ st ∧ st < 256) (hsn : 0 ≤ sn ∧ sn < 256) (hrd : 0 ≤ rd ∧ rd < 256) (hlm : 0 ≤ lm ∧ lm < 256)
    (hi : ix % 6 = (i : Int)) (hi6 : i < 6) (hk : ix % 15 = k) (hk0 : 0 ≤ k) (hk1 : k ≤ 14) (hx : offs.getD i 0 = x) (hx0 : 0 ≤ x) (hx1 : x ≤ 11) :
    Calls Tryd.prog 4 #[.int .u8 st, .int .u8 sn, .int .i64 ix, .bool false, .int .u8 rd, .int .u8 lm] w fun e w' => e = .returned (.bool true) ∧ Below w.heap.size w w' := by
  have HO := hide hO
  have HP := hide hP
  have HI := hide hi
  have HK := hide hk
  have HX := hide hx
  have INA : Hid ((Ev.mk 0 0 32 st sn 1 true (80 + x) rd lm).In) := hide (in_mk (by decide) (by decide) (by decide) hst hsn (by decide) (by omega) hrd hlm)
  have INB : Hid ((Ev.mk 0 0 32 st sn 111 true k 255 255).In) := hide (in_mk (by decide) (by decide) (by decide) hst hsn (by decide) (by omega) (by decide) (by decide))
  have RA : Hid (idxR (Ev.mk 0 0 32 st sn 1 true (80 + x) rd lm) = ((i : Int), true, true)) := hide (by
    unfold idxR
    simp only [if_true]
    rw [off_add i hi6 x hx, if_pos (by omega)])
  have RB : Hid (idxR (Ev.mk 0 0 32 st sn 111 true k 255 255) = (k, false, true)) := hide (by
    unfold idxR
    rw [if_neg (by show ¬ (111 : Int) = 1; omega), if_pos ⟨rfl, hk1⟩])
  have VA : Hid (validE (Ev.mk 0 0 32 st sn 1 true (80 + x) rd lm) = true) := hide rfl
  have VB : Hid (validE (Ev.mk 0 0 32 st sn 111 true k 255 255) = true) := hide rfl
  have S1 : Hid (sevR (Ev.mk 0 0 32 st sn 1 true (80 + x) rd lm) = 0) := hide (by unfold sevR; rw [unhide RA]; simp)
  have S2 : Hid (sevR (Ev.mk 0 0 32 st sn 111 true k 255 255) = 0) := hide (by unfold sevR; rw [unhide RB]; simp)
  have hb1 : ((i : Int) == (i : Int)) = true := by simp
  have hkk : (k == k) = true := by simp
  have hm : ((i : Int)).tmod 3 = (i : Int) % 3 := Int.tmod_eq_emod_of_nonneg (by omega)
  have hm0 : 0 ≤ (i : Int) % 3 := by omega
  have hm1 : (i : Int) % 3 < 3 := by omega
  clear hO hP hi hk hx hst hsn hrd hlm
  go_enter Tryd.func4, Tryd.ntmps4
  go_wp2_with fail
  refine (mod_at _ ix 6 (i : Int) (by omega) (by omega) (unhide HI)).mono ?_
  rintro e w' ⟨rfl, rfl⟩
  go_wp2_with fail
  refine (mod_at _ ix 15 k (by omega) (by omega) (unhide HK)).mono ?_
  rintro e w' ⟨rfl, rfl⟩
  go_wp2_with fail
  refine (thr_in _ (unhide HO) st sn i false rd lm hi6 x (unhide HX) hx0 hx1).mono ?_
  rintro e w1 ⟨rfl, hb1⟩
  rw [show (Ev.mk 0 0 32 st sn 1 (!false) (80 + x) rd lm).c = #[.int .u16 0, .int .u32 0, .int .u16 32, .int .u8 st, .int .u8 sn, .int .u8 1, .bool true, .int .u8 (80 + x), .int .u8 rd, .int .u8 lm] from rfl]
  have B1 := hide (hb1.alloc hb1.size (.cells #[.int .u16 0, .int .u32 0, .int .u16 32, .int .u8 st, .int .u8 sn, .int .u8 1, .bool true, .int .u8 (80 + x), .int .u8 rd, .int .u8 lm] 26))
  have K1 : Hid (Blk (w1.alloc (.cells #[.int .u16 0, .int .u32 0, .int .u16 32, .int .u8 st, .int .u8 sn, .int .u8 1, .bool true, .int .u8 (80 + x), .int .u8 rd, .int .u8 lm] 26)) w1.heap.size 26 #[.int .u16 0, .int .u32 0, .int .u16 32, .int .u8 st, .int .u8 sn, .int .u8 1, .bool true, .int .u8 (80 + x), .int .u8 rd, .int .u8 lm]) := hide (Blk.new w1 _ _)
  clear hb1
  go_wp2_with fail
  refine (sta_in _ st sn k false hk0 hk1).mono ?_
  rintro e w2 ⟨rfl, hb2⟩
  rw [show (Ev.mk 0 0 32 st sn 111 (!false) k 255 255).c = #[.int .u16 0, .int .u32 0, .int .u16 32, .int .u8 st, .int .u8 sn, .int .u8 111, .bool true, .int .u8 k, .int .u8 255, .int .u8 255] from rfl]
  obtain ⟨W2, hW2⟩ : ∃ W2, w2.alloc (.cells #[.int .u16 0, .int .u32 0, .int .u16 32, .int .u8 st, .int .u8 sn, .int .u8 111, .bool true, .int .u8 k, .int .u8 255, .int .u8 255] 26) = W2 := ⟨_, rfl⟩
  have B2 : Hid (Below w.heap.size w W2) := hide (hW2 ▸ ((unhide B1).trans (hb2.mono (unhide B1).size)).alloc ((unhide B1).trans (hb2.mono (unhide B1).size)).size (.cells #[.int .u16 0, .int .u32 0, .int .u16 32, .int .u8 st, .int .u8 sn, .int .u8 111, .bool true, .int .u8 k, .int .u8 255, .int .u8 255] 26))
  have K2 : Hid (Blk W2 w1.heap.size 26 #[.int .u16 0, .int .u32 0, .int .u16 32, .int .u8 st, .int .u8 sn, .int .u8 1, .bool true, .int .u8 (80 + x), .int .u8 rd, .int .u8 lm]) := hide (hW2 ▸ ((unhide K1).below hb2 (unhide K1).lt).alloc _)
  have L2 : Hid (Blk W2 w2.heap.size 26 #[.int .u16 0, .int .u32 0, .int .u16 32, .int .u8 st, .int .u8 sn, .int .u8 111, .bool true, .int .u8 k, .int .u8 255, .int .u8 255]) := hide (hW2 ▸ Blk.new w2 _ _)
  have HW2 := hide hW2
  clear hb2 hW2
  obtain ⟨a0, a1, a2, a3, a4, a5, a6, a7, a8, a9, halt⟩ := blk10 (unhide K2)
  obtain ⟨b0, b1, b2, b3, b4, b5, b6, b7, b8, b9, hblt⟩ := blk10 (unhide L2)
  go_upto_region 4 with fail
  rw [unhide HW2]
  go_wp2_with fail
  refine (idx_any _ ((unhide HO).below (unhide B2)) (Ev.mk 0 0 32 st sn 1 true (80 + x) rd lm) (unhide INA) _ (unhide RA)).mono ?_
  rintro e w3 ⟨rfl, hb3⟩
  have B3 := hide ((unhide B2).trans (hb3.mono (unhide B2).size))
  have K3 := hide ((unhide K2).below hb3 (unhide K2).lt)
  have L3 := hide ((unhide L2).below hb3 (unhide L2).lt)
  clear hb3 a0 a1 a2 a3 a4 a5 a6 a7 a8 a9 halt b0 b1 b2 b3 b4 b5 b6 b7 b8 b9 hblt
  obtain ⟨b0, b1, b2, b3, b4, b5, b6, b7, b8, b9, hblt⟩ := blk10 (unhide L3)
  dsimp only
  go_wp2_with fail
  refine (idx_any _ ((unhide HO).below (unhide B3)) (Ev.mk 0 0 32 st sn 111 true k 255 255) (unhide INB) _ (unhide RB)).mono ?_
  rintro e w4 ⟨rfl, hb4⟩
  have B4 := hide ((unhide B3).trans (hb4.mono (unhide B3).size))
  have K4 := hide ((unhide K3).below hb4 (unhide K3).lt)
  have L4 := hide ((unhide L3).below hb4 (unhide L3).lt)
  clear hb4 b0 b1 b2 b3 b4 b5 b6 b7 b8 b9 hblt
  obtain ⟨a0, a1, a2, a3, a4, a5, a6, a7, a8, a9, halt⟩ := blk10 (unhide K4)
  obtain ⟨b0, b1, b2, b3, b4, b5, b6, b7, b8, b9, hblt⟩ := blk10 (unhide L4)
  dsimp only
  go_wp2_with fail
  refine (valid_bl _ (Ev.mk 0 0 32 st sn 1 true (80 + x) rd lm) true (unhide VA)).mono ?_
  rintro e w5 ⟨rfl, hb5⟩
  have B5 := hide ((unhide B4).trans (hb5.mono (unhide B4).size))
  have K5 := hide ((unhide K4).below hb5 (unhide K4).lt)
  have L5 := hide ((unhide L4).below hb5 (unhide L4).lt)
  clear hb5 a0 a1 a2 a3 a4 a5 a6 a7 a8 a9 halt b0 b1 b2 b3 b4 b5 b6 b7 b8 b9 hblt
  obtain ⟨a0, a1, a2, a3, a4, a5, a6, a7, a8, a9, halt⟩ := blk10 (unhide K5)
  obtain ⟨b0, b1, b2, b3, b4, b5, b6, b7, b8, b9, hblt⟩ := blk10 (unhide L5)
  go_wp2_with fail
  refine (valid_bl _ (Ev.mk 0 0 32 st sn 111 true k 255 255) true (unhide VB)).mono ?_
  rintro e w6 ⟨rfl, hb6⟩
  have B6 := hide ((unhide B5).trans (hb6.mono (unhide B5).size))
  have K6 := hide ((unhide K5).below hb6 (unhide K5).lt)
  have L6 := hide ((unhide L5).below hb6 (unhide L5).lt)
  clear hb6 a0 a1 a2 a3 a4 a5 a6 a7 a8 a9 halt b0 b1 b2 b3 b4 b5 b6 b7 b8 b9 hblt
  obtain ⟨a0, a1, a2, a3, a4, a5, a6, a7, a8, a9, halt⟩ := blk10 (unhide K6)
  obtain ⟨b0, b1, b2, b3, b4, b5, b6, b7, b8, b9, hblt⟩ := blk10 (unhide L6)
  go_wp2_with fail
  refine (sev_any _ ((unhide HO).below (unhide B6)) (Ev.mk 0 0 32 st sn 1 true (80 + x) rd lm) (unhide INA) _ (unhide S1)).mono ?_
  rintro e w7 ⟨rfl, hb7⟩
  have B7 := hide ((unhide B6).trans (hb7.mono (unhide B6).size))
  have K7 := hide ((unhide K6).below hb7 (unhide K6).lt)
  have L7 := hide ((unhide L6).below hb7 (unhide L6).lt)
  clear hb7 a0 a1 a2 a3 a4 a5 a6 a7 a8 a9 halt b0 b1 b2 b3 b4 b5 b6 b7 b8 b9 hblt
  obtain ⟨a0, a1, a2, a3, a4, a5, a6, a7, a8, a9, halt⟩ := blk10 (unhide K7)
  obtain ⟨b0, b1, b2, b3, b4, b5, b6, b7, b8, b9, hblt⟩ := blk10 (unhide L7)
  go_wp2_with fail
  refine (sev_any _ ((unhide HO).below (unhide B7)) (Ev.mk 0 0 32 st sn 111 true k 255 255) (unhide INB) _ (unhide S2)).mono ?_
  rintro e w8 ⟨rfl, hb8⟩
  have B8 := hide ((unhide B7).trans (hb8.mono (unhide B7).size))
  have K8 := hide ((unhide K7).below hb8 (unhide K7).lt)
  have L8 := hide ((unhide L7).below hb8 (unhide L7).lt)
  clear hb8 a0 a1 a2 a3 a4 a5 a6 a7 a8 a9 halt b0 b1 b2 b3 b4 b5 b6 b7 b8 b9 hblt
  obtain ⟨a0, a1, a2, a3, a4, a5, a6, a7, a8, a9, halt⟩ := blk10 (unhide K8)
  obtain ⟨b0, b1, b2, b3, b4, b5, b6, b7, b8, b9, hblt⟩ := blk10 (unhide L8)
  go_wp2_with fail
  refine (awake_any _ ((unhide HO).below (unhide B8)) ((unhide HP).below (unhide B8))).mono ?_
  rintro e w9 ⟨rfl, hb9⟩
  have B9 := hide ((unhide B8).trans (hb9.mono (unhide B8).size))
  clear hb9
  go_wp2_with fail
  go_ret
  exact ⟨rfl, unhide B9⟩
theorem u8_of_wf {n : Int} (h : (Lit.int .u8 n).wf = true) : 0 ≤ n ∧ n < 256 := by
  have := bounds_u8 h
  omega
theorem indexes_walk (w : World) (st : Int) (wst : (Lit.int .u8 st).wf = true) (sn : Int) (wsn : (Lit.int .u8 sn).wf = true) (ix : Int) (_ : (Lit.int .i64 ix).wf = true) (av : Bool) (rd : Int) (wrd : (Lit.int .u8 rd).wf = true) (lm : Int) (wlm : (Lit.int .u8 lm).wf = true) (hP : Pow10At w) (hO : OffAt w) :
    Calls Tryd.prog 4 #[.int .u8 st, .int .u8 sn, .int .i64 ix, .bool av, .int .u8 rd, .int .u8 lm] w fun e w' => e = .returned (.bool true) ∧ Below w.heap.size w w' := by
  have h1 := u8_of_wf wst
  have h2 := u8_of_wf wsn
  have h3 := u8_of_wf wrd
  have h4 := u8_of_wf wlm
  have hi : ix % 6 = ((ix % 6).toNat : Int) := by omega
  have h6 : (ix % 6).toNat < 6 := by omega
  have hx := offs_le (ix % 6).toNat h6
  cases av
  · exact idx_false w hO hP st sn ix rd lm _ _ _ h1 h2 h3 h4 hi h6 rfl (by omega) (by omega) rfl hx.1 hx.2
  · exact idx_true w hO hP st sn ix rd lm _ _ _ h1 h2 h3 h4 hi h6 rfl (by omega) (by omega) rfl hx.1 hx.2
end Go.Proofs.YtklffnfaigmjfaaDoor
