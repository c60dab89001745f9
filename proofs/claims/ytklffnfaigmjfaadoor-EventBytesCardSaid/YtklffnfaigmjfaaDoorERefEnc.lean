/- The reference's Encode returns encL. No condition. -/
import Derived.Test.YtklffnfaigmjfaaDoorELittle
import Derived.Test.YtklffnfaigmjfaaDoorApp
import Derived.Deep.Onto
namespace Go.Proofs.YtklffnfaigmjfaaDoor
open Go.RowKit
/-- What the reference's Encode leaves. -/
def REncPost (w : World) (e : Ev) (z : Ending) (w' : World) : Prop :=
  ∃ x, z = .returned (.tuple #[x, .int .i64 0]) ∧ w'.ownsRow w.heap.size 5 1 x 16 (u8V (encL e)) ∧ Below w.heap.size w w'
theorem enc_join (e : Ev) (he : e.In) : ((((u8V (leL 2 e.id) ++ [.int .u8 2]) ++ u8V (leL 4 e.tm)) ++ u8V (leL 2 e.gn)) ++ [.int .u8 4, .int .u8 e.st, .int .u8 e.sn, .int .u8 (kindE e), .int .u8 e.d0, .int .u8 e.d1, .int .u8 e.d2]) = u8V (encL e) := by
  have h1 := he.id0
  have h2 := he.id1
  have h3 := he.tm0
  have h4 := he.tm1
  have h5 := he.gn0
  have h6 := he.gn1
  have a1 : e.id / 256 % 256 = e.id / 256 := by omega
  have a2 : e.tm / 256 / 256 % 256 = e.tm / 65536 % 256 := by omega
  have a3 : e.tm / 256 / 256 / 256 % 256 = e.tm / 16777216 := by omega
  have a4 : e.gn / 256 % 256 = e.gn / 256 := by omega
  simp only [u8V, leL, encL, List.map_cons, List.map_nil, List.cons_append, List.nil_append, a1, a2, a3, a4]
set_option maxRecDepth 100000 in
set_option maxHeartbeats 4000000 in
theorem renc_ok (w : World) (e : Ev) (he : e.In) (hv : validE e = true) : Calls Tryd.prog 28 #[.agg e.c] w (REncPost w e) := by
  obtain ⟨i0, hi, hz0, hz1, hz2⟩ := info_parts info_u8
  have HI := hide hi
  have HI0 := hide hz0
  have HI1 := hide hz1
  have HI2 := hide hz2
  clear hi hz0 hz1 hz2
  have HVA : Hid (∀ W, Calls Tryd.prog 29 #[.agg e.c] W fun z w' => z = .returned (.bool true) ∧ Below W.heap.size W w') := hide fun W => (rvalid_any W e true hv).mono (fun z w' h => ⟨h.1, by rw [h.2]; exact (Below.refl _ _).alloc (Nat.le_refl _) _⟩)
  have JN := hide (enc_join e he)
  have hty : e.ty ≤ 127 := by simp [validE] at hv; omega
  have h1 := he.id0
  have h2 := he.id1
  have h3 := he.tm0
  have h4 := he.tm1
  have h5 := he.gn0
  have h6 := he.gn1
  have h7 := he.ty0
  have L1 := hide fun W => little_any W e.id 2 h1 (by omega) (by omega)
  have L2 := hide fun W => little_any W e.tm 4 h3 (by omega) (by omega)
  have L3 := hide fun W => little_any W e.gn 2 h5 (by omega) (by omega)
  have w1 : IntKind.u64.wrap e.id = e.id := IntWalk.u64_in _ (by omega)
  have w2 : IntKind.u64.wrap e.tm = e.tm := IntWalk.u64_in _ (by omega)
  have w3 : IntKind.u64.wrap e.gn = e.gn := IntWalk.u64_in _ (by omega)
  have w4 : IntKind.u8.wrap (e.ty + 128) = e.ty + 128 := IntWalk.u8_in _ (by omega)
  obtain ⟨r2, hr2⟩ : ∃ l, u8V (leL 2 e.id) = l := ⟨_, rfl⟩
  obtain ⟨r4, hr4⟩ : ∃ l, u8V (leL 4 e.tm) = l := ⟨_, rfl⟩
  obtain ⟨r6, hr6⟩ : ∃ l, u8V (leL 2 e.gn) = l := ⟨_, rfl⟩
  obtain ⟨rr, hrr⟩ : ∃ l, u8V (encL e) = l := ⟨_, rfl⟩
  have one4 : ∀ u ∈ r4, u.oneCell' = true := by rw [← hr4]; intro u hu; obtain ⟨b, _, rfl⟩ := List.mem_map.1 hu; rfl
  have one6 : ∀ u ∈ r6, u.oneCell' = true := by rw [← hr6]; intro u hu; obtain ⟨b, _, rfl⟩ := List.mem_map.1 hu; rfl
  have ONE4 := hide one4
  have ONE6 := hide one6
  have PST : Hid (∀ x W, W.ownsRow w.heap.size 5 1 x 16 rr → Below w.heap.size w W → REncPost w e (.returned (.tuple #[x, .int .i64 0])) W) := hide (fun x W ho hb => ⟨x, rfl, by rw [hrr]; exact ho, hb⟩)
  unfold LePost at L1 L2 L3
  rw [hr2] at L1
  rw [hr4] at L2
  rw [hr6] at L3
  rw [hr2, hr4, hr6, hrr] at JN
  obtain ⟨q, hq⟩ : ∃ q, REncPost w e = q := ⟨_, rfl⟩
  rw [hq] at PST ⊢
  clear one4 one6 hr2 hr4 hr6 hrr hq
  clear he hv
  obtain ⟨id, tm, gn, st, sn, ty, ds, d0, d1, d2⟩ := e
  obtain ⟨kd, hkd⟩ : ∃ k, kindE ⟨id, tm, gn, st, sn, ty, ds, d0, d1, d2⟩ = k := ⟨_, rfl⟩
  rw [hkd] at JN
  dsimp only [kindE] at hkd
  simp only [Ev.c] at HVA
  dsimp only at *
  obtain ⟨W1, hW1⟩ : ∃ W1, w.alloc (.cells #[.int .u16 id, .int .u32 tm, .int .u16 gn, .int .u8 st, .int .u8 sn, .int .u8 ty, .bool ds, .int .u8 d0, .int .u8 d1, .int .u8 d2] 26) = W1 := ⟨_, rfl⟩
  have X1 : Hid (Blk W1 w.heap.size 26 #[.int .u16 id, .int .u32 tm, .int .u16 gn, .int .u8 st, .int .u8 sn, .int .u8 ty, .bool ds, .int .u8 d0, .int .u8 d1, .int .u8 d2]) := hide (hW1 ▸ Blk.new w _ _)
  have B1 : Hid (Below w.heap.size w W1) := hide (hW1 ▸ (Below.refl _ _).alloc (Nat.le_refl _) _)
  have hsz1 : W1.heap.size = w.heap.size + 1 := by rw [← hW1]; simp only [size_alloc]
  have HW1 := hide hW1
  clear hW1
  show Calls Tryd.prog 28 #[.agg #[.int .u16 id, .int .u32 tm, .int .u16 gn, .int .u8 st, .int .u8 sn, .int .u8 ty, .bool ds, .int .u8 d0, .int .u8 d1, .int .u8 d2]] w _
  cases ds
  · go_enter Tryd.func28, Tryd.ntmps28
    go_upto_region 1 with fail
    rw [unhide HW1]
    obtain ⟨p0, p1, p2, p3, p4, p5, p6, p7, p8, p9, hp⟩ := blk10 (unhide X1)
    go_wp2_with fail
    refine (unhide HVA _).mono ?_
    rintro e W2 ⟨rfl, hbv⟩
    clear p0 p1 p2 p3 p4 p5 p6 p7 p8 p9 hp
    have XV := hide ((unhide X1).below hbv (unhide X1).lt)
    have BV := hide hbv
    have hszv := hbv.size
    obtain ⟨p0, p1, p2, p3, p4, p5, p6, p7, p8, p9, hp⟩ := blk10 (unhide XV)
    clear hbv
    go_wp2_with fail
    refine (unhide L1 _).mono ?_
    rintro e w2 ⟨v2, rfl, ho2, hb2⟩
    clear p0 p1 p2 p3 p4 p5 p6 p7 p8 p9 hp
    have OW2 := hide ho2
    have B2 := hide ((unhide BV).trans (hb2.mono hszv))
    have hsz2 := (unhide B2).size
    have X2 := hide ((unhide XV).below hb2 (unhide XV).lt)
    have OW2 := hide ((unhide OW2).mono hszv)
    have RD2 : Hid (Reads (w2.alloc (.cells #[.int .u8 2] 5)) (w2.heap.size + 1) 1 (some ⟨w2.heap.size, 0, none⟩) 1 [.int .u8 2]) := hide (by
      have := Reads.of_blk (Blk.new w2 5 #[Value.int .u8 2]) 0 1 (by simp) (Nat.lt_succ_self w2.heap.size)
      simpa using this)
    clear ho2 hb2
    go_wp2_with (first
      | (at_builtin; refine wpList_append_b (w2.alloc (.cells #[.int .u8 2] 5)) (.tmp 18) (.tmp 19) 45 v2 (some ⟨w2.heap.size, 0, none⟩) 1 1 rfl rfl rfl rfl W1.heap.size 5 i0 (.int .u8 0) 1 Tryd.underlying45 (unhide HI) (unhide HI0) (unhide HI1) (unhide HI2) rfl 2 _ ((unhide OW2).alloc _) (w2.heap.size + 1) [.int .u8 2] (unhide RD2) (by intro u hu; simp at hu; subst hu; rfl) (by unfold maxLen; omega) (by omega) (by rw [size_alloc]; omega) ?_
         intro v3 w3 ho3 hb3
         have OW3 := hide ho3
         have hb3' := ((Below.refl W1.heap.size w2).alloc hsz2 _).trans hb3
         have B3 := hide ((unhide B2).trans hb3')
         have X3 := hide ((unhide X2).below hb3' (by omega))
         have hsz3 : W1.heap.size ≤ w3.heap.size := (unhide B3).size
         obtain ⟨p0, p1, p2, p3, p4, p5, p6, p7, p8, p9, hp⟩ := blk10 (unhide X3)
         clear ho3 hb3 hb3')
      | fail)
    refine (unhide L2 _).mono ?_
    rintro e w4 ⟨v4, rfl, ho4, hb4⟩
    clear p0 p1 p2 p3 p4 p5 p6 p7 p8 p9 hp
    obtain ⟨A4, c4, rfl, hc4, hm4⟩ := slice_of_own ho4
    have RD4 := hide (Reads.of_own ho4)
    have OW4 := hide (own_below (unhide OW3) hb4)
    have X4 := hide ((unhide X3).below hb4 (unhide X3).lt)
    have B4 := hide ((unhide B3).trans (hb4.mono hsz3))
    have hsz4 : W1.heap.size ≤ w4.heap.size := (unhide B4).size
    clear ho4 hb4
    go_wp2_with (first
      | (at_builtin; refine wpList_append_b w4 (.tmp 21) (.tmp 25) 45 v3 A4 4 c4 rfl rfl rfl rfl W1.heap.size 5 i0 (.int .u8 0) 1 Tryd.underlying45 (unhide HI) (unhide HI0) (unhide HI1) (unhide HI2) rfl 3 _ (unhide OW4) w4.heap.size _ (unhide RD4) (unhide ONE4) (by unfold maxLen; omega) (by omega) hsz4 ?_
         intro v5 w5 ho5 hb5
         have OW5 := hide ho5
         have B5 := hide ((unhide B4).trans hb5)
         have X5 := hide ((unhide X4).below hb5 (by omega))
         have hsz5 : W1.heap.size ≤ w5.heap.size := (unhide B5).size
         obtain ⟨p0, p1, p2, p3, p4, p5, p6, p7, p8, p9, hp⟩ := blk10 (unhide X5)
         clear ho5 hb5)
      | fail)
    refine (unhide L3 _).mono ?_
    rintro e w6 ⟨v6, rfl, ho6, hb6⟩
    clear p0 p1 p2 p3 p4 p5 p6 p7 p8 p9 hp
    obtain ⟨A6, c6, rfl, hc6, hm6⟩ := slice_of_own ho6
    have RD6 := hide (Reads.of_own ho6)
    have OW6 := hide (own_below (unhide OW5) hb6)
    have X6 := hide ((unhide X5).below hb6 (unhide X5).lt)
    have B6 := hide ((unhide B5).trans (hb6.mono hsz5))
    have hsz6 : W1.heap.size ≤ w6.heap.size := (unhide B6).size
    clear ho6 hb6
    go_upto_region 9 with (first
      | (at_builtin; refine wpList_append_b w6 (.tmp 27) (.tmp 31) 45 v5 A6 2 c6 rfl rfl rfl rfl W1.heap.size 5 i0 (.int .u8 0) 1 Tryd.underlying45 (unhide HI) (unhide HI0) (unhide HI1) (unhide HI2) rfl 7 _ (unhide OW6) w6.heap.size _ (unhide RD6) (unhide ONE6) (by unfold maxLen; omega) (by omega) hsz6 ?_
         intro v7 w7 ho7 hb7
         have OW7 := hide ho7
         have B7 := hide ((unhide B6).trans hb7)
         have X7 := hide ((unhide X6).below hb7 (by omega))
         have hsz7 : W1.heap.size ≤ w7.heap.size := (unhide B7).size
         obtain ⟨p0, p1, p2, p3, p4, p5, p6, p7, p8, p9, hp⟩ := blk10 (unhide X7)
         clear ho7 hb7)
      | fail)
    simp at hkd
    subst hkd
    have RD8 : Hid (Reads (w7.alloc (.cells #[.int .u8 4, .int .u8 st, .int .u8 sn, .int .u8 (ty), .int .u8 d0, .int .u8 d1, .int .u8 d2] 5)) (w7.heap.size + 1) 1 (some ⟨w7.heap.size, 0, none⟩) 7 [.int .u8 4, .int .u8 st, .int .u8 sn, .int .u8 (ty), .int .u8 d0, .int .u8 d1, .int .u8 d2]) := hide (by
      have := Reads.of_blk (Blk.new w7 5 #[.int .u8 4, .int .u8 st, .int .u8 sn, .int .u8 (ty), .int .u8 d0, .int .u8 d1, .int .u8 d2]) 0 7 (by simp) (Nat.lt_succ_self w7.heap.size)
      simpa using this)
    go_wp2_with (first
      | (at_builtin; refine wpList_append_b (w7.alloc (.cells #[.int .u8 4, .int .u8 st, .int .u8 sn, .int .u8 (ty), .int .u8 d0, .int .u8 d1, .int .u8 d2] 5)) (.tmp 33) (.tmp 48) 45 v7 (some ⟨w7.heap.size, 0, none⟩) 7 7 rfl rfl rfl rfl W1.heap.size 5 i0 (.int .u8 0) 1 Tryd.underlying45 (unhide HI) (unhide HI0) (unhide HI1) (unhide HI2) rfl 9 _ ((unhide OW7).alloc _) (w7.heap.size + 1) [.int .u8 4, .int .u8 st, .int .u8 sn, .int .u8 (ty), .int .u8 d0, .int .u8 d1, .int .u8 d2] (unhide RD8) (by intro u hu; simp at hu; rcases hu with rfl | rfl | rfl | rfl | rfl | rfl | rfl <;> rfl) (by unfold maxLen; omega) (by omega) (by rw [size_alloc]; omega) ?_
         intro v8 w8 ho8 hb8
         have OW8 := hide ho8
         have B8 := hide ((unhide B7).trans (((Below.refl W1.heap.size w7).alloc hsz7 _).trans hb8))
         clear ho8 hb8)
      | fail)
    show q (Ending.returned (Value.tuple #[v8, .int .i64 0])) w8
    refine unhide PST _ _ ?_ ?_
    · have ho := (unhide OW8).mono (base' := w.heap.size) (by omega)
      rw [unhide JN] at ho
      exact ho
    · exact (unhide B1).trans ((unhide B8).mono (by omega))
  · go_enter Tryd.func28, Tryd.ntmps28
    go_upto_region 1 with fail
    rw [unhide HW1]
    obtain ⟨p0, p1, p2, p3, p4, p5, p6, p7, p8, p9, hp⟩ := blk10 (unhide X1)
    go_wp2_with fail
    refine (unhide HVA _).mono ?_
    rintro e W2 ⟨rfl, hbv⟩
    clear p0 p1 p2 p3 p4 p5 p6 p7 p8 p9 hp
    have XV := hide ((unhide X1).below hbv (unhide X1).lt)
    have BV := hide hbv
    have hszv := hbv.size
    obtain ⟨p0, p1, p2, p3, p4, p5, p6, p7, p8, p9, hp⟩ := blk10 (unhide XV)
    clear hbv
    go_wp2_with fail
    refine (unhide L1 _).mono ?_
    rintro e w2 ⟨v2, rfl, ho2, hb2⟩
    clear p0 p1 p2 p3 p4 p5 p6 p7 p8 p9 hp
    have OW2 := hide ho2
    have B2 := hide ((unhide BV).trans (hb2.mono hszv))
    have hsz2 := (unhide B2).size
    have X2 := hide ((unhide XV).below hb2 (unhide XV).lt)
    have OW2 := hide ((unhide OW2).mono hszv)
    have RD2 : Hid (Reads (w2.alloc (.cells #[.int .u8 2] 5)) (w2.heap.size + 1) 1 (some ⟨w2.heap.size, 0, none⟩) 1 [.int .u8 2]) := hide (by
      have := Reads.of_blk (Blk.new w2 5 #[Value.int .u8 2]) 0 1 (by simp) (Nat.lt_succ_self w2.heap.size)
      simpa using this)
    clear ho2 hb2
    go_wp2_with (first
      | (at_builtin; refine wpList_append_b (w2.alloc (.cells #[.int .u8 2] 5)) (.tmp 18) (.tmp 19) 45 v2 (some ⟨w2.heap.size, 0, none⟩) 1 1 rfl rfl rfl rfl W1.heap.size 5 i0 (.int .u8 0) 1 Tryd.underlying45 (unhide HI) (unhide HI0) (unhide HI1) (unhide HI2) rfl 2 _ ((unhide OW2).alloc _) (w2.heap.size + 1) [.int .u8 2] (unhide RD2) (by intro u hu; simp at hu; subst hu; rfl) (by unfold maxLen; omega) (by omega) (by rw [size_alloc]; omega) ?_
         intro v3 w3 ho3 hb3
         have OW3 := hide ho3
         have hb3' := ((Below.refl W1.heap.size w2).alloc hsz2 _).trans hb3
         have B3 := hide ((unhide B2).trans hb3')
         have X3 := hide ((unhide X2).below hb3' (by omega))
         have hsz3 : W1.heap.size ≤ w3.heap.size := (unhide B3).size
         obtain ⟨p0, p1, p2, p3, p4, p5, p6, p7, p8, p9, hp⟩ := blk10 (unhide X3)
         clear ho3 hb3 hb3')
      | fail)
    refine (unhide L2 _).mono ?_
    rintro e w4 ⟨v4, rfl, ho4, hb4⟩
    clear p0 p1 p2 p3 p4 p5 p6 p7 p8 p9 hp
    obtain ⟨A4, c4, rfl, hc4, hm4⟩ := slice_of_own ho4
    have RD4 := hide (Reads.of_own ho4)
    have OW4 := hide (own_below (unhide OW3) hb4)
    have X4 := hide ((unhide X3).below hb4 (unhide X3).lt)
    have B4 := hide ((unhide B3).trans (hb4.mono hsz3))
    have hsz4 : W1.heap.size ≤ w4.heap.size := (unhide B4).size
    clear ho4 hb4
    go_wp2_with (first
      | (at_builtin; refine wpList_append_b w4 (.tmp 21) (.tmp 25) 45 v3 A4 4 c4 rfl rfl rfl rfl W1.heap.size 5 i0 (.int .u8 0) 1 Tryd.underlying45 (unhide HI) (unhide HI0) (unhide HI1) (unhide HI2) rfl 3 _ (unhide OW4) w4.heap.size _ (unhide RD4) (unhide ONE4) (by unfold maxLen; omega) (by omega) hsz4 ?_
         intro v5 w5 ho5 hb5
         have OW5 := hide ho5
         have B5 := hide ((unhide B4).trans hb5)
         have X5 := hide ((unhide X4).below hb5 (by omega))
         have hsz5 : W1.heap.size ≤ w5.heap.size := (unhide B5).size
         obtain ⟨p0, p1, p2, p3, p4, p5, p6, p7, p8, p9, hp⟩ := blk10 (unhide X5)
         clear ho5 hb5)
      | fail)
    refine (unhide L3 _).mono ?_
    rintro e w6 ⟨v6, rfl, ho6, hb6⟩
    clear p0 p1 p2 p3 p4 p5 p6 p7 p8 p9 hp
    obtain ⟨A6, c6, rfl, hc6, hm6⟩ := slice_of_own ho6
    have RD6 := hide (Reads.of_own ho6)
    have OW6 := hide (own_below (unhide OW5) hb6)
    have X6 := hide ((unhide X5).below hb6 (unhide X5).lt)
    have B6 := hide ((unhide B5).trans (hb6.mono hsz5))
    have hsz6 : W1.heap.size ≤ w6.heap.size := (unhide B6).size
    clear ho6 hb6
    go_upto_region 9 with (first
      | (at_builtin; refine wpList_append_b w6 (.tmp 27) (.tmp 31) 45 v5 A6 2 c6 rfl rfl rfl rfl W1.heap.size 5 i0 (.int .u8 0) 1 Tryd.underlying45 (unhide HI) (unhide HI0) (unhide HI1) (unhide HI2) rfl 7 _ (unhide OW6) w6.heap.size _ (unhide RD6) (unhide ONE6) (by unfold maxLen; omega) (by omega) hsz6 ?_
         intro v7 w7 ho7 hb7
         have OW7 := hide ho7
         have B7 := hide ((unhide B6).trans hb7)
         have X7 := hide ((unhide X6).below hb7 (by omega))
         have hsz7 : W1.heap.size ≤ w7.heap.size := (unhide B7).size
         obtain ⟨p0, p1, p2, p3, p4, p5, p6, p7, p8, p9, hp⟩ := blk10 (unhide X7)
         clear ho7 hb7)
      | fail)
    simp at hkd
    subst hkd
    have RD8 : Hid (Reads (w7.alloc (.cells #[.int .u8 4, .int .u8 st, .int .u8 sn, .int .u8 (ty + 128), .int .u8 d0, .int .u8 d1, .int .u8 d2] 5)) (w7.heap.size + 1) 1 (some ⟨w7.heap.size, 0, none⟩) 7 [.int .u8 4, .int .u8 st, .int .u8 sn, .int .u8 (ty + 128), .int .u8 d0, .int .u8 d1, .int .u8 d2]) := hide (by
      have := Reads.of_blk (Blk.new w7 5 #[.int .u8 4, .int .u8 st, .int .u8 sn, .int .u8 (ty + 128), .int .u8 d0, .int .u8 d1, .int .u8 d2]) 0 7 (by simp) (Nat.lt_succ_self w7.heap.size)
      simpa using this)
    go_wp2_with (first
      | (at_builtin; refine wpList_append_b (w7.alloc (.cells #[.int .u8 4, .int .u8 st, .int .u8 sn, .int .u8 (ty + 128), .int .u8 d0, .int .u8 d1, .int .u8 d2] 5)) (.tmp 33) (.tmp 48) 45 v7 (some ⟨w7.heap.size, 0, none⟩) 7 7 rfl rfl rfl rfl W1.heap.size 5 i0 (.int .u8 0) 1 Tryd.underlying45 (unhide HI) (unhide HI0) (unhide HI1) (unhide HI2) rfl 9 _ ((unhide OW7).alloc _) (w7.heap.size + 1) [.int .u8 4, .int .u8 st, .int .u8 sn, .int .u8 (ty + 128), .int .u8 d0, .int .u8 d1, .int .u8 d2] (unhide RD8) (by intro u hu; simp at hu; rcases hu with rfl | rfl | rfl | rfl | rfl | rfl | rfl <;> rfl) (by unfold maxLen; omega) (by omega) (by rw [size_alloc]; omega) ?_
         intro v8 w8 ho8 hb8
         have OW8 := hide ho8
         have B8 := hide ((unhide B7).trans (((Below.refl W1.heap.size w7).alloc hsz7 _).trans hb8))
         clear ho8 hb8)
      | fail)
    show q (Ending.returned (Value.tuple #[v8, .int .i64 0])) w8
    refine unhide PST _ _ ?_ ?_
    · have ho := (unhide OW8).mono (base' := w.heap.size) (by omega)
      rw [unhide JN] at ho
      exact ho
    · exact (unhide B1).trans ((unhide B8).mono (by omega))
theorem renc_bad (w : World) (e : Ev) (hv : validE e = false) : Calls Tryd.prog 28 #[.agg e.c] w fun z w' => z = .returned (.tuple #[.slice none 0 0, .int .i64 1]) ∧ Below w.heap.size w w' := by
  have HVA := hide fun W => rvalid_any W e false hv
  clear hv
  obtain ⟨id, tm, gn, st, sn, ty, ds, d0, d1, d2⟩ := e
  show Calls Tryd.prog 28 #[.agg #[.int .u16 id, .int .u32 tm, .int .u16 gn, .int .u8 st, .int .u8 sn, .int .u8 ty, .bool ds, .int .u8 d0, .int .u8 d1, .int .u8 d2]] w _
  go_enter Tryd.func28, Tryd.ntmps28
  go_wp2_with fail
  refine (unhide HVA _).mono ?_
  rintro e w1 ⟨rfl, rfl⟩
  simp only [Ev.c]
  go_wp2_with fail
  go_ret2
  exact ⟨rfl, below2 _ _ _⟩
end Go.Proofs.YtklffnfaigmjfaaDoor
