/- The reference's Derive returns the key derF; nothing that was there turns. No condition but a bound on the label's length. -/
import Derived.Test.YtaopgieejgcbeaaDerive
namespace Go.Proofs.Ytaopgieejgcbeaa
open Go.RowKit
def outJ (d : List UInt8) (j : Nat) : List UInt8 := d.take j ++ List.replicate (16 - j) 0
theorem outJ_len (d : List UInt8) (hd : d.length = 16) (j : Nat) (hj : j ≤ 16) : (outJ d j).length = 16 := by simp [outJ, hd]; omega
theorem outJ_step (d : List UInt8) (hd : d.length = 16) (j : Nat) (b : UInt8) (hb : d[j]? = some b) (hj : j < 16) : (outJ d j).set j b = outJ d (j + 1) := by
  unfold outJ
  have h1 : (d.take j).length = j := by simp [hd]; omega
  rw [List.set_append_right _ _ (by omega), h1, Nat.sub_self, List.take_add_one, hb]
  obtain ⟨m, hm⟩ : ∃ m, 16 - j = m + 1 := ⟨16 - j - 1, by omega⟩
  rw [hm, List.replicate_succ, List.set_cons_zero, show 16 - (j + 1) = m from by omega]
  simp
theorem der_at (ks label : List UInt8) (x y : Int) (k i : Nat) (hk : k < 2) (hi : i < 8) (b : UInt8) (hb : (halfF ks label x y k)[i]? = some b) : (derF ks label x y)[8 * k + i]? = some b := by
  have h : k = 0 ∨ k = 1 := by omega
  unfold derF
  rcases h with rfl | rfl
  · rw [List.getElem?_append_left (by rw [half_len]; omega)]
    simpa using hb
  · rw [List.getElem?_append_right (by rw [half_len]; omega), half_len]
    simpa using hb
set_option maxRecDepth 100000 in
set_option maxHeartbeats 4000000 in
theorem ref_derive_any (w : World) (ks : List UInt8) (hk : ks.length = 16) (s : ByteArray) (hs : s.size ≤ 1000000) (x y : Int) (hx : 0 ≤ x) (hy : 0 ≤ y) :
    Calls Try.prog 17 #[.agg (bsV ks).toArray, .string s, .int .u64 x, .int .u64 y] w
      fun e w' => e = .returned (.agg (bsV (derF ks s.data.toList x y)).toArray) ∧ Below w.heap.size w w' := by
  obtain ⟨i0, hi, hz0, hz1, hz2⟩ := info_parts info_b
  have hKB := ((Blk.new w 23 (bsV ks).toArray).alloc (.cells (bsV (outJ (derF ks s.data.toList x y) 0)).toArray 23)).alloc (.cells (bsV (outJ (derF ks s.data.toList x y) 0)).toArray 23)
  have hRB := (Blk.new (w.alloc (.cells (bsV ks).toArray 23)) 23 (bsV (outJ (derF ks s.data.toList x y) 0)).toArray).alloc (.cells (bsV (outJ (derF ks s.data.toList x y) 0)).toArray 23)
  have hOB := Blk.new ((w.alloc (.cells (bsV ks).toArray 23)).alloc (.cells (bsV (outJ (derF ks s.data.toList x y) 0)).toArray 23)) 23 (bsV (outJ (derF ks s.data.toList x y) 0)).toArray
  have hB0 := (((Below.refl w.heap.size w).alloc (Nat.le_refl _) (.cells (bsV ks).toArray 23)).alloc (by rw [size_alloc]; omega) (.cells (bsV (outJ (derF ks s.data.toList x y) 0)).toArray 23)).alloc (by rw [size_alloc, size_alloc]; omega) (.cells (bsV (outJ (derF ks s.data.toList x y) 0)).toArray 23)
  have hz : (bsV (outJ (derF ks s.data.toList x y) 0)).toArray = #[.int .u8 0, .int .u8 0, .int .u8 0, .int .u8 0, .int .u8 0, .int .u8 0, .int .u8 0, .int .u8 0, .int .u8 0, .int .u8 0, .int .u8 0, .int .u8 0, .int .u8 0, .int .u8 0, .int .u8 0, .int .u8 0] := by simp [outJ, bsV, List.replicate]
  rw [hz] at hKB hRB hOB hB0
  have hss : s.size = s.data.toList.length := by rw [Array.length_toList]; rfl
  rw [size_alloc] at hRB
  rw [size_alloc, size_alloc] at hOB
  have HSS := Lib.hid hss
  have HZ := Lib.hid hz
  have HKB := hide hKB
  have HRB := hide hRB
  have HOB := hide hOB
  have HB0 := hide hB0
  have HK := hide hk
  clear hKB hRB hOB hB0 hk hss hz
  go_enter Try.func17, Try.ntmps17
  go_wp2_with (first
    | (refine wpList_str_bytes _ (.tmp 15) 9 24 5 s rfl rfl rfl Try.underlying9 Try.underlying24 Try.underlying5 (w.heap.size + 3) (by simp) (by unfold maxLen; omega) ?_
       intro v1 w1 ho1 hb1
       have HO1 := hide ho1
       have HB1 := hide hb1
       have hsz1 : w.heap.size + 3 ≤ w1.heap.size := (by have := hb1.size; simpa using this)
       clear ho1 hb1)
    | (at_builtin; refine wpList_append1_O w1 (.tmp 16) (.tmp 17) 24 v1 (.int .u8 0) rfl rfl rfl rfl (w.heap.size + 3) 5 i0 (.int .u8 0) 1 Try.underlying24 hi hz0 hz1 hz2 rfl s.size _ (unhide HO1) rfl (by unfold maxLen; omega) (by omega) hsz1 ?_
       intro v2 w2 ho2 _ hb2
       have HO2 := hide ho2
       have HB2 := hide hb2
       have hsz2 : w.heap.size + 3 ≤ w2.heap.size := (by have := hb2.size; omega)
       clear ho2 hb2)
    | fail)
  refine (number_any x hx w2).mono ?_
  rintro e w3 ⟨vx, rfl, ho3, hb3⟩
  obtain ⟨ax, cx, rfl, hcx, hmx⟩ := slice_of_own ho3
  have HR3 := hide (Reads.of_own ho3)
  have HO3 := hide ((unhide HO2).old hb3)
  have HB3 := hide hb3
  have hsz3 : w.heap.size + 3 ≤ w3.heap.size := (by have := hb3.size; omega)
  clear ho3 hb3
  go_wp2_with (first
    | (at_builtin; refine wpList_append_O w3 (.tmp 18) (.tmp 20) 24 v2 ax 8 cx rfl rfl rfl rfl (w.heap.size + 3) 5 i0 (.int .u8 0) 1 1 Try.underlying24 hi hz0 hz1 hz2 rfl (by omega) (s.size + 1) _ (unhide HO3) w3.heap.size _ (unhide HR3) (bsV_one _) (by unfold maxLen; omega) (by omega) hsz3 ?_
       intro v4 w4 ho4 _ hb4 _
       have HO4 := hide ho4
       have HB4 := hide hb4
       have hsz4 : w.heap.size + 3 ≤ w4.heap.size := (by have := hb4.size; omega)
       clear ho4 hb4)
    | fail)
  refine (number_any y hy w4).mono ?_
  rintro e w5 ⟨vy, rfl, ho5, hb5⟩
  obtain ⟨ay, cy, rfl, hcy, hmy⟩ := slice_of_own ho5
  have HR5 := hide (Reads.of_own ho5)
  have HO5 := hide ((unhide HO4).old hb5)
  have HB5 := hide hb5
  have hsz5 : w.heap.size + 3 ≤ w5.heap.size := (by have := hb5.size; omega)
  clear ho5 hb5
  go_wp2_with (first
    | (at_builtin; refine wpList_append_O w5 (.tmp 21) (.tmp 23) 24 v4 ay 8 cy rfl rfl rfl rfl (w.heap.size + 3) 5 i0 (.int .u8 0) 1 1 Try.underlying24 hi hz0 hz1 hz2 rfl (by omega) (s.size + 1 + 8) _ (unhide HO5) w5.heap.size _ (unhide HR5) (bsV_one _) (by unfold maxLen; omega) (by omega) hsz5 ?_
       intro v6 w6 ho6 _ hb6 _
       have HO6 := hide ho6
       have HB6 := hide hb6
       have hsz6 : w.heap.size + 3 ≤ w6.heap.size := (by have := hb6.size; omega)
       clear ho6 hb6)
    | fail)
  have hbel := (((((by simpa using unhide HB1 : Below (w.heap.size + 3) _ w1).trans (unhide HB2)).trans ((unhide HB3).mono hsz2)).trans (unhide HB4)).trans ((unhide HB5).mono hsz4)).trans (unhide HB6)
  have htext : (s.data.toList.map fun b => Value.int .u8 (b.toNat : Int)) ++ [.int .u8 0] ++ bsV (leB x 8) ++ bsV (leB y 8) = bsV (textF s.data.toList x y) := by simp [textF, bsV]
  have ho6 := unhide HO6
  rw [htext] at ho6
  have HO7 := hide ho6
  have hkb6 := (unhide HKB).below hbel (by omega)
  have hrb6 := (unhide HRB).below hbel (by omega)
  have hob6 := (unhide HOB).below hbel (by omega)
  have he6 := (unhide HB0).trans (hbel.mono (by omega))
  rw [← HZ.out] at hob6 hrb6
  have HKB6 := hide hkb6
  have HRB6 := hide hrb6
  have HOB6 := hide hob6
  have HE6 := hide he6
  clear ho6 htext hbel hkb6 hrb6 hob6 he6
  obtain ⟨a6, c6, rfl, hc6, hm6⟩ := (unhide HO7).slice_
  have HR6 := hide (unhide HO7).reads
  go_loopw [11] (fun i wr => ∃ k : Nat, k ≤ 2 ∧ i = .int .i64 k ∧ Blk wr (w.heap.size + 1 + 1) 23 (bsV (outJ (derF ks s.data.toList x y) (8 * k))).toArray ∧ w6.grownBy wr (some (w.heap.size + 1 + 1)))
    (fun i _ => 2 - (intOf i).toNat)
  case atStart => exact ⟨0, by omega, rfl, unhide HOB6, World.grownBy.refl _ _⟩
  case round =>
    obtain ⟨k, hk2, rfl, hob, hg⟩ := hrel
    have hszr := hg.size
    by_cases hlt : k < 2
    · have hk7 := (unhide HKB6).grown hg (fun e => by injection e with e; omega)
      have ho7 := (unhide HO7).kept hg (.inr (fun e => by have h := (unhide HO7).ge_ _ e; omega))
      have hr7 := ho7.reads
      have hlow := hob.lt
      have HK7 := hide hk7
      have HR7 := hide hr7
      have HOB7 := hide hob
      have HG7 := hide hg
      have HN7 := hide (Own.nil_ wr wr.heap.size 5 1)
      have hlk : w.heap.size < wr.heap.size := hk7.lt
      have hwk : IntKind.u8.wrap (k : Int) = (k : Int) := by rw [IntKind.wrap_u8']; omega
      have hsk : s.size + 1 + 8 + 8 + 1 ≤ 1000018 := by omega
      clear hk7 ho7 hr7 hob hg
      go_wp2_with (first
        | (at_builtin; refine wpList_append_O wr (.const (.slice none 0 0)) (.tmp 29) 24 (.slice none 0 0) a6 (s.size + 1 + 8 + 8) c6 rfl rfl rfl rfl wr.heap.size 5 i0 (.int .u8 0) 1 1 Try.underlying24 hi hz0 hz1 hz2 rfl (by omega) 0 [] (unhide HN7) wr.heap.size _ (unhide HR7) (bsV_one _) (by unfold maxLen; omega) (by omega) (Nat.le_refl _) ?_
           intro v8 w8 ho8 _ hb8 _
           have HO8 := hide ho8
           have HB8 := hide hb8
           have hsz8 : wr.heap.size ≤ w8.heap.size := hb8.size
           clear ho8 hb8)
        | (at_builtin; refine wpList_append1_O w8 (.tmp 30) (.tmp 33) 24 v8 (.int .u8 (k : Int)) rfl rfl rfl rfl wr.heap.size 5 i0 (.int .u8 0) 1 Try.underlying24 hi hz0 hz1 hz2 rfl (0 + (s.size + 1 + 8 + 8)) _ (unhide HO8) rfl (by unfold maxLen; omega) (by omega) hsz8 ?_
           intro v9 w9 ho9 _ hb9
           have hb9' := (unhide HB8).trans hb9
           have HK9 := hide ((unhide HK7).below hb9' hlk)
           have HB9 := hide hb9'
           have hsz9 : wr.heap.size ≤ w9.heap.size := hb9'.size
           have e9 : [] ++ bsV (textF s.data.toList x y) ++ [.int .u8 (k : Int)] = bsV (textF s.data.toList x y ++ [UInt8.ofNat k]) := (by simp [bsV]; omega)
           rw [e9, Nat.zero_add] at ho9
           have HO9 := hide ho9
           obtain ⟨a9, c9, rfl, hc9, hm9⟩ := ho9.slice_
           clear ho9 hb9 hb9' e9)
        | (refine wpList_load_row rfl 23 _ rfl w.heap.size rfl 23 _ _ _ (unhide HK9) Try.underlying23 rfl (key_size (unhide HK)) ?_)
        | fail)
      refine (ref_sum_any ks (textF s.data.toList x y ++ [UInt8.ofNat k]) (unhide HK) a9 (s.size + 1 + 8 + 8 + 1) c9 w9 (unhide HO9).reads hc9 hm9).mono ?_
      rintro e w10 ⟨rfl, hb10⟩
      have hb10' := (unhide HB9).trans (hb10.mono hsz9)
      have HB10 := hide hb10'
      have hsz10 : wr.heap.size ≤ w10.heap.size := hb10'.size
      clear hb10 hb10'
      go_wp2_with fail
      refine (number_any (sumF ks (textF s.data.toList x y ++ [UInt8.ofNat k])) (sumF_nonneg _ _) w10).mono ?_
      rintro e w11 ⟨v11, rfl, ho11, hb11⟩
      obtain ⟨A11, c11, rfl, hc11, hm11⟩ := slice_of_own ho11
      have hr11 := Reads.of_own ho11
      obtain ⟨ad, rfl, hadl, hcell⟩ := hr11.2 (by omega)
      have hadg : w10.heap.size ≤ ad.block := own_ge ho11 _ rfl
      have HC11 := hide hcell
      have hb11' := (unhide HB10).trans (hb11.mono hsz10)
      have HB11 := hide hb11'
      have HOB11 := hide ((unhide HOB7).below hb11' hlow)
      have hsz11 : wr.heap.size ≤ w11.heap.size := hb11'.size
      clear hb11 hb11' ho11 hr11 hcell
      go_wp2_with fail
      obtain ⟨wo, hwo⟩ : ∃ wo : World, wo = wr := ⟨_, rfl⟩
      have HWO := Lib.hid hwo
      clear hwo
      go_loopw [40] (fun i wx => ∃ j : Nat, j ≤ 8 ∧ i = .int .i64 j ∧ Blk wx (w.heap.size + 1 + 1) 23 (bsV (outJ (derF ks s.data.toList x y) (8 * k + j))).toArray ∧ w11.grownBy wx (some (w.heap.size + 1 + 1)))
        (fun i _ => 8 - (intOf i).toNat)
      case atStart => exact ⟨0, by omega, rfl, unhide HOB11, World.grownBy.refl _ _⟩
      case round =>
        obtain ⟨j, hj, rfl, hob, hgx⟩ := hrel
        by_cases hjl : j < 8
        · obtain ⟨b, hb⟩ : ∃ b, (halfF ks s.data.toList x y k)[j]? = some b := ⟨_, List.getElem?_eq_getElem (by rw [half_len]; exact hjl)⟩
          have hbc : wr.cell? (ad.add j) = some (.int .u8 (b.toNat : Int)) := by
            have h1 := unhide HC11 j (.int .u8 (b.toNat : Int)) (by
              show (bsV (halfF ks s.data.toList x y k))[j]? = _
              rw [bsV, List.getElem?_map, hb]; rfl)
            rw [← h1]
            exact World.cell?_of_block (hgx.block _ (by rw [block_of_add]; exact hadl) (by rw [block_of_add]; intro e; injection e with e; omega))
          have hlen := outJ_len (derF ks s.data.toList x y) (der_len _ _ _ _) (8 * k + j) (by omega)
          obtain ⟨u, hu⟩ : ∃ u, wr.cell? ⟨w.heap.size + 1 + 1, 8 * k + j, none⟩ = some u := by
            rw [hob.cell]
            exact ⟨_, Array.getElem?_eq_getElem (by simp [hlen]; omega)⟩
          have hf := hob.frozen (8 * k + j)
          have hstep := outJ_step (derF ks s.data.toList x y) (der_len _ _ _ _) (8 * k + j) b (der_at _ _ _ _ k j hlt hjl b hb) (by omega)
          have HOB12 := hide (hob.set_ (8 * k + j) (.int .u8 (b.toNat : Int)))
          have HST := Lib.hid hstep
          have HG12 := hide (only_setCell (p := ⟨w.heap.size + 1 + 1, 8 * k + j, none⟩) hgx (.inl rfl) (.int .u8 (b.toNat : Int)))
          clear hb hob hgx hstep hlen
          go_wp2_with fail
          go_roundw
          case rel =>
            refine ⟨j + 1, by omega, by go_num, ?_, unhide HG12⟩
            have h1 := unhide HOB12
            have e : (bsV (outJ (derF ks s.data.toList x y) (8 * k + j))).toArray.setIfInBounds (8 * k + j) (.int .u8 (b.toNat : Int)) = (bsV (outJ (derF ks s.data.toList x y) (8 * k + (j + 1)))).toArray := by
              rw [← Nat.add_assoc, ← HST.out]
              simp [bsV, List.map_set]
            rw [e] at h1
            exact h1
          case measure => simp [intOf]; omega
        · obtain rfl : j = 8 := by omega
          rw [show ((8 : Nat) : Int) = 8 from rfl]
          have HOB13 := hide hob
          have HG13 := hide ((World.grownBy.trans (unhide HG7) (HWO.out ▸ only_of_below (HWO.out ▸ (unhide HB11).mono (Nat.le_refl _)) _)).trans hgx)
          clear hob hgx
          go_wp2_with fail
          go_roundw
          case rel => exact ⟨k + 1, by omega, by go_num, unhide HOB13, unhide HG13⟩
          case measure => simp [intOf]; omega
    · obtain rfl : k = 2 := by omega
      have e16 : outJ (derF ks s.data.toList x y) (8 * 2) = derF ks s.data.toList x y := by
        unfold outJ
        rw [List.take_of_length_le (by rw [der_len]; omega)]
        simp
      rw [e16] at hob
      have hrb := (unhide HRB6).grown hg (fun e => by injection e with e; omega)
      have HOB2 := hide hob
      have HRB2 := hide hrb
      have hE : Below w.heap.size w wr := (unhide HE6).grown hg (by have := (unhide HE6).size; omega) (fun g e => by injection e with e; omega)
      have HE := hide hE
      have hsz16 : (Try.prog.info? 23).map (·.size) = some (bsV (derF ks s.data.toList x y)).toArray.size := key_size (der_len _ _ _ _)
      have HSZ := hide hsz16
      clear hob hrb hE hsz16 hg e16
      go_wp2_with (first
        | (refine wpList_load_row rfl 23 _ rfl (w.heap.size + 1 + 1) rfl 23 _ _ _ (unhide HOB2) Try.underlying23 rfl (unhide HSZ) ?_)
        | (refine wpList_store_blk rfl 23 (.tmp 8) (.tmp 52) rfl (w.heap.size + 1) 23 _ (bsV (derF ks s.data.toList x y)).toArray rfl rfl (unhide HRB2) (by simp [der_len, outJ_len]) (unhide HSZ) (by simpa using bsV_one (derF ks s.data.toList x y)) ?_
           intro v12 hb12 hg12
           have HB12 := hide hb12
           have HE12 := hide ((unhide HE).grown hg12 (by have := (unhide HE).size; omega) (fun g e => by injection e; omega))
           clear hb12 hg12))
      refine bodyPost_ret (v := .agg (bsV (derF ks s.data.toList x y)).toArray) ?_ rfl ⟨rfl, unhide HE12⟩
      exact results_blk rfl _ (w.heap.size + 1) 23 _ _ rfl (unhide HB12) Try.underlying23 rfl (unhide HSZ)
end Go.Proofs.Ytaopgieejgcbeaa
