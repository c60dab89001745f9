/- Printed by wip/gen_s35.py from XDerive: the same without the reference of chapter 33. -/
import Derived.Test.YtfbkkmnkpjgciaaSSeal
import Derived.Test.YtfbkkmnkpjgciaaRow
import Derived.IntWalk
namespace Go.Proofs.Ytfbkkmnkpjgciaa
open Go.RowKit
set_option maxRecDepth 100000 in
theorem key_size {ks : List UInt8} (hk : ks.length = 16) : (Try.prog.info? 36).map (·.size) = some (bsV ks).toArray.size := by
  have e : (bsV ks).toArray.size = 16 := by simp [hk]
  rw [e]
  exact (by kernel_rfl : (Try.prog.info? 36).map (·.size) = some 16)
def textF (label : List UInt8) (x y : Int) : List UInt8 := label ++ [0] ++ leB x 8 ++ leB y 8
def halfF (ks label : List UInt8) (x y : Int) (i : Nat) : List UInt8 := leB (sumF ks (textF label x y ++ [UInt8.ofNat i])) 8
def derF (ks label : List UInt8) (x y : Int) : List UInt8 := halfF ks label x y 0 ++ halfF ks label x y 1
def outF (ks label : List UInt8) (x y : Int) (k : Nat) : List UInt8 := (derF ks label x y).take (8 * k) ++ List.replicate (16 - 8 * k) 0
theorem half_len (ks label : List UInt8) (x y : Int) (i : Nat) : (halfF ks label x y i).length = 8 := leB_len _ _
theorem der_len (ks label : List UInt8) (x y : Int) : (derF ks label x y).length = 16 := by simp [derF, half_len]
theorem out_len (ks label : List UInt8) (x y : Int) (k : Nat) (hk : k ≤ 2) : (outF ks label x y k).length = 16 := by simp [outF, der_len]; omega
theorem out_zero (ks label : List UInt8) (x y : Int) : (bsV (outF ks label x y 0)).toArray = #[.int .u8 0, .int .u8 0, .int .u8 0, .int .u8 0, .int .u8 0, .int .u8 0, .int .u8 0, .int .u8 0, .int .u8 0, .int .u8 0, .int .u8 0, .int .u8 0, .int .u8 0, .int .u8 0, .int .u8 0, .int .u8 0] := by
  simp [outF, bsV, List.replicate]
theorem out_two (ks label : List UInt8) (x y : Int) : outF ks label x y 2 = derF ks label x y := by
  simp only [outF]
  rw [List.take_of_length_le (by rw [der_len]; omega)]
  simp
theorem out_step (ks label : List UInt8) (x y : Int) (k : Nat) (hk : k < 2) :
    (outF ks label x y k).take (8 * k) ++ halfF ks label x y k ++ (outF ks label x y k).drop (8 * k + 8) = outF ks label x y (k + 1) := by
  have h : k = 0 ∨ k = 1 := by omega
  rcases h with rfl | rfl
  · simp [outF, derF, half_len, List.take_append]
  · have e : (outF ks label x y 1).take (8 * 1) = halfF ks label x y 0 := by
      simp only [outF, derF]
      rw [List.take_left' (by simp [half_len])]
      exact List.take_left' (by simp [half_len])
    rw [e, out_two]
    rw [List.drop_of_length_le (by rw [out_len _ _ _ _ _ (by omega)]; omega), List.append_nil]
    rfl
set_option maxRecDepth 100000 in
set_option maxHeartbeats 4000000 in
theorem derive_any (w : World) (ks : List UInt8) (hk : ks.length = 16) (s : ByteArray) (hs : s.size ≤ 1000000) (x y : Int) (hx : 0 ≤ x) (hy : 0 ≤ y) :
    Calls Try.prog 30 #[.agg (bsV ks).toArray, .string s, .int .u64 x, .int .u64 y] w
      fun e w' => e = .returned (.agg (bsV (derF ks s.data.toList x y)).toArray) ∧ Below w.heap.size w w' := by
  obtain ⟨i0, hi, hz0, hz1, hz2⟩ := info_parts info_b
  have hKB := (Blk.new w 36 (bsV ks).toArray).alloc (.cells (bsV (outF ks s.data.toList x y 0)).toArray 36)
  have hRB := Blk.new (w.alloc (.cells (bsV ks).toArray 36)) 36 (bsV (outF ks s.data.toList x y 0)).toArray
  have hB0 := ((Below.refl w.heap.size w).alloc (Nat.le_refl _) (.cells (bsV ks).toArray 36)).alloc (by rw [size_alloc]; omega) (.cells (bsV (outF ks s.data.toList x y 0)).toArray 36)
  rw [out_zero] at hKB hRB hB0
  have hss : s.size = s.data.toList.length := by rw [Array.length_toList]; rfl
  have HSS := Lib.hid hss
  have HKB := hide hKB
  have HRB := hide hRB
  have HB0 := hide hB0
  have HK := hide hk
  clear hKB hRB hB0 hk hss
  go_enter Try.func30, Try.ntmps30
  go_wp2_with (first
    | (refine wpList_str_bytes _ (.tmp 12) 9 32 5 s rfl rfl rfl Try.underlying9 Try.underlying32 Try.underlying5 (w.heap.size + 2) (by simp) (by unfold maxLen; omega) ?_
       intro v1 w1 ho1 hb1
       have HO1 := hide ho1
       have HB1 := hide hb1
       have hsz1 : w.heap.size + 2 ≤ w1.heap.size := (by have := hb1.size; simpa using this)
       clear ho1 hb1)
    | (at_builtin; refine wpList_append1_O w1 (.tmp 13) (.tmp 14) 32 v1 (.int .u8 0) rfl rfl rfl rfl (w.heap.size + 2) 5 i0 (.int .u8 0) 1 Try.underlying32 hi hz0 hz1 hz2 rfl s.size _ (unhide HO1) rfl (by unfold maxLen; omega) (by omega) hsz1 ?_
       intro v2 w2 ho2 _ hb2
       have HO2 := hide ho2
       have HB2 := hide hb2
       have hsz2 : w.heap.size + 2 ≤ w2.heap.size := (by have := hb2.size; omega)
       clear ho2 hb2)
    | fail)
  refine (bytes_any x hx w2).mono ?_
  rintro e w3 ⟨vx, rfl, ho3, hb3⟩
  obtain ⟨ax, cx, rfl, hcx, hmx⟩ := slice_of_own ho3
  have HR3 := hide (Reads.of_own ho3)
  have HO3 := hide ((unhide HO2).old hb3)
  have HB3 := hide hb3
  have hsz3 : w.heap.size + 2 ≤ w3.heap.size := (by have := hb3.size; omega)
  clear ho3 hb3
  go_wp2_with (first
    | (at_builtin; refine wpList_append_O w3 (.tmp 16) (.tmp 18) 32 v2 ax 8 cx rfl rfl rfl rfl (w.heap.size + 2) 5 i0 (.int .u8 0) 1 1 Try.underlying32 hi hz0 hz1 hz2 rfl (by omega) (s.size + 1) _ (unhide HO3) w3.heap.size _ (unhide HR3) (bsV_one _) (by unfold maxLen; omega) (by omega) hsz3 ?_
       intro v4 w4 ho4 _ hb4 _
       have HO4 := hide ho4
       have HB4 := hide hb4
       have hsz4 : w.heap.size + 2 ≤ w4.heap.size := (by have := hb4.size; omega)
       clear ho4 hb4)
    | fail)
  refine (bytes_any y hy w4).mono ?_
  rintro e w5 ⟨vy, rfl, ho5, hb5⟩
  obtain ⟨ay, cy, rfl, hcy, hmy⟩ := slice_of_own ho5
  have HR5 := hide (Reads.of_own ho5)
  have HO5 := hide ((unhide HO4).old hb5)
  have HB5 := hide hb5
  have hsz5 : w.heap.size + 2 ≤ w5.heap.size := (by have := hb5.size; omega)
  clear ho5 hb5
  go_wp2_with (first
    | (at_builtin; refine wpList_append_O w5 (.tmp 19) (.tmp 21) 32 v4 ay 8 cy rfl rfl rfl rfl (w.heap.size + 2) 5 i0 (.int .u8 0) 1 1 Try.underlying32 hi hz0 hz1 hz2 rfl (by omega) (s.size + 1 + 8) _ (unhide HO5) w5.heap.size _ (unhide HR5) (bsV_one _) (by unfold maxLen; omega) (by omega) hsz5 ?_
       intro v6 w6 ho6 _ hb6 _
       have HO6 := hide ho6
       have HB6 := hide hb6
       have hsz6 : w.heap.size + 2 ≤ w6.heap.size := (by have := hb6.size; omega)
       clear ho6 hb6)
    | fail)
  have hbel : Below (w.heap.size + 2) ((w.alloc (.cells (bsV ks).toArray 36)).alloc (.cells (bsV (outF ks s.data.toList x y 0)).toArray 36)) w6 := by
    rw [out_zero]
    exact (((((by simpa using unhide HB1 : Below (w.heap.size + 2) _ w1).trans (unhide HB2)).trans ((unhide HB3).mono hsz2)).trans (unhide HB4)).trans ((unhide HB5).mono hsz4)).trans (unhide HB6)
  have htext : (s.data.toList.map fun b => Value.int .u8 (b.toNat : Int)) ++ [.int .u8 0] ++ bsV (leB x 8) ++ bsV (leB y 8) = bsV (textF s.data.toList x y) := by simp [textF, bsV]
  have ho6 := unhide HO6
  rw [htext] at ho6
  have HO7 := hide ho6
  have HS7 := hide (held_below (w0 := (w.alloc (.cells (bsV ks).toArray 36)).alloc (.cells (bsV (outF ks s.data.toList x y 0)).toArray 36)) (N := w.heap.size + 2) (b := w.heap.size) (cs := bsV ks) ⟨Below.refl _ _, by rw [out_zero]; exact range_of_blk (unhide HKB)⟩ hbel (Nat.le_refl _) (by omega))
  have hob := Blk.new w6 36 (bsV (outF ks s.data.toList x y 0)).toArray
  rw [out_zero] at hob
  have HOB := hide hob
  clear ho6 hob htext hbel
  go_loopw [23] (fun i wr => ∃ k : Nat, k ≤ 2 ∧ i = .int .i64 k ∧ Blk wr w6.heap.size 36 (bsV (outF ks s.data.toList x y k)).toArray ∧ Own wr (w.heap.size + 2) 5 1 v6 (s.size + 1 + 8 + 8) (bsV (textF s.data.toList x y)) ∧
      (Below (w.heap.size + 2) ((w.alloc (.cells (bsV ks).toArray 36)).alloc (.cells (bsV (outF ks s.data.toList x y 0)).toArray 36)) wr ∧ wr.rangeAt w.heap.size 0 (bsV ks)) ∧ (∀ g, v6.ownBlock = some g → g < w6.heap.size) ∧ w6.heap.size < wr.heap.size)
    (fun i _ => 2 - (intOf i).toNat)
  case atStart =>
    refine ⟨0, by omega, rfl, by rw [out_zero]; exact unhide HOB, (unhide HO7).alloc _, held_below (unhide HS7) ((Below.refl w6.heap.size w6).alloc (Nat.le_refl _) _) hsz6 (by omega), (unhide HO7).lt_, by rw [size_alloc]; omega⟩
  case round =>
    obtain ⟨k, hk2, rfl, hob, hown, hS, hgl, hszr⟩ := hrel
    by_cases hlt : k < 2
    · have hWs : w.heap.size + 2 ≤ ((w.alloc (.cells (bsV ks).toArray 36)).alloc (.cells (bsV (outF ks s.data.toList x y 0)).toArray 36)).heap.size := by rw [size_alloc, size_alloc]; omega
      generalize ((w.alloc (.cells (bsV ks).toArray 36)).alloc (.cells (bsV (outF ks s.data.toList x y 0)).toArray 36)) = Wd at hS hWs
      have hu23 := Try.underlying36
      have hsz23 : (Try.prog.info? 36).map (·.size) = some (bsV ks).length := by
        have e : (bsV ks).length = 16 := by simp [unhide HK]
        rw [e]
        exact (by kernel_rfl : (Try.prog.info? 36).map (·.size) = some 16)
      have hszd : (Try.prog.info? 5).map (·.size) = some 1 := by kernel_rfl
      have hS0 : Below (w.heap.size + 2) Wd wr.drew ∧ wr.drew.rangeAt w.heap.size 0 (bsV ks) := ⟨hS.1.drew, (World.rangeAt_drew _ _ _ _).2 hS.2⟩
      have hwk : IntKind.u8.wrap (k : Int) = (k : Int) := by rw [IntKind.wrap_u8']; omega
      have h8a : IntKind.i64.wrap ((k : Int) * 8) = (k : Int) * 8 := IntWalk.i64_in _ (by omega)
      have h8b : (0 : Int) ≤ (k : Int) * 8 := by omega
      have h8c : (k : Int) * 8 ≤ 16 := by omega
      have h8d : ((k : Int) * 8).toNat = 8 * k := by omega
      have h8e : ¬ 16 = 8 * k := by omega
      have HRa : Hid (Reads (wr.alloc (.cells #[.int .u8 (k : Int)] 5)).drew (wr.heap.size + 1) 1 (some ⟨wr.heap.size, 0, none⟩) 1 [.int .u8 (k : Int)]) := hide (by
        have := Reads.of_blk (B := wr.heap.size + 1) (Blk.new wr 5 #[.int .u8 (k : Int)]) 0 1 (by simp) (Nat.lt_succ_self _)
        exact (by simpa using this : Reads (wr.alloc (.cells #[.int .u8 (k : Int)] 5)) (wr.heap.size + 1) 1 (some ⟨wr.heap.size, 0, none⟩) 1 [.int .u8 (k : Int)]).drew)
      have HOa := hide ((hown.alloc (.cells #[.int .u8 (k : Int)] 5)).drew)
      have HBa := hide ((hob.alloc (.cells #[.int .u8 (k : Int)] 5)).drew)
      have hszr2 := hS.1.size
      clear hS hob hown
      go_wp2_with fail
      go_region_held3 (fun W => Below (w.heap.size + 2) Wd W ∧ W.rangeAt w.heap.size 0 (bsV ks)) (first | assumption | exact held_alloc (by assumption) (by omega) hWs _) (first
        | (refine step_append_O _ (.tmp 30) (.tmp 33) 32 v6 (some ⟨wr.heap.size, 0, none⟩) 1 1 rfl rfl rfl rfl (w.heap.size + 2) 5 i0 (.int .u8 0) 1 1 Try.underlying32 hi hz0 hz1 hz2 rfl (by omega) (s.size + 1 + 8 + 8) _ (unhide HOa) (wr.heap.size + 1) _ (unhide HRa) (by intro u hu; simp at hu; subst hu; rfl) (by unfold maxLen; omega) (by omega) (by simp; omega) ?_
           intro v8 w8 hoN hoT hb8 hg8
           have hS8 : Below (w.heap.size + 2) Wd w8 ∧ w8.rangeAt w.heap.size 0 (bsV ks) := held_below (by assumption) hb8 (Nat.le_refl _) (by omega)
           have HBo8 := hide ((unhide HBa).grown hg8 (fun e => by have := hgl _ e.symm; omega))
           have hsz8 : w6.heap.size < w8.heap.size := (by have := hg8.size; simp at this; omega)
           obtain ⟨a8, c8, rfl, hc8, hm8⟩ := hoN.slice_
           have e8 : bsV (textF s.data.toList x y) ++ [.int .u8 (k : Int)] = bsV (textF s.data.toList x y ++ [UInt8.ofNat k]) := (by simp [bsV]; omega)
           rw [e8] at hoN
           have HR8 := hide hoN.reads
           have HT8 := hide hoT
           clear hoN hoT hb8 hg8 e8)
        | (go_simp; go_at_call 48; refine (sum_any ks (textF s.data.toList x y ++ [UInt8.ofNat k]) (unhide HK) a8 (s.size + 1 + 8 + 8 + 1) c8 w8 (unhide HR8) hc8 hm8).mono ?_
           rintro e w9 ⟨rfl, hb9⟩
           have hS9 : Below (w.heap.size + 2) Wd w9 ∧ w9.rangeAt w.heap.size 0 (bsV ks) := held_below (by assumption) hb9 (by have := hS8.1.size; omega) (by omega)
           have HBo9 := hide ((unhide HBo8).below hb9 hsz8)
           have HT9 := hide ((unhide HT8).old hb9)
           have hsz9 : w6.heap.size < w9.heap.size := (by have := hb9.size; omega)
           clear hb9)
        | (go_simp; go_at_call 47; refine (bytes_any (sumF ks (textF s.data.toList x y ++ [UInt8.ofNat k])) (sumF_nonneg _ _) w9).mono ?_
           rintro e w10 ⟨v10, rfl, ho10, hb10⟩
           have hS10 : Below (w.heap.size + 2) Wd w10 ∧ w10.rangeAt w.heap.size 0 (bsV ks) := held_below (by assumption) hb10 (by have := hS9.1.size; omega) (by omega)
           have HBo10 := hide ((unhide HBo9).below hb10 hsz9)
           have HT10 := hide ((unhide HT9).old hb10)
           have hsz10 : w6.heap.size < w10.heap.size := (by have := hb10.size; omega)
           obtain ⟨A10, c10, rfl, hc10, hm10⟩ := slice_of_own ho10
           have hr10 := Reads.of_own ho10
           obtain ⟨ad10, hA10, _, hcell10⟩ := hr10.2 (by omega)
           subst hA10
           have HC10 := hide hcell10
           clear hb10 ho10 hr10 hcell10)
        | (refine step_copy_blk rfl (.tmp 28) (.tmp 36) 32 32 rfl 5 Try.underlying32 hszd w6.heap.size (8 * k) (16 - 8 * k) (16 - 8 * k) 8 c10 ad10 rfl rfl 36 _ (unhide HBo10) (bsV (halfF ks s.data.toList x y k)) (by rw [List.length_map, half_len]; show 8 = min 8 (16 - 8 * k); omega) (unhide HC10) (by rw [List.size_toArray, List.length_map, List.length_map, half_len, out_len _ _ _ _ _ hk2]; omega) (bsV_one _) ?_
           intro w11 hbo11 hg11
           have hS11 : Below (w.heap.size + 2) Wd w11 ∧ w11.rangeAt w.heap.size 0 (bsV ks) := held_below (by assumption) ((Below.refl (w.heap.size + 2) w10).grown hg11 (by omega) (fun g e => by injection e; omega)) (Nat.le_refl _) (by omega)
           have HBo11 := hide hbo11
           have HT11 := hide ((unhide HT10).kept hg11 (.inr (fun e => by have := hgl _ e; omega)))
           have hsz11 : w6.heap.size < w11.heap.size := (by have := hg11.size; omega)
           clear hbo11 hg11))
      have HS12 := hide hS11
      clear hS11 hS10 hS9 hS8
      go_wp2_with fail
      go_roundw
      case rel =>
        refine ⟨k + 1, by omega, by go_num, ?_, unhide HT11, ?_, hgl, hsz11⟩
        · have hb := unhide HBo11
          have e : (bsV (outF ks s.data.toList x y k)).toArray.toList.take (8 * k) ++ bsV (halfF ks s.data.toList x y k) ++ (bsV (outF ks s.data.toList x y k)).toArray.toList.drop (8 * k + (bsV (halfF ks s.data.toList x y k)).length) = bsV (outF ks s.data.toList x y (k + 1)) := by
            rw [← out_step ks s.data.toList x y k hlt]
            simp [bsV, half_len, List.map_take, List.map_drop]
          rw [e] at hb
          exact hb
        · exact unhide HS12
      case measure => simp [intOf]; omega
    · obtain rfl : k = 2 := by omega
      rw [out_two] at hob
      have hlow : Below (w.heap.size + 2) ((w.alloc (.cells (bsV ks).toArray 36)).alloc (.cells (bsV (outF ks s.data.toList x y 0)).toArray 36)) wr := hS.1
      rw [out_zero] at hlow
      have hrb := (unhide HRB).below hlow (by rw [size_alloc]; omega)
      rw [size_alloc] at hrb
      have HOB2 := hide hob
      have HRB2 := hide hrb
      have HE := hide ((unhide HB0).trans (hlow.mono (by omega)))
      have hsz16 : (Try.prog.info? 36).map (·.size) = some (bsV (derF ks s.data.toList x y)).toArray.size := key_size (der_len _ _ _ _)
      have HSZ := hide hsz16
      clear hob hlow hrb hS hown hsz16
      go_wp2_with (first
        | (refine wpList_load_row rfl 36 _ rfl w6.heap.size rfl 36 _ _ _ (unhide HOB2) Try.underlying36 rfl (unhide HSZ) ?_)
        | (refine wpList_store_blk rfl 36 (.tmp 8) (.tmp 39) rfl (w.heap.size + 1) 36 _ (bsV (derF ks s.data.toList x y)).toArray rfl rfl (unhide HRB2) (by simp [der_len]) (unhide HSZ) (by simpa using bsV_one (derF ks s.data.toList x y)) ?_
           intro w12 hb12 hg12
           have HB12 := hide hb12
           have HE12 := hide ((unhide HE).grown hg12 (by have := (unhide HE).size; omega) (fun g e => by injection e; omega))
           clear hb12 hg12))
      refine bodyPost_ret (v := .agg (bsV (derF ks s.data.toList x y)).toArray) ?_ rfl ⟨rfl, unhide HE12⟩
      exact results_blk rfl _ (w.heap.size + 1) 36 _ _ rfl (unhide HB12) Try.underlying36 rfl (unhide HSZ)
end Go.Proofs.Ytfbkkmnkpjgciaa
