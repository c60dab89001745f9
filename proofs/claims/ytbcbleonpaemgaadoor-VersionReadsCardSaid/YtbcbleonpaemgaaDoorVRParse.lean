/- The reference's Parse of a version returns what parseV says (printed by wip/gen_vrparse.py). No condition. -/
import Derived.Test.YtbcbleonpaemgaaDoorVParseW
import Derived.Test.YtbcbleonpaemgaaDoorHHeld
namespace Go.Proofs.YtbcbleonpaemgaaDoor
open Go.RowKit
def dOf (l : List UInt8) (f i : Nat) : List UInt8 := (l.drop f).take (i - f)
theorem dOf_split (l : List UInt8) (f i : Nat) (h : f ≤ i) : l.drop f = dOf l f i ++ l.drop i := by
  unfold dOf
  have := List.take_append_drop (i - f) (l.drop f)
  rw [List.drop_drop, show f + (i - f) = i by omega] at this
  exact this.symm
theorem dOf_len (l : List UInt8) (f i : Nat) (h : i ≤ l.length) : (dOf l f i).length = i - f := by simp [dOf]; omega
theorem no46 {d : List UInt8} (h : d.all isD = true) : ∀ x ∈ d, x ≠ 46 := fun x hx e => by
  have := List.all_eq_true.1 h x hx
  rw [e, isD46] at this
  cases this
theorem fin_end (l : List UInt8) (k f : Nat) (u : Ver) (hf : f ≤ l.length) (hd : (dOf l f l.length).all isD = true) : finP k u (splitD 46 (l.drop f)) = if 2 < k ∨ okN (dOf l f l.length) = false then badV else (if k + 1 = 3 then (setV u k (decV 0 (dOf l f l.length)), 0) else badV) := by
  have h := dOf_split l f l.length hf
  rw [List.drop_length, List.append_nil] at h
  rw [h, splitD_end 46 _ (no46 hd), finP, finP]
theorem fin_dot (l : List UInt8) (k f i : Nat) (u : Ver) (hf : f ≤ i) (hi : i < l.length) (hd : (dOf l f i).all isD = true) (hc : l[i] = 46) : finP k u (splitD 46 (l.drop f)) = if 2 < k ∨ okN (dOf l f i) = false then badV else finP (k + 1) (setV u k (decV 0 (dOf l f i))) (splitD 46 (l.drop (i + 1))) := by
  rw [dOf_split l f i hf, List.drop_eq_getElem_cons hi, hc, splitD_app 46 _ _ (no46 hd), finP]
theorem fin_other (l : List UInt8) (k f i : Nat) (u : Ver) (hf : f ≤ i) (hi : i < l.length) (hd : (dOf l f i).all isD = true) (hc : l[i] ≠ 46) (hn : isD l[i] = false) : finP k u (splitD 46 (l.drop f)) = badV := by
  rw [dOf_split l f i hf, List.drop_eq_getElem_cons hi]
  obtain ⟨p, ps, h1, h2⟩ := splitD_head 46 (dOf l f i) (l[i] :: l.drop (i + 1)) (no46 hd)
  have hp : ∃ q, p = l[i] :: q := by
    rw [splitD, if_neg hc] at h2
    split at h2
    · injection h2 with e _; exact ⟨_, e.symm⟩
    · injection h2 with e _; exact ⟨_, e.symm⟩
  obtain ⟨q, rfl⟩ := hp
  have hbad : okN (dOf l f i ++ l[i] :: q) = false := by
    have : (dOf l f i ++ l[i] :: q).all isD = false := by rw [List.all_append, List.all_cons, hn]; simp
    simp [okN, this]
  rw [h1, finP, if_pos (.inr hbad)]
theorem dOf_step (l : List UInt8) (f i : Nat) (hf : f ≤ i) (hi : i < l.length) : dOf l f (i + 1) = dOf l f i ++ [l[i]] := by
  unfold dOf
  rw [show i + 1 - f = (i - f) + 1 by omega, ← List.take_append_getElem (by simp; omega)]
  congr 1
  simp [show f + (i - f) = i by omega]
theorem dOf_nil (l : List UInt8) (f : Nat) : dOf l f f = [] := by simp [dOf]
theorem ok_false1 (l : List UInt8) (f : Nat) : okN (dOf l f f) = false := by rw [dOf_nil]; rfl
theorem ok_false3 (l : List UInt8) (f i : Nat) (hi : i ≤ l.length) (h : 3 < i - f) : okN (dOf l f i) = false := okN_big (by rw [dOf_len l f i hi]; exact h)
theorem dOf_zero (l : List UInt8) (f i : Nat) (hfi : f < i) (hi : i ≤ l.length) : (dOf l f i)[0]'(by rw [dOf_len l f i hi]; omega) = l[f]'(by omega) := by
  simp [dOf]
theorem ok_false0 (l : List UInt8) (f i : Nat) (hi : i ≤ l.length) (h : 1 < i - f) (h0 : (l[f]'(by omega)).toNat = 48) : okN (dOf l f i) = false :=
  okN_zero (by rw [dOf_len l f i hi]; exact h) (by rw [dOf_zero l f i (by omega) hi]; exact h0)
theorem ok_true (l : List UInt8) (f i : Nat) (hfi : f < i) (hi : i ≤ l.length) (h3 : i - f ≤ 3) (h0 : ¬ (1 < i - f ∧ (l[f]'(by omega)).toNat = 48)) (hd : (dOf l f i).all isD = true) : okN (dOf l f i) = true := by
  have hl := dOf_len l f i hi
  rw [okN_head (by omega) (by omega) (by rw [dOf_zero l f i hfi hi, hl]; exact h0), hd]
theorem dOf_dec (l : List UInt8) (f i : Nat) (hf : f ≤ i) (hi : i < l.length) : decV 0 (dOf l f (i + 1)) = decV 0 (dOf l f i) * 10 + (l[i].toNat - 48) := by
  rw [dOf_step l f i hf hi, decV_app]
  rfl
theorem dOf_lt (l : List UInt8) (f i j : Nat) (hi : i ≤ l.length) (hd : (dOf l f i).all isD = true) (h : i - f ≤ j) : decV 0 (dOf l f i) < 10 ^ j := by
  have := decV_lt _ hd
  rw [dOf_len l f i hi] at this
  exact Nat.lt_of_lt_of_le this (Nat.pow_le_pow_right (by omega) h)
theorem dOf_all_le (l : List UInt8) (f i j : Nat) (hj : j ≤ i) (hd : (dOf l f i).all isD = true) : (dOf l f j).all isD = true := by
  have : dOf l f j = (dOf l f i).take (j - f) := by simp [dOf, List.take_take, Nat.min_eq_left (show j - f ≤ i - f by omega)]
  rw [this]
  exact List.all_eq_true.2 fun x hx => List.all_eq_true.1 hd x (List.mem_of_mem_take hx)
theorem dOf_digit (l : List UInt8) (f i j : Nat) (hfj : f ≤ j) (hj : j < i) (hi : i ≤ l.length) (hd : (dOf l f i).all isD = true) : 48 ≤ (l[j]'(by omega)).toNat ∧ (l[j]'(by omega)).toNat ≤ 57 := by
  have h1 := dOf_all_le l f i (j + 1) hj hd
  rw [dOf_step l f j hfj (by omega), List.all_append] at h1
  rw [Bool.and_eq_true] at h1
  simpa [isD] using h1.2
/-- Where the pass stands. -/
def RAt (l : List UInt8) (R : Ver × Int) (k f i : Nat) (u : Ver) : Prop :=
  (f ≤ i ∧ i ≤ l.length ∧ (dOf l f i).all isD = true ∧ finP k u (splitD 46 (l.drop f)) = R) ∨ (f = l.length + 1 ∧ i = l.length + 1 ∧ (if k = 3 then (u, 0) else badV) = R)
def ZAt (k : Nat) (u : Ver) : Prop := (k ≤ 0 → u.a = 0) ∧ (k ≤ 1 → u.b = 0) ∧ (k ≤ 2 → u.c = 0)
set_option maxRecDepth 100000 in
set_option maxHeartbeats 16000000 in
theorem rparse_any (w : World) (l : List UInt8) (hl : l.length ≤ 1000000) (v : Ver) (x : Int) (hv : parseV l = (v, x)) :
    Calls Tryd.prog 29 #[.string ⟨l.toArray⟩] w (VPost w v x) := by
  obtain ⟨r, hr⟩ : ∃ r, w.heap.size = r := ⟨_, rfl⟩
  obtain ⟨W3, hW3⟩ : ∃ W3, (w.alloc (.cells #[.int .i64 0, .int .i64 0, .int .i64 0] 26)).alloc (.cells #[.int .i64 0, .int .i64 0, .int .i64 0] 66) = W3 := ⟨_, rfl⟩
  have R3 : Hid (Blk W3 r 26 #[.int .i64 0, .int .i64 0, .int .i64 0]) := hide (hr ▸ hW3 ▸ (Blk.new w _ _).alloc _)
  have N3 : Hid (Blk W3 (r + 1) 66 #[.int .i64 0, .int .i64 0, .int .i64 0]) := hide (hW3 ▸ Blk.new' (by rw [size_alloc, hr]))
  have B3 : Hid (Below r w W3) := hide (hW3 ▸ hr ▸ ((Below.refl w.heap.size w).alloc (Nat.le_refl _) _).alloc (by simp) _)
  have HS : Hid (RAt l (v, x) 0 0 0 z3) := hide (.inl ⟨Nat.le_refl _, Nat.zero_le _, by simp [dOf], by rw [List.drop_zero]; exact hv⟩)
  have HZ : Hid (ZAt 0 z3) := hide ⟨fun _ => rfl, fun _ => rfl, fun _ => rfl⟩
  have HW3 := hide hW3
  have HR := hide hr
  have hz := size_list l _ hl
  clear hv hW3 hr
  go_enter Tryd.func29, Tryd.ntmps29
  go_wp2_with fail
  rw [unhide HW3]
  simp only [unhide HR]
  go_loopw [5, 6, 7] (fun a b c wr => ∃ (K f I : Nat) (u : Ver), a = .int .i64 K ∧ b = .int .i64 f ∧ c = .int .i64 I ∧ K ≤ 3 ∧ I ≤ l.length + 1 ∧ RAt l (v, x) K f I u ∧ ZAt K u ∧ Blk wr r 26 #[.int .i64 0, .int .i64 0, .int .i64 0] ∧ Blk wr (r + 1) 66 #[.int .i64 u.a, .int .i64 u.b, .int .i64 u.c] ∧ Below r w wr) (fun _ _ c _ => l.length + 1 - (intOf c).toNat)
  case atStart => exact ⟨0, 0, 0, z3, rfl, rfl, rfl, by omega, by omega, unhide HS, unhide HZ, unhide R3, unhide N3, unhide B3⟩
  case round =>
    obtain ⟨K, f, I, u, rfl, rfl, rfl, hK, hIl, hat, hzt, hR, hN, hB⟩ := hrel
    have RR := hide hR
    have NN := hide hN
    have BB := hide hB
    have ZZ := hide hzt
    have hrl : r + 1 < wr.heap.size := hN.lt
    obtain ⟨ua, ub, uc⟩ := u
    clear hR hB hzt
    rcases hat with ⟨hfI, hIl2, hdig, hfin⟩ | ⟨rfl, rfl, hend⟩
    rotate_left
    · have hle : (((l.length + 1 : Nat) : Int) ≤ (l.length : Int)) = False := by simp; omega
      by_cases hk3 : K = 3
      · subst hk3
        rw [if_pos rfl] at hend
        injection hend with h1 h2
        subst h1 h2
        have d0 : wr.cell? ⟨r + 1, 0, none⟩ = some (.int .i64 ua) := hN.cell 0
        have d1 : wr.cell? ⟨r + 1, 1, none⟩ = some (.int .i64 ub) := hN.cell 1
        have d2 : wr.cell? ⟨r + 1, 2, none⟩ = some (.int .i64 uc) := hN.cell 2
        clear hN hIl hK
        go_wp2_with (refine wpList_store_blk rfl 26 (.tmp 2) (.tmp 100) rfl r 26 _ #[.int .i64 ua, .int .i64 ub, .int .i64 uc] rfl rfl (unhide RR) rfl (by kernel_rfl) (by intro u hu; simp at hu; rcases hu with rfl | rfl | rfl <;> rfl) ?_
                     intro w9 hb9 hg9
                     have Z9 := hide hb9
                     have B9 := hide ((unhide BB).grown hg9 (by have := (unhide RR).lt; have := (unhide BB).size; omega) (fun j e => by injection e with e; omega))
                     clear hb9 hg9)
        exact bodyPost_ret (v := .tuple #[.agg #[.int .i64 ua, .int .i64 ub, .int .i64 uc], .int .i64 0]) (res2 rfl _ r 26 #[.int .i64 ua, .int .i64 ub, .int .i64 uc] _ _ rfl rfl (unhide Z9) Tryd.underlying26 rfl (by kernel_rfl)) rfl ⟨rfl, by rw [unhide HR]; exact unhide B9⟩
      · have hk3' : ((K : Int) != 3) = true := by simp; omega
        rw [if_neg hk3] at hend
        injection hend with h1 h2
        subst h1 h2
        clear hN hIl hK hk3
        go_wp2_with (refine wpList_store_blk rfl 26 (.tmp 2) (.tmp 93) rfl r 26 _ #[.int .i64 0, .int .i64 0, .int .i64 0] rfl rfl (unhide RR) rfl (by kernel_rfl) (by intro u hu; simp at hu; rcases hu with rfl | rfl | rfl <;> rfl) ?_
                     intro w9 hb9 hg9
                     have Z9 := hide hb9
                     have B9 := hide ((unhide BB).grown hg9 (by have := (unhide RR).lt; have := (unhide BB).size; omega) (fun j e => by injection e with e; omega))
                     clear hb9 hg9)
        exact bodyPost_ret (v := .tuple #[.agg #[.int .i64 0, .int .i64 0, .int .i64 0], .int .i64 6]) (res2 rfl _ r 26 #[.int .i64 0, .int .i64 0, .int .i64 0] _ _ rfl rfl (unhide Z9) Tryd.underlying26 rfl (by kernel_rfl)) rfl ⟨rfl, by rw [unhide HR]; exact unhide B9⟩
    have hle : ((I : Int) ≤ (l.length : Int)) = True := by simp; omega
    have HFIN := hide hfin
    have HDIG := hide hdig
    have HN := hide hN
    clear hfin hdig hN
    by_cases hlt : I < l.length
    · have hL : ((I : Int) < (l.length : Int)) = True := by simp; omega
      have hnI : ((⟨l.toArray⟩ : ByteArray)[I]'(by simpa [ByteArray.size] using hlt)).toNat = (l[I]'hlt).toNat := rfl
      by_cases hd : isD (l[I]'hlt) = true
      · have hdb : 48 ≤ (l[I]'hlt).toNat ∧ (l[I]'hlt).toNat ≤ 57 := by simpa [isD] using hd
        have hnew : (dOf l f (I + 1)).all isD = true := by rw [dOf_step l f I hfI hlt, List.all_append, unhide HDIG]; simp [hd]
        have F1 := hide (show RAt l (v, x) K f (I + 1) ⟨ua, ub, uc⟩ from .inl ⟨by omega, by omega, hnew, unhide HFIN⟩)
        clear hnew hd
        generalize (l[I]'hlt).toNat = c at hnI hdb
        have hg48 : ((48 : Int) ≤ (c : Int)) = True := by simp; omega
        have hg57 : ((c : Int) ≤ 57) = True := by simp; omega
        clear hdb
        go_wp2_with fail
        go_roundw
        case rel => exact ⟨K, f, I + 1, ⟨ua, ub, uc⟩, rfl, rfl, by go_num, hK, by omega, unhide F1, unhide ZZ, unhide RR, unhide NN, unhide BB⟩
        case measure => simp [intOf]; omega
      · have hnd : isD (l[I]'hlt) = false := by simpa using hd
        clear hd
        by_cases hc46 : (l[I]'hlt) = 46
        · have hcn : (l[I]'hlt).toNat = 46 := by rw [hc46]; rfl
          rw [hcn] at hnI

          by_cases hK2 : 2 < K
          · have hk2 : ((2 : Int) < (K : Int)) = True := by simp; omega
            have hbad : badV = (v, x) := by rw [← unhide HFIN]; rw [fin_dot l K f I _ hfI hlt (unhide HDIG) hc46, if_pos (.inl hK2)]
            injection hbad with h1 h2
            subst h1 h2
            go_wp2_with (refine wpList_store_blk rfl 26 (.tmp 2) (.tmp 68) rfl r 26 _ #[.int .i64 0, .int .i64 0, .int .i64 0] rfl rfl (unhide RR) rfl (by kernel_rfl) (by intro u hu; simp at hu; rcases hu with rfl | rfl | rfl <;> rfl) ?_
                         intro w9 hb9 hg9
                         have Z9 := hide hb9
                         have B9 := hide ((unhide BB).grown hg9 (by have := (unhide RR).lt; have := (unhide BB).size; omega) (fun j e => by injection e with e; omega))
                         clear hb9 hg9)
            exact bodyPost_ret (v := .tuple #[.agg #[.int .i64 0, .int .i64 0, .int .i64 0], .int .i64 6]) (res2 rfl _ r 26 #[.int .i64 0, .int .i64 0, .int .i64 0] _ _ rfl rfl (unhide Z9) Tryd.underlying26 rfl (by kernel_rfl)) rfl ⟨rfl, by rw [unhide HR]; exact unhide B9⟩
          have hk2 : ((2 : Int) < (K : Int)) = False := by simp; omega
          by_cases hE : I = f
          · have hEq : (((I : Nat) : Int) == (f : Int)) = true := by simp; omega
            have hbad : badV = (v, x) := by rw [← unhide HFIN]; rw [fin_dot l K f I _ hfI hlt (unhide HDIG) hc46, if_pos (.inr (by rw [hE]; exact ok_false1 l f))]
            injection hbad with h1 h2
            subst h1 h2
            clear hEq
            subst hE
            go_wp2_with (refine wpList_store_blk rfl 26 (.tmp 2) (.tmp 68) rfl r 26 _ #[.int .i64 0, .int .i64 0, .int .i64 0] rfl rfl (unhide RR) rfl (by kernel_rfl) (by intro u hu; simp at hu; rcases hu with rfl | rfl | rfl <;> rfl) ?_
                         intro w9 hb9 hg9
                         have Z9 := hide hb9
                         have B9 := hide ((unhide BB).grown hg9 (by have := (unhide RR).lt; have := (unhide BB).size; omega) (fun j e => by injection e with e; omega))
                         clear hb9 hg9)
            exact bodyPost_ret (v := .tuple #[.agg #[.int .i64 0, .int .i64 0, .int .i64 0], .int .i64 6]) (res2 rfl _ r 26 #[.int .i64 0, .int .i64 0, .int .i64 0] _ _ rfl rfl (unhide Z9) Tryd.underlying26 rfl (by kernel_rfl)) rfl ⟨rfl, by rw [unhide HR]; exact unhide B9⟩
          have hEq : (((I : Nat) : Int) == (f : Int)) = false := by simp; omega
          obtain ⟨D, hD⟩ : ∃ D, I - f = D := ⟨_, rfl⟩
          have hsub : IntKind.i64.wrap (((I : Nat) : Int) - (f : Int)) = (D : Int) := by rw [show ((I : Nat) : Int) - (f : Int) = (D : Int) by omega]; exact IntWalk.i64_in _ (by omega)
          by_cases h3 : 3 < D
          · have h3' : ((3 : Int) < (D : Int)) = True := by simp; omega
            have hbad : badV = (v, x) := by rw [← unhide HFIN]; rw [fin_dot l K f I _ hfI hlt (unhide HDIG) hc46, if_pos (.inr (ok_false3 l f I (by omega) (by omega)))]
            injection hbad with h1 h2
            subst h1 h2
            go_wp2_with (refine wpList_store_blk rfl 26 (.tmp 2) (.tmp 68) rfl r 26 _ #[.int .i64 0, .int .i64 0, .int .i64 0] rfl rfl (unhide RR) rfl (by kernel_rfl) (by intro u hu; simp at hu; rcases hu with rfl | rfl | rfl <;> rfl) ?_
                         intro w9 hb9 hg9
                         have Z9 := hide hb9
                         have B9 := hide ((unhide BB).grown hg9 (by have := (unhide RR).lt; have := (unhide BB).size; omega) (fun j e => by injection e with e; omega))
                         clear hb9 hg9)
            exact bodyPost_ret (v := .tuple #[.agg #[.int .i64 0, .int .i64 0, .int .i64 0], .int .i64 6]) (res2 rfl _ r 26 #[.int .i64 0, .int .i64 0, .int .i64 0] _ _ rfl rfl (unhide Z9) Tryd.underlying26 rfl (by kernel_rfl)) rfl ⟨rfl, by rw [unhide HR]; exact unhide B9⟩
          have h3' : ((3 : Int) < (D : Int)) = False := by simp; omega
          have hfl : f < l.length := by omega
          have hnF : ((⟨l.toArray⟩ : ByteArray)[f]'(by simpa [ByteArray.size] using hfl)).toNat = (l[f]'hfl).toNat := rfl
          by_cases h0 : 1 < D ∧ (l[f]'hfl).toNat = 48
          · have h1' : ((1 : Int) < (D : Int)) = True := by simp; omega
            have hbad : badV = (v, x) := by rw [← unhide HFIN]; rw [fin_dot l K f I _ hfI hlt (unhide HDIG) hc46, if_pos (.inr (ok_false0 l f I (by omega) (by omega) h0.2))]
            injection hbad with h1 h2
            subst h1 h2
            rw [h0.2] at hnF
            clear h0
            go_wp2_with (refine wpList_store_blk rfl 26 (.tmp 2) (.tmp 68) rfl r 26 _ #[.int .i64 0, .int .i64 0, .int .i64 0] rfl rfl (unhide RR) rfl (by kernel_rfl) (by intro u hu; simp at hu; rcases hu with rfl | rfl | rfl <;> rfl) ?_
                         intro w9 hb9 hg9
                         have Z9 := hide hb9
                         have B9 := hide ((unhide BB).grown hg9 (by have := (unhide RR).lt; have := (unhide BB).size; omega) (fun j e => by injection e with e; omega))
                         clear hb9 hg9)
            exact bodyPost_ret (v := .tuple #[.agg #[.int .i64 0, .int .i64 0, .int .i64 0], .int .i64 6]) (res2 rfl _ r 26 #[.int .i64 0, .int .i64 0, .int .i64 0] _ _ rfl rfl (unhide Z9) Tryd.underlying26 rfl (by kernel_rfl)) rfl ⟨rfl, by rw [unhide HR]; exact unhide B9⟩
          have h0c : (decide ((1 : Int) < (D : Int)) = true ∧ (((l[f]'hfl).toNat : Int) == 48) = false) ∨ decide ((1 : Int) < (D : Int)) = false := by
            by_cases h1 : 1 < D
            · left; refine ⟨by simp; omega, ?_⟩; have : (l[f]'hfl).toNat ≠ 48 := fun e => h0 ⟨h1, e⟩; simp; omega
            · right; simp; omega
          have hok := ok_true l f I (by omega) (by omega) (by omega) (by rw [hD]; exact h0) (unhide HDIG)
          have hfin : finP K ⟨ua, ub, uc⟩ (splitD 46 (l.drop f)) = (v, x) := unhide HFIN
          rw [fin_dot l K f I _ hfI hlt (unhide HDIG) hc46, if_neg (by rintro (h | h); omega; rw [hok] at h; cases h)] at hfin
          have HF := hide hfin
          generalize (l[f]'hfl).toNat = c0 at hnF h0c
          clear h0 hok hfin HFIN
          rcases (show K = 0 ∨ K = 1 ∨ K = 2 by omega) with rfl | rfl | rfl
          · rcases h0c with ⟨h1', h0'⟩ | h1'
            · have h1q : ((1 : Int) < (D : Int)) = True := by simpa using h1'
              clear h1'
              obtain rfl : ua = 0 := (unhide ZZ).1 (by omega)
              go_wp2_with fail
              go_loopw [8] (fun j W => ∃ J m : Nat, f ≤ J ∧ J ≤ I ∧ j = .int .i64 J ∧ decV 0 (dOf l f J) = m ∧ Blk W r 26 #[.int .i64 0, .int .i64 0, .int .i64 0] ∧ Blk W (r + 1) 66 #[.int .i64 (m : Int), .int .i64 ub, .int .i64 uc] ∧ Below r w W) (fun j _ => I - (intOf j).toNat)
              case atStart => exact ⟨f, 0, by omega, by omega, rfl, by rw [dOf_nil]; rfl, unhide RR, unhide NN, unhide BB⟩
              case round =>
                obtain ⟨J, m, hfJ, hJI, rfl, hm, hR2, hN2, hB2⟩ := hrel
                have RR2 := hide hR2
                have NN2 := hide hN2
                have BB2 := hide hB2
                clear hR2 hB2
                by_cases hJ : J < I
                · have hJ' : ((J : Int) < ((I : Nat) : Int)) = True := by simp; omega
                  have hJl : J < l.length := by omega
                  have hst := dOf_dec l f J hfJ hJl
                  rw [hm] at hst
                  have hm99 : m < 100 := by rw [← hm]; exact dOf_lt l f J 2 (by omega) (dOf_all_le l f I J (by omega) (unhide HDIG)) (by omega)
                  have hdb := dOf_digit l f I J hfJ hJ (by omega) (unhide HDIG)
                  have hnJ : ((⟨l.toArray⟩ : ByteArray)[J]'(by simpa [ByteArray.size] using hJl)).toNat = (l[J]'hJl).toNat := rfl
                  have HST := hide hst
                  clear hst hm
                  generalize (l[J]'hJl).toNat = cj at hnJ hdb HST
                  obtain ⟨hc1, hc2⟩ := hdb
                  obtain ⟨d, rfl⟩ : ∃ d, cj = 48 + d := ⟨cj - 48, by omega⟩
                  have hd9 : d ≤ 9 := by omega
                  have hw8 : IntKind.u8.wrap (((48 + d : Nat) : Int) - 48) = (d : Int) := by rw [show ((48 + d : Nat) : Int) - 48 = (d : Int) by omega]; exact IntWalk.u8_in _ (by omega)
                  have q1 : wr.cell? ⟨r + 1, 0, none⟩ = some (.int .i64 (m : Int)) := hN2.cell 0
                  have f1 : wr.frozen? ⟨r + 1, 0, none⟩ = false := hN2.frozen 0
                  have hrl2 : r + 1 < wr.heap.size := hN2.lt
                  have hwm : IntKind.i64.wrap ((m : Int) * 10 + (d : Int)) = ((m * 10 + d : Nat) : Int) := by rw [show (m : Int) * 10 + (d : Int) = ((m * 10 + d : Nat) : Int) by omega]; exact IntWalk.i64_in _ (by omega)
                  have hwm1 : IntKind.i64.wrap ((m : Int) * 10) = (m : Int) * 10 := IntWalk.i64_in _ (by omega)
                  have F2 : Hid (∀ z : Int, z = ((m * 10 + d : Nat) : Int) → Blk (wr.setCell ⟨r + 1, 0, none⟩ (.int .i64 z)).drew r 26 #[.int .i64 0, .int .i64 0, .int .i64 0] ∧ Blk (wr.setCell ⟨r + 1, 0, none⟩ (.int .i64 z)).drew (r + 1) 66 #[.int .i64 ((m * 10 + d : Nat) : Int), .int .i64 ub, .int .i64 uc] ∧ Below r w (wr.setCell ⟨r + 1, 0, none⟩ (.int .i64 z)).drew) := hide (fun z hz => by
                    subst hz
                    have gs : wr.grownBy (wr.setCell ⟨r + 1, 0, none⟩ (.int .i64 ((m * 10 + d : Nat) : Int))) (some (r + 1)) := only_setCell (World.grownBy.refl wr _) (.inl rfl) _
                    exact ⟨((unhide RR2).grown gs (by intro e; injection e with e; omega)).drew, ((unhide NN2).set_ 0 _).drew, ((unhide BB2).grown gs (by have := (unhide RR2).lt; have := (unhide BB2).size; omega) (fun j e => by injection e with e; omega)).drew⟩)
                  clear hN2 hc1 hc2
                  go_upto_region 12 with fail
                  go_region
                  go_wp2_with fail
                  go_roundw
                  case rel =>
                    refine ⟨J + 1, m * 10 + d, by omega, by omega, by go_num, by rw [unhide HST]; omega, ?_⟩
                    exact unhide F2 _ (by omega)
                  case measure => simp [intOf]; omega
                · obtain rfl : J = I := by omega
                  have HNN := hide (unhide NN2)
                  have HM := hide hm
                  have hJf : ((J : Int) < (J : Int)) = False := by simp
                  clear hm hN2 hJ
                  go_wp2_with fail
                  go_roundw
                  case rel => exact ⟨1, J + 1, J + 1, ⟨(m : Int), ub, uc⟩, by go_num, by go_num, by go_num, by omega, by omega, .inl ⟨Nat.le_refl _, by omega, by rw [dOf_nil]; rfl, by have h := unhide HF; rw [unhide HM] at h; exact h⟩, ⟨by omega, fun _ => (unhide ZZ).2.1 (by omega), fun _ => (unhide ZZ).2.2 (by omega)⟩, unhide RR2, unhide HNN, unhide BB2⟩
                  case measure => first | (simp [intOf]; done) | (simp [intOf]; omega)
            · have h1q : ((1 : Int) < (D : Int)) = False := by simpa using h1'
              clear h1'
              obtain ⟨b0, hb0⟩ : ∃ b, ((c0 : Int) == 48) = b := ⟨_, rfl⟩
              cases b0
              all_goals
                obtain rfl : ua = 0 := (unhide ZZ).1 (by omega)
                go_wp2_with fail
                go_loopw [8] (fun j W => ∃ J m : Nat, f ≤ J ∧ J ≤ I ∧ j = .int .i64 J ∧ decV 0 (dOf l f J) = m ∧ Blk W r 26 #[.int .i64 0, .int .i64 0, .int .i64 0] ∧ Blk W (r + 1) 66 #[.int .i64 (m : Int), .int .i64 ub, .int .i64 uc] ∧ Below r w W) (fun j _ => I - (intOf j).toNat)
                case atStart => exact ⟨f, 0, by omega, by omega, rfl, by rw [dOf_nil]; rfl, unhide RR, unhide NN, unhide BB⟩
                case round =>
                  obtain ⟨J, m, hfJ, hJI, rfl, hm, hR2, hN2, hB2⟩ := hrel
                  have RR2 := hide hR2
                  have NN2 := hide hN2
                  have BB2 := hide hB2
                  clear hR2 hB2
                  by_cases hJ : J < I
                  · have hJ' : ((J : Int) < ((I : Nat) : Int)) = True := by simp; omega
                    have hJl : J < l.length := by omega
                    have hst := dOf_dec l f J hfJ hJl
                    rw [hm] at hst
                    have hm99 : m < 100 := by rw [← hm]; exact dOf_lt l f J 2 (by omega) (dOf_all_le l f I J (by omega) (unhide HDIG)) (by omega)
                    have hdb := dOf_digit l f I J hfJ hJ (by omega) (unhide HDIG)
                    have hnJ : ((⟨l.toArray⟩ : ByteArray)[J]'(by simpa [ByteArray.size] using hJl)).toNat = (l[J]'hJl).toNat := rfl
                    have HST := hide hst
                    clear hst hm
                    generalize (l[J]'hJl).toNat = cj at hnJ hdb HST
                    obtain ⟨hc1, hc2⟩ := hdb
                    obtain ⟨d, rfl⟩ : ∃ d, cj = 48 + d := ⟨cj - 48, by omega⟩
                    have hd9 : d ≤ 9 := by omega
                    have hw8 : IntKind.u8.wrap (((48 + d : Nat) : Int) - 48) = (d : Int) := by rw [show ((48 + d : Nat) : Int) - 48 = (d : Int) by omega]; exact IntWalk.u8_in _ (by omega)
                    have q1 : wr.cell? ⟨r + 1, 0, none⟩ = some (.int .i64 (m : Int)) := hN2.cell 0
                    have f1 : wr.frozen? ⟨r + 1, 0, none⟩ = false := hN2.frozen 0
                    have hrl2 : r + 1 < wr.heap.size := hN2.lt
                    have hwm : IntKind.i64.wrap ((m : Int) * 10 + (d : Int)) = ((m * 10 + d : Nat) : Int) := by rw [show (m : Int) * 10 + (d : Int) = ((m * 10 + d : Nat) : Int) by omega]; exact IntWalk.i64_in _ (by omega)
                    have hwm1 : IntKind.i64.wrap ((m : Int) * 10) = (m : Int) * 10 := IntWalk.i64_in _ (by omega)
                    have F2 : Hid (∀ z : Int, z = ((m * 10 + d : Nat) : Int) → Blk (wr.setCell ⟨r + 1, 0, none⟩ (.int .i64 z)).drew r 26 #[.int .i64 0, .int .i64 0, .int .i64 0] ∧ Blk (wr.setCell ⟨r + 1, 0, none⟩ (.int .i64 z)).drew (r + 1) 66 #[.int .i64 ((m * 10 + d : Nat) : Int), .int .i64 ub, .int .i64 uc] ∧ Below r w (wr.setCell ⟨r + 1, 0, none⟩ (.int .i64 z)).drew) := hide (fun z hz => by
                      subst hz
                      have gs : wr.grownBy (wr.setCell ⟨r + 1, 0, none⟩ (.int .i64 ((m * 10 + d : Nat) : Int))) (some (r + 1)) := only_setCell (World.grownBy.refl wr _) (.inl rfl) _
                      exact ⟨((unhide RR2).grown gs (by intro e; injection e with e; omega)).drew, ((unhide NN2).set_ 0 _).drew, ((unhide BB2).grown gs (by have := (unhide RR2).lt; have := (unhide BB2).size; omega) (fun j e => by injection e with e; omega)).drew⟩)
                    clear hN2 hc1 hc2
                    go_upto_region 12 with fail
                    go_region
                    go_wp2_with fail
                    go_roundw
                    case rel =>
                      refine ⟨J + 1, m * 10 + d, by omega, by omega, by go_num, by rw [unhide HST]; omega, ?_⟩
                      exact unhide F2 _ (by omega)
                    case measure => simp [intOf]; omega
                  · obtain rfl : J = I := by omega
                    have HNN := hide (unhide NN2)
                    have HM := hide hm
                    have hJf : ((J : Int) < (J : Int)) = False := by simp
                    clear hm hN2 hJ
                    go_wp2_with fail
                    go_roundw
                    case rel => exact ⟨1, J + 1, J + 1, ⟨(m : Int), ub, uc⟩, by go_num, by go_num, by go_num, by omega, by omega, .inl ⟨Nat.le_refl _, by omega, by rw [dOf_nil]; rfl, by have h := unhide HF; rw [unhide HM] at h; exact h⟩, ⟨by omega, fun _ => (unhide ZZ).2.1 (by omega), fun _ => (unhide ZZ).2.2 (by omega)⟩, unhide RR2, unhide HNN, unhide BB2⟩
                    case measure => first | (simp [intOf]; done) | (simp [intOf]; omega)
          · rcases h0c with ⟨h1', h0'⟩ | h1'
            · have h1q : ((1 : Int) < (D : Int)) = True := by simpa using h1'
              clear h1'
              obtain rfl : ub = 0 := (unhide ZZ).2.1 (by omega)
              go_wp2_with fail
              go_loopw [8] (fun j W => ∃ J m : Nat, f ≤ J ∧ J ≤ I ∧ j = .int .i64 J ∧ decV 0 (dOf l f J) = m ∧ Blk W r 26 #[.int .i64 0, .int .i64 0, .int .i64 0] ∧ Blk W (r + 1) 66 #[.int .i64 ua, .int .i64 (m : Int), .int .i64 uc] ∧ Below r w W) (fun j _ => I - (intOf j).toNat)
              case atStart => exact ⟨f, 0, by omega, by omega, rfl, by rw [dOf_nil]; rfl, unhide RR, unhide NN, unhide BB⟩
              case round =>
                obtain ⟨J, m, hfJ, hJI, rfl, hm, hR2, hN2, hB2⟩ := hrel
                have RR2 := hide hR2
                have NN2 := hide hN2
                have BB2 := hide hB2
                clear hR2 hB2
                by_cases hJ : J < I
                · have hJ' : ((J : Int) < ((I : Nat) : Int)) = True := by simp; omega
                  have hJl : J < l.length := by omega
                  have hst := dOf_dec l f J hfJ hJl
                  rw [hm] at hst
                  have hm99 : m < 100 := by rw [← hm]; exact dOf_lt l f J 2 (by omega) (dOf_all_le l f I J (by omega) (unhide HDIG)) (by omega)
                  have hdb := dOf_digit l f I J hfJ hJ (by omega) (unhide HDIG)
                  have hnJ : ((⟨l.toArray⟩ : ByteArray)[J]'(by simpa [ByteArray.size] using hJl)).toNat = (l[J]'hJl).toNat := rfl
                  have HST := hide hst
                  clear hst hm
                  generalize (l[J]'hJl).toNat = cj at hnJ hdb HST
                  obtain ⟨hc1, hc2⟩ := hdb
                  obtain ⟨d, rfl⟩ : ∃ d, cj = 48 + d := ⟨cj - 48, by omega⟩
                  have hd9 : d ≤ 9 := by omega
                  have hw8 : IntKind.u8.wrap (((48 + d : Nat) : Int) - 48) = (d : Int) := by rw [show ((48 + d : Nat) : Int) - 48 = (d : Int) by omega]; exact IntWalk.u8_in _ (by omega)
                  have q1 : wr.cell? ⟨r + 1, 1, none⟩ = some (.int .i64 (m : Int)) := hN2.cell 1
                  have f1 : wr.frozen? ⟨r + 1, 1, none⟩ = false := hN2.frozen 1
                  have hrl2 : r + 1 < wr.heap.size := hN2.lt
                  have hwm : IntKind.i64.wrap ((m : Int) * 10 + (d : Int)) = ((m * 10 + d : Nat) : Int) := by rw [show (m : Int) * 10 + (d : Int) = ((m * 10 + d : Nat) : Int) by omega]; exact IntWalk.i64_in _ (by omega)
                  have hwm1 : IntKind.i64.wrap ((m : Int) * 10) = (m : Int) * 10 := IntWalk.i64_in _ (by omega)
                  have F2 : Hid (∀ z : Int, z = ((m * 10 + d : Nat) : Int) → Blk (wr.setCell ⟨r + 1, 1, none⟩ (.int .i64 z)).drew r 26 #[.int .i64 0, .int .i64 0, .int .i64 0] ∧ Blk (wr.setCell ⟨r + 1, 1, none⟩ (.int .i64 z)).drew (r + 1) 66 #[.int .i64 ua, .int .i64 ((m * 10 + d : Nat) : Int), .int .i64 uc] ∧ Below r w (wr.setCell ⟨r + 1, 1, none⟩ (.int .i64 z)).drew) := hide (fun z hz => by
                    subst hz
                    have gs : wr.grownBy (wr.setCell ⟨r + 1, 1, none⟩ (.int .i64 ((m * 10 + d : Nat) : Int))) (some (r + 1)) := only_setCell (World.grownBy.refl wr _) (.inl rfl) _
                    exact ⟨((unhide RR2).grown gs (by intro e; injection e with e; omega)).drew, ((unhide NN2).set_ 1 _).drew, ((unhide BB2).grown gs (by have := (unhide RR2).lt; have := (unhide BB2).size; omega) (fun j e => by injection e with e; omega)).drew⟩)
                  clear hN2 hc1 hc2
                  go_upto_region 12 with fail
                  go_region
                  go_wp2_with fail
                  go_roundw
                  case rel =>
                    refine ⟨J + 1, m * 10 + d, by omega, by omega, by go_num, by rw [unhide HST]; omega, ?_⟩
                    exact unhide F2 _ (by omega)
                  case measure => simp [intOf]; omega
                · obtain rfl : J = I := by omega
                  have HNN := hide (unhide NN2)
                  have HM := hide hm
                  have hJf : ((J : Int) < (J : Int)) = False := by simp
                  clear hm hN2 hJ
                  go_wp2_with fail
                  go_roundw
                  case rel => exact ⟨2, J + 1, J + 1, ⟨ua, (m : Int), uc⟩, by go_num, by go_num, by go_num, by omega, by omega, .inl ⟨Nat.le_refl _, by omega, by rw [dOf_nil]; rfl, by have h := unhide HF; rw [unhide HM] at h; exact h⟩, ⟨by omega, by omega, fun _ => (unhide ZZ).2.2 (by omega)⟩, unhide RR2, unhide HNN, unhide BB2⟩
                  case measure => first | (simp [intOf]; done) | (simp [intOf]; omega)
            · have h1q : ((1 : Int) < (D : Int)) = False := by simpa using h1'
              clear h1'
              obtain ⟨b0, hb0⟩ : ∃ b, ((c0 : Int) == 48) = b := ⟨_, rfl⟩
              cases b0
              all_goals
                obtain rfl : ub = 0 := (unhide ZZ).2.1 (by omega)
                go_wp2_with fail
                go_loopw [8] (fun j W => ∃ J m : Nat, f ≤ J ∧ J ≤ I ∧ j = .int .i64 J ∧ decV 0 (dOf l f J) = m ∧ Blk W r 26 #[.int .i64 0, .int .i64 0, .int .i64 0] ∧ Blk W (r + 1) 66 #[.int .i64 ua, .int .i64 (m : Int), .int .i64 uc] ∧ Below r w W) (fun j _ => I - (intOf j).toNat)
                case atStart => exact ⟨f, 0, by omega, by omega, rfl, by rw [dOf_nil]; rfl, unhide RR, unhide NN, unhide BB⟩
                case round =>
                  obtain ⟨J, m, hfJ, hJI, rfl, hm, hR2, hN2, hB2⟩ := hrel
                  have RR2 := hide hR2
                  have NN2 := hide hN2
                  have BB2 := hide hB2
                  clear hR2 hB2
                  by_cases hJ : J < I
                  · have hJ' : ((J : Int) < ((I : Nat) : Int)) = True := by simp; omega
                    have hJl : J < l.length := by omega
                    have hst := dOf_dec l f J hfJ hJl
                    rw [hm] at hst
                    have hm99 : m < 100 := by rw [← hm]; exact dOf_lt l f J 2 (by omega) (dOf_all_le l f I J (by omega) (unhide HDIG)) (by omega)
                    have hdb := dOf_digit l f I J hfJ hJ (by omega) (unhide HDIG)
                    have hnJ : ((⟨l.toArray⟩ : ByteArray)[J]'(by simpa [ByteArray.size] using hJl)).toNat = (l[J]'hJl).toNat := rfl
                    have HST := hide hst
                    clear hst hm
                    generalize (l[J]'hJl).toNat = cj at hnJ hdb HST
                    obtain ⟨hc1, hc2⟩ := hdb
                    obtain ⟨d, rfl⟩ : ∃ d, cj = 48 + d := ⟨cj - 48, by omega⟩
                    have hd9 : d ≤ 9 := by omega
                    have hw8 : IntKind.u8.wrap (((48 + d : Nat) : Int) - 48) = (d : Int) := by rw [show ((48 + d : Nat) : Int) - 48 = (d : Int) by omega]; exact IntWalk.u8_in _ (by omega)
                    have q1 : wr.cell? ⟨r + 1, 1, none⟩ = some (.int .i64 (m : Int)) := hN2.cell 1
                    have f1 : wr.frozen? ⟨r + 1, 1, none⟩ = false := hN2.frozen 1
                    have hrl2 : r + 1 < wr.heap.size := hN2.lt
                    have hwm : IntKind.i64.wrap ((m : Int) * 10 + (d : Int)) = ((m * 10 + d : Nat) : Int) := by rw [show (m : Int) * 10 + (d : Int) = ((m * 10 + d : Nat) : Int) by omega]; exact IntWalk.i64_in _ (by omega)
                    have hwm1 : IntKind.i64.wrap ((m : Int) * 10) = (m : Int) * 10 := IntWalk.i64_in _ (by omega)
                    have F2 : Hid (∀ z : Int, z = ((m * 10 + d : Nat) : Int) → Blk (wr.setCell ⟨r + 1, 1, none⟩ (.int .i64 z)).drew r 26 #[.int .i64 0, .int .i64 0, .int .i64 0] ∧ Blk (wr.setCell ⟨r + 1, 1, none⟩ (.int .i64 z)).drew (r + 1) 66 #[.int .i64 ua, .int .i64 ((m * 10 + d : Nat) : Int), .int .i64 uc] ∧ Below r w (wr.setCell ⟨r + 1, 1, none⟩ (.int .i64 z)).drew) := hide (fun z hz => by
                      subst hz
                      have gs : wr.grownBy (wr.setCell ⟨r + 1, 1, none⟩ (.int .i64 ((m * 10 + d : Nat) : Int))) (some (r + 1)) := only_setCell (World.grownBy.refl wr _) (.inl rfl) _
                      exact ⟨((unhide RR2).grown gs (by intro e; injection e with e; omega)).drew, ((unhide NN2).set_ 1 _).drew, ((unhide BB2).grown gs (by have := (unhide RR2).lt; have := (unhide BB2).size; omega) (fun j e => by injection e with e; omega)).drew⟩)
                    clear hN2 hc1 hc2
                    go_upto_region 12 with fail
                    go_region
                    go_wp2_with fail
                    go_roundw
                    case rel =>
                      refine ⟨J + 1, m * 10 + d, by omega, by omega, by go_num, by rw [unhide HST]; omega, ?_⟩
                      exact unhide F2 _ (by omega)
                    case measure => simp [intOf]; omega
                  · obtain rfl : J = I := by omega
                    have HNN := hide (unhide NN2)
                    have HM := hide hm
                    have hJf : ((J : Int) < (J : Int)) = False := by simp
                    clear hm hN2 hJ
                    go_wp2_with fail
                    go_roundw
                    case rel => exact ⟨2, J + 1, J + 1, ⟨ua, (m : Int), uc⟩, by go_num, by go_num, by go_num, by omega, by omega, .inl ⟨Nat.le_refl _, by omega, by rw [dOf_nil]; rfl, by have h := unhide HF; rw [unhide HM] at h; exact h⟩, ⟨by omega, by omega, fun _ => (unhide ZZ).2.2 (by omega)⟩, unhide RR2, unhide HNN, unhide BB2⟩
                    case measure => first | (simp [intOf]; done) | (simp [intOf]; omega)
          · rcases h0c with ⟨h1', h0'⟩ | h1'
            · have h1q : ((1 : Int) < (D : Int)) = True := by simpa using h1'
              clear h1'
              obtain rfl : uc = 0 := (unhide ZZ).2.2 (by omega)
              go_wp2_with fail
              go_loopw [8] (fun j W => ∃ J m : Nat, f ≤ J ∧ J ≤ I ∧ j = .int .i64 J ∧ decV 0 (dOf l f J) = m ∧ Blk W r 26 #[.int .i64 0, .int .i64 0, .int .i64 0] ∧ Blk W (r + 1) 66 #[.int .i64 ua, .int .i64 ub, .int .i64 (m : Int)] ∧ Below r w W) (fun j _ => I - (intOf j).toNat)
              case atStart => exact ⟨f, 0, by omega, by omega, rfl, by rw [dOf_nil]; rfl, unhide RR, unhide NN, unhide BB⟩
              case round =>
                obtain ⟨J, m, hfJ, hJI, rfl, hm, hR2, hN2, hB2⟩ := hrel
                have RR2 := hide hR2
                have NN2 := hide hN2
                have BB2 := hide hB2
                clear hR2 hB2
                by_cases hJ : J < I
                · have hJ' : ((J : Int) < ((I : Nat) : Int)) = True := by simp; omega
                  have hJl : J < l.length := by omega
                  have hst := dOf_dec l f J hfJ hJl
                  rw [hm] at hst
                  have hm99 : m < 100 := by rw [← hm]; exact dOf_lt l f J 2 (by omega) (dOf_all_le l f I J (by omega) (unhide HDIG)) (by omega)
                  have hdb := dOf_digit l f I J hfJ hJ (by omega) (unhide HDIG)
                  have hnJ : ((⟨l.toArray⟩ : ByteArray)[J]'(by simpa [ByteArray.size] using hJl)).toNat = (l[J]'hJl).toNat := rfl
                  have HST := hide hst
                  clear hst hm
                  generalize (l[J]'hJl).toNat = cj at hnJ hdb HST
                  obtain ⟨hc1, hc2⟩ := hdb
                  obtain ⟨d, rfl⟩ : ∃ d, cj = 48 + d := ⟨cj - 48, by omega⟩
                  have hd9 : d ≤ 9 := by omega
                  have hw8 : IntKind.u8.wrap (((48 + d : Nat) : Int) - 48) = (d : Int) := by rw [show ((48 + d : Nat) : Int) - 48 = (d : Int) by omega]; exact IntWalk.u8_in _ (by omega)
                  have q1 : wr.cell? ⟨r + 1, 2, none⟩ = some (.int .i64 (m : Int)) := hN2.cell 2
                  have f1 : wr.frozen? ⟨r + 1, 2, none⟩ = false := hN2.frozen 2
                  have hrl2 : r + 1 < wr.heap.size := hN2.lt
                  have hwm : IntKind.i64.wrap ((m : Int) * 10 + (d : Int)) = ((m * 10 + d : Nat) : Int) := by rw [show (m : Int) * 10 + (d : Int) = ((m * 10 + d : Nat) : Int) by omega]; exact IntWalk.i64_in _ (by omega)
                  have hwm1 : IntKind.i64.wrap ((m : Int) * 10) = (m : Int) * 10 := IntWalk.i64_in _ (by omega)
                  have F2 : Hid (∀ z : Int, z = ((m * 10 + d : Nat) : Int) → Blk (wr.setCell ⟨r + 1, 2, none⟩ (.int .i64 z)).drew r 26 #[.int .i64 0, .int .i64 0, .int .i64 0] ∧ Blk (wr.setCell ⟨r + 1, 2, none⟩ (.int .i64 z)).drew (r + 1) 66 #[.int .i64 ua, .int .i64 ub, .int .i64 ((m * 10 + d : Nat) : Int)] ∧ Below r w (wr.setCell ⟨r + 1, 2, none⟩ (.int .i64 z)).drew) := hide (fun z hz => by
                    subst hz
                    have gs : wr.grownBy (wr.setCell ⟨r + 1, 2, none⟩ (.int .i64 ((m * 10 + d : Nat) : Int))) (some (r + 1)) := only_setCell (World.grownBy.refl wr _) (.inl rfl) _
                    exact ⟨((unhide RR2).grown gs (by intro e; injection e with e; omega)).drew, ((unhide NN2).set_ 2 _).drew, ((unhide BB2).grown gs (by have := (unhide RR2).lt; have := (unhide BB2).size; omega) (fun j e => by injection e with e; omega)).drew⟩)
                  clear hN2 hc1 hc2
                  go_upto_region 12 with fail
                  go_region
                  go_wp2_with fail
                  go_roundw
                  case rel =>
                    refine ⟨J + 1, m * 10 + d, by omega, by omega, by go_num, by rw [unhide HST]; omega, ?_⟩
                    exact unhide F2 _ (by omega)
                  case measure => simp [intOf]; omega
                · obtain rfl : J = I := by omega
                  have HNN := hide (unhide NN2)
                  have HM := hide hm
                  have hJf : ((J : Int) < (J : Int)) = False := by simp
                  clear hm hN2 hJ
                  go_wp2_with fail
                  go_roundw
                  case rel => exact ⟨3, J + 1, J + 1, ⟨ua, ub, (m : Int)⟩, by go_num, by go_num, by go_num, by omega, by omega, .inl ⟨Nat.le_refl _, by omega, by rw [dOf_nil]; rfl, by have h := unhide HF; rw [unhide HM] at h; exact h⟩, ⟨by omega, by omega, by omega⟩, unhide RR2, unhide HNN, unhide BB2⟩
                  case measure => first | (simp [intOf]; done) | (simp [intOf]; omega)
            · have h1q : ((1 : Int) < (D : Int)) = False := by simpa using h1'
              clear h1'
              obtain ⟨b0, hb0⟩ : ∃ b, ((c0 : Int) == 48) = b := ⟨_, rfl⟩
              cases b0
              all_goals
                obtain rfl : uc = 0 := (unhide ZZ).2.2 (by omega)
                go_wp2_with fail
                go_loopw [8] (fun j W => ∃ J m : Nat, f ≤ J ∧ J ≤ I ∧ j = .int .i64 J ∧ decV 0 (dOf l f J) = m ∧ Blk W r 26 #[.int .i64 0, .int .i64 0, .int .i64 0] ∧ Blk W (r + 1) 66 #[.int .i64 ua, .int .i64 ub, .int .i64 (m : Int)] ∧ Below r w W) (fun j _ => I - (intOf j).toNat)
                case atStart => exact ⟨f, 0, by omega, by omega, rfl, by rw [dOf_nil]; rfl, unhide RR, unhide NN, unhide BB⟩
                case round =>
                  obtain ⟨J, m, hfJ, hJI, rfl, hm, hR2, hN2, hB2⟩ := hrel
                  have RR2 := hide hR2
                  have NN2 := hide hN2
                  have BB2 := hide hB2
                  clear hR2 hB2
                  by_cases hJ : J < I
                  · have hJ' : ((J : Int) < ((I : Nat) : Int)) = True := by simp; omega
                    have hJl : J < l.length := by omega
                    have hst := dOf_dec l f J hfJ hJl
                    rw [hm] at hst
                    have hm99 : m < 100 := by rw [← hm]; exact dOf_lt l f J 2 (by omega) (dOf_all_le l f I J (by omega) (unhide HDIG)) (by omega)
                    have hdb := dOf_digit l f I J hfJ hJ (by omega) (unhide HDIG)
                    have hnJ : ((⟨l.toArray⟩ : ByteArray)[J]'(by simpa [ByteArray.size] using hJl)).toNat = (l[J]'hJl).toNat := rfl
                    have HST := hide hst
                    clear hst hm
                    generalize (l[J]'hJl).toNat = cj at hnJ hdb HST
                    obtain ⟨hc1, hc2⟩ := hdb
                    obtain ⟨d, rfl⟩ : ∃ d, cj = 48 + d := ⟨cj - 48, by omega⟩
                    have hd9 : d ≤ 9 := by omega
                    have hw8 : IntKind.u8.wrap (((48 + d : Nat) : Int) - 48) = (d : Int) := by rw [show ((48 + d : Nat) : Int) - 48 = (d : Int) by omega]; exact IntWalk.u8_in _ (by omega)
                    have q1 : wr.cell? ⟨r + 1, 2, none⟩ = some (.int .i64 (m : Int)) := hN2.cell 2
                    have f1 : wr.frozen? ⟨r + 1, 2, none⟩ = false := hN2.frozen 2
                    have hrl2 : r + 1 < wr.heap.size := hN2.lt
                    have hwm : IntKind.i64.wrap ((m : Int) * 10 + (d : Int)) = ((m * 10 + d : Nat) : Int) := by rw [show (m : Int) * 10 + (d : Int) = ((m * 10 + d : Nat) : Int) by omega]; exact IntWalk.i64_in _ (by omega)
                    have hwm1 : IntKind.i64.wrap ((m : Int) * 10) = (m : Int) * 10 := IntWalk.i64_in _ (by omega)
                    have F2 : Hid (∀ z : Int, z = ((m * 10 + d : Nat) : Int) → Blk (wr.setCell ⟨r + 1, 2, none⟩ (.int .i64 z)).drew r 26 #[.int .i64 0, .int .i64 0, .int .i64 0] ∧ Blk (wr.setCell ⟨r + 1, 2, none⟩ (.int .i64 z)).drew (r + 1) 66 #[.int .i64 ua, .int .i64 ub, .int .i64 ((m * 10 + d : Nat) : Int)] ∧ Below r w (wr.setCell ⟨r + 1, 2, none⟩ (.int .i64 z)).drew) := hide (fun z hz => by
                      subst hz
                      have gs : wr.grownBy (wr.setCell ⟨r + 1, 2, none⟩ (.int .i64 ((m * 10 + d : Nat) : Int))) (some (r + 1)) := only_setCell (World.grownBy.refl wr _) (.inl rfl) _
                      exact ⟨((unhide RR2).grown gs (by intro e; injection e with e; omega)).drew, ((unhide NN2).set_ 2 _).drew, ((unhide BB2).grown gs (by have := (unhide RR2).lt; have := (unhide BB2).size; omega) (fun j e => by injection e with e; omega)).drew⟩)
                    clear hN2 hc1 hc2
                    go_upto_region 12 with fail
                    go_region
                    go_wp2_with fail
                    go_roundw
                    case rel =>
                      refine ⟨J + 1, m * 10 + d, by omega, by omega, by go_num, by rw [unhide HST]; omega, ?_⟩
                      exact unhide F2 _ (by omega)
                    case measure => simp [intOf]; omega
                  · obtain rfl : J = I := by omega
                    have HNN := hide (unhide NN2)
                    have HM := hide hm
                    have hJf : ((J : Int) < (J : Int)) = False := by simp
                    clear hm hN2 hJ
                    go_wp2_with fail
                    go_roundw
                    case rel => exact ⟨3, J + 1, J + 1, ⟨ua, ub, (m : Int)⟩, by go_num, by go_num, by go_num, by omega, by omega, .inl ⟨Nat.le_refl _, by omega, by rw [dOf_nil]; rfl, by have h := unhide HF; rw [unhide HM] at h; exact h⟩, ⟨by omega, by omega, by omega⟩, unhide RR2, unhide HNN, unhide BB2⟩
                    case measure => first | (simp [intOf]; done) | (simp [intOf]; omega)
        · have hcn : (l[I]'hlt).toNat ≠ 46 := fun e => hc46 (UInt8.toNat_inj.1 e)
          have hrng : (l[I]'hlt).toNat < 48 ∨ 57 < (l[I]'hlt).toNat := by simp [isD] at hnd; omega
          have hbad : badV = (v, x) := by rw [← unhide HFIN]; exact (fin_other l K f I _ hfI hlt (unhide HDIG) hc46 hnd).symm
          have HBAD := hide hbad
          clear hbad
          generalize (l[I]'hlt).toNat = c at hnI hcn hrng
          have hne46 : ((c : Int) != 46) = true := by simp; omega
          rcases hrng with hlo | hhi
          · have hg48 : ((48 : Int) ≤ (c : Int)) = False := by simp; omega
            clear hcn

            by_cases hK2 : 2 < K
            · have hk2 : ((2 : Int) < (K : Int)) = True := by simp; omega
              have hbad := unhide HBAD
              injection hbad with h1 h2
              subst h1 h2
              go_wp2_with (refine wpList_store_blk rfl 26 (.tmp 2) (.tmp 68) rfl r 26 _ #[.int .i64 0, .int .i64 0, .int .i64 0] rfl rfl (unhide RR) rfl (by kernel_rfl) (by intro u hu; simp at hu; rcases hu with rfl | rfl | rfl <;> rfl) ?_
                           intro w9 hb9 hg9
                           have Z9 := hide hb9
                           have B9 := hide ((unhide BB).grown hg9 (by have := (unhide RR).lt; have := (unhide BB).size; omega) (fun j e => by injection e with e; omega))
                           clear hb9 hg9)
              exact bodyPost_ret (v := .tuple #[.agg #[.int .i64 0, .int .i64 0, .int .i64 0], .int .i64 6]) (res2 rfl _ r 26 #[.int .i64 0, .int .i64 0, .int .i64 0] _ _ rfl rfl (unhide Z9) Tryd.underlying26 rfl (by kernel_rfl)) rfl ⟨rfl, by rw [unhide HR]; exact unhide B9⟩
            have hk2 : ((2 : Int) < (K : Int)) = False := by simp; omega
            by_cases hE : I = f
            · have hEq : (((I : Nat) : Int) == (f : Int)) = true := by simp; omega
              have hbad := unhide HBAD
              injection hbad with h1 h2
              subst h1 h2
              clear hEq
              subst hE
              go_wp2_with (refine wpList_store_blk rfl 26 (.tmp 2) (.tmp 68) rfl r 26 _ #[.int .i64 0, .int .i64 0, .int .i64 0] rfl rfl (unhide RR) rfl (by kernel_rfl) (by intro u hu; simp at hu; rcases hu with rfl | rfl | rfl <;> rfl) ?_
                           intro w9 hb9 hg9
                           have Z9 := hide hb9
                           have B9 := hide ((unhide BB).grown hg9 (by have := (unhide RR).lt; have := (unhide BB).size; omega) (fun j e => by injection e with e; omega))
                           clear hb9 hg9)
              exact bodyPost_ret (v := .tuple #[.agg #[.int .i64 0, .int .i64 0, .int .i64 0], .int .i64 6]) (res2 rfl _ r 26 #[.int .i64 0, .int .i64 0, .int .i64 0] _ _ rfl rfl (unhide Z9) Tryd.underlying26 rfl (by kernel_rfl)) rfl ⟨rfl, by rw [unhide HR]; exact unhide B9⟩
            have hEq : (((I : Nat) : Int) == (f : Int)) = false := by simp; omega
            obtain ⟨D, hD⟩ : ∃ D, I - f = D := ⟨_, rfl⟩
            have hsub : IntKind.i64.wrap (((I : Nat) : Int) - (f : Int)) = (D : Int) := by rw [show ((I : Nat) : Int) - (f : Int) = (D : Int) by omega]; exact IntWalk.i64_in _ (by omega)
            by_cases h3 : 3 < D
            · have h3' : ((3 : Int) < (D : Int)) = True := by simp; omega
              have hbad := unhide HBAD
              injection hbad with h1 h2
              subst h1 h2
              go_wp2_with (refine wpList_store_blk rfl 26 (.tmp 2) (.tmp 68) rfl r 26 _ #[.int .i64 0, .int .i64 0, .int .i64 0] rfl rfl (unhide RR) rfl (by kernel_rfl) (by intro u hu; simp at hu; rcases hu with rfl | rfl | rfl <;> rfl) ?_
                           intro w9 hb9 hg9
                           have Z9 := hide hb9
                           have B9 := hide ((unhide BB).grown hg9 (by have := (unhide RR).lt; have := (unhide BB).size; omega) (fun j e => by injection e with e; omega))
                           clear hb9 hg9)
              exact bodyPost_ret (v := .tuple #[.agg #[.int .i64 0, .int .i64 0, .int .i64 0], .int .i64 6]) (res2 rfl _ r 26 #[.int .i64 0, .int .i64 0, .int .i64 0] _ _ rfl rfl (unhide Z9) Tryd.underlying26 rfl (by kernel_rfl)) rfl ⟨rfl, by rw [unhide HR]; exact unhide B9⟩
            have h3' : ((3 : Int) < (D : Int)) = False := by simp; omega
            have hfl : f < l.length := by omega
            have hnF : ((⟨l.toArray⟩ : ByteArray)[f]'(by simpa [ByteArray.size] using hfl)).toNat = (l[f]'hfl).toNat := rfl
            by_cases h0 : 1 < D ∧ (l[f]'hfl).toNat = 48
            · have h1' : ((1 : Int) < (D : Int)) = True := by simp; omega
              have hbad := unhide HBAD
              injection hbad with h1 h2
              subst h1 h2
              rw [h0.2] at hnF
              clear h0
              go_wp2_with (refine wpList_store_blk rfl 26 (.tmp 2) (.tmp 68) rfl r 26 _ #[.int .i64 0, .int .i64 0, .int .i64 0] rfl rfl (unhide RR) rfl (by kernel_rfl) (by intro u hu; simp at hu; rcases hu with rfl | rfl | rfl <;> rfl) ?_
                           intro w9 hb9 hg9
                           have Z9 := hide hb9
                           have B9 := hide ((unhide BB).grown hg9 (by have := (unhide RR).lt; have := (unhide BB).size; omega) (fun j e => by injection e with e; omega))
                           clear hb9 hg9)
              exact bodyPost_ret (v := .tuple #[.agg #[.int .i64 0, .int .i64 0, .int .i64 0], .int .i64 6]) (res2 rfl _ r 26 #[.int .i64 0, .int .i64 0, .int .i64 0] _ _ rfl rfl (unhide Z9) Tryd.underlying26 rfl (by kernel_rfl)) rfl ⟨rfl, by rw [unhide HR]; exact unhide B9⟩
            have h0c : (decide ((1 : Int) < (D : Int)) = true ∧ (((l[f]'hfl).toNat : Int) == 48) = false) ∨ decide ((1 : Int) < (D : Int)) = false := by
              by_cases h1 : 1 < D
              · left; refine ⟨by simp; omega, ?_⟩; have : (l[f]'hfl).toNat ≠ 48 := fun e => h0 ⟨h1, e⟩; simp; omega
              · right; simp; omega
            have hbad := unhide HBAD
            injection hbad with h1 h2
            subst h1 h2
            generalize (l[f]'hfl).toNat = c0 at hnF h0c
            rcases h0c with ⟨h1', h0'⟩ | h1'
            · have h1q : ((1 : Int) < (D : Int)) = True := by simpa using h1'
              clear h1' h0
              go_wp2_with (refine wpList_store_blk rfl 26 (.tmp 2) (.tmp 68) rfl r 26 _ #[.int .i64 0, .int .i64 0, .int .i64 0] rfl rfl (unhide RR) rfl (by kernel_rfl) (by intro u hu; simp at hu; rcases hu with rfl | rfl | rfl <;> rfl) ?_
                           intro w9 hb9 hg9
                           have Z9 := hide hb9
                           have B9 := hide ((unhide BB).grown hg9 (by have := (unhide RR).lt; have := (unhide BB).size; omega) (fun j e => by injection e with e; omega))
                           clear hb9 hg9)
              exact bodyPost_ret (v := .tuple #[.agg #[.int .i64 0, .int .i64 0, .int .i64 0], .int .i64 6]) (res2 rfl _ r 26 #[.int .i64 0, .int .i64 0, .int .i64 0] _ _ rfl rfl (unhide Z9) Tryd.underlying26 rfl (by kernel_rfl)) rfl ⟨rfl, by rw [unhide HR]; exact unhide B9⟩
            · have h1q : ((1 : Int) < (D : Int)) = False := by simpa using h1'
              clear h1' h0
              obtain ⟨b0, hb0⟩ : ∃ b, ((c0 : Int) == 48) = b := ⟨_, rfl⟩
              cases b0
              all_goals
                go_wp2_with (refine wpList_store_blk rfl 26 (.tmp 2) (.tmp 68) rfl r 26 _ #[.int .i64 0, .int .i64 0, .int .i64 0] rfl rfl (unhide RR) rfl (by kernel_rfl) (by intro u hu; simp at hu; rcases hu with rfl | rfl | rfl <;> rfl) ?_
                             intro w9 hb9 hg9
                             have Z9 := hide hb9
                             have B9 := hide ((unhide BB).grown hg9 (by have := (unhide RR).lt; have := (unhide BB).size; omega) (fun j e => by injection e with e; omega))
                             clear hb9 hg9)
                exact bodyPost_ret (v := .tuple #[.agg #[.int .i64 0, .int .i64 0, .int .i64 0], .int .i64 6]) (res2 rfl _ r 26 #[.int .i64 0, .int .i64 0, .int .i64 0] _ _ rfl rfl (unhide Z9) Tryd.underlying26 rfl (by kernel_rfl)) rfl ⟨rfl, by rw [unhide HR]; exact unhide B9⟩
          · have hg48 : ((48 : Int) ≤ (c : Int)) = True := by simp; omega
            have hg57 : ((c : Int) ≤ 57) = False := by simp; omega
            clear hcn

            by_cases hK2 : 2 < K
            · have hk2 : ((2 : Int) < (K : Int)) = True := by simp; omega
              have hbad := unhide HBAD
              injection hbad with h1 h2
              subst h1 h2
              go_wp2_with (refine wpList_store_blk rfl 26 (.tmp 2) (.tmp 68) rfl r 26 _ #[.int .i64 0, .int .i64 0, .int .i64 0] rfl rfl (unhide RR) rfl (by kernel_rfl) (by intro u hu; simp at hu; rcases hu with rfl | rfl | rfl <;> rfl) ?_
                           intro w9 hb9 hg9
                           have Z9 := hide hb9
                           have B9 := hide ((unhide BB).grown hg9 (by have := (unhide RR).lt; have := (unhide BB).size; omega) (fun j e => by injection e with e; omega))
                           clear hb9 hg9)
              exact bodyPost_ret (v := .tuple #[.agg #[.int .i64 0, .int .i64 0, .int .i64 0], .int .i64 6]) (res2 rfl _ r 26 #[.int .i64 0, .int .i64 0, .int .i64 0] _ _ rfl rfl (unhide Z9) Tryd.underlying26 rfl (by kernel_rfl)) rfl ⟨rfl, by rw [unhide HR]; exact unhide B9⟩
            have hk2 : ((2 : Int) < (K : Int)) = False := by simp; omega
            by_cases hE : I = f
            · have hEq : (((I : Nat) : Int) == (f : Int)) = true := by simp; omega
              have hbad := unhide HBAD
              injection hbad with h1 h2
              subst h1 h2
              clear hEq
              subst hE
              go_wp2_with (refine wpList_store_blk rfl 26 (.tmp 2) (.tmp 68) rfl r 26 _ #[.int .i64 0, .int .i64 0, .int .i64 0] rfl rfl (unhide RR) rfl (by kernel_rfl) (by intro u hu; simp at hu; rcases hu with rfl | rfl | rfl <;> rfl) ?_
                           intro w9 hb9 hg9
                           have Z9 := hide hb9
                           have B9 := hide ((unhide BB).grown hg9 (by have := (unhide RR).lt; have := (unhide BB).size; omega) (fun j e => by injection e with e; omega))
                           clear hb9 hg9)
              exact bodyPost_ret (v := .tuple #[.agg #[.int .i64 0, .int .i64 0, .int .i64 0], .int .i64 6]) (res2 rfl _ r 26 #[.int .i64 0, .int .i64 0, .int .i64 0] _ _ rfl rfl (unhide Z9) Tryd.underlying26 rfl (by kernel_rfl)) rfl ⟨rfl, by rw [unhide HR]; exact unhide B9⟩
            have hEq : (((I : Nat) : Int) == (f : Int)) = false := by simp; omega
            obtain ⟨D, hD⟩ : ∃ D, I - f = D := ⟨_, rfl⟩
            have hsub : IntKind.i64.wrap (((I : Nat) : Int) - (f : Int)) = (D : Int) := by rw [show ((I : Nat) : Int) - (f : Int) = (D : Int) by omega]; exact IntWalk.i64_in _ (by omega)
            by_cases h3 : 3 < D
            · have h3' : ((3 : Int) < (D : Int)) = True := by simp; omega
              have hbad := unhide HBAD
              injection hbad with h1 h2
              subst h1 h2
              go_wp2_with (refine wpList_store_blk rfl 26 (.tmp 2) (.tmp 68) rfl r 26 _ #[.int .i64 0, .int .i64 0, .int .i64 0] rfl rfl (unhide RR) rfl (by kernel_rfl) (by intro u hu; simp at hu; rcases hu with rfl | rfl | rfl <;> rfl) ?_
                           intro w9 hb9 hg9
                           have Z9 := hide hb9
                           have B9 := hide ((unhide BB).grown hg9 (by have := (unhide RR).lt; have := (unhide BB).size; omega) (fun j e => by injection e with e; omega))
                           clear hb9 hg9)
              exact bodyPost_ret (v := .tuple #[.agg #[.int .i64 0, .int .i64 0, .int .i64 0], .int .i64 6]) (res2 rfl _ r 26 #[.int .i64 0, .int .i64 0, .int .i64 0] _ _ rfl rfl (unhide Z9) Tryd.underlying26 rfl (by kernel_rfl)) rfl ⟨rfl, by rw [unhide HR]; exact unhide B9⟩
            have h3' : ((3 : Int) < (D : Int)) = False := by simp; omega
            have hfl : f < l.length := by omega
            have hnF : ((⟨l.toArray⟩ : ByteArray)[f]'(by simpa [ByteArray.size] using hfl)).toNat = (l[f]'hfl).toNat := rfl
            by_cases h0 : 1 < D ∧ (l[f]'hfl).toNat = 48
            · have h1' : ((1 : Int) < (D : Int)) = True := by simp; omega
              have hbad := unhide HBAD
              injection hbad with h1 h2
              subst h1 h2
              rw [h0.2] at hnF
              clear h0
              go_wp2_with (refine wpList_store_blk rfl 26 (.tmp 2) (.tmp 68) rfl r 26 _ #[.int .i64 0, .int .i64 0, .int .i64 0] rfl rfl (unhide RR) rfl (by kernel_rfl) (by intro u hu; simp at hu; rcases hu with rfl | rfl | rfl <;> rfl) ?_
                           intro w9 hb9 hg9
                           have Z9 := hide hb9
                           have B9 := hide ((unhide BB).grown hg9 (by have := (unhide RR).lt; have := (unhide BB).size; omega) (fun j e => by injection e with e; omega))
                           clear hb9 hg9)
              exact bodyPost_ret (v := .tuple #[.agg #[.int .i64 0, .int .i64 0, .int .i64 0], .int .i64 6]) (res2 rfl _ r 26 #[.int .i64 0, .int .i64 0, .int .i64 0] _ _ rfl rfl (unhide Z9) Tryd.underlying26 rfl (by kernel_rfl)) rfl ⟨rfl, by rw [unhide HR]; exact unhide B9⟩
            have h0c : (decide ((1 : Int) < (D : Int)) = true ∧ (((l[f]'hfl).toNat : Int) == 48) = false) ∨ decide ((1 : Int) < (D : Int)) = false := by
              by_cases h1 : 1 < D
              · left; refine ⟨by simp; omega, ?_⟩; have : (l[f]'hfl).toNat ≠ 48 := fun e => h0 ⟨h1, e⟩; simp; omega
              · right; simp; omega
            have hbad := unhide HBAD
            injection hbad with h1 h2
            subst h1 h2
            generalize (l[f]'hfl).toNat = c0 at hnF h0c
            rcases h0c with ⟨h1', h0'⟩ | h1'
            · have h1q : ((1 : Int) < (D : Int)) = True := by simpa using h1'
              clear h1' h0
              go_wp2_with (refine wpList_store_blk rfl 26 (.tmp 2) (.tmp 68) rfl r 26 _ #[.int .i64 0, .int .i64 0, .int .i64 0] rfl rfl (unhide RR) rfl (by kernel_rfl) (by intro u hu; simp at hu; rcases hu with rfl | rfl | rfl <;> rfl) ?_
                           intro w9 hb9 hg9
                           have Z9 := hide hb9
                           have B9 := hide ((unhide BB).grown hg9 (by have := (unhide RR).lt; have := (unhide BB).size; omega) (fun j e => by injection e with e; omega))
                           clear hb9 hg9)
              exact bodyPost_ret (v := .tuple #[.agg #[.int .i64 0, .int .i64 0, .int .i64 0], .int .i64 6]) (res2 rfl _ r 26 #[.int .i64 0, .int .i64 0, .int .i64 0] _ _ rfl rfl (unhide Z9) Tryd.underlying26 rfl (by kernel_rfl)) rfl ⟨rfl, by rw [unhide HR]; exact unhide B9⟩
            · have h1q : ((1 : Int) < (D : Int)) = False := by simpa using h1'
              clear h1' h0
              obtain ⟨b0, hb0⟩ : ∃ b, ((c0 : Int) == 48) = b := ⟨_, rfl⟩
              cases b0
              all_goals
                go_wp2_with (refine wpList_store_blk rfl 26 (.tmp 2) (.tmp 68) rfl r 26 _ #[.int .i64 0, .int .i64 0, .int .i64 0] rfl rfl (unhide RR) rfl (by kernel_rfl) (by intro u hu; simp at hu; rcases hu with rfl | rfl | rfl <;> rfl) ?_
                             intro w9 hb9 hg9
                             have Z9 := hide hb9
                             have B9 := hide ((unhide BB).grown hg9 (by have := (unhide RR).lt; have := (unhide BB).size; omega) (fun j e => by injection e with e; omega))
                             clear hb9 hg9)
                exact bodyPost_ret (v := .tuple #[.agg #[.int .i64 0, .int .i64 0, .int .i64 0], .int .i64 6]) (res2 rfl _ r 26 #[.int .i64 0, .int .i64 0, .int .i64 0] _ _ rfl rfl (unhide Z9) Tryd.underlying26 rfl (by kernel_rfl)) rfl ⟨rfl, by rw [unhide HR]; exact unhide B9⟩
    · obtain rfl : I = l.length := by omega
      have hL : ((l.length : Int) < (l.length : Int)) = False := by simp

      by_cases hK2 : 2 < K
      · have hk2 : ((2 : Int) < (K : Int)) = True := by simp; omega
        have hbad : badV = (v, x) := by rw [← unhide HFIN]; rw [fin_end l K f _ hfI (unhide HDIG), if_pos (.inl hK2)]
        injection hbad with h1 h2
        subst h1 h2
        go_wp2_with (refine wpList_store_blk rfl 26 (.tmp 2) (.tmp 68) rfl r 26 _ #[.int .i64 0, .int .i64 0, .int .i64 0] rfl rfl (unhide RR) rfl (by kernel_rfl) (by intro u hu; simp at hu; rcases hu with rfl | rfl | rfl <;> rfl) ?_
                     intro w9 hb9 hg9
                     have Z9 := hide hb9
                     have B9 := hide ((unhide BB).grown hg9 (by have := (unhide RR).lt; have := (unhide BB).size; omega) (fun j e => by injection e with e; omega))
                     clear hb9 hg9)
        exact bodyPost_ret (v := .tuple #[.agg #[.int .i64 0, .int .i64 0, .int .i64 0], .int .i64 6]) (res2 rfl _ r 26 #[.int .i64 0, .int .i64 0, .int .i64 0] _ _ rfl rfl (unhide Z9) Tryd.underlying26 rfl (by kernel_rfl)) rfl ⟨rfl, by rw [unhide HR]; exact unhide B9⟩
      have hk2 : ((2 : Int) < (K : Int)) = False := by simp; omega
      by_cases hE : l.length = f
      · have hEq : (((l.length : Nat) : Int) == (f : Int)) = true := by simp; omega
        have hbad : badV = (v, x) := by rw [← unhide HFIN]; rw [fin_end l K f _ hfI (unhide HDIG), if_pos (.inr (by rw [show dOf l f l.length = dOf l f f by rw [hE]]; exact ok_false1 l f))]
        injection hbad with h1 h2
        subst h1 h2
        clear hEq
        subst hE
        go_wp2_with (refine wpList_store_blk rfl 26 (.tmp 2) (.tmp 68) rfl r 26 _ #[.int .i64 0, .int .i64 0, .int .i64 0] rfl rfl (unhide RR) rfl (by kernel_rfl) (by intro u hu; simp at hu; rcases hu with rfl | rfl | rfl <;> rfl) ?_
                     intro w9 hb9 hg9
                     have Z9 := hide hb9
                     have B9 := hide ((unhide BB).grown hg9 (by have := (unhide RR).lt; have := (unhide BB).size; omega) (fun j e => by injection e with e; omega))
                     clear hb9 hg9)
        exact bodyPost_ret (v := .tuple #[.agg #[.int .i64 0, .int .i64 0, .int .i64 0], .int .i64 6]) (res2 rfl _ r 26 #[.int .i64 0, .int .i64 0, .int .i64 0] _ _ rfl rfl (unhide Z9) Tryd.underlying26 rfl (by kernel_rfl)) rfl ⟨rfl, by rw [unhide HR]; exact unhide B9⟩
      have hEq : (((l.length : Nat) : Int) == (f : Int)) = false := by simp; omega
      obtain ⟨D, hD⟩ : ∃ D, l.length - f = D := ⟨_, rfl⟩
      have hsub : IntKind.i64.wrap (((l.length : Nat) : Int) - (f : Int)) = (D : Int) := by rw [show ((l.length : Nat) : Int) - (f : Int) = (D : Int) by omega]; exact IntWalk.i64_in _ (by omega)
      by_cases h3 : 3 < D
      · have h3' : ((3 : Int) < (D : Int)) = True := by simp; omega
        have hbad : badV = (v, x) := by rw [← unhide HFIN]; rw [fin_end l K f _ hfI (unhide HDIG), if_pos (.inr (ok_false3 l f l.length (by omega) (by omega)))]
        injection hbad with h1 h2
        subst h1 h2
        go_wp2_with (refine wpList_store_blk rfl 26 (.tmp 2) (.tmp 68) rfl r 26 _ #[.int .i64 0, .int .i64 0, .int .i64 0] rfl rfl (unhide RR) rfl (by kernel_rfl) (by intro u hu; simp at hu; rcases hu with rfl | rfl | rfl <;> rfl) ?_
                     intro w9 hb9 hg9
                     have Z9 := hide hb9
                     have B9 := hide ((unhide BB).grown hg9 (by have := (unhide RR).lt; have := (unhide BB).size; omega) (fun j e => by injection e with e; omega))
                     clear hb9 hg9)
        exact bodyPost_ret (v := .tuple #[.agg #[.int .i64 0, .int .i64 0, .int .i64 0], .int .i64 6]) (res2 rfl _ r 26 #[.int .i64 0, .int .i64 0, .int .i64 0] _ _ rfl rfl (unhide Z9) Tryd.underlying26 rfl (by kernel_rfl)) rfl ⟨rfl, by rw [unhide HR]; exact unhide B9⟩
      have h3' : ((3 : Int) < (D : Int)) = False := by simp; omega
      have hfl : f < l.length := by omega
      have hnF : ((⟨l.toArray⟩ : ByteArray)[f]'(by simpa [ByteArray.size] using hfl)).toNat = (l[f]'hfl).toNat := rfl
      by_cases h0 : 1 < D ∧ (l[f]'hfl).toNat = 48
      · have h1' : ((1 : Int) < (D : Int)) = True := by simp; omega
        have hbad : badV = (v, x) := by rw [← unhide HFIN]; rw [fin_end l K f _ hfI (unhide HDIG), if_pos (.inr (ok_false0 l f l.length (by omega) (by omega) h0.2))]
        injection hbad with h1 h2
        subst h1 h2
        rw [h0.2] at hnF
        clear h0
        go_wp2_with (refine wpList_store_blk rfl 26 (.tmp 2) (.tmp 68) rfl r 26 _ #[.int .i64 0, .int .i64 0, .int .i64 0] rfl rfl (unhide RR) rfl (by kernel_rfl) (by intro u hu; simp at hu; rcases hu with rfl | rfl | rfl <;> rfl) ?_
                     intro w9 hb9 hg9
                     have Z9 := hide hb9
                     have B9 := hide ((unhide BB).grown hg9 (by have := (unhide RR).lt; have := (unhide BB).size; omega) (fun j e => by injection e with e; omega))
                     clear hb9 hg9)
        exact bodyPost_ret (v := .tuple #[.agg #[.int .i64 0, .int .i64 0, .int .i64 0], .int .i64 6]) (res2 rfl _ r 26 #[.int .i64 0, .int .i64 0, .int .i64 0] _ _ rfl rfl (unhide Z9) Tryd.underlying26 rfl (by kernel_rfl)) rfl ⟨rfl, by rw [unhide HR]; exact unhide B9⟩
      have h0c : (decide ((1 : Int) < (D : Int)) = true ∧ (((l[f]'hfl).toNat : Int) == 48) = false) ∨ decide ((1 : Int) < (D : Int)) = false := by
        by_cases h1 : 1 < D
        · left; refine ⟨by simp; omega, ?_⟩; have : (l[f]'hfl).toNat ≠ 48 := fun e => h0 ⟨h1, e⟩; simp; omega
        · right; simp; omega
      have hok := ok_true l f l.length (by omega) (by omega) (by omega) (by rw [hD]; exact h0) (unhide HDIG)
      have hfin : finP K ⟨ua, ub, uc⟩ (splitD 46 (l.drop f)) = (v, x) := unhide HFIN
      rw [fin_end l K f _ hfI (unhide HDIG), if_neg (by rintro (h | h); omega; rw [hok] at h; cases h)] at hfin
      have HF := hide hfin
      generalize (l[f]'hfl).toNat = c0 at hnF h0c
      clear h0 hok hfin HFIN
      rcases (show K = 0 ∨ K = 1 ∨ K = 2 by omega) with rfl | rfl | rfl
      · rcases h0c with ⟨h1', h0'⟩ | h1'
        · have h1q : ((1 : Int) < (D : Int)) = True := by simpa using h1'
          clear h1'
          obtain rfl : ua = 0 := (unhide ZZ).1 (by omega)
          go_wp2_with fail
          go_loopw [8] (fun j W => ∃ J m : Nat, f ≤ J ∧ J ≤ l.length ∧ j = .int .i64 J ∧ decV 0 (dOf l f J) = m ∧ Blk W r 26 #[.int .i64 0, .int .i64 0, .int .i64 0] ∧ Blk W (r + 1) 66 #[.int .i64 (m : Int), .int .i64 ub, .int .i64 uc] ∧ Below r w W) (fun j _ => l.length - (intOf j).toNat)
          case atStart => exact ⟨f, 0, by omega, by omega, rfl, by rw [dOf_nil]; rfl, unhide RR, unhide NN, unhide BB⟩
          case round =>
            obtain ⟨J, m, hfJ, hJI, rfl, hm, hR2, hN2, hB2⟩ := hrel
            have RR2 := hide hR2
            have NN2 := hide hN2
            have BB2 := hide hB2
            clear hR2 hB2
            by_cases hJ : J < l.length
            · have hJ' : ((J : Int) < ((l.length : Nat) : Int)) = True := by simp; omega
              have hJl : J < l.length := by omega
              have hst := dOf_dec l f J hfJ hJl
              rw [hm] at hst
              have hm99 : m < 100 := by rw [← hm]; exact dOf_lt l f J 2 (by omega) (dOf_all_le l f l.length J (by omega) (unhide HDIG)) (by omega)
              have hdb := dOf_digit l f l.length J hfJ hJ (by omega) (unhide HDIG)
              have hnJ : ((⟨l.toArray⟩ : ByteArray)[J]'(by simpa [ByteArray.size] using hJl)).toNat = (l[J]'hJl).toNat := rfl
              have HST := hide hst
              clear hst hm
              generalize (l[J]'hJl).toNat = cj at hnJ hdb HST
              obtain ⟨hc1, hc2⟩ := hdb
              obtain ⟨d, rfl⟩ : ∃ d, cj = 48 + d := ⟨cj - 48, by omega⟩
              have hd9 : d ≤ 9 := by omega
              have hw8 : IntKind.u8.wrap (((48 + d : Nat) : Int) - 48) = (d : Int) := by rw [show ((48 + d : Nat) : Int) - 48 = (d : Int) by omega]; exact IntWalk.u8_in _ (by omega)
              have q1 : wr.cell? ⟨r + 1, 0, none⟩ = some (.int .i64 (m : Int)) := hN2.cell 0
              have f1 : wr.frozen? ⟨r + 1, 0, none⟩ = false := hN2.frozen 0
              have hrl2 : r + 1 < wr.heap.size := hN2.lt
              have hwm : IntKind.i64.wrap ((m : Int) * 10 + (d : Int)) = ((m * 10 + d : Nat) : Int) := by rw [show (m : Int) * 10 + (d : Int) = ((m * 10 + d : Nat) : Int) by omega]; exact IntWalk.i64_in _ (by omega)
              have hwm1 : IntKind.i64.wrap ((m : Int) * 10) = (m : Int) * 10 := IntWalk.i64_in _ (by omega)
              have F2 : Hid (∀ z : Int, z = ((m * 10 + d : Nat) : Int) → Blk (wr.setCell ⟨r + 1, 0, none⟩ (.int .i64 z)).drew r 26 #[.int .i64 0, .int .i64 0, .int .i64 0] ∧ Blk (wr.setCell ⟨r + 1, 0, none⟩ (.int .i64 z)).drew (r + 1) 66 #[.int .i64 ((m * 10 + d : Nat) : Int), .int .i64 ub, .int .i64 uc] ∧ Below r w (wr.setCell ⟨r + 1, 0, none⟩ (.int .i64 z)).drew) := hide (fun z hz => by
                subst hz
                have gs : wr.grownBy (wr.setCell ⟨r + 1, 0, none⟩ (.int .i64 ((m * 10 + d : Nat) : Int))) (some (r + 1)) := only_setCell (World.grownBy.refl wr _) (.inl rfl) _
                exact ⟨((unhide RR2).grown gs (by intro e; injection e with e; omega)).drew, ((unhide NN2).set_ 0 _).drew, ((unhide BB2).grown gs (by have := (unhide RR2).lt; have := (unhide BB2).size; omega) (fun j e => by injection e with e; omega)).drew⟩)
              clear hN2 hc1 hc2
              go_upto_region 12 with fail
              go_region
              go_wp2_with fail
              go_roundw
              case rel =>
                refine ⟨J + 1, m * 10 + d, by omega, by omega, by go_num, by rw [unhide HST]; omega, ?_⟩
                exact unhide F2 _ (by omega)
              case measure => simp [intOf]; omega
            · obtain ⟨hJe⟩ : PLift (J = l.length) := ⟨by omega⟩
              subst hJe
              have HNN := hide (unhide NN2)
              have HM := hide hm
              have hJf : ((l.length : Int) < (l.length : Int)) = False := by simp
              clear hm hN2 hJ
              go_wp2_with fail
              go_roundw
              case rel => exact ⟨1, l.length + 1, l.length + 1, ⟨(m : Int), ub, uc⟩, by go_num, by go_num, by go_num, by omega, by omega, .inr ⟨rfl, rfl, by have h := unhide HF; rw [unhide HM] at h; exact h⟩, ⟨by omega, fun _ => (unhide ZZ).2.1 (by omega), fun _ => (unhide ZZ).2.2 (by omega)⟩, unhide RR2, unhide HNN, unhide BB2⟩
              case measure => first | (simp [intOf]; done) | (simp [intOf]; omega)
        · have h1q : ((1 : Int) < (D : Int)) = False := by simpa using h1'
          clear h1'
          obtain ⟨b0, hb0⟩ : ∃ b, ((c0 : Int) == 48) = b := ⟨_, rfl⟩
          cases b0
          all_goals
            obtain rfl : ua = 0 := (unhide ZZ).1 (by omega)
            go_wp2_with fail
            go_loopw [8] (fun j W => ∃ J m : Nat, f ≤ J ∧ J ≤ l.length ∧ j = .int .i64 J ∧ decV 0 (dOf l f J) = m ∧ Blk W r 26 #[.int .i64 0, .int .i64 0, .int .i64 0] ∧ Blk W (r + 1) 66 #[.int .i64 (m : Int), .int .i64 ub, .int .i64 uc] ∧ Below r w W) (fun j _ => l.length - (intOf j).toNat)
            case atStart => exact ⟨f, 0, by omega, by omega, rfl, by rw [dOf_nil]; rfl, unhide RR, unhide NN, unhide BB⟩
            case round =>
              obtain ⟨J, m, hfJ, hJI, rfl, hm, hR2, hN2, hB2⟩ := hrel
              have RR2 := hide hR2
              have NN2 := hide hN2
              have BB2 := hide hB2
              clear hR2 hB2
              by_cases hJ : J < l.length
              · have hJ' : ((J : Int) < ((l.length : Nat) : Int)) = True := by simp; omega
                have hJl : J < l.length := by omega
                have hst := dOf_dec l f J hfJ hJl
                rw [hm] at hst
                have hm99 : m < 100 := by rw [← hm]; exact dOf_lt l f J 2 (by omega) (dOf_all_le l f l.length J (by omega) (unhide HDIG)) (by omega)
                have hdb := dOf_digit l f l.length J hfJ hJ (by omega) (unhide HDIG)
                have hnJ : ((⟨l.toArray⟩ : ByteArray)[J]'(by simpa [ByteArray.size] using hJl)).toNat = (l[J]'hJl).toNat := rfl
                have HST := hide hst
                clear hst hm
                generalize (l[J]'hJl).toNat = cj at hnJ hdb HST
                obtain ⟨hc1, hc2⟩ := hdb
                obtain ⟨d, rfl⟩ : ∃ d, cj = 48 + d := ⟨cj - 48, by omega⟩
                have hd9 : d ≤ 9 := by omega
                have hw8 : IntKind.u8.wrap (((48 + d : Nat) : Int) - 48) = (d : Int) := by rw [show ((48 + d : Nat) : Int) - 48 = (d : Int) by omega]; exact IntWalk.u8_in _ (by omega)
                have q1 : wr.cell? ⟨r + 1, 0, none⟩ = some (.int .i64 (m : Int)) := hN2.cell 0
                have f1 : wr.frozen? ⟨r + 1, 0, none⟩ = false := hN2.frozen 0
                have hrl2 : r + 1 < wr.heap.size := hN2.lt
                have hwm : IntKind.i64.wrap ((m : Int) * 10 + (d : Int)) = ((m * 10 + d : Nat) : Int) := by rw [show (m : Int) * 10 + (d : Int) = ((m * 10 + d : Nat) : Int) by omega]; exact IntWalk.i64_in _ (by omega)
                have hwm1 : IntKind.i64.wrap ((m : Int) * 10) = (m : Int) * 10 := IntWalk.i64_in _ (by omega)
                have F2 : Hid (∀ z : Int, z = ((m * 10 + d : Nat) : Int) → Blk (wr.setCell ⟨r + 1, 0, none⟩ (.int .i64 z)).drew r 26 #[.int .i64 0, .int .i64 0, .int .i64 0] ∧ Blk (wr.setCell ⟨r + 1, 0, none⟩ (.int .i64 z)).drew (r + 1) 66 #[.int .i64 ((m * 10 + d : Nat) : Int), .int .i64 ub, .int .i64 uc] ∧ Below r w (wr.setCell ⟨r + 1, 0, none⟩ (.int .i64 z)).drew) := hide (fun z hz => by
                  subst hz
                  have gs : wr.grownBy (wr.setCell ⟨r + 1, 0, none⟩ (.int .i64 ((m * 10 + d : Nat) : Int))) (some (r + 1)) := only_setCell (World.grownBy.refl wr _) (.inl rfl) _
                  exact ⟨((unhide RR2).grown gs (by intro e; injection e with e; omega)).drew, ((unhide NN2).set_ 0 _).drew, ((unhide BB2).grown gs (by have := (unhide RR2).lt; have := (unhide BB2).size; omega) (fun j e => by injection e with e; omega)).drew⟩)
                clear hN2 hc1 hc2
                go_upto_region 12 with fail
                go_region
                go_wp2_with fail
                go_roundw
                case rel =>
                  refine ⟨J + 1, m * 10 + d, by omega, by omega, by go_num, by rw [unhide HST]; omega, ?_⟩
                  exact unhide F2 _ (by omega)
                case measure => simp [intOf]; omega
              · obtain ⟨hJe⟩ : PLift (J = l.length) := ⟨by omega⟩
                subst hJe
                have HNN := hide (unhide NN2)
                have HM := hide hm
                have hJf : ((l.length : Int) < (l.length : Int)) = False := by simp
                clear hm hN2 hJ
                go_wp2_with fail
                go_roundw
                case rel => exact ⟨1, l.length + 1, l.length + 1, ⟨(m : Int), ub, uc⟩, by go_num, by go_num, by go_num, by omega, by omega, .inr ⟨rfl, rfl, by have h := unhide HF; rw [unhide HM] at h; exact h⟩, ⟨by omega, fun _ => (unhide ZZ).2.1 (by omega), fun _ => (unhide ZZ).2.2 (by omega)⟩, unhide RR2, unhide HNN, unhide BB2⟩
                case measure => first | (simp [intOf]; done) | (simp [intOf]; omega)
      · rcases h0c with ⟨h1', h0'⟩ | h1'
        · have h1q : ((1 : Int) < (D : Int)) = True := by simpa using h1'
          clear h1'
          obtain rfl : ub = 0 := (unhide ZZ).2.1 (by omega)
          go_wp2_with fail
          go_loopw [8] (fun j W => ∃ J m : Nat, f ≤ J ∧ J ≤ l.length ∧ j = .int .i64 J ∧ decV 0 (dOf l f J) = m ∧ Blk W r 26 #[.int .i64 0, .int .i64 0, .int .i64 0] ∧ Blk W (r + 1) 66 #[.int .i64 ua, .int .i64 (m : Int), .int .i64 uc] ∧ Below r w W) (fun j _ => l.length - (intOf j).toNat)
          case atStart => exact ⟨f, 0, by omega, by omega, rfl, by rw [dOf_nil]; rfl, unhide RR, unhide NN, unhide BB⟩
          case round =>
            obtain ⟨J, m, hfJ, hJI, rfl, hm, hR2, hN2, hB2⟩ := hrel
            have RR2 := hide hR2
            have NN2 := hide hN2
            have BB2 := hide hB2
            clear hR2 hB2
            by_cases hJ : J < l.length
            · have hJ' : ((J : Int) < ((l.length : Nat) : Int)) = True := by simp; omega
              have hJl : J < l.length := by omega
              have hst := dOf_dec l f J hfJ hJl
              rw [hm] at hst
              have hm99 : m < 100 := by rw [← hm]; exact dOf_lt l f J 2 (by omega) (dOf_all_le l f l.length J (by omega) (unhide HDIG)) (by omega)
              have hdb := dOf_digit l f l.length J hfJ hJ (by omega) (unhide HDIG)
              have hnJ : ((⟨l.toArray⟩ : ByteArray)[J]'(by simpa [ByteArray.size] using hJl)).toNat = (l[J]'hJl).toNat := rfl
              have HST := hide hst
              clear hst hm
              generalize (l[J]'hJl).toNat = cj at hnJ hdb HST
              obtain ⟨hc1, hc2⟩ := hdb
              obtain ⟨d, rfl⟩ : ∃ d, cj = 48 + d := ⟨cj - 48, by omega⟩
              have hd9 : d ≤ 9 := by omega
              have hw8 : IntKind.u8.wrap (((48 + d : Nat) : Int) - 48) = (d : Int) := by rw [show ((48 + d : Nat) : Int) - 48 = (d : Int) by omega]; exact IntWalk.u8_in _ (by omega)
              have q1 : wr.cell? ⟨r + 1, 1, none⟩ = some (.int .i64 (m : Int)) := hN2.cell 1
              have f1 : wr.frozen? ⟨r + 1, 1, none⟩ = false := hN2.frozen 1
              have hrl2 : r + 1 < wr.heap.size := hN2.lt
              have hwm : IntKind.i64.wrap ((m : Int) * 10 + (d : Int)) = ((m * 10 + d : Nat) : Int) := by rw [show (m : Int) * 10 + (d : Int) = ((m * 10 + d : Nat) : Int) by omega]; exact IntWalk.i64_in _ (by omega)
              have hwm1 : IntKind.i64.wrap ((m : Int) * 10) = (m : Int) * 10 := IntWalk.i64_in _ (by omega)
              have F2 : Hid (∀ z : Int, z = ((m * 10 + d : Nat) : Int) → Blk (wr.setCell ⟨r + 1, 1, none⟩ (.int .i64 z)).drew r 26 #[.int .i64 0, .int .i64 0, .int .i64 0] ∧ Blk (wr.setCell ⟨r + 1, 1, none⟩ (.int .i64 z)).drew (r + 1) 66 #[.int .i64 ua, .int .i64 ((m * 10 + d : Nat) : Int), .int .i64 uc] ∧ Below r w (wr.setCell ⟨r + 1, 1, none⟩ (.int .i64 z)).drew) := hide (fun z hz => by
                subst hz
                have gs : wr.grownBy (wr.setCell ⟨r + 1, 1, none⟩ (.int .i64 ((m * 10 + d : Nat) : Int))) (some (r + 1)) := only_setCell (World.grownBy.refl wr _) (.inl rfl) _
                exact ⟨((unhide RR2).grown gs (by intro e; injection e with e; omega)).drew, ((unhide NN2).set_ 1 _).drew, ((unhide BB2).grown gs (by have := (unhide RR2).lt; have := (unhide BB2).size; omega) (fun j e => by injection e with e; omega)).drew⟩)
              clear hN2 hc1 hc2
              go_upto_region 12 with fail
              go_region
              go_wp2_with fail
              go_roundw
              case rel =>
                refine ⟨J + 1, m * 10 + d, by omega, by omega, by go_num, by rw [unhide HST]; omega, ?_⟩
                exact unhide F2 _ (by omega)
              case measure => simp [intOf]; omega
            · obtain ⟨hJe⟩ : PLift (J = l.length) := ⟨by omega⟩
              subst hJe
              have HNN := hide (unhide NN2)
              have HM := hide hm
              have hJf : ((l.length : Int) < (l.length : Int)) = False := by simp
              clear hm hN2 hJ
              go_wp2_with fail
              go_roundw
              case rel => exact ⟨2, l.length + 1, l.length + 1, ⟨ua, (m : Int), uc⟩, by go_num, by go_num, by go_num, by omega, by omega, .inr ⟨rfl, rfl, by have h := unhide HF; rw [unhide HM] at h; exact h⟩, ⟨by omega, by omega, fun _ => (unhide ZZ).2.2 (by omega)⟩, unhide RR2, unhide HNN, unhide BB2⟩
              case measure => first | (simp [intOf]; done) | (simp [intOf]; omega)
        · have h1q : ((1 : Int) < (D : Int)) = False := by simpa using h1'
          clear h1'
          obtain ⟨b0, hb0⟩ : ∃ b, ((c0 : Int) == 48) = b := ⟨_, rfl⟩
          cases b0
          all_goals
            obtain rfl : ub = 0 := (unhide ZZ).2.1 (by omega)
            go_wp2_with fail
            go_loopw [8] (fun j W => ∃ J m : Nat, f ≤ J ∧ J ≤ l.length ∧ j = .int .i64 J ∧ decV 0 (dOf l f J) = m ∧ Blk W r 26 #[.int .i64 0, .int .i64 0, .int .i64 0] ∧ Blk W (r + 1) 66 #[.int .i64 ua, .int .i64 (m : Int), .int .i64 uc] ∧ Below r w W) (fun j _ => l.length - (intOf j).toNat)
            case atStart => exact ⟨f, 0, by omega, by omega, rfl, by rw [dOf_nil]; rfl, unhide RR, unhide NN, unhide BB⟩
            case round =>
              obtain ⟨J, m, hfJ, hJI, rfl, hm, hR2, hN2, hB2⟩ := hrel
              have RR2 := hide hR2
              have NN2 := hide hN2
              have BB2 := hide hB2
              clear hR2 hB2
              by_cases hJ : J < l.length
              · have hJ' : ((J : Int) < ((l.length : Nat) : Int)) = True := by simp; omega
                have hJl : J < l.length := by omega
                have hst := dOf_dec l f J hfJ hJl
                rw [hm] at hst
                have hm99 : m < 100 := by rw [← hm]; exact dOf_lt l f J 2 (by omega) (dOf_all_le l f l.length J (by omega) (unhide HDIG)) (by omega)
                have hdb := dOf_digit l f l.length J hfJ hJ (by omega) (unhide HDIG)
                have hnJ : ((⟨l.toArray⟩ : ByteArray)[J]'(by simpa [ByteArray.size] using hJl)).toNat = (l[J]'hJl).toNat := rfl
                have HST := hide hst
                clear hst hm
                generalize (l[J]'hJl).toNat = cj at hnJ hdb HST
                obtain ⟨hc1, hc2⟩ := hdb
                obtain ⟨d, rfl⟩ : ∃ d, cj = 48 + d := ⟨cj - 48, by omega⟩
                have hd9 : d ≤ 9 := by omega
                have hw8 : IntKind.u8.wrap (((48 + d : Nat) : Int) - 48) = (d : Int) := by rw [show ((48 + d : Nat) : Int) - 48 = (d : Int) by omega]; exact IntWalk.u8_in _ (by omega)
                have q1 : wr.cell? ⟨r + 1, 1, none⟩ = some (.int .i64 (m : Int)) := hN2.cell 1
                have f1 : wr.frozen? ⟨r + 1, 1, none⟩ = false := hN2.frozen 1
                have hrl2 : r + 1 < wr.heap.size := hN2.lt
                have hwm : IntKind.i64.wrap ((m : Int) * 10 + (d : Int)) = ((m * 10 + d : Nat) : Int) := by rw [show (m : Int) * 10 + (d : Int) = ((m * 10 + d : Nat) : Int) by omega]; exact IntWalk.i64_in _ (by omega)
                have hwm1 : IntKind.i64.wrap ((m : Int) * 10) = (m : Int) * 10 := IntWalk.i64_in _ (by omega)
                have F2 : Hid (∀ z : Int, z = ((m * 10 + d : Nat) : Int) → Blk (wr.setCell ⟨r + 1, 1, none⟩ (.int .i64 z)).drew r 26 #[.int .i64 0, .int .i64 0, .int .i64 0] ∧ Blk (wr.setCell ⟨r + 1, 1, none⟩ (.int .i64 z)).drew (r + 1) 66 #[.int .i64 ua, .int .i64 ((m * 10 + d : Nat) : Int), .int .i64 uc] ∧ Below r w (wr.setCell ⟨r + 1, 1, none⟩ (.int .i64 z)).drew) := hide (fun z hz => by
                  subst hz
                  have gs : wr.grownBy (wr.setCell ⟨r + 1, 1, none⟩ (.int .i64 ((m * 10 + d : Nat) : Int))) (some (r + 1)) := only_setCell (World.grownBy.refl wr _) (.inl rfl) _
                  exact ⟨((unhide RR2).grown gs (by intro e; injection e with e; omega)).drew, ((unhide NN2).set_ 1 _).drew, ((unhide BB2).grown gs (by have := (unhide RR2).lt; have := (unhide BB2).size; omega) (fun j e => by injection e with e; omega)).drew⟩)
                clear hN2 hc1 hc2
                go_upto_region 12 with fail
                go_region
                go_wp2_with fail
                go_roundw
                case rel =>
                  refine ⟨J + 1, m * 10 + d, by omega, by omega, by go_num, by rw [unhide HST]; omega, ?_⟩
                  exact unhide F2 _ (by omega)
                case measure => simp [intOf]; omega
              · obtain ⟨hJe⟩ : PLift (J = l.length) := ⟨by omega⟩
                subst hJe
                have HNN := hide (unhide NN2)
                have HM := hide hm
                have hJf : ((l.length : Int) < (l.length : Int)) = False := by simp
                clear hm hN2 hJ
                go_wp2_with fail
                go_roundw
                case rel => exact ⟨2, l.length + 1, l.length + 1, ⟨ua, (m : Int), uc⟩, by go_num, by go_num, by go_num, by omega, by omega, .inr ⟨rfl, rfl, by have h := unhide HF; rw [unhide HM] at h; exact h⟩, ⟨by omega, by omega, fun _ => (unhide ZZ).2.2 (by omega)⟩, unhide RR2, unhide HNN, unhide BB2⟩
                case measure => first | (simp [intOf]; done) | (simp [intOf]; omega)
      · rcases h0c with ⟨h1', h0'⟩ | h1'
        · have h1q : ((1 : Int) < (D : Int)) = True := by simpa using h1'
          clear h1'
          obtain rfl : uc = 0 := (unhide ZZ).2.2 (by omega)
          go_wp2_with fail
          go_loopw [8] (fun j W => ∃ J m : Nat, f ≤ J ∧ J ≤ l.length ∧ j = .int .i64 J ∧ decV 0 (dOf l f J) = m ∧ Blk W r 26 #[.int .i64 0, .int .i64 0, .int .i64 0] ∧ Blk W (r + 1) 66 #[.int .i64 ua, .int .i64 ub, .int .i64 (m : Int)] ∧ Below r w W) (fun j _ => l.length - (intOf j).toNat)
          case atStart => exact ⟨f, 0, by omega, by omega, rfl, by rw [dOf_nil]; rfl, unhide RR, unhide NN, unhide BB⟩
          case round =>
            obtain ⟨J, m, hfJ, hJI, rfl, hm, hR2, hN2, hB2⟩ := hrel
            have RR2 := hide hR2
            have NN2 := hide hN2
            have BB2 := hide hB2
            clear hR2 hB2
            by_cases hJ : J < l.length
            · have hJ' : ((J : Int) < ((l.length : Nat) : Int)) = True := by simp; omega
              have hJl : J < l.length := by omega
              have hst := dOf_dec l f J hfJ hJl
              rw [hm] at hst
              have hm99 : m < 100 := by rw [← hm]; exact dOf_lt l f J 2 (by omega) (dOf_all_le l f l.length J (by omega) (unhide HDIG)) (by omega)
              have hdb := dOf_digit l f l.length J hfJ hJ (by omega) (unhide HDIG)
              have hnJ : ((⟨l.toArray⟩ : ByteArray)[J]'(by simpa [ByteArray.size] using hJl)).toNat = (l[J]'hJl).toNat := rfl
              have HST := hide hst
              clear hst hm
              generalize (l[J]'hJl).toNat = cj at hnJ hdb HST
              obtain ⟨hc1, hc2⟩ := hdb
              obtain ⟨d, rfl⟩ : ∃ d, cj = 48 + d := ⟨cj - 48, by omega⟩
              have hd9 : d ≤ 9 := by omega
              have hw8 : IntKind.u8.wrap (((48 + d : Nat) : Int) - 48) = (d : Int) := by rw [show ((48 + d : Nat) : Int) - 48 = (d : Int) by omega]; exact IntWalk.u8_in _ (by omega)
              have q1 : wr.cell? ⟨r + 1, 2, none⟩ = some (.int .i64 (m : Int)) := hN2.cell 2
              have f1 : wr.frozen? ⟨r + 1, 2, none⟩ = false := hN2.frozen 2
              have hrl2 : r + 1 < wr.heap.size := hN2.lt
              have hwm : IntKind.i64.wrap ((m : Int) * 10 + (d : Int)) = ((m * 10 + d : Nat) : Int) := by rw [show (m : Int) * 10 + (d : Int) = ((m * 10 + d : Nat) : Int) by omega]; exact IntWalk.i64_in _ (by omega)
              have hwm1 : IntKind.i64.wrap ((m : Int) * 10) = (m : Int) * 10 := IntWalk.i64_in _ (by omega)
              have F2 : Hid (∀ z : Int, z = ((m * 10 + d : Nat) : Int) → Blk (wr.setCell ⟨r + 1, 2, none⟩ (.int .i64 z)).drew r 26 #[.int .i64 0, .int .i64 0, .int .i64 0] ∧ Blk (wr.setCell ⟨r + 1, 2, none⟩ (.int .i64 z)).drew (r + 1) 66 #[.int .i64 ua, .int .i64 ub, .int .i64 ((m * 10 + d : Nat) : Int)] ∧ Below r w (wr.setCell ⟨r + 1, 2, none⟩ (.int .i64 z)).drew) := hide (fun z hz => by
                subst hz
                have gs : wr.grownBy (wr.setCell ⟨r + 1, 2, none⟩ (.int .i64 ((m * 10 + d : Nat) : Int))) (some (r + 1)) := only_setCell (World.grownBy.refl wr _) (.inl rfl) _
                exact ⟨((unhide RR2).grown gs (by intro e; injection e with e; omega)).drew, ((unhide NN2).set_ 2 _).drew, ((unhide BB2).grown gs (by have := (unhide RR2).lt; have := (unhide BB2).size; omega) (fun j e => by injection e with e; omega)).drew⟩)
              clear hN2 hc1 hc2
              go_upto_region 12 with fail
              go_region
              go_wp2_with fail
              go_roundw
              case rel =>
                refine ⟨J + 1, m * 10 + d, by omega, by omega, by go_num, by rw [unhide HST]; omega, ?_⟩
                exact unhide F2 _ (by omega)
              case measure => simp [intOf]; omega
            · obtain ⟨hJe⟩ : PLift (J = l.length) := ⟨by omega⟩
              subst hJe
              have HNN := hide (unhide NN2)
              have HM := hide hm
              have hJf : ((l.length : Int) < (l.length : Int)) = False := by simp
              clear hm hN2 hJ
              go_wp2_with fail
              go_roundw
              case rel => exact ⟨3, l.length + 1, l.length + 1, ⟨ua, ub, (m : Int)⟩, by go_num, by go_num, by go_num, by omega, by omega, .inr ⟨rfl, rfl, by have h := unhide HF; rw [unhide HM] at h; exact h⟩, ⟨by omega, by omega, by omega⟩, unhide RR2, unhide HNN, unhide BB2⟩
              case measure => first | (simp [intOf]; done) | (simp [intOf]; omega)
        · have h1q : ((1 : Int) < (D : Int)) = False := by simpa using h1'
          clear h1'
          obtain ⟨b0, hb0⟩ : ∃ b, ((c0 : Int) == 48) = b := ⟨_, rfl⟩
          cases b0
          all_goals
            obtain rfl : uc = 0 := (unhide ZZ).2.2 (by omega)
            go_wp2_with fail
            go_loopw [8] (fun j W => ∃ J m : Nat, f ≤ J ∧ J ≤ l.length ∧ j = .int .i64 J ∧ decV 0 (dOf l f J) = m ∧ Blk W r 26 #[.int .i64 0, .int .i64 0, .int .i64 0] ∧ Blk W (r + 1) 66 #[.int .i64 ua, .int .i64 ub, .int .i64 (m : Int)] ∧ Below r w W) (fun j _ => l.length - (intOf j).toNat)
            case atStart => exact ⟨f, 0, by omega, by omega, rfl, by rw [dOf_nil]; rfl, unhide RR, unhide NN, unhide BB⟩
            case round =>
              obtain ⟨J, m, hfJ, hJI, rfl, hm, hR2, hN2, hB2⟩ := hrel
              have RR2 := hide hR2
              have NN2 := hide hN2
              have BB2 := hide hB2
              clear hR2 hB2
              by_cases hJ : J < l.length
              · have hJ' : ((J : Int) < ((l.length : Nat) : Int)) = True := by simp; omega
                have hJl : J < l.length := by omega
                have hst := dOf_dec l f J hfJ hJl
                rw [hm] at hst
                have hm99 : m < 100 := by rw [← hm]; exact dOf_lt l f J 2 (by omega) (dOf_all_le l f l.length J (by omega) (unhide HDIG)) (by omega)
                have hdb := dOf_digit l f l.length J hfJ hJ (by omega) (unhide HDIG)
                have hnJ : ((⟨l.toArray⟩ : ByteArray)[J]'(by simpa [ByteArray.size] using hJl)).toNat = (l[J]'hJl).toNat := rfl
                have HST := hide hst
                clear hst hm
                generalize (l[J]'hJl).toNat = cj at hnJ hdb HST
                obtain ⟨hc1, hc2⟩ := hdb
                obtain ⟨d, rfl⟩ : ∃ d, cj = 48 + d := ⟨cj - 48, by omega⟩
                have hd9 : d ≤ 9 := by omega
                have hw8 : IntKind.u8.wrap (((48 + d : Nat) : Int) - 48) = (d : Int) := by rw [show ((48 + d : Nat) : Int) - 48 = (d : Int) by omega]; exact IntWalk.u8_in _ (by omega)
                have q1 : wr.cell? ⟨r + 1, 2, none⟩ = some (.int .i64 (m : Int)) := hN2.cell 2
                have f1 : wr.frozen? ⟨r + 1, 2, none⟩ = false := hN2.frozen 2
                have hrl2 : r + 1 < wr.heap.size := hN2.lt
                have hwm : IntKind.i64.wrap ((m : Int) * 10 + (d : Int)) = ((m * 10 + d : Nat) : Int) := by rw [show (m : Int) * 10 + (d : Int) = ((m * 10 + d : Nat) : Int) by omega]; exact IntWalk.i64_in _ (by omega)
                have hwm1 : IntKind.i64.wrap ((m : Int) * 10) = (m : Int) * 10 := IntWalk.i64_in _ (by omega)
                have F2 : Hid (∀ z : Int, z = ((m * 10 + d : Nat) : Int) → Blk (wr.setCell ⟨r + 1, 2, none⟩ (.int .i64 z)).drew r 26 #[.int .i64 0, .int .i64 0, .int .i64 0] ∧ Blk (wr.setCell ⟨r + 1, 2, none⟩ (.int .i64 z)).drew (r + 1) 66 #[.int .i64 ua, .int .i64 ub, .int .i64 ((m * 10 + d : Nat) : Int)] ∧ Below r w (wr.setCell ⟨r + 1, 2, none⟩ (.int .i64 z)).drew) := hide (fun z hz => by
                  subst hz
                  have gs : wr.grownBy (wr.setCell ⟨r + 1, 2, none⟩ (.int .i64 ((m * 10 + d : Nat) : Int))) (some (r + 1)) := only_setCell (World.grownBy.refl wr _) (.inl rfl) _
                  exact ⟨((unhide RR2).grown gs (by intro e; injection e with e; omega)).drew, ((unhide NN2).set_ 2 _).drew, ((unhide BB2).grown gs (by have := (unhide RR2).lt; have := (unhide BB2).size; omega) (fun j e => by injection e with e; omega)).drew⟩)
                clear hN2 hc1 hc2
                go_upto_region 12 with fail
                go_region
                go_wp2_with fail
                go_roundw
                case rel =>
                  refine ⟨J + 1, m * 10 + d, by omega, by omega, by go_num, by rw [unhide HST]; omega, ?_⟩
                  exact unhide F2 _ (by omega)
                case measure => simp [intOf]; omega
              · obtain ⟨hJe⟩ : PLift (J = l.length) := ⟨by omega⟩
                subst hJe
                have HNN := hide (unhide NN2)
                have HM := hide hm
                have hJf : ((l.length : Int) < (l.length : Int)) = False := by simp
                clear hm hN2 hJ
                go_wp2_with fail
                go_roundw
                case rel => exact ⟨3, l.length + 1, l.length + 1, ⟨ua, ub, (m : Int)⟩, by go_num, by go_num, by go_num, by omega, by omega, .inr ⟨rfl, rfl, by have h := unhide HF; rw [unhide HM] at h; exact h⟩, ⟨by omega, by omega, by omega⟩, unhide RR2, unhide HNN, unhide BB2⟩
                case measure => first | (simp [intOf]; done) | (simp [intOf]; omega)
end Go.Proofs.YtbcbleonpaemgaaDoor
