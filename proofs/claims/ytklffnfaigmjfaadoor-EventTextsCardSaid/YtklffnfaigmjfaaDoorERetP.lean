/- What comes back of an event: by its bytes, by its text, and the text of what was read. Plain laws; no program stands here. -/
import Derived.Test.YtklffnfaigmjfaaDoorEParseP
import Derived.Test.YtklffnfaigmjfaaDoorEDecW
namespace Go.Proofs.YtklffnfaigmjfaaDoor
open Go
theorem dd_no32' (n : Nat) : ∀ x ∈ Lib.decDigits n, x ≠ 32 := dd_no32 n
theorem dd_okU (n : Nat) (h : n < 10000000000) : okU (Lib.decDigits n) = true := by
  have h1 := dd_ne n
  have h2 := dd_len 9 n (by omega)
  have h3 := dd_all n
  have h4 : ¬ (1 < (Lib.decDigits n).length ∧ (Lib.decDigits n).head? = some 48) := by
    rintro ⟨ha, hb⟩
    by_cases hn : n < 10
    · rw [dd_small n hn] at ha; simp at ha
    · obtain ⟨c, r, e, hc⟩ := dd_head n (by omega)
      rw [e] at hb
      simp at hb
      exact hc hb
  have h5 : 1 ≤ (Lib.decDigits n).length := by
    rcases hl : Lib.decDigits n with _ | _
    · exact absurd hl h1
    · simp
  simp only [okU, h5, h2, h3, decide_true, Bool.true_and, Bool.and_true, Bool.not_eq_true']
  simpa using h4
theorem hexB_back (n : Nat) (h : n < 16) : isH (hexB n) = true ∧ hxN (hexB n) = n := by
  have hv := hexB_val n h
  unfold isH hxN
  rw [hv]
  unfold hexD
  by_cases h10 : n < 10
  · rw [if_pos h10]
    refine ⟨by simp; omega, ?_⟩
    rw [if_pos (by omega)]
    omega
  · rw [if_neg h10]
    refine ⟨by simp; omega, ?_⟩
    rw [if_neg (by omega)]
    omega
theorem word_no32 (ty : Int) : ∀ x ∈ wordL ty, x ≠ 32 := by
  unfold wordL
  split
  · decide
  · split <;> decide
theorem split_fmt (e : Ev) (hd : ∀ x ∈ dataL e.d0.toNat e.d1.toNat e.d2.toNat, x ≠ 32) : splitD 32 (fmtE e) = partsE e := by
  rw [fmtE_eq]
  rw [splitD_app 32 _ _ (dd_no32 _), splitD_app 32 _ _ (dd_no32 _), splitD_app 32 _ _ (dd_no32 _), splitD_app 32 _ _ (dd_no32 _), splitD_app 32 _ _ (dd_no32 _), splitD_app 32 _ _ (dd_no32 _), splitD_app 32 _ _ (sign_no32 _), splitD_app 32 _ _ hd, splitD_end 32 _ (word_no32 _)]
  rfl
theorem wrd_of (ty : Int) : wrdB (wordL ty) = true := by
  unfold wrdB wordL
  split
  · simp
  · split <;> simp
theorem parse_fmtE {e : Ev} (he : e.In) (hv : validE e = true) : parseE (fmtE e) = (e, 0) := by
  have a0 := he.id0; have a1 := he.id1; have a2 := he.tm0; have a3 := he.tm1; have a4 := he.gn0; have a5 := he.gn1
  have a6 := he.st0; have a7 := he.st1; have a8 := he.sn0; have a9 := he.sn1; have a10 := he.ty0; have a11 := he.ty1
  have b0 := he.d00; have b1 := he.d01; have b2 := he.d10; have b3 := he.d11; have b4 := he.d20; have b5 := he.d21
  have hdn := data_no32 e.d0.toNat e.d1.toNat e.d2.toNat (by omega) (by omega) (by omega)
  rw [parseE, split_fmt e hdn]
  have k0 : partK (partsE e) 0 = Lib.decDigits e.id.toNat := rfl
  have k1 : partK (partsE e) 1 = Lib.decDigits e.tm.toNat := rfl
  have k2 : partK (partsE e) 2 = Lib.decDigits e.gn.toNat := rfl
  have k3 : partK (partsE e) 3 = Lib.decDigits e.st.toNat := rfl
  have k4 : partK (partsE e) 4 = Lib.decDigits e.sn.toNat := rfl
  have k5 : partK (partsE e) 5 = Lib.decDigits e.ty.toNat := rfl
  have k6 : partK (partsE e) 6 = signL e.ds := rfl
  have k7 : partK (partsE e) 7 = dataL e.d0.toNat e.d1.toNat e.d2.toNat := rfl
  have k8 : partK (partsE e) 8 = wordL e.ty := rfl
  obtain ⟨h0, h0'⟩ := hexB_back (e.d0.toNat / 16) (by omega)
  obtain ⟨h1, h1'⟩ := hexB_back (e.d0.toNat % 16) (by omega)
  obtain ⟨h2, h2'⟩ := hexB_back (e.d1.toNat / 16) (by omega)
  obtain ⟨h3, h3'⟩ := hexB_back (e.d1.toNat % 16) (by omega)
  obtain ⟨h4, h4'⟩ := hexB_back (e.d2.toNat / 16) (by omega)
  obtain ⟨h5, h5'⟩ := hexB_back (e.d2.toNat % 16) (by omega)
  have hform : formB (partsE e) = true := by
    refine form_all rfl ?_ ?_ ?_ ?_
    · simp only [goodK, k0, k1, k2, k3, k4, k5]
      rw [dd_okU _ (by omega), dd_okU _ (by omega), dd_okU _ (by omega), dd_okU _ (by omega), dd_okU _ (by omega), dd_okU _ (by omega)]
      rfl
    · rw [k6]; cases e.ds <;> rfl
    · rw [k7]; simp [hexF, dataL, h0, h1, h2, h3, h4, h5]
    · rw [k8]; exact wrd_of _
  have hhigh : highK (partsE e) 6 = false := by
    simp only [highK, k0, k1, k2, k3, k4, k5, dd_val, maxN, Bool.false_or]
    simp
    omega
  have hev : evOf (partsE e) = e := by
    unfold evOf
    rw [k0, k1, k2, k3, k4, k5, k6, k7]
    simp only [dd_val]
    have q0 : hx2 (dataL e.d0.toNat e.d1.toNat e.d2.toNat) 0 = e.d0.toNat := by
      show 16 * hxN (hexB (e.d0.toNat / 16)) + hxN (hexB (e.d0.toNat % 16)) = _
      omega
    have q1 : hx2 (dataL e.d0.toNat e.d1.toNat e.d2.toNat) 1 = e.d1.toNat := by
      show 16 * hxN (hexB (e.d1.toNat / 16)) + hxN (hexB (e.d1.toNat % 16)) = _
      omega
    have q2 : hx2 (dataL e.d0.toNat e.d1.toNat e.d2.toNat) 2 = e.d2.toNat := by
      show 16 * hxN (hexB (e.d2.toNat / 16)) + hxN (hexB (e.d2.toNat % 16)) = _
      omega
    have qs : decide (signL e.ds = [45]) = e.ds := by cases e.ds <;> rfl
    rw [q0, q1, q2, qs]
    clear hform hhigh hdn k0 k1 k2 k3 k4 k5 k6 k7 k8 h0 h1 h2 h3 h4 h5 h0' h1' h2' h3' h4' h5' q0 q1 q2 qs he hv
    obtain ⟨id, tm, gn, st, sn, ty, ds, d0, d1, d2⟩ := e
    dsimp only at *
    rw [Ev.mk.injEq]
    refine ⟨?_, ?_, ?_, ?_, ?_, ?_, rfl, ?_, ?_, ?_⟩ <;> omega
  exact (parse_good hform hhigh (by rw [hev, k8]) (by rw [hev]; exact hv)).trans (by rw [hev])
/-- The digits of a number, from its text. -/
theorem dec_cancel {a b x y : Nat} (hx : x < 10) (hy : y < 10) (h : a * 10 + x = b * 10 + y) : a = b ∧ x = y := by omega
theorem dd_app (n d : Nat) (hn : 0 < n) (hd : d < 10) : Lib.decDigits (n * 10 + d) = Lib.decDigits n ++ [UInt8.ofNat (48 + d)] := by
  rw [dd_big (n * 10 + d) (by omega), show (n * 10 + d) / 10 = n by omega, show (n * 10 + d) % 10 = d by omega]
theorem dig_byte {b : UInt8} (h : isD b = true) : UInt8.ofNat (48 + (b.toNat - 48)) = b := by
  have hb : 48 ≤ b.toNat ∧ b.toNat ≤ 57 := by simpa [isD] using h
  rw [show 48 + (b.toNat - 48) = b.toNat by omega]
  simp
theorem dd_of_dec : ∀ (r : List UInt8) (acc : Nat), 0 < acc → r.all isD = true → Lib.decDigits (decV acc r) = Lib.decDigits acc ++ r
  | [], acc, _, _ => by rw [decV_nil, List.append_nil]
  | b :: r, acc, ha, h => by
    simp only [List.all_cons, Bool.and_eq_true] at h
    have hb : 48 ≤ b.toNat ∧ b.toNat ≤ 57 := by simpa [isD] using h.1
    rw [decV_cons, dd_of_dec r _ (by omega) h.2, dd_app acc _ ha (by omega), dig_byte h.1, List.append_assoc]
    rfl
theorem dd_back {l : List UInt8} (h : okU l = true) : Lib.decDigits (decV 0 l) = l := by
  simp only [okU, Bool.and_eq_true, decide_eq_true_eq] at h
  obtain ⟨h1, h2, h3, h4⟩ := h
  rcases l with _ | ⟨c, r⟩
  · simp at h1
  · simp only [List.all_cons, Bool.and_eq_true] at h4
    have hc : 48 ≤ c.toNat ∧ c.toNat ≤ 57 := by simpa [isD] using h4.1
    rw [decV_cons]
    by_cases hr : r = []
    · subst hr
      rw [decV_nil, dd_small _ (by omega), show 48 + (0 * 10 + (c.toNat - 48)) = 48 + (c.toNat - 48) by omega, dig_byte h4.1]
    · have hne : c.toNat ≠ 48 := by
        intro e
        have e2 : c = 48 := UInt8.toNat_inj.1 e
        subst e2
        exact hr (by simpa using h3)
      rw [dd_of_dec r _ (by omega) h4.2, dd_small _ (by omega), show 48 + (0 * 10 + (c.toNat - 48)) = 48 + (c.toNat - 48) by omega, dig_byte h4.1]
      rfl
theorem hex_back {b : UInt8} (h : isH b = true) : hexB (hxN b) = b := by
  have k : ∀ n : Fin 256, isH (UInt8.ofNat n.val) = true → hexB (hxN (UInt8.ofNat n.val)) = UInt8.ofNat n.val := by decide +kernel
  have h2 := k ⟨b.toNat, UInt8.toNat_lt b⟩
  simp only [UInt8.ofNat_toNat] at h2
  exact h2 h
theorem data_back {l : List UInt8} (h : hexF l = true) : dataL (hx2 l 0) (hx2 l 1) (hx2 l 2) = l := by
  simp only [hexF, Bool.and_eq_true, decide_eq_true_eq] at h
  obtain ⟨h6, hall⟩ := h
  obtain ⟨b0, b1, b2, b3, b4, b5, rfl⟩ : ∃ b0 b1 b2 b3 b4 b5, l = [b0, b1, b2, b3, b4, b5] := by
    rcases l with _ | ⟨x0, _ | ⟨x1, _ | ⟨x2, _ | ⟨x3, _ | ⟨x4, _ | ⟨x5, _ | ⟨x6, t⟩⟩⟩⟩⟩⟩⟩
    all_goals try (simp at h6; done)
    exact ⟨x0, x1, x2, x3, x4, x5, rfl⟩
  simp only [List.all_cons, List.all_nil, Bool.and_true, Bool.and_eq_true] at hall
  obtain ⟨g0, g1, g2, g3, g4, g5⟩ := hall
  have l0 := isH_lt g0; have l1 := isH_lt g1; have l2 := isH_lt g2; have l3 := isH_lt g3; have l4 := isH_lt g4; have l5 := isH_lt g5
  have q0 : hx2 [b0, b1, b2, b3, b4, b5] 0 = 16 * hxN b0 + hxN b1 := rfl
  have q1 : hx2 [b0, b1, b2, b3, b4, b5] 1 = 16 * hxN b2 + hxN b3 := rfl
  have q2 : hx2 [b0, b1, b2, b3, b4, b5] 2 = 16 * hxN b4 + hxN b5 := rfl
  rw [q0, q1, q2, dataL]
  rw [show (16 * hxN b0 + hxN b1) / 16 = hxN b0 by omega, show (16 * hxN b0 + hxN b1) % 16 = hxN b1 by omega, show (16 * hxN b2 + hxN b3) / 16 = hxN b2 by omega, show (16 * hxN b2 + hxN b3) % 16 = hxN b3 by omega, show (16 * hxN b4 + hxN b5) / 16 = hxN b4 by omega, show (16 * hxN b4 + hxN b5) % 16 = hxN b5 by omega]
  rw [hex_back g0, hex_back g1, hex_back g2, hex_back g3, hex_back g4, hex_back g5]
theorem join_split (c : UInt8) : ∀ l : List UInt8, Lib.join (splitD c l) [c] = l
  | [] => rfl
  | b :: l => by
    have ih := join_split c l
    unfold splitD
    split
    · rename_i h
      subst h
      rcases hs : splitD b l with _ | ⟨p, ps⟩
      · exact absurd hs (splitD_ne b l)
      · rw [hs] at ih
        show Lib.join ([] :: p :: ps) [b] = b :: l
        rw [← ih]
        simp [Lib.join, List.intercalate, List.intersperse]
    · rcases hs : splitD c l with _ | ⟨p, ps⟩
      · exact absurd hs (splitD_ne c l)
      · rw [hs] at ih
        rw [← ih]
        rcases ps with _ | ⟨q, qs⟩
        · simp [Lib.join, List.intercalate, List.intersperse]
        · simp [Lib.join, List.intercalate, List.intersperse]
theorem fmt_parseE {l : List UInt8} {e : Ev} (h : parseE l = (e, 0)) : fmtE e = l ∧ e.In ∧ validE e = true := by
  rw [parseE] at h
  obtain ⟨ps, hps⟩ : ∃ ps, splitD 32 l = ps := ⟨_, rfl⟩
  rw [hps] at h
  by_cases hf : formB ps = true
  rotate_left
  · rw [parse_bad (by simpa using hf)] at h
    injection h with _ h; omega
  by_cases hh : highK ps 6 = true
  · rw [parse_high hf hh] at h
    injection h with _ h; omega
  have hh' : highK ps 6 = false := by simpa using hh
  by_cases hw : wordL (evOf ps).ty = partK ps 8
  rotate_left
  · rw [parse_word hf hh' hw] at h
    injection h with _ h; omega
  by_cases hv : validE (evOf ps) = true
  rotate_left
  · rw [parse_inv hf hh' hw (by simpa using hv)] at h
    injection h with _ h; omega
  rw [parse_good hf hh' hw hv] at h
  injection h with h _
  subst h
  have hf2 := hf
  simp only [formB, Bool.and_eq_true, decide_eq_true_eq] at hf2
  obtain ⟨h9, hg, hs, hx, hwd⟩ := hf2
  have k := goodK_mono _ 6 hg
  have m := fun i hi => high_lt hh' i hi
  have m0 := m 0 (by omega); have m1 := m 1 (by omega); have m2 := m 2 (by omega); have m3 := m 3 (by omega); have m4 := m 4 (by omega); have m5 := m 5 (by omega)
  simp only [maxN] at m0 m1 m2 m3 m4 m5
  have x0 := hx2_lt (i := 0) hx (by omega); have x1 := hx2_lt (i := 1) hx (by omega); have x2 := hx2_lt (i := 2) hx (by omega)
  refine ⟨?_, ?_, hv⟩
  · have hsg : signL (evOf ps).ds = partK ps 6 := by
      show signL (decide (partK ps 6 = [45])) = _
      simp only [sigB, Bool.or_eq_true, decide_eq_true_eq] at hs
      rcases hs with e | e <;> rw [e] <;> rfl
    have hpe : partsE (evOf ps) = ps := by
      unfold partsE
      rw [hsg, hw]
      show [Lib.decDigits (decV 0 (partK ps 0)), Lib.decDigits (decV 0 (partK ps 1)), Lib.decDigits (decV 0 (partK ps 2)), Lib.decDigits (decV 0 (partK ps 3)), Lib.decDigits (decV 0 (partK ps 4)), Lib.decDigits (decV 0 (partK ps 5)), partK ps 6, dataL (hx2 (partK ps 7) 0) (hx2 (partK ps 7) 1) (hx2 (partK ps 7) 2), partK ps 8] = ps
      rw [dd_back (k 0 (by omega)), dd_back (k 1 (by omega)), dd_back (k 2 (by omega)), dd_back (k 3 (by omega)), dd_back (k 4 (by omega)), dd_back (k 5 (by omega)), data_back hx]
      rcases ps with _ | ⟨p0, _ | ⟨p1, _ | ⟨p2, _ | ⟨p3, _ | ⟨p4, _ | ⟨p5, _ | ⟨p6, _ | ⟨p7, _ | ⟨p8, _ | ⟨p9, t⟩⟩⟩⟩⟩⟩⟩⟩⟩⟩
      all_goals try (simp at h9; done)
      rfl
    rw [fmtE, hpe, ← hps, join_split]
  · exact ⟨Int.natCast_nonneg _, by show ((decV 0 (partK ps 0) : Nat) : Int) < 65536; omega, Int.natCast_nonneg _, by show ((decV 0 (partK ps 1) : Nat) : Int) < 4294967296; omega, Int.natCast_nonneg _, by show ((decV 0 (partK ps 2) : Nat) : Int) < 65536; omega, Int.natCast_nonneg _, by show ((decV 0 (partK ps 3) : Nat) : Int) < 256; omega, Int.natCast_nonneg _, by show ((decV 0 (partK ps 4) : Nat) : Int) < 256; omega, Int.natCast_nonneg _, by show ((decV 0 (partK ps 5) : Nat) : Int) < 256; omega, Int.natCast_nonneg _, by show ((hx2 (partK ps 7) 0 : Nat) : Int) < 256; omega, Int.natCast_nonneg _, by show ((hx2 (partK ps 7) 1 : Nat) : Int) < 256; omega, Int.natCast_nonneg _, by show ((hx2 (partK ps 7) 2 : Nat) : Int) < 256; omega⟩
theorem dec_encE {e : Ev} (he : e.In) (hv : validE e = true) : decR (encL e) = (e, 0) := by
  have a0 := he.id0; have a1 := he.id1; have a2 := he.tm0; have a3 := he.tm1; have a4 := he.gn0; have a5 := he.gn1
  have a10 := he.ty0; have a11 := he.ty1
  have hty : e.ty ≤ 127 := by simp [validE] at hv; omega
  have hde : decE (e.id % 256) (e.id / 256) (e.tm % 256) (e.tm / 256 % 256) (e.tm / 65536 % 256) (e.tm / 16777216) (e.gn % 256) (e.gn / 256) e.st e.sn (kindE e) e.d0 e.d1 e.d2 = e := by
    obtain ⟨id, tm, gn, st, sn, ty, ds, d0, d1, d2⟩ := e
    dsimp only at *
    unfold decE kindE
    rw [Ev.mk.injEq]
    refine ⟨by omega, by omega, by omega, rfl, rfl, ?_, ?_, rfl, rfl, rfl⟩
    · cases ds <;> simp <;> omega
    · cases ds <;> simp <;> omega
  unfold encL decR
  dsimp only
  rw [if_pos ⟨rfl, rfl⟩, hde, if_pos hv]
end Go.Proofs.YtklffnfaigmjfaaDoor
