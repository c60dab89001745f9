/- Plain laws: the text of a number is parsed to the number, and no text of the same number is shorter. No condition. -/
import Derived.Test.YtcebjipekodmpaaDoorMFormat
namespace Go.Proofs.YtcebjipekodmpaaDoor
open Go
theorem dw_zeros (k : Nat) (l : List UInt8) : (List.replicate k (48 : UInt8) ++ l).dropWhile (· == 48) = l.dropWhile (· == 48) := by
  induction k with
  | zero => rfl
  | succ k ih => rw [List.replicate_succ, List.cons_append, List.dropWhile_cons_of_pos (by rfl), ih]
theorem trimr_app (A : List UInt8) (k : Nat) : Lib.trimRightB (A ++ zerosL k) 48 = Lib.trimRightB A 48 := by
  unfold Lib.trimRightB zerosL
  rw [List.reverse_append, List.reverse_replicate, dw_zeros]
theorem tw_zeros (l : List UInt8) : ∃ k, l.takeWhile (· == 48) = zerosL k := by
  induction l with
  | nil => exact ⟨0, rfl⟩
  | cons b l ih =>
    obtain ⟨k, hk⟩ := ih
    by_cases hb : b = 48
    · subst hb
      exact ⟨k + 1, by rw [List.takeWhile_cons_of_pos (by rfl), hk]; rfl⟩
    · exact ⟨0, by rw [List.takeWhile_cons_of_neg (by simpa using hb)]; rfl⟩
theorem trimr_split (P : List UInt8) : ∃ k, P = Lib.trimRightB P 48 ++ zerosL k := by
  obtain ⟨k, hk⟩ := tw_zeros P.reverse
  refine ⟨k, ?_⟩
  have h := congrArg List.reverse (List.takeWhile_append_dropWhile (p := (· == (48 : UInt8))) (l := P.reverse))
  rw [List.reverse_append, List.reverse_reverse, hk] at h
  rw [show (zerosL k).reverse = zerosL k by unfold zerosL; rw [List.reverse_replicate]] at h
  exact h.symm
theorem decV_zeros (k : Nat) : decV 0 (zerosL k) = 0 := by
  induction k with
  | zero => rfl
  | succ k ih => exact ih
theorem all_zeros (k : Nat) : (zerosL k).all isD = true := zeros_all k
/-- Two numerals of one length and of one value are the same. -/
theorem dec_inj (A B : List UInt8) (hA : A.all isD = true) (hB : B.all isD = true) (hl : A.length = B.length) (hv : decV 0 A = decV 0 B) : A = B := by
  induction A generalizing B with
  | nil => exact (List.length_eq_zero_iff.1 hl.symm).symm
  | cons a A ih =>
    rcases B with _ | ⟨b, B⟩
    · simp at hl
    · simp only [List.all_cons, Bool.and_eq_true] at hA hB
      have ha : 48 ≤ a.toNat ∧ a.toNat ≤ 57 := by simpa [isD] using hA.1
      have hb : 48 ≤ b.toNat ∧ b.toNat ≤ 57 := by simpa [isD] using hB.1
      have hl' : A.length = B.length := by simpa using hl
      rw [decV_cons, decV_cons, decV_acc, decV_acc B, hl'] at hv
      have h1 := decV_lt A hA.2
      have h2 := decV_lt B hB.2
      rw [hl'] at h1
      have hq : (0 * 10 + (a.toNat - 48)) = (0 * 10 + (b.toNat - 48)) := by
        have e1 : ((0 * 10 + (a.toNat - 48)) * 10 ^ B.length + decV 0 A) / 10 ^ B.length = 0 * 10 + (a.toNat - 48) := by
          rw [Nat.add_comm, Nat.add_mul_div_right _ _ (by omega), Nat.div_eq_of_lt h1]; omega
        have e2 : ((0 * 10 + (b.toNat - 48)) * 10 ^ B.length + decV 0 B) / 10 ^ B.length = 0 * 10 + (b.toNat - 48) := by
          rw [Nat.add_comm, Nat.add_mul_div_right _ _ (by omega), Nat.div_eq_of_lt h2]; omega
        rw [← e1, hv, e2]
      rw [hq] at hv
      have hab : a = b := UInt8.toNat_inj.1 (by omega)
      subst hab
      rw [ih B hA.2 hB.2 hl' (by omega)]
theorem all_app {A B : List UInt8} (h : (A ++ B).all isD = true) : A.all isD = true := by
  rw [List.all_append, Bool.and_eq_true] at h
  exact h.1
/-- The part of a number behind the point, without its last zeros. -/
theorem part_of (p : Nat) (hp : p < 1000000) (h0 : p ≠ 0) : ∃ P R, Lib.decDigits (1000000 + p) = 49 :: P ∧ Lib.trimRightB ((Lib.decDigits (1000000 + p)).drop 1) 48 = R ∧ P.length = 6 ∧ P.all isD = true ∧ decV 0 P = p ∧ P = R ++ zerosL (6 - R.length) ∧ numB R 6 = true ∧ Lib.trimRightB P 48 = R := by
  obtain ⟨P, hP, hPl, hPa, hPv⟩ := six_of p hp
  obtain ⟨k, hk⟩ := trimr_split P
  have hd : (Lib.decDigits (1000000 + p)).drop 1 = P := by rw [hP]; rfl
  have hlen := congrArg List.length hk
  rw [List.length_append, hPl] at hlen
  have hz : (zerosL k).length = k := by simp [zerosL]
  rw [hz] at hlen
  have hkk : k = 6 - (Lib.trimRightB P 48).length := by omega
  rw [hkk] at hk
  refine ⟨P, _, hP, by rw [hd], hPl, hPa, hPv, hk, ?_, rfl⟩
  have hRa : (Lib.trimRightB P 48).all isD = true := all_app (hk ▸ hPa)
  have hne : 1 ≤ (Lib.trimRightB P 48).length := by
    rcases hR : Lib.trimRightB P 48 with _ | ⟨c, r⟩
    · rw [hR] at hk
      rw [hk] at hPv
      simp only [List.nil_append] at hPv
      rw [decV_zeros] at hPv
      omega
    · simp
  unfold numB
  rw [hRa]
  simp
  omega
theorem cut_none (D : List UInt8) (h : D.all isD = true) : Lib.cut D [46] = (D, [], false) := by
  have hd : D.dropWhile (· != 46) = [] := by
    rw [dw_nil]
    intro b hb
    rw [List.all_eq_true] at h
    have h2 : 48 ≤ b.toNat ∧ b.toNat ≤ 57 := by simpa [isD] using h b hb
    rw [bne_iff_ne]
    intro e
    subst e
    have e2 : (46 : UInt8).toNat = 46 := rfl
    omega
  rw [cut_dot, hd]
/-- The text of a number from 0 to the limit, cut at its point. -/
theorem fmtU_cut (n : Nat) (hn : n ≤ 1000000000000) : ∃ wh pt po, Lib.cut (fmtU n) [46] = (wh, pt, po) ∧ okB wh pt po = true ∧ valF wh pt = n ∧ (fmtU n).head? ≠ some 45 := by
  have hq : n / 1000000 < 10000000 := by omega
  by_cases h0 : n % 1000000 = 0
  · refine ⟨Lib.decDigits (n / 1000000), [], false, ?_, ?_, ?_, ?_⟩
    · unfold fmtU
      rw [if_pos h0, List.append_nil, cut_none _ (dd_all _)]
    · unfold okB
      rw [(dd_okW _ hq).1, (dd_okW _ hq).2]
      rfl
    · unfold valF
      rw [List.append_nil, decV_app, dd_val, decV_acc, decV_zeros]
      have : (zerosL (6 - ([] : List UInt8).length)).length = 6 := by simp [zerosL]
      rw [this]
      omega
    · unfold fmtU
      rw [if_pos h0]
      exact head_digit _ _ (dd_all _) (dd_ne _)
  · obtain ⟨P, R, hP, hR, hPl, hPa, hPv, hPR, hRn, _⟩ := part_of (n % 1000000) (by omega) h0
    refine ⟨Lib.decDigits (n / 1000000), R, true, ?_, ?_, ?_, ?_⟩
    · unfold fmtU
      rw [if_neg h0, hR, take_dot _ _ (dd_all _)]
    · unfold okB
      rw [(dd_okW _ hq).1, (dd_okW _ hq).2, hRn]
      rfl
    · unfold valF
      rw [List.append_assoc, ← hPR, decV_app, dd_val, decV_acc, hPl, hPv]
      omega
    · unfold fmtU
      rw [if_neg h0]
      exact head_digit _ _ (dd_all _) (dd_ne _)
theorem clamp_lim (v : Int) : -1000000000000 ≤ clampF v ∧ clampF v ≤ 1000000000000 := by unfold clampF; omega
theorem parse_fmt (v : Int) : parseF (fmtL v) = (clampF v, 0) := by
  have hc := clamp_lim v
  obtain ⟨wh, pt, po, hcut, hok, hval, hh⟩ := fmtU_cut (clampF v).natAbs (by omega)
  unfold fmtL
  by_cases hneg : clampF v < 0
  · rw [if_pos hneg]
    unfold parseF
    rw [(body_minus _).1, (body_minus _).2, hcut]
    dsimp only
    rw [if_pos hok, hval, if_neg (by omega), if_pos rfl]
    congr 1
    omega
  · rw [if_neg hneg]
    unfold parseF
    rw [(body_plain _ hh).1, (body_plain _ hh).2, hcut]
    dsimp only
    rw [if_pos hok, hval, if_neg (by omega), if_neg (by simp)]
    congr 1
    omega
theorem cut_len_eq (t wh pt : List UInt8) (po : Bool) (h : Lib.cut t [46] = (wh, pt, po)) : (po = false ∧ pt = [] ∧ t = wh) ∨ (po = true ∧ t.length = wh.length + 1 + pt.length) := by
  rw [cut_dot] at h
  have hs := congrArg List.length (List.takeWhile_append_dropWhile (p := (· != (46 : UInt8))) (l := t))
  rcases hd : t.dropWhile (· != 46) with _ | ⟨c, r⟩
  · rw [hd] at h
    injection h with h1 h2
    injection h2 with h2 h3
    exact Or.inl ⟨h3.symm, h2.symm, h1⟩
  · rw [hd] at h hs
    injection h with h1 h2
    injection h2 with h2 h3
    refine Or.inr ⟨h3.symm, ?_⟩
    rw [List.length_append, h1, h2] at hs
    simp at hs
    omega
/-- No text of the value V is shorter than the text of V. -/
theorem fmtU_short (b wh pt : List UInt8) (po : Bool) (hcut : Lib.cut b [46] = (wh, pt, po)) (hok : okB wh pt po = true) : (fmtU (valF wh pt)).length ≤ b.length := by
  have hce := cut_len_eq b wh pt po hcut
  simp only [okB, Bool.and_eq_true] at hok
  obtain ⟨hw, _, hp⟩ := hok
  obtain ⟨hwa, hw7⟩ := numB_all _ _ hw
  have hw1 : 1 ≤ wh.length := by
    simp only [numB, Bool.and_eq_true, decide_eq_true_eq] at hw
    exact hw.1
  have hpa : pt.all isD = true ∧ pt.length ≤ 6 := by
    rcases hce with ⟨_, rfl, _⟩ | ⟨rfl, _⟩
    · exact ⟨rfl, by simp⟩
    · exact numB_all _ _ (by simpa using hp)
  have hz : (zerosL (6 - pt.length)).length = 6 - pt.length := by simp [zerosL]
  have hsix : (pt ++ zerosL (6 - pt.length)).length = 6 := by rw [List.length_append, hz]; omega
  have hsa : (pt ++ zerosL (6 - pt.length)).all isD = true := by rw [List.all_append, hpa.1, all_zeros]; rfl
  have hp6 := decV_lt _ hsa
  rw [hsix] at hp6
  have hv : valF wh pt = decV 0 wh * 1000000 + decV 0 (pt ++ zerosL (6 - pt.length)) := by
    unfold valF
    rw [List.append_assoc, decV_app, decV_acc, hsix]
  have hq : valF wh pt / 1000000 = decV 0 wh := by omega
  have hm : valF wh pt % 1000000 = decV 0 (pt ++ zerosL (6 - pt.length)) := by omega
  have hwl := decV_lt wh hwa
  obtain ⟨k, hk⟩ : ∃ k, wh.length = k + 1 := ⟨wh.length - 1, by omega⟩
  rw [hk] at hwl
  have hdl := dd_len k (decV 0 wh) hwl
  unfold fmtU
  rw [hq, hm]
  by_cases h0 : decV 0 (pt ++ zerosL (6 - pt.length)) = 0
  · rw [if_pos h0, List.append_nil]
    rcases hce with ⟨_, _, rfl⟩ | ⟨_, h⟩ <;> omega
  · rw [if_neg h0]
    obtain ⟨P, R, hP, hR, hPl, hPa, hPv, hPR, hRn, hRP⟩ := part_of _ (by omega) h0
    rw [hR, List.length_append, List.length_cons]
    have hPe := dec_inj P _ hPa hsa (by rw [hPl, hsix]) hPv
    rw [hPe, trimr_app] at hRP
    have hRl := trimr_len pt
    rw [hRP] at hRl
    rcases hce with ⟨_, rfl, _⟩ | ⟨_, h⟩
    · exact absurd (decV_zeros _) h0
    · omega
theorem body_len_minus (t : List UInt8) (h : negB t = true) : t.length = (bodyL t).length + 1 := by
  rcases t with _ | ⟨c, r⟩
  · simp [negB, Lib.hasPrefix] at h
  · by_cases hc : c = 45
    · subst hc
      rw [(body_minus r).1]
      rfl
    · rw [(body_plain (c :: r) (by simpa using hc)).2] at h
      cases h
theorem fmt_short (t : List UInt8) (n : Int) (h : parseF t = (n, 0)) : (fmtL n).length ≤ t.length := by
  unfold parseF at h
  obtain ⟨wh, pt, po, hcut⟩ : ∃ wh pt po, Lib.cut (bodyL t) [46] = (wh, pt, po) := ⟨_, _, _, rfl⟩
  rw [hcut] at h
  dsimp only at h
  by_cases hok : okB wh pt po = true
  · rw [if_pos hok] at h
    have hs := fmtU_short _ wh pt po hcut hok
    by_cases hb : 1000000000000 < valF wh pt
    · rw [if_pos hb] at h
      injection h with _ h2
      cases h2
    · rw [if_neg hb] at h
      injection h with h1 _
      have hc : clampF n = n := by
        apply clampF_id
        · split at h1 <;> omega
        · split at h1 <;> omega
      unfold fmtL
      rw [hc]
      have habs : n.natAbs = valF wh pt := by split at h1 <;> omega
      rw [habs]
      have hbl := body_len t
      by_cases hneg : n < 0
      · rw [if_pos hneg, List.length_cons]
        have hn : negB t = true := by
          cases hnb : negB t
          · rw [hnb, if_neg (by simp)] at h1
            omega
          · rfl
        have := body_len_minus t hn
        omega
      · rw [if_neg hneg]
        omega
  · rw [if_neg hok] at h
    injection h with _ h2
    cases h2
end Go.Proofs.YtcebjipekodmpaaDoor
