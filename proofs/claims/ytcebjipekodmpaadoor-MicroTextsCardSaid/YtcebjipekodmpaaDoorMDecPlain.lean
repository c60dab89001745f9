/- Plain laws of decimal numerals and of what parseF makes of them: no program. No condition. -/
import Derived.Test.YtcebjipekodmpaaDoorMParseW
namespace Go.Proofs.YtcebjipekodmpaaDoor
open Go
theorem digit_isD (n : Nat) (h : n < 10) : isD (UInt8.ofNat (48 + n)) = true ∧ (UInt8.ofNat (48 + n)).toNat = 48 + n := by
  have h1 : (UInt8.ofNat (48 + n)).toNat = 48 + n := by rw [UInt8.toNat_ofNat']; omega
  exact ⟨by simp only [isD, h1]; simp; omega, h1⟩
theorem dd_small (n : Nat) (h : n < 10) : Lib.decDigits n = [UInt8.ofNat (48 + n)] := by rw [Lib.decDigits, dif_pos h]
theorem dd_big (n : Nat) (h : ¬ n < 10) : Lib.decDigits n = Lib.decDigits (n / 10) ++ [UInt8.ofNat (48 + n % 10)] := by
  conv => lhs; rw [Lib.decDigits, dif_neg h]
theorem dd_all (n : Nat) : (Lib.decDigits n).all isD = true := by
  induction n using Nat.strongRecOn with
  | ind n ih =>
    by_cases h : n < 10
    · rw [dd_small n h]; simp only [List.all_cons, List.all_nil, Bool.and_true]; exact (digit_isD n h).1
    · rw [dd_big n h, List.all_append, ih (n / 10) (by omega)]; simp only [List.all_cons, List.all_nil, Bool.and_true, Bool.true_and]; exact (digit_isD (n % 10) (by omega)).1
theorem dd_val (n : Nat) : decV 0 (Lib.decDigits n) = n := by
  induction n using Nat.strongRecOn with
  | ind n ih =>
    by_cases h : n < 10
    · rw [dd_small n h, decV_cons, decV_nil, (digit_isD n h).2]; omega
    · rw [dd_big n h, decV_app, ih (n / 10) (by omega), decV_cons, decV_nil, (digit_isD (n % 10) (by omega)).2]; omega
theorem dd_len (k : Nat) : ∀ n, n < 10 ^ (k + 1) → (Lib.decDigits n).length ≤ k + 1 := by
  induction k with
  | zero => intro n h; rw [dd_small n (by simpa using h)]; simp
  | succ k ih =>
    intro n h
    by_cases hn : n < 10
    · rw [dd_small n hn]; simp
    · rw [dd_big n hn]
      have h2 : n / 10 < 10 ^ (k + 1) := by
        rw [Nat.pow_succ] at h
        exact Nat.div_lt_of_lt_mul (by omega)
      have := ih (n / 10) h2
      simp
      omega
theorem dd_ne (n : Nat) : Lib.decDigits n ≠ [] := by
  by_cases h : n < 10
  · rw [dd_small n h]; simp
  · rw [dd_big n h]; simp
theorem dd_head (n : Nat) (h1 : 1 ≤ n) : ∃ c r, Lib.decDigits n = c :: r ∧ c ≠ 48 := by
  induction n using Nat.strongRecOn with
  | ind n ih =>
    by_cases h : n < 10
    · refine ⟨_, _, dd_small n h, ?_⟩
      intro e
      have := (digit_isD n h).2
      rw [e] at this
      have e2 : (48 : UInt8).toNat = 48 := rfl
      omega
    · obtain ⟨c, r, hc, hne⟩ := ih (n / 10) (by omega) (by omega)
      exact ⟨c, r ++ [UInt8.ofNat (48 + n % 10)], by rw [dd_big n h, hc]; rfl, hne⟩
/-- The whole part of a numeral is one that Parse takes. -/
theorem dd_okW (n : Nat) (h : n < 10000000) : numB (Lib.decDigits n) 7 = true ∧ (!(decide (1 < (Lib.decDigits n).length) && decide ((Lib.decDigits n).head? = some 48))) = true := by
  have hl := dd_len 6 n (by omega)
  have hp : 1 ≤ (Lib.decDigits n).length := by
    rcases hd : Lib.decDigits n with _ | ⟨c, r⟩
    · exact absurd hd (dd_ne n)
    · simp
  refine ⟨by unfold numB; rw [dd_all]; simp [hl, hp], ?_⟩
  by_cases h0 : n < 10
  · rw [dd_small n h0]; simp
  · obtain ⟨c, r, hc, hne⟩ := dd_head n (by omega)
    rw [hc]
    simp [hne]
theorem take_dot (D P : List UInt8) (h : D.all isD = true) : Lib.cut (D ++ 46 :: P) [46] = (D, P, true) := by
  have key : (D ++ 46 :: P).dropWhile (· != 46) = 46 :: P ∧ (D ++ 46 :: P).takeWhile (· != 46) = D := by
    induction D with
    | nil => simp
    | cons b l ih =>
      simp only [List.all_cons, Bool.and_eq_true] at h
      have hb : 48 ≤ b.toNat ∧ b.toNat ≤ 57 := by simpa [isD] using h.1
      have hne : (b != 46) = true := by
        rw [bne_iff_ne]
        intro e
        subst e
        have e2 : (46 : UInt8).toNat = 46 := rfl
        omega
      obtain ⟨i1, i2⟩ := ih h.2
      simp [hne, i1, i2]
  rw [cut_dot, key.1, key.2]
theorem body_plain (l : List UInt8) (h : l.head? ≠ some 45) : bodyL l = l ∧ negB l = false := by
  have hp : Lib.hasPrefix l [45] = false := by
    unfold Lib.hasPrefix
    rcases l with _ | ⟨c, r⟩
    · rfl
    · simp at h
      simp [List.isPrefixOf]
      exact fun e => h e.symm
  exact ⟨by unfold bodyL Lib.trimPrefix; rw [hp]; rfl, hp⟩
theorem body_minus (l : List UInt8) : bodyL (45 :: l) = l ∧ negB (45 :: l) = true := by
  have hp : Lib.hasPrefix (45 :: l) [45] = true := by simp [Lib.hasPrefix, List.isPrefixOf]
  exact ⟨by unfold bodyL Lib.trimPrefix; rw [hp]; rfl, hp⟩
theorem head_digit (D : List UInt8) (X : List UInt8) (h : D.all isD = true) (hne : D ≠ []) : (D ++ X).head? ≠ some 45 := by
  rcases D with _ | ⟨c, r⟩
  · exact absurd rfl hne
  · simp only [List.all_cons, Bool.and_eq_true] at h
    have hb : 48 ≤ c.toNat ∧ c.toNat ≤ 57 := by simpa [isD] using h.1
    simp
    intro e
    subst e
    have e2 : (45 : UInt8).toNat = 45 := rfl
    omega
/-- Six digits that spell p. -/
theorem six_of (p : Nat) (hp : p < 1000000) : ∃ P : List UInt8, Lib.decDigits (1000000 + p) = 49 :: P ∧ P.length = 6 ∧ P.all isD = true ∧ decV 0 P = p := by
  obtain ⟨c, P, hc, _⟩ := dd_head (1000000 + p) (by omega)
  have ha := dd_all (1000000 + p)
  have hv := dd_val (1000000 + p)
  have hl := dd_len 6 (1000000 + p) (by omega)
  rw [hc] at ha hv hl
  simp only [List.all_cons, Bool.and_eq_true] at ha
  have hb : 48 ≤ c.toNat ∧ c.toNat ≤ 57 := by simpa [isD] using ha.1
  rw [decV_cons, decV_acc] at hv
  have hlt := decV_lt P ha.2
  have hl6 : P.length ≤ 6 := by simpa using hl
  have hlen : P.length = 6 := by
    by_cases h5 : P.length ≤ 5
    · exfalso
      have h10 : 10 ^ P.length ≤ 10 ^ 5 := Nat.pow_le_pow_right (by omega) h5
      have : (0 * 10 + (c.toNat - 48)) * 10 ^ P.length ≤ 9 * 10 ^ P.length := Nat.mul_le_mul_right _ (by omega)
      omega
    · omega
  rw [hlen] at hv hlt
  have hc1 : c.toNat = 49 := by omega
  have hc2 : c = 49 := UInt8.toNat_inj.1 hc1
  subst hc2
  exact ⟨P, hc, hlen, ha.2, by omega⟩
theorem valF_six (W p : Nat) (P : List UInt8) (hl : P.length = 6) (hv : decV 0 P = p) : valF (Lib.decDigits W) P = W * 1000000 + p := by
  unfold valF
  rw [hl, show zerosL (6 - 6) = [] from rfl, List.append_nil, decV_app, dd_val, decV_acc, hl, hv]
theorem numB_six (P : List UInt8) (hl : P.length = 6) (ha : P.all isD = true) : numB P 6 = true := by
  unfold numB
  rw [hl, ha]
  rfl
theorem parse_dec (W p : Nat) (hW : W < 1000000) (P : List UInt8) (hl : P.length = 6) (ha : P.all isD = true) (hv : decV 0 P = p) (hp : p < 1000000) :
    parseF (Lib.decDigits W ++ 46 :: P) = (((W * 1000000 + p : Nat) : Int), 0) ∧ parseF (45 :: (Lib.decDigits W ++ 46 :: P)) = (-((W * 1000000 + p : Nat) : Int), 0) := by
  have hok : okB (Lib.decDigits W) P true = true := by
    unfold okB
    rw [(dd_okW W (by omega)).1, (dd_okW W (by omega)).2, numB_six P hl ha]
    rfl
  have hval := valF_six W p P hl hv
  constructor
  · unfold parseF
    rw [(body_plain _ (head_digit _ _ (dd_all W) (dd_ne W))).1, (body_plain _ (head_digit _ _ (dd_all W) (dd_ne W))).2, take_dot _ _ (dd_all W)]
    dsimp only
    rw [if_pos hok, hval, if_neg (by omega), if_neg (by simp)]
  · unfold parseF
    rw [(body_minus _).1, (body_minus _).2, take_dot _ _ (dd_all W)]
    dsimp only
    rw [if_pos hok, hval, if_neg (by omega), if_pos rfl]
/-- A text whose whole part is longer than one and begins with 0 is refused. -/
theorem parse_lead (X : List UInt8) (c : UInt8) (Y : List UInt8) (hX : X = 48 :: c :: Y) (hc : c ≠ 46) : parseF X = (0, 6) := by
  subst hX
  have h1 := body_plain (48 :: c :: Y) (by simp)
  have hcut : ∃ r pt po, Lib.cut (48 :: c :: Y) [46] = (48 :: c :: r, pt, po) := by
    have e1 : ((48 : UInt8) != 46) = true := rfl
    have e2 : (c != 46) = true := by simpa using hc
    rw [cut_dot]
    cases hd : Y.dropWhile (· != 46) with
    | nil => exact ⟨Y, [], false, by simp [e2, hd]⟩
    | cons d r => exact ⟨Y.takeWhile (· != 46), r, true, by simp [e2, hd]⟩
  obtain ⟨r, pt, po, hcut⟩ := hcut
  unfold parseF
  rw [h1.1, hcut]
  dsimp only
  rw [if_neg (by simp [okB])]
theorem parse_long (D P : List UInt8) (hD : D.all isD = true) (hne : D ≠ []) (hl : P.length = 7) : parseF (D ++ 46 :: P) = (0, 6) ∧ parseF (45 :: (D ++ 46 :: P)) = (0, 6) := by
  have hn : numB P 6 = false := by unfold numB; rw [hl]; rfl
  have hok : ¬ okB D P true = true := by unfold okB; rw [hn]; simp
  constructor
  · unfold parseF
    rw [(body_plain _ (head_digit _ _ hD hne)).1, take_dot _ _ hD]
    dsimp only
    rw [if_neg hok]
  · unfold parseF
    rw [(body_minus _).1, take_dot _ _ hD]
    dsimp only
    rw [if_neg hok]
end Go.Proofs.YtcebjipekodmpaaDoor
