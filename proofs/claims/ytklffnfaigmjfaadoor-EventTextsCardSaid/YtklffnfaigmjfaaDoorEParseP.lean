/- The text of an event read by plain functions. No program stands here. -/
import Derived.Test.YtklffnfaigmjfaaDoorSplitP
import Derived.Test.YtklffnfaigmjfaaDoorEDistPlain
namespace Go.Proofs.YtklffnfaigmjfaaDoor
open Go
/-- A number of an event's text: one to ten digits, no zero ahead of others. -/
def okU (l : List UInt8) : Bool := decide (1 ≤ l.length) && (decide (l.length ≤ 10) && (!(decide (1 < l.length) && decide (l.head? = some 48)) && l.all isD))
def isH (b : UInt8) : Bool := decide (48 ≤ b.toNat ∧ b.toNat ≤ 57) || decide (97 ≤ b.toNat ∧ b.toNat ≤ 102)
def hxN (b : UInt8) : Nat := if b.toNat ≤ 57 then b.toNat - 48 else b.toNat - 87
def maxN : Nat → Nat
  | 0 => 65535
  | 1 => 4294967295
  | 2 => 65535
  | _ => 255
def partK (ps : List (List UInt8)) (k : Nat) : List UInt8 := ps.getD k []
def goodK (ps : List (List UInt8)) : Nat → Bool
  | 0 => true
  | k + 1 => goodK ps k && okU (partK ps k)
def highK (ps : List (List UInt8)) : Nat → Bool
  | 0 => false
  | k + 1 => highK ps k || decide (maxN k < decV 0 (partK ps k))
def sigB (l : List UInt8) : Bool := decide (l = [43]) || decide (l = [45])
def hexF (l : List UInt8) : Bool := decide (l.length = 6) && l.all isH
def wrdB (l : List UInt8) : Bool := decide (l = wordL 1) || (decide (l = wordL 111) || decide (l = wordL 0))
def hx2 (l : List UInt8) (i : Nat) : Nat := 16 * hxN (l.getD (2 * i) 0) + hxN (l.getD (2 * i + 1) 0)
def evOf (ps : List (List UInt8)) : Ev := ⟨decV 0 (partK ps 0), decV 0 (partK ps 1), decV 0 (partK ps 2), decV 0 (partK ps 3), decV 0 (partK ps 4), decV 0 (partK ps 5), decide (partK ps 6 = [45]), hx2 (partK ps 7) 0, hx2 (partK ps 7) 1, hx2 (partK ps 7) 2⟩
def formB (ps : List (List UInt8)) : Bool := decide (ps.length = 9) && (goodK ps 6 && (sigB (partK ps 6) && (hexF (partK ps 7) && wrdB (partK ps 8))))
def parseP (ps : List (List UInt8)) : Ev × Int :=
  if formB ps = false then (zeroEv, 6) else if highK ps 6 = true then (zeroEv, 2) else if wordL (evOf ps).ty ≠ partK ps 8 then (zeroEv, 6) else if validE (evOf ps) = false then (zeroEv, 1) else (evOf ps, 0)
def parseE (l : List UInt8) : Ev × Int := parseP (splitD 32 l)
theorem goodK_mono (ps : List (List UInt8)) : ∀ (k : Nat), goodK ps k = true → ∀ i, i < k → okU (partK ps i) = true
  | 0, _, i, hi => by omega
  | k + 1, h, i, hi => by
    simp only [goodK, Bool.and_eq_true] at h
    rcases Nat.lt_or_ge i k with h1 | h1
    · exact goodK_mono ps k h.1 i h1
    · obtain rfl : i = k := by omega
      exact h.2
theorem goodK_false (ps : List (List UInt8)) : ∀ (k m : Nat), k ≤ m → goodK ps k = false → goodK ps m = false
  | k, 0, h, hg => by obtain rfl : k = 0 := by omega
                      exact hg
  | k, m + 1, h, hg => by
    rcases Nat.lt_or_ge m k with h1 | h1
    · obtain rfl : k = m + 1 := by omega
      exact hg
    · rw [goodK, goodK_false ps k m h1 hg]; rfl
theorem form_len {ps : List (List UInt8)} (h : ps.length ≠ 9) : formB ps = false := by simp [formB, h]
theorem form_num {ps : List (List UInt8)} {k : Nat} (hk : k ≤ 6) (h : goodK ps k = false) : formB ps = false := by simp [formB, goodK_false ps k 6 hk h]
theorem form_sig {ps : List (List UInt8)} (h : sigB (partK ps 6) = false) : formB ps = false := by simp [formB, h]
theorem form_hex {ps : List (List UInt8)} (h : hexF (partK ps 7) = false) : formB ps = false := by simp [formB, h]
theorem form_wrd {ps : List (List UInt8)} (h : wrdB (partK ps 8) = false) : formB ps = false := by simp [formB, h]
theorem form_all {ps : List (List UInt8)} (h1 : ps.length = 9) (h2 : goodK ps 6 = true) (h3 : sigB (partK ps 6) = true) (h4 : hexF (partK ps 7) = true) (h5 : wrdB (partK ps 8) = true) : formB ps = true := by simp [formB, h1, h2, h3, h4, h5]
theorem parse_bad {ps : List (List UInt8)} (h : formB ps = false) : parseP ps = (zeroEv, 6) := by rw [parseP, if_pos h]
theorem parse_high {ps : List (List UInt8)} (h : formB ps = true) (hh : highK ps 6 = true) : parseP ps = (zeroEv, 2) := by rw [parseP, if_neg (by simp [h]), if_pos hh]
theorem parse_word {ps : List (List UInt8)} (h : formB ps = true) (hh : highK ps 6 = false) (hw : wordL (evOf ps).ty ≠ partK ps 8) : parseP ps = (zeroEv, 6) := by rw [parseP, if_neg (by simp [h]), if_neg (by simp [hh]), if_pos hw]
theorem parse_inv {ps : List (List UInt8)} (h : formB ps = true) (hh : highK ps 6 = false) (hw : wordL (evOf ps).ty = partK ps 8) (hv : validE (evOf ps) = false) : parseP ps = (zeroEv, 1) := by rw [parseP, if_neg (by simp [h]), if_neg (by simp [hh]), if_neg (by simp [hw]), if_pos hv]
theorem parse_good {ps : List (List UInt8)} (h : formB ps = true) (hh : highK ps 6 = false) (hw : wordL (evOf ps).ty = partK ps 8) (hv : validE (evOf ps) = true) : parseP ps = (evOf ps, 0) := by rw [parseP, if_neg (by simp [h]), if_neg (by simp [hh]), if_neg (by simp [hw]), if_neg (by simp [hv])]
theorem dec_lt10 {l : List UInt8} (h : okU l = true) : decV 0 l < 10000000000 := by
  simp only [okU, Bool.and_eq_true, decide_eq_true_eq] at h
  have := decV_lt _ h.2.2.2
  exact Nat.lt_of_lt_of_le this (Nat.pow_le_pow_right (by omega) h.2.1)
theorem isH_lt {b : UInt8} (h : isH b = true) : hxN b < 16 := by
  simp [isH] at h
  unfold hxN
  split <;> omega
theorem hx2_lt {l : List UInt8} {i : Nat} (h : hexF l = true) (hi : i < 3) : hx2 l i < 256 := by
  simp only [hexF, Bool.and_eq_true, decide_eq_true_eq] at h
  have k : ∀ j, j < 6 → hxN (l.getD j 0) < 16 := fun j hj => by
    have hl : j < l.length := by omega
    rw [List.getD_eq_getElem?_getD, List.getElem?_eq_getElem hl]
    exact isH_lt (List.all_eq_true.1 h.2 _ (List.getElem_mem hl))
  have h1 := k (2 * i) (by omega)
  have h2 := k (2 * i + 1) (by omega)
  unfold hx2
  omega
/-- Where the form is right the numbers that are not high lie in their fields. -/
theorem high_lt {ps : List (List UInt8)} : ∀ {k : Nat}, highK ps k = false → ∀ i, i < k → decV 0 (partK ps i) ≤ maxN i
  | 0, _, i, hi => by omega
  | k + 1, h, i, hi => by
    simp only [highK, Bool.or_eq_false_iff, decide_eq_false_iff_not] at h
    rcases Nat.lt_or_ge i k with h1 | h1
    · exact high_lt h.1 i h1
    · obtain rfl : i = k := by omega
      omega
end Go.Proofs.YtklffnfaigmjfaaDoor
