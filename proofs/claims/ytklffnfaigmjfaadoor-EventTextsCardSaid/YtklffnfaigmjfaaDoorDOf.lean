/- A stretch of a text, and its pieces. Plain laws, no condition. -/
import Derived.Test.YtklffnfaigmjfaaDoorSplitP
import Derived.Test.YtklffnfaigmjfaaDoorEDec
namespace Go.Proofs.YtklffnfaigmjfaaDoor
open Go
def dOf (l : List UInt8) (f i : Nat) : List UInt8 := (l.drop f).take (i - f)
theorem dOf_split (l : List UInt8) (f i : Nat) (h : f ≤ i) : l.drop f = dOf l f i ++ l.drop i := by
  unfold dOf
  have := List.take_append_drop (i - f) (l.drop f)
  rw [List.drop_drop, show f + (i - f) = i by omega] at this
  exact this.symm
theorem dOf_len (l : List UInt8) (f i : Nat) (h : i ≤ l.length) : (dOf l f i).length = i - f := by simp [dOf]; omega
theorem dOf_nil (l : List UInt8) (f : Nat) : dOf l f f = [] := by simp [dOf]
theorem dOf_step (l : List UInt8) (f i : Nat) (hf : f ≤ i) (hi : i < l.length) : dOf l f (i + 1) = dOf l f i ++ [l[i]] := by
  unfold dOf
  rw [show i + 1 - f = (i - f) + 1 by omega, ← List.take_append_getElem (by simp; omega)]
  congr 1
  simp [show f + (i - f) = i by omega]
theorem split_end (c : UInt8) (l : List UInt8) (f : Nat) (hf : f ≤ l.length) (h : ∀ x ∈ dOf l f l.length, x ≠ c) : splitD c (l.drop f) = [dOf l f l.length] := by
  have h1 := dOf_split l f l.length hf
  rw [List.drop_length, List.append_nil] at h1
  rw [h1, splitD_end c _ h]
theorem split_sep (c : UInt8) (l : List UInt8) (f i : Nat) (hf : f ≤ i) (hi : i < l.length) (h : ∀ x ∈ dOf l f i, x ≠ c) (hc : l[i] = c) : splitD c (l.drop f) = dOf l f i :: splitD c (l.drop (i + 1)) := by
  rw [dOf_split l f i hf, List.drop_eq_getElem_cons hi, hc, splitD_app c _ _ h]
theorem take_all_step {l : List UInt8} {k : Nat} (hk : k < l.length) (h : (l.take k).all isD = true) (hd : isD l[k] = true) : (l.take (k + 1)).all isD = true := by
  rw [← List.take_append_getElem hk, List.all_append, h]
  simp [hd]
theorem not_all {l : List UInt8} {k : Nat} (hk : k < l.length) (hd : isD l[k] = false) : l.all isD = false := by
  cases h : l.all isD
  · rfl
  · have := List.all_eq_true.1 h l[k] (List.getElem_mem hk)
    rw [hd] at this
    cases this
theorem dec_step {l : List UInt8} {k : Nat} (hk : k < l.length) : decV 0 (l.take (k + 1)) = decV 0 (l.take k) * 10 + (l[k].toNat - 48) := by
  rw [← List.take_append_getElem hk, decV_app]
  rfl
theorem dec_small {l : List UInt8} {k j : Nat} (h : (l.take k).all isD = true) (hk : k ≤ j) : decV 0 (l.take k) < 10 ^ j := by
  have := decV_lt _ h
  have hl : (l.take k).length ≤ j := by simp; omega
  exact Nat.lt_of_lt_of_le this (Nat.pow_le_pow_right (by omega) hl)
end Go.Proofs.YtklffnfaigmjfaaDoor
