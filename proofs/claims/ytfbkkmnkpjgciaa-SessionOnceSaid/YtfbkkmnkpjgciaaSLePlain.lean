/- Printed from XLePlain: the same over SBytes. -/
import Derived.Test.YtfbkkmnkpjgciaaSBytes
import Derived.Test.YtfbkkmnkpjgciaaSSum
namespace Go.Proofs.Ytfbkkmnkpjgciaa
open Go.RowKit
theorem leW_leB_nat (x : Nat) (k : Nat) : leW (leB (x : Int) k) = x % 256 ^ k := by
  induction k with
  | zero => simp [leB, leW, Nat.mod_one]
  | succ k ih =>
    have e : leB (x : Int) (k + 1) = leB (x : Int) k ++ [byteAt (x : Int) k] := by simp [leB, List.range_succ]
    rw [e, leW_snoc, ih, leB_len]
    have h1 : (byteAt (x : Int) k).toNat = x / 256 ^ k % 256 := by
      have := byteAt_eq (x : Int) k
      rw [IntKind.wrap_u8', show (2 : Int) ^ (8 * k) = ((256 ^ k : Nat) : Int) from by rw [pow256]; simp] at this
      omega
    rw [h1, Nat.pow_succ, Nat.mod_mul]
    rw [Nat.mul_comm (x / 256 ^ k % 256)]
theorem leW_leB (x : Int) (h0 : 0 ≤ x) (h1 : x < 18446744073709551616) : (leW (leB x 8) : Int) = x := by
  obtain ⟨X, rfl⟩ := Int.eq_ofNat_of_zero_le h0
  rw [leW_leB_nat]
  have : (256 : Nat) ^ 8 = 18446744073709551616 := rfl
  omega
theorem sumF_range (ks bs : List UInt8) : 0 ≤ sumF ks bs ∧ sumF ks bs < 18446744073709551616 := by
  have h : ∀ x y, 0 ≤ xor64 x y ∧ xor64 x y < 18446744073709551616 := fun x y => by
    rw [show xor64 x y = IntKind.u64.wrap _ from rfl, IntKind.wrap_u64]; omega
  exact h _ _
theorem leW_inj : ∀ (l l' : List UInt8), l.length = l'.length → leW l = leW l' → l = l'
  | [], [], _, _ => rfl
  | [], _ :: _, h, _ => by simp at h
  | _ :: _, [], h, _ => by simp at h
  | a :: l, b :: l', h, hw => by
    simp only [leW] at hw
    have ha := a.toNat_lt
    have hb := b.toNat_lt
    have e1 : a.toNat = b.toNat := by omega
    have e2 : leW l = leW l' := by omega
    rw [leW_inj l l' (by simpa using h) e2, UInt8.toNat_inj.1 e1]
/-- The digest behind a sealed text is found right. -/
theorem open_sealed (ks bs : List UInt8) (n : Nat) (hn : bs.length = n) :
    decide ((leW ((bs ++ leB (sumF ks bs) 8).drop n) : Int) = sumF ks ((bs ++ leB (sumF ks bs) 8).take n)) = true := by
  rw [List.drop_left' hn, List.take_left' hn]
  have := sumF_range ks bs
  rw [leW_leB _ this.1 this.2]
  simp
/-- One byte of the digest turned: right exactly if it was not turned. -/
theorem open_turned (ks bs : List UInt8) (n j : Nat) (hn : bs.length = n) (hj : j < 8) (y b : UInt8) (hb : (bs ++ leB (sumF ks bs) 8)[n + j]? = some b) :
    decide ((leW (((bs ++ leB (sumF ks bs) 8).set (n + j) (b ^^^ y)).drop n) : Int) = sumF ks (((bs ++ leB (sumF ks bs) 8).set (n + j) (b ^^^ y)).take n)) = (y == 0) := by
  have e1 : ((bs ++ leB (sumF ks bs) 8).set (n + j) (b ^^^ y)).take n = bs := by
    rw [List.take_set_of_le (by omega), List.take_left' hn]
  have e2 : ((bs ++ leB (sumF ks bs) 8).set (n + j) (b ^^^ y)).drop n = (leB (sumF ks bs) 8).set j (b ^^^ y) := by
    rw [List.drop_set, if_neg (by omega), List.drop_left' hn, Nat.add_sub_cancel_left]
  rw [e1, e2]
  have hr := sumF_range ks bs
  have hbj : (leB (sumF ks bs) 8)[j]? = some b := by
    rw [List.getElem?_append_right (by omega), hn, Nat.add_sub_cancel_left] at hb
    exact hb
  have hlen : j < (leB (sumF ks bs) 8).length := by rw [leB_len]; exact hj
  have hbj' : (leB (sumF ks bs) 8)[j] = b := (List.getElem?_eq_some_iff.1 hbj).2
  rw [Bool.eq_iff_iff]
  simp only [decide_eq_true_eq, beq_iff_eq]
  constructor
  · intro h
    have h2 : leW ((leB (sumF ks bs) 8).set j (b ^^^ y)) = leW (leB (sumF ks bs) 8) := by
      have := leW_leB _ hr.1 hr.2
      omega
    have h3 := leW_inj _ _ (by simp) h2
    have h4 : ((leB (sumF ks bs) 8).set j (b ^^^ y))[j]? = some b := by rw [h3, hbj]
    rw [List.getElem?_set_self hlen] at h4
    injection h4 with h4
    have h5 : b ^^^ (b ^^^ y) = b ^^^ b := by rw [h4]
    rw [← UInt8.xor_assoc, UInt8.xor_self, UInt8.zero_xor] at h5
    exact h5
  · rintro rfl
    rw [UInt8.xor_zero, ← hbj', List.set_getElem_self]
    exact leW_leB _ hr.1 hr.2
end Go.Proofs.Ytfbkkmnkpjgciaa
