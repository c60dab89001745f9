/- Plain laws of decimal texts: no program. No condition. -/
import Derived.Lib.IndexMore
import Derived.Lib.ParseIntB
import Derived.Lib.SlTrimSet
import Derived.Lib.ItoaNum
namespace Go.Proofs.YtklffnfaigmjfaaDoor
open Go
def isD (b : UInt8) : Bool := decide (48 ≤ b.toNat ∧ b.toNat ≤ 57)
def digitSet : List UInt8 := [48, 49, 50, 51, 52, 53, 54, 55, 56, 57]
theorem isD_mem (b : UInt8) : digitSet.contains b = isD b := by
  have h : ∀ n : Fin 256, digitSet.contains (UInt8.ofNat n.val) = isD (UInt8.ofNat n.val) := by decide +kernel
  have h2 := h ⟨b.toNat, UInt8.toNat_lt b⟩
  simpa using h2
theorem dw_nil (p : UInt8 → Bool) : ∀ l : List UInt8, l.dropWhile p = [] ↔ ∀ b ∈ l, p b = true
  | [] => by simp
  | b :: l => by
    rw [List.dropWhile_cons]
    by_cases hb : p b = true
    · rw [if_pos hb, dw_nil p l]; simp [hb]
    · rw [if_neg hb]; simp [hb]
theorem trim_digits (l : List UInt8) : Lib.trimS l digitSet = [] ↔ l.all isD = true := by
  unfold Lib.trimS Lib.trimLeftS Lib.trimRightS
  have hf : (digitSet.contains ·) = isD := funext isD_mem
  rw [hf]
  constructor
  · intro h
    have h1 : ∀ b ∈ (l.reverse.dropWhile isD).reverse, isD b = true := (dw_nil _ _).1 h
    have h2 : l.reverse.dropWhile isD = [] := by
      rcases hd : l.reverse.dropWhile isD with _ | ⟨c, r⟩
      · rfl
      · have hc := List.head?_dropWhile_not isD l.reverse
        rw [hd] at hc h1
        simp at hc
        have := h1 c (by simp)
        rw [hc] at this
        cases this
    have h3 := (dw_nil _ _).1 h2
    simpa using h3
  · intro h
    have h2 : l.reverse.dropWhile isD = [] := (dw_nil _ _).2 (by simpa using h)
    rw [h2]
    rfl
/-- The number that digits spell. -/
def decV (acc : Nat) (l : List UInt8) : Nat := l.foldl (fun a b => a * 10 + (b.toNat - 48)) acc
theorem decV_nil (acc : Nat) : decV acc [] = acc := rfl
theorem decV_cons (acc : Nat) (b : UInt8) (l : List UInt8) : decV acc (b :: l) = decV (acc * 10 + (b.toNat - 48)) l := by
  unfold decV
  rw [List.foldl_cons]
theorem decV_acc (l : List UInt8) : ∀ acc, decV acc l = acc * 10 ^ l.length + decV 0 l := by
  induction l with
  | nil => intro acc; rw [decV_nil, decV_nil]; simp
  | cons b l ih =>
    intro acc
    rw [decV_cons, decV_cons, ih, ih (0 * 10 + (b.toNat - 48)), List.length_cons, Nat.pow_succ]
    generalize 10 ^ l.length = P
    generalize decV 0 l = D
    generalize b.toNat - 48 = d
    have e1 : (acc * 10 + d) * P = acc * (P * 10) + d * P := by rw [Nat.add_mul, Nat.mul_assoc, Nat.mul_comm 10 P]
    have e2 : (0 * 10 + d) * P = d * P := by rw [Nat.zero_mul, Nat.zero_add]
    omega
theorem decV_app (l m : List UInt8) : ∀ acc, decV acc (l ++ m) = decV (decV acc l) m := by
  induction l with
  | nil => intro acc; rfl
  | cons b l ih => intro acc; exact ih _
theorem decV_lt (l : List UInt8) (h : l.all isD = true) : decV 0 l < 10 ^ l.length := by
  induction l with
  | nil => rw [decV_nil]; simp
  | cons b l ih =>
    simp only [List.all_cons, Bool.and_eq_true] at h
    have hb : 48 ≤ b.toNat ∧ b.toNat ≤ 57 := by simpa [isD] using h.1
    have h1 := ih h.2
    rw [decV_cons, decV_acc, List.length_cons, Nat.pow_succ]
    have h2 : (0 * 10 + (b.toNat - 48)) * 10 ^ l.length ≤ 9 * 10 ^ l.length := Nat.mul_le_mul_right _ (by omega)
    omega
theorem parseM (l : List UInt8) (h : l.all isD = true) : ∀ acc, acc * 10 ^ l.length + 10 ^ l.length ≤ 10000000000000000 → Lib.parseUintM (2 ^ 64 - 1) acc l = .ok (decV acc l) := by
  induction l with
  | nil => intro acc _; rfl
  | cons b l ih =>
    intro acc ha
    simp only [List.all_cons, Bool.and_eq_true] at h
    have hb : 48 ≤ b.toNat ∧ b.toNat ≤ 57 := by simpa [isD] using h.1
    rw [List.length_cons, Nat.pow_succ] at ha
    have hp : 1 ≤ 10 ^ l.length := Nat.pos_of_ne_zero (by simp)
    have h1 : (acc * 10 + (b.toNat - 48)) * 10 ^ l.length + 10 ^ l.length ≤ 10000000000000000 := by
      generalize 10 ^ l.length = P at *
      have e1 : (acc * 10 + (b.toNat - 48)) * P = acc * (P * 10) + (b.toNat - 48) * P := by rw [Nat.add_mul, Nat.mul_assoc, Nat.mul_comm 10 P]
      have e2 : (b.toNat - 48) * P ≤ 9 * P := Nat.mul_le_mul_right _ (by omega)
      omega
    have h2 : acc * 10 + (b.toNat - 48) ≤ (acc * 10 + (b.toNat - 48)) * 10 ^ l.length := Nat.le_mul_of_pos_right _ (by omega)
    rw [Lib.parseUintM, if_pos hb, if_neg (by omega), if_neg (by omega), decV_cons]
    exact ih h.2 _ h1
theorem parse_ok (l : List UInt8) (h : l.all isD = true) (hne : l ≠ []) (hl : l.length ≤ 15) : Lib.parseIntB 64 l = .ok (decV 0 l : Int) := by
  rcases l with _ | ⟨c, r⟩
  · exact absurd rfl hne
  · have hc : 48 ≤ c.toNat ∧ c.toNat ≤ 57 := by
      simp only [List.all_cons, Bool.and_eq_true] at h
      simpa [isD] using h.1
    have hp : 10 ^ (c :: r).length ≤ 10 ^ 15 := Nat.pow_le_pow_right (by omega) hl
    have hm := parseM (c :: r) h 0 (by omega)
    have hlt := decV_lt (c :: r) h
    have hu : Lib.parseUintB 64 (c :: r) = .ok (decV 0 (c :: r)) := by
      unfold Lib.parseUintB
      rw [if_neg (by simp)]
      exact hm
    unfold Lib.parseIntB
    dsimp only
    rw [if_neg (by omega), hu]
    dsimp only
    rw [if_neg (by omega), if_neg (by omega), if_neg (by omega)]
theorem cut_dot (t : List UInt8) : Lib.cut t [46] = match t.dropWhile (· != 46) with
    | [] => (t, [], false)
    | _ :: r => (t.takeWhile (· != 46), r, true) := by
  have key : ∀ t : List UInt8, (t.dropWhile (· != 46) = [] ∧ Lib.index t [46] = -1) ∨ (∃ r, t.dropWhile (· != 46) = 46 :: r ∧ Lib.index t [46] = (t.takeWhile (· != 46)).length) := by
    intro t
    induction t with
    | nil => left; exact ⟨rfl, rfl⟩
    | cons b l ih =>
      by_cases hb : b = 46
      · subst hb
        right
        exact ⟨l, by simp, by simp [Lib.index]⟩
      · have hb1 : (b != 46) = true := by simpa using hb
        have hp : ([46] : List UInt8).isPrefixOf (b :: l) = false := by
          simp [List.isPrefixOf]
          exact fun h => hb h.symm
        rcases ih with ⟨h1, h2⟩ | ⟨r, h1, h2⟩
        · left
          refine ⟨by simp [hb1, h1], ?_⟩
          rw [Lib.index, hp, h2]
          rfl
        · right
          refine ⟨r, by simp [hb1, h1], ?_⟩
          rw [Lib.index, hp, h2, List.takeWhile_cons, hb1]
          simp
  unfold Lib.cut
  rcases key t with ⟨h1, h2⟩ | ⟨r, h1, h2⟩
  · rw [h1, h2, if_neg (by omega)]
  · rw [h1, h2, if_pos (by omega)]
    have e : t = t.takeWhile (· != 46) ++ 46 :: r := by rw [← h1]; exact List.takeWhile_append_dropWhile.symm
    generalize t.takeWhile (· != 46) = p at *
    subst e
    simp
end Go.Proofs.YtklffnfaigmjfaaDoor
