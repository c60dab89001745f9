/- Little-endian words of bytes, and what the walks need of '|', '<<' and '^' on uint64. No condition. -/
import Derived.Test.YtfbkkmnkpjgciaaBase
namespace Go.Proofs.Ytfbkkmnkpjgciaa
open Go.RowKit
abbrev bsV (bs : List UInt8) : List Value := bs.map fun b => .int .u8 (b.toNat : Int)
def leW : List UInt8 → Nat
  | [] => 0
  | b :: r => b.toNat + 256 * leW r
theorem bsV_get {bs : List UInt8} {k : Nat} {u : Value} (h : (bsV bs)[k]? = some u) : ∃ b : UInt8, bs[k]? = some b ∧ u = .int .u8 (b.toNat : Int) ∧ 0 ≤ (b.toNat : Int) ∧ (b.toNat : Int) < 256 := by
  unfold bsV at h
  rw [List.getElem?_map] at h
  match hb : bs[k]?, h with
  | some b, h => exact ⟨b, rfl, by simpa using h.symm, by omega, by have := b.toNat_lt; omega⟩
theorem leW_lt (l : List UInt8) : leW l < 256 ^ l.length := by
  induction l with
  | nil => simp [leW]
  | cons b r ih =>
    have := b.toNat_lt
    simp only [leW, List.length_cons, Nat.pow_succ]
    omega
theorem leW_snoc (l : List UInt8) (b : UInt8) : leW (l ++ [b]) = leW l + b.toNat * 256 ^ l.length := by
  induction l with
  | nil => simp [leW]
  | cons a r ih =>
    simp only [List.cons_append, leW, ih, List.length_cons, Nat.pow_succ]
    rw [Nat.mul_add, Nat.mul_comm (256 ^ r.length) 256, ← Nat.mul_assoc, ← Nat.mul_assoc, Nat.mul_comm b.toNat 256]
    omega
theorem take_snoc {l : List UInt8} {k : Nat} {b : UInt8} (h : l[k]? = some b) : l.take (k + 1) = l.take k ++ [b] := by
  rw [List.take_add_one, h]; rfl
theorem pow256 (k : Nat) : 256 ^ k = 2 ^ (8 * k) := by rw [Nat.pow_mul]
theorem pow_le (k n : Nat) (h : k ≤ n) : 256 ^ k ≤ 256 ^ n := Nat.pow_le_pow_right (by omega) h
theorem or_u64 (x y : Nat) (hx : x < 18446744073709551616) (hy : y < 18446744073709551616) : bits .or .u64 (x : Int) (y : Int) = ((x ||| y : Nat) : Int) := by
  have hz : x ||| y < 2 ^ 64 := Nat.or_lt_two_pow (by omega) (by omega)
  show IntKind.u64.wrap ((BitVec.ofInt 64 (x : Int) ||| BitVec.ofInt 64 (y : Int)).toNat : Int) = _
  have e : ∀ a : Nat, a < 18446744073709551616 → (BitVec.ofInt 64 (a : Int)).toNat = a := fun a ha => by
    rw [BitVec.ofInt_natCast, BitVec.toNat_ofNat]; exact Nat.mod_eq_of_lt (by omega)
  rw [BitVec.toNat_or, e x hx, e y hy, IntKind.wrap_u64]
  omega
/-- The step of 'w |= uint64(b[k]) << (8 * k)'. -/
theorem leW_step {bs : List UInt8} {k : Nat} {b : UInt8} (h : bs[k]? = some b) (hk : k < 8) :
    bits .or .u64 (leW (bs.take k) : Int) (IntKind.u64.wrap ((b.toNat : Int) * 2 ^ (8 * k))) = (leW (bs.take (k + 1)) : Int) := by
  have hl : k < bs.length := (List.getElem?_eq_some_iff.1 h).1
  have hlen : (bs.take k).length = k := by rw [List.length_take]; omega
  have h1 := leW_lt (bs.take k)
  rw [hlen] at h1
  have h2 := leW_snoc (bs.take k) b
  rw [hlen] at h2
  rw [take_snoc h, h2]
  have hp : 256 ^ (k + 1) ≤ 256 ^ 8 := pow_le _ _ (by omega)
  have hp8 : (256 : Nat) ^ 8 = 18446744073709551616 := rfl
  have hb := b.toNat_lt
  have hb2 : b.toNat * 256 ^ k < 18446744073709551616 := by
    rw [Nat.pow_succ, Nat.mul_comm] at hp
    have : b.toNat * 256 ^ k < 256 * 256 ^ k := Nat.mul_lt_mul_of_pos_right (by simpa using hb) (Nat.pow_pos (by omega))
    omega
  have hp0 : 256 ^ k ≤ 256 ^ 8 := pow_le _ _ (by omega)
  have e1 : IntKind.u64.wrap ((b.toNat : Int) * 2 ^ (8 * k)) = ((b.toNat * 256 ^ k : Nat) : Int) := by
    rw [IntKind.wrap_u64, pow256]
    have : ((b.toNat : Int) * 2 ^ (8 * k)) = ((b.toNat * 2 ^ (8 * k) : Nat) : Int) := by simp
    rw [this, ← pow256]
    omega
  rw [e1, or_u64 _ _ (by omega) hb2]
  congr 1
  rw [Nat.or_comm, Nat.mul_comm, pow256, ← Nat.two_pow_add_eq_or_of_lt (by rw [← pow256]; exact h1), Nat.add_comm]
end Go.Proofs.Ytfbkkmnkpjgciaa
