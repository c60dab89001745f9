/- Plain law of a long division by 1000000: no program. No condition. -/
import Derived.Test.YtcebjipekodmpaaDoorBase
import Derived.IntWalk
namespace Go.Proofs.YtcebjipekodmpaaDoor
theorem div_long (hi lo : Nat) :
    (hi * 17592186044416 + lo / 1048576) / 4096000000 * 4294967296 + ((hi * 17592186044416 + lo / 1048576) % 4096000000 * 4294967296 + lo % 1048576 * 4096) / 4096000000 = (hi * 18446744073709551616 + lo) / 1000000 := by omega
theorem mod_long (hi lo : Nat) :
    ((hi * 17592186044416 + lo / 1048576) % 4096000000 * 4294967296 + lo % 1048576 * 4096) % 4096000000 * 4294967296 / 17592186044416 = (hi * 18446744073709551616 + lo) % 1000000 := by omega
theorem wrap_lo (lo : Nat) : IntKind.u64.wrap ((lo : Int) * 17592186044416) = ((lo % 1048576 * 17592186044416 : Nat) : Int) := by
  rw [IntKind.wrap_u64]
  omega
theorem wrap_v (u u1 : Nat) (h1 : u1 < 4294967296) : IntKind.u64.wrap (IntKind.u64.wrap (IntKind.u64.wrap ((u : Int) * 4294967296) + (u1 : Int)) - IntKind.u64.wrap ((u : Int) / 4096000000 * 17592186044416000000)) = ((u % 4096000000 * 4294967296 + u1 : Nat) : Int) := by
  rw [IntKind.wrap_u64, IntKind.wrap_u64, IntKind.wrap_u64, IntKind.wrap_u64]
  omega
theorem wrap_r (v : Nat) : IntKind.u64.wrap (IntKind.u64.wrap (IntKind.u64.wrap ((v : Int) * 4294967296)) - IntKind.u64.wrap ((v : Int) / 4096000000 * 17592186044416000000)) = ((v % 4096000000 * 4294967296 : Nat) : Int) := by
  rw [IntKind.wrap_u64, IntKind.wrap_u64, IntKind.wrap_u64, IntKind.wrap_u64]
  omega
theorem and_mask (t : Nat) (ht : t < 18446744073709551616) : bits BinOp.and IntKind.u64 (t : Int) 4294967295 = ((t % 4294967296 : Nat) : Int) := by
  have h := u64_and_nat t 4294967295 ht (by omega)
  have e : t &&& 4294967295 = t % 4294967296 := Nat.and_two_pow_sub_one_eq_mod t 32
  rw [e] at h
  exact h
theorem and_low (lo : Nat) : bits BinOp.and IntKind.u64 ((lo % 1048576 * 17592186044416 : Nat) : Int) 4294967295 = 0 := by
  rw [and_mask _ (by omega), show lo % 1048576 * 17592186044416 % 4294967296 = 0 by omega]
  rfl
theorem and_y : bits BinOp.and IntKind.u64 17592186044416000000 4294967295 = 0 := by
  have h := and_mask 17592186044416000000 (by omega)
  exact h
theorem or_split (hi lo : Nat) (hh : hi < 65536) (hl : lo < 18446744073709551616) : bits BinOp.or IntKind.u64 ((hi : Int) * 17592186044416) ((lo : Int) / 1048576) = ((hi * 17592186044416 + lo / 1048576 : Nat) : Int) := by
  have h := u64_or_nat (hi * 17592186044416) (lo / 1048576) (by omega) (by omega)
  have e : hi * 17592186044416 + lo / 1048576 = hi * 17592186044416 ||| lo / 1048576 := by
    have h2 := Nat.shiftLeft_add_eq_or_of_lt (b := lo / 1048576) (i := 44) (by omega) hi
    rw [Nat.shiftLeft_eq] at h2
    exact h2
  rw [← e] at h
  rw [← h]
  congr 1
end Go.Proofs.YtcebjipekodmpaaDoor
