/- The text of an event, as a plain function. No program stands here. -/
import Derived.Test.YtklffnfaigmjfaaDoorEPlain
import Derived.Test.YtklffnfaigmjfaaDoorLe
import Derived.Lib.Join
import Derived.Lib.ItoaMem
namespace Go.Proofs.YtklffnfaigmjfaaDoor
def hexD (n : Nat) : Nat := if n < 10 then 48 + n else 87 + n
theorem hexD_lt (n : Nat) (h : n < 16) : hexD n < 256 := by unfold hexD; split <;> omega
def hexB (n : Nat) : UInt8 := UInt8.ofNat (hexD n)
theorem hexB_val (n : Nat) (h : n < 16) : (hexB n).toNat = hexD n := by
  unfold hexB
  rw [UInt8.toNat_ofNat']
  have := hexD_lt n h
  omega
def dataL (a b c : Nat) : List UInt8 := [hexB (a / 16), hexB (a % 16), hexB (b / 16), hexB (b % 16), hexB (c / 16), hexB (c % 16)]
def signL (ds : Bool) : List UInt8 := if ds then [45] else [43]
def wordL (ty : Int) : List UInt8 := if ty = 1 then [116, 104, 114, 101, 115, 104, 111, 108, 100] else if ty = 111 then [115, 116, 97, 116, 101] else [111, 116, 104, 101, 114]
theorem wordL_len (ty : Int) : (wordL ty).length ≤ 9 := by unfold wordL; split <;> (try split) <;> simp
def partsE (e : Ev) : List (List UInt8) := [Lib.decDigits e.id.toNat, Lib.decDigits e.tm.toNat, Lib.decDigits e.gn.toNat, Lib.decDigits e.st.toNat, Lib.decDigits e.sn.toNat, Lib.decDigits e.ty.toNat, signL e.ds, dataL e.d0.toNat e.d1.toNat e.d2.toNat, wordL e.ty]
def fmtE (e : Ev) : List UInt8 := Lib.join (partsE e) [32]
theorem dd_len32 (n : Nat) (h : n < 4294967296) : (Lib.decDigits n).length ≤ 20 := by
  rw [Lib.decDigits_length]
  rcases Nat.eq_zero_or_pos n with h0 | h0
  · subst h0; decide +kernel
  · have := Lib.numDigits_eq n h0 (by omega)
    split at this <;> omega
end Go.Proofs.YtklffnfaigmjfaaDoor
