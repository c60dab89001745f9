/- Events: the plain functions of what the layer computes. No program stands here. -/
import Derived.Test.YtklffnfaigmjfaaDoorBase
namespace Go.Proofs.YtklffnfaigmjfaaDoor
/-- An event. -/
structure Ev where
  id : Int
  tm : Int
  gn : Int
  st : Int
  sn : Int
  ty : Int
  ds : Bool
  d0 : Int
  d1 : Int
  d2 : Int
deriving DecidableEq
def Ev.c (e : Ev) : Array Value := #[.int .u16 e.id, .int .u32 e.tm, .int .u16 e.gn, .int .u8 e.st, .int .u8 e.sn, .int .u8 e.ty, .bool e.ds, .int .u8 e.d0, .int .u8 e.d1, .int .u8 e.d2]
/-- The fields are in their ranges. -/
structure Ev.In (e : Ev) : Prop where
  id0 : 0 ≤ e.id
  id1 : e.id < 65536
  tm0 : 0 ≤ e.tm
  tm1 : e.tm < 4294967296
  gn0 : 0 ≤ e.gn
  gn1 : e.gn < 65536
  st0 : 0 ≤ e.st
  st1 : e.st < 256
  sn0 : 0 ≤ e.sn
  sn1 : e.sn < 256
  ty0 : 0 ≤ e.ty
  ty1 : e.ty < 256
  d00 : 0 ≤ e.d0
  d01 : e.d0 < 256
  d10 : 0 ≤ e.d1
  d11 : e.d1 < 256
  d20 : 0 ≤ e.d2
  d21 : e.d2 < 256
def zeroEv : Ev := ⟨0, 0, 0, 0, 0, 0, false, 0, 0, 0⟩
def validE (e : Ev) : Bool := decide (e.id ≤ 65534) && decide (e.tm ≤ 4294967294) && decide (e.ty ≤ 127)
def offs : List Int := [0, 2, 4, 7, 9, 11]
def thrR (st sn i : Int) (av : Bool) (rd lm : Int) : Ev × Int := if 0 ≤ i ∧ i ≤ 5 then (⟨0, 0, 32, st, sn, 1, !av, 80 + offs.getD i.toNat 0, rd, lm⟩, 0) else (zeroEv, 2)
def staR (st sn i : Int) (av : Bool) : Ev × Int := if 0 ≤ i ∧ i ≤ 14 then (⟨0, 0, 32, st, sn, 111, !av, i, 255, 255⟩, 0) else (zeroEv, 2)
def offIdx (d : Int) : Int := if d = 80 then 0 else if d = 82 then 1 else if d = 84 then 2 else if d = 87 then 3 else if d = 89 then 4 else if d = 91 then 5 else -1
def idxR (e : Ev) : Int × Bool × Bool :=
  if e.ty = 1 then (if 0 ≤ offIdx e.d0 then (offIdx e.d0, true, true) else (0, false, false)) else if e.ty = 111 ∧ e.d0 ≤ 14 then (e.d0, false, true) else (0, false, false)
def sevR (e : Ev) : Int := if (idxR e).2.2 = true ∧ (idxR e).2.1 = true ∧ e.ds = false then (idxR e).1 % 3 + 1 else 0
end Go.Proofs.YtklffnfaigmjfaaDoor
