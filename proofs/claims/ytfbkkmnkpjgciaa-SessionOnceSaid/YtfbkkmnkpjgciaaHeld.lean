/- A region that draws its order, walked by hand: what yields in every world that meets S is taken first. For a region with more than one load of a long array. No condition. -/
import Derived.Test.YtfbkkmnkpjgciaaEq
import Derived.Deep.RegionHeld3
import Derived.Deep.MidRow
import Derived.BigRegion
namespace Go.Proofs.Ytfbkkmnkpjgciaa
open Go.RowKit
section
variable {P : Program} {md : Region.Mode} {l : List Oper} {Q : Exit → Act → World → Prop} {S : World → Prop} {fuel : Nat} {listed : Array Bool} {a : Act} {w : World} {o : Oper}
theorem th_take {i : Nat} {oi : Oper} {v : Value} (hi : l[i]? = some oi) (hs : Region.noSelect l.toArray = true) (hf : Region.free md l.toArray listed i = true) (hr : (Region.ready md l.toArray listed).contains i = true)
    (hy : YieldsIf P l.toArray S oi v a) (hS : S w) (h : wpAnyH P md l.toArray (NoPanic Q) S fuel (listed.setIfInBounds i true) (a.put oi.dst v) w) : wpAnyH P md l.toArray (NoPanic Q) S (fuel + 1) listed a w :=
  wpAnyH_take (by simpa using hi) hs hf hr (fun _ _ _ h => h) hy hS h
theorem th_one {i : Nat} {oi : Oper} (hi : l[i]? = some oi) (hr : Region.ready md l.toArray listed = [i])
    (h : ∀ K' : Act → World → Prop, Shut (∀ a w, S w → (S w → wpAnyH P md l.toArray Q S fuel (listed.setIfInBounds i true) a w) → K' a w) → if Region.wanted oi (yielded l.toArray a.tmps) = true then Oper.wp P oi a w K' Q else K' (a.put oi.dst undef) w) :
    wpAnyH P md l.toArray Q S (fuel + 1) listed a w :=
  wpAnyH_ready (rs := [i]) hr (by simp) (AllReadyH.cons (by simpa using hi) h AllReadyH.nil)
theorem th_two {i j : Nat} {oi oj : Oper} (hi : l[i]? = some oi) (hj : l[j]? = some oj) (hr : Region.ready md l.toArray listed = [i, j])
    (h : ∀ K' : Act → World → Prop, Shut (∀ a w, S w → (S w → wpAnyH P md l.toArray Q S fuel (listed.setIfInBounds i true) a w) → K' a w) → if Region.wanted oi (yielded l.toArray a.tmps) = true then Oper.wp P oi a w K' Q else K' (a.put oi.dst undef) w)
    (h' : ∀ K' : Act → World → Prop, Shut (∀ a w, S w → (S w → wpAnyH P md l.toArray Q S fuel (listed.setIfInBounds j true) a w) → K' a w) → if Region.wanted oj (yielded l.toArray a.tmps) = true then Oper.wp P oj a w K' Q else K' (a.put oj.dst undef) w) :
    wpAnyH P md l.toArray Q S (fuel + 1) listed a w :=
  wpAnyH_ready (rs := [i, j]) hr (by simp) (AllReadyH.cons (by simpa using hi) h (AllReadyH.cons (by simpa using hj) h' AllReadyH.nil))
theorem y_move {v : Value} (x : Operand) (hw : Region.wanted o (yielded l.toArray a.tmps) = true) (ho : o.op = .move x) (hv : a.eval x = v) : YieldsIf P l.toArray S o v a :=
  .inl ⟨hw, fun w _ => by unfold execOp; simp [ho, hv]⟩
theorem y_assign {v : Value} (x : Operand) (hw : Region.wanted o (yielded l.toArray a.tmps) = true) (ho : o.op = .assign x) (hv : a.eval x = v) : YieldsIf P l.toArray S o v a :=
  .inl ⟨hw, fun w _ => by unfold execOp; simp [ho, hv]⟩
theorem y_conv (src dst e : TypeId) (x : Operand) (hw : Region.wanted o (yielded l.toArray a.tmps) = true) (ho : o.op = .convert src dst x)
    (A : Option Addr) (n c : Nat) (hx : a.eval x = .slice A n c) (B : Nat) (bs : List UInt8) (hr : ∀ w, S w → Reads w B 1 A n (bsV bs)) (hs : P.underlying src = some (.slice e)) (he : P.underlying e = some (.int .u8)) (hd : P.underlying dst = some .string) :
    YieldsIf P l.toArray S o (.string ⟨bs.toArray⟩) a :=
  .inl ⟨hw, fun w hS => by
    unfold execOp
    simp only [ho, hx, Sem.run_bind, Sem.run_pure, Result.andThen_ok, run_bytes_str (c := c) (hr w hS) src dst e hs he hd]⟩
theorem y_eqs (t u : TypeId) (x y : Operand) (s : ByteArray) (hw : Region.wanted o (yielded l.toArray a.tmps) = true) (ho : o.op = .binOp .eql t x y u) (hx : a.eval x = .string s) (hy : a.eval y = .string s) : YieldsIf P l.toArray S o (.bool true) a :=
  .inl ⟨hw, fun w _ => by
    unfold execOp
    simp [ho, hx, hy, binOp_string_eql, eqGuard]⟩
theorem y_arr (t u e : TypeId) (x y : Operand) (hw : Region.wanted o (yielded l.toArray a.tmps) = true) (ho : o.op = .binOp .eql t x y u)
    (L : List UInt8) (hx : a.eval x = .agg (bsV L).toArray) (hy : a.eval y = .agg (bsV L).toArray) (hm : P.eqGuardType P.depth t = false) (n : Nat) (i : TypeInfo) (hL : L.length = n) (ht : P.underlying t = some (.array n e)) (hi : P.info? e = some i) (hc : P.cellsOf e = 1) (he : P.underlying e = some (.int .u8)) (hpl : P.plainKey e = true) :
    YieldsIf P l.toArray S o (.bool true) a :=
  .inl ⟨hw, fun w _ => by
    unfold execOp
    simp only [ho, hx, hy, Sem.run_bind, Sem.run_pure, Result.andThen_ok, run_eqGuard_agg w .eql t x y _ _ hm, run_eql_arr w L hL ht hi hc he hpl]⟩
theorem y_pick {v : Value} (c x y : Operand) (b : Bool) (hw : Region.wanted o (yielded l.toArray a.tmps) = true) (ho : o.op = .pick c x y) (hc : a.eval c = .bool b) (hv : (if b = true then a.eval x else a.eval y) = v) : YieldsIf P l.toArray S o v a :=
  .inl ⟨hw, fun w _ => by
    unfold execOp
    cases b <;> simp_all [asBool]⟩
end
end Go.Proofs.Ytfbkkmnkpjgciaa
