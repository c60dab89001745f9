/- '==' of two events. No condition. -/
import Derived.Test.YtklffnfaigmjfaaDoorEEq
import Derived.Test.YtklffnfaigmjfaaDoorClass
import Derived.Test.YtklffnfaigmjfaaDoorEDistPlain
namespace Go.Proofs.YtklffnfaigmjfaaDoor
open Go.RowKit
theorem run_eql_ev (x y : Ev) (W : World) : (binOp .eql 26 (.agg x.c) (.agg y.c)).run Tryd.prog W = .ok (.bool (decide (x = y))) W := by
  obtain ⟨id, tm, gn, st, sn, ty, ds, d0, d1, d2⟩ := x
  obtain ⟨id', tm', gn', st', sn', ty', ds', d0', d1', d2'⟩ := y
  have heq3 := eq3
  simp only [Ev.c]
  go_simp
  by_cases h0 : id = id'
  case neg => simp [h0]
  by_cases h1 : tm = tm'
  case neg => simp [h0, h1]
  by_cases h2 : gn = gn'
  case neg => simp [h0, h1, h2]
  by_cases h3 : st = st'
  case neg => simp [h0, h1, h2, h3]
  by_cases h4 : sn = sn'
  case neg => simp [h0, h1, h2, h3, h4]
  by_cases h5 : ty = ty'
  case neg => simp [h0, h1, h2, h3, h4, h5]
  by_cases h6 : ds = ds'
  case neg => simp [h0, h1, h2, h3, h4, h5, h6]
  by_cases h7 : d0 = d0'
  case neg => simp [h0, h1, h2, h3, h4, h5, h6, h7]
  by_cases h8 : d1 = d1'
  case neg => simp [h0, h1, h2, h3, h4, h5, h6, h7, h8]
  by_cases h9 : d2 = d2'
  case neg => simp [h0, h1, h2, h3, h4, h5, h6, h7, h8, h9]
  simp [h0, h1, h2, h3, h4, h5, h6, h7, h8, h9]
theorem quiet_eql {P : Program} {o : Oper} {a : Act} {C : World → Prop} {K : Act → Prop} (t u : TypeId) (x y : Operand) (ho : o.op = .binOp .eql t x y u) (xs ys : Array Value) (hx : a.eval x = .agg xs) (hy : a.eval y = .agg ys) (b : Bool)
    (hm : P.eqGuardType P.depth t = false) (hrun : ∀ w, (binOp .eql t (.agg xs) (.agg ys)).run P w = .ok (.bool b) w) (h : K (a.put o.dst (.bool b))) : o.quiet P a C K := by
  refine ⟨.bool b, fun w _ => ?_, h⟩
  unfold Oper.quietAt execOp
  simp only [ho, hx, hy, Sem.run_bind, Sem.run_pure, Result.andThen_ok, run_eqGuard_agg w .eql t x y xs ys hm, hrun]
  exact ⟨rfl, rfl⟩
end Go.Proofs.YtklffnfaigmjfaaDoor
