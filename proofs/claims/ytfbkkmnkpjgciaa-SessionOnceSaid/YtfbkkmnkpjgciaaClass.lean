/- A region that draws its order, walked once in the order of the text, in a class of worlds S: every operation yields one value in all of them. No condition. -/
import Derived.Test.YtfbkkmnkpjgciaaMem
import Derived.BigQuiet
namespace Go.Proofs.Ytfbkkmnkpjgciaa
open Go.RowKit
/-- A world of the class S: a structure of its own, so that simp leaves it shut. -/
structure InClass (S : World → Prop) where
  val : World
  ok : S val
theorem wp_region_class {P : Program} {id : Nat} {Q : Exit → Act → World → Prop} {a : Act} {w : World} {l : List Oper} (S : World → Prop) (hm : P.follows .mixedOrders = true) (hB : Region.lexB .any l.toArray = true) (hS : S w.drew)
    (h : wpQuiet P l.toArray (fun w' => ∃ x : InClass S, w' = x.val) (fun a' => ∀ w', (∃ x : InClass S, w' = x.val) → Q .normal a' w') l a) : (Code.region id l.toArray true).wp P Q a w :=
  wp_region_quiet (C := fun w' => ∃ x : InClass S, w' = x.val) hm hB ⟨⟨_, hS⟩, rfl⟩ (by simpa using h)
theorem class_call {P : Program} {f : FuncId} {args : Array Value} {S : World → Prop} {x : InClass S} {v : Value} {B : Nat} (h : Calls P f args x.val fun e w' => e = .returned v ∧ Below B x.val w') (hS : ∀ w', Below B x.val w' → S w') :
    Calls P f args x.val fun e w'' => e = .returned v ∧ ∃ y : InClass S, w'' = y.val :=
  h.mono fun _ w' ⟨he, hb⟩ => ⟨he, ⟨w', hS w' hb⟩, rfl⟩
theorem quiet_load_row {P : Program} {o : Oper} {a : Act} {C : World → Prop} {K : Act → Prop} (ty : TypeId) (x : Operand) (ho : o.op = .load ty x)
    (g : Nat) (hx : a.eval x = .pointer (some ⟨g, 0, none⟩)) (t : TypeId) (cs : Array Value) (d : TypeDesc) (hg : ∀ w, C w → Blk w g t cs)
    (hu : P.underlying ty = some d) (hd : (match d with | .struct _ | .array _ _ => true | _ => false) = true) (hi : (P.info? ty).map (·.size) = some cs.size)
    (h : K (a.put o.dst (.agg cs))) : o.quiet P a C K := by
  refine ⟨.agg cs, fun w hw => ?_, h⟩
  unfold Oper.quietAt execOp
  simp only [ho, hx, Instr.loadAt, Instr.sureAddr, Sem.run_bind, Sem.run_pure, Result.andThen_ok, run_loadVar_row w g t ty cs (0, 0) d (hg w hw) hu hd hi]
  exact ⟨rfl, rfl⟩
end Go.Proofs.Ytfbkkmnkpjgciaa
