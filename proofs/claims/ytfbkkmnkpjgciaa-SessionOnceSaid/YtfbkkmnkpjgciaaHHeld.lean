/- A drawn region that loads whole variables and stores them into others. No condition. -/
import Derived.Test.YtfbkkmnkpjgciaaHeld
import Derived.Test.YtfbkkmnkpjgciaaRow
namespace Go.Proofs.Ytfbkkmnkpjgciaa
open Go.RowKit
section
variable {P : Program} {l : List Oper} {S : World → Prop} {a : Act} {o : Oper}
theorem y_loadblk (ty : TypeId) (x : Operand) (hw : Region.wanted o (yielded l.toArray a.tmps) = true) (ho : o.op = .load ty x)
    (g : Nat) (hx : a.eval x = .pointer (some ⟨g, 0, none⟩)) (t : TypeId) (cs : Array Value) (d : TypeDesc) (hg : ∀ w, S w → Blk w g t cs)
    (hu : P.underlying ty = some d) (hd : (match d with | .struct _ | .array _ _ => true | _ => false) = true) (hi : (P.info? ty).map (·.size) = some cs.size) : YieldsIf P l.toArray S o (.agg cs) a :=
  .inl ⟨hw, fun w hS => by
    unfold execOp
    simp only [ho, hx, Instr.loadAt, Instr.sureAddr, Sem.run_bind, Sem.run_pure, Result.andThen_ok, run_loadVar_row w g t ty cs (0, 0) d (hg w hS) hu hd hi]⟩
theorem step_store_blk {w : World} {K : Act → World → Prop} {Q : Exit → Act → World → Prop} {E : Prop} (hw : Region.wanted o (yielded l.toArray a.tmps) = true) (ty : TypeId) (x y : Operand) (ho : o.op = .store ty x y)
    (g : Nat) (t : TypeId) (cs cs' : Array Value) (hx : a.eval x = .pointer (some ⟨g, 0, none⟩)) (hy : a.eval y = .agg cs')
    (h : Blk w g t cs) (hs : cs'.size = cs.size) (hi : (P.info? ty).map (·.size) = some cs'.size) (h1 : ∀ v ∈ cs'.toList, v.oneCell' = true)
    (hk : ∀ w', Blk w' g t cs' → w.grownBy w' (some g) → K (a.put o.dst undef) w') : if Region.wanted o (yielded l.toArray a.tmps) = true then Oper.wp P o a w K Q else E := by
  rw [if_pos hw]
  unfold Oper.wp execOp
  simp only [ho, hx, hy, Instr.storeAt, Instr.sureAddr, Sem.run_bind, Sem.run_pure, Result.andThen_ok, run_store_blk ty g t cs cs' h hs hi h1]
  have hb := setRow_blk (cs' := cs') h
  exact hk _ hb.1 hb.2
end
end Go.Proofs.Ytfbkkmnkpjgciaa
