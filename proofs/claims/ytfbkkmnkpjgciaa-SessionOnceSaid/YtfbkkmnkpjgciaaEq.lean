/- '==' of two arrays of bytes that are the same; string(bytes) as a quiet operation. No condition. -/
import Derived.Test.YtfbkkmnkpjgciaaConv
import Derived.Test.YtfbkkmnkpjgciaaClass
import Derived.ChangeKeysEq
import Derived.Laws.StructEq
namespace Go.Proofs.Ytfbkkmnkpjgciaa
open Go.RowKit
theorem run_items_same {P : Program} (w : World) (d : Nat) {e : TypeId} (he : P.underlying e = some (.int .u8)) (hpl : P.plainKey e = true) (L : List UInt8) : ∀ is : List Nat, (∀ i ∈ is, i < L.length) →
    (Op.eqItems (d + 1) e 1 (bsV L).toArray (bsV L).toArray is).run P w = .ok true w
  | [], _ => by simp [Op.eqItems]
  | i :: is, h => by
    have hi := h i (List.mem_cons_self ..)
    have hx : (bsV L).toArray[i * 1]? = some (.int .u8 ((L[i]).toNat : Int)) := by
      simp [bsV, hi]
    simp only [Op.eqItems, Sem.run_bind, run_part_plain w hpl hx, run_equalIn_int w d e .u8 .u8 _ _ he, Result.andThen_ok]
    simpa using run_items_same w d he hpl L is (fun j hj => h j (List.mem_cons_of_mem _ hj))
theorem run_eql_arr {P : Program} (w : World) {t e : TypeId} {n : Nat} {i : TypeInfo} (L : List UInt8) (hL : L.length = n) (ht : P.underlying t = some (.array n e)) (hi : P.info? e = some i) (hc : P.cellsOf e = 1) (he : P.underlying e = some (.int .u8)) (hpl : P.plainKey e = true) :
    (binOp .eql t (.agg (bsV L).toArray) (.agg (bsV L).toArray)).run P w = .ok (.bool true) w := by
  rw [run_eql_struct, run_equalIn_array w 9999 _ _ ht hi, hc, run_items_same w 9998 he hpl L (List.range n) (fun i h => by rw [hL]; exact List.mem_range.1 h)]
  rfl
theorem quiet_bytes_str {P : Program} {o : Oper} {a : Act} {C : World → Prop} {K : Act → Prop} (src dst e : TypeId) (x : Operand) (ho : o.op = .convert src dst x)
    (A : Option Addr) (n c : Nat) (hx : a.eval x = .slice A n c) (B : Nat) (bs : List UInt8) (hg : ∀ w, C w → Reads w B 1 A n (bsV bs))
    (hs : P.underlying src = some (.slice e)) (he : P.underlying e = some (.int .u8)) (hd : P.underlying dst = some .string)
    (h : K (a.put o.dst (.string ⟨bs.toArray⟩))) : o.quiet P a C K := by
  refine ⟨.string ⟨bs.toArray⟩, fun w hw => ?_, h⟩
  unfold Oper.quietAt execOp
  simp only [ho, hx, Sem.run_bind, Sem.run_pure, Result.andThen_ok, run_bytes_str (c := c) (hg w hw) src dst e hs he hd]
  exact ⟨rfl, rfl⟩
theorem step_conv_b {P : Program} (w : World) {ops : Array Oper} {o : Oper} {a : Act} {K : Act → World → Prop} {Q : Exit → Act → World → Prop} {E : Prop} (hw : Region.wanted o (yielded ops a.tmps) = true) (src dst e : TypeId) (x : Operand) (ho : o.op = .convert src dst x)
    (A : Option Addr) (n c : Nat) (hx : a.eval x = .slice A n c) (B : Nat) (bs : List UInt8) (hr : Reads w B 1 A n (bsV bs)) (hs : P.underlying src = some (.slice e)) (he : P.underlying e = some (.int .u8)) (hd : P.underlying dst = some .string)
    (h : K (a.put o.dst (.string ⟨bs.toArray⟩)) w) : if Region.wanted o (yielded ops a.tmps) = true then Oper.wp P o a w K Q else E := by
  rw [if_pos hw]
  unfold Oper.wp execOp
  simp only [ho, hx, Sem.run_bind, Sem.run_pure, Result.andThen_ok, run_bytes_str (c := c) hr src dst e hs he hd]
  exact h
theorem step_eql_arr {P : Program} (w : World) {ops : Array Oper} {o : Oper} {a : Act} {K : Act → World → Prop} {Q : Exit → Act → World → Prop} {E : Prop} (hw : Region.wanted o (yielded ops a.tmps) = true) (t u e : TypeId) (x y : Operand) (ho : o.op = .binOp .eql t x y u)
    (L : List UInt8) (hx : a.eval x = .agg (bsV L).toArray) (hy : a.eval y = .agg (bsV L).toArray) (hm : P.eqGuardType P.depth t = false) (n : Nat) (i : TypeInfo) (hL : L.length = n) (ht : P.underlying t = some (.array n e)) (hi : P.info? e = some i) (hc : P.cellsOf e = 1) (he : P.underlying e = some (.int .u8)) (hpl : P.plainKey e = true)
    (h : K (a.put o.dst (.bool true)) w) : if Region.wanted o (yielded ops a.tmps) = true then Oper.wp P o a w K Q else E := by
  rw [if_pos hw]
  unfold Oper.wp execOp
  simp only [ho, hx, hy, Sem.run_bind, Sem.run_pure, Result.andThen_ok, run_eqGuard_agg w .eql t x y _ _ hm, run_eql_arr w L hL ht hi hc he hpl]
  exact h
end Go.Proofs.Ytfbkkmnkpjgciaa
