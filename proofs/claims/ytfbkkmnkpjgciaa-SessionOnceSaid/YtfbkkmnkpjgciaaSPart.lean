/- Parts of a known block: loaded and stored, in plain regions and in drawn ones; what becomes of a client. No condition. -/
import Derived.Test.YtfbkkmnkpjgciaaSOps
namespace Go.Proofs.Ytfbkkmnkpjgciaa
open Go.RowKit
section
variable {P : Program} {w : World} {g : Nat} {t : TypeId} {cs : Array Value}
theorem run_store_part (ty : TypeId) (j : Nat) (v : Value) (vs : List Value) (cs' : List Value) (h : Blk w g t cs) (hv : v.cells.toList = vs) (hfit : j + vs.length ≤ cs.size) (hi : (P.info? ty).map (·.size) = some vs.length) (h1 : ∀ u ∈ vs, u.oneCell' = true)
    (hcs : cs.toList.take j ++ vs ++ cs.toList.drop (j + vs.length) = cs') : (storeVar ty ⟨g, j, none⟩ v).run P w = .ok () (w.setRow g cs'.toArray) := by
  have hst := run_storeCells_fr (P := P) g j t (0, 0) vs 0 cs w h (fun j _ hh => by omega) (by omega) h1
  simp only [Nat.add_zero] at hst
  rw [hcs] at hst
  cases hq : P.info? ty with
  | none => simp [hq] at hi
  | some i =>
    have hs : v.cells.size = i.size := by
      have : v.cells.size = vs.length := by rw [← hv]; simp
      simp [hq] at hi; omega
    simp [storeVar, sizeOf, typeInfo, hq, hs, hv, hst]
theorem run_load_part (ty : TypeId) (o : Nat) (part : List Value) (d : TypeDesc) (h : Blk w g t cs) (hp : ∀ (j : Nat) v, part[j]? = some v → cs[o + j]? = some v) (hu : P.underlying ty = some d) (hd : d.isRow = true) (hi : (P.info? ty).map (·.size) = some part.length) :
    (loadVar ty ⟨g, o, none⟩).run P w = .ok (.agg part.toArray) w :=
  run_loadVar_mid w g o ty part d (fun j v hv => by rw [h.cell]; exact hp j v hv) hu hd hi
end
section
variable {P : Program} {ops : Array Oper} {rest : List Oper} {op : Oper} {a : Act} {w : World} {Q : Exit → Act → World → Prop}
theorem wpList_store_part (hgd : op.guard = none) (ty : TypeId) (x y : Operand) (ho : op.op = .store ty x y) (g j : Nat) (t : TypeId) (cs : Array Value) (v : Value) (vs cs' : List Value) (hx : a.eval x = .pointer (some ⟨g, j, none⟩)) (hy : a.eval y = v)
    (h : Blk w g t cs) (hv : v.cells.toList = vs) (hfit : j + vs.length ≤ cs.size) (hi : (P.info? ty).map (·.size) = some vs.length) (h1 : ∀ u ∈ vs, u.oneCell' = true) (hcs : cs.toList.take j ++ vs ++ cs.toList.drop (j + vs.length) = cs')
    (hk : ∀ w', Blk w' g t cs'.toArray → w.grownBy w' (some g) → wpList P ops Q rest (a.put op.dst undef) w') : wpList P ops Q (op :: rest) a w := by
  refine wpList_plain hgd fun _ hK => ?_
  have hs := run_store_part (P := P) ty j v vs cs' h hv hfit hi h1 hcs
  unfold Oper.wp execOp
  simp only [ho, hx, hy, Instr.storeAt, Instr.sureAddr, Sem.run_bind, Sem.run_pure, Result.andThen_ok, hs]
  have hb := setRow_blk (cs' := cs'.toArray) h
  exact hK _ _ (hk _ hb.1 hb.2)
theorem wpList_load_part (hgd : op.guard = none) (ty : TypeId) (x : Operand) (ho : op.op = .load ty x) (g o : Nat) (t : TypeId) (cs : Array Value) (part : List Value) (d : TypeDesc) (hx : a.eval x = .pointer (some ⟨g, o, none⟩))
    (h : Blk w g t cs) (hp : ∀ (j : Nat) v, part[j]? = some v → cs[o + j]? = some v) (hu : P.underlying ty = some d) (hd : d.isRow = true) (hi : (P.info? ty).map (·.size) = some part.length)
    (hk : wpList P ops Q rest (a.put op.dst (.agg part.toArray)) w) : wpList P ops Q (op :: rest) a w :=
  wpList_load_mid hgd ty x ho g o hx part d (fun j v hv => by rw [h.cell]; exact hp j v hv) hu hd hi hk
end
section
variable {P : Program} {l : List Oper} {S : World → Prop} {a : Act} {o : Oper}
theorem step_store_part {w : World} {K : Act → World → Prop} {Q : Exit → Act → World → Prop} {E : Prop} (hw : Region.wanted o (yielded l.toArray a.tmps) = true) (ty : TypeId) (x y : Operand) (ho : o.op = .store ty x y) (g j : Nat) (t : TypeId) (cs : Array Value) (v : Value) (vs cs' : List Value) (hx : a.eval x = .pointer (some ⟨g, j, none⟩)) (hy : a.eval y = v)
    (h : Blk w g t cs) (hv : v.cells.toList = vs) (hfit : j + vs.length ≤ cs.size) (hi : (P.info? ty).map (·.size) = some vs.length) (h1 : ∀ u ∈ vs, u.oneCell' = true) (hcs : cs.toList.take j ++ vs ++ cs.toList.drop (j + vs.length) = cs')
    (hk : ∀ w', Blk w' g t cs'.toArray → w.grownBy w' (some g) → K (a.put o.dst undef) w') : if Region.wanted o (yielded l.toArray a.tmps) = true then Oper.wp P o a w K Q else E := by
  rw [if_pos hw]
  have hs := run_store_part (P := P) ty j v vs cs' h hv hfit hi h1 hcs
  unfold Oper.wp execOp
  simp only [ho, hx, hy, Instr.storeAt, Instr.sureAddr, Sem.run_bind, Sem.run_pure, Result.andThen_ok, hs]
  have hb := setRow_blk (cs' := cs'.toArray) h
  exact hk _ hb.1 hb.2
theorem y_loadpart (ty : TypeId) (x : Operand) (hw : Region.wanted o (yielded l.toArray a.tmps) = true) (ho : o.op = .load ty x) (g off : Nat) (hx : a.eval x = .pointer (some ⟨g, off, none⟩)) (t : TypeId) (cs : Array Value) (part : List Value) (d : TypeDesc) (hg : ∀ w, S w → Blk w g t cs)
    (hp : ∀ (j : Nat) v, part[j]? = some v → cs[off + j]? = some v) (hu : P.underlying ty = some d) (hd : d.isRow = true) (hi : (P.info? ty).map (·.size) = some part.length) : YieldsIf P l.toArray S o (.agg part.toArray) a :=
  yieldsIf_load_mid hw ty x ho g off hx part d (fun w hS j v hv => by rw [(hg w hS).cell]; exact hp j v hv) hu hd hi
end
theorem key_isRow : ∃ d, Try.prog.underlying 36 = some d ∧ d.isRow = true := ⟨_, Try.underlying36, rfl⟩
theorem key_info (ks : List UInt8) (hk : ks.length = 16) : (Try.prog.info? 36).map (·.size) = some (bsV ks).length := by
  have e := key_size hk
  rw [List.size_toArray] at e
  exact e
theorem one1 {v : Value} (h : v.oneCell' = true) : ∀ u ∈ [v], u.oneCell' = true := by
  intro u hu; simp at hu; subst hu; exact h
section
variable {c : Cli} (h : c.Ok)
include h
theorem Cli.set_id (x : Nat) : c.cs.toArray.toList.take 20 ++ [.int .u32 (x : Int)] ++ c.cs.toArray.toList.drop (20 + [Value.int .u32 (x : Int)].length) = { c with id := x }.cs := by
  obtain ⟨a0, a1, a2, a3, a4, a5, a6, a7, a8, a9, a10, a11, a12, a13, a14, a15, b0, b1, b2, b3, b4, b5, b6, b7, b8, b9, b10, b11, b12, b13, b14, b15, e1, e2⟩ := c.open_ h
  obtain ⟨user, key, level, nonce, server, id, sess, opn, hi, se, out⟩ := c
  dsimp only at e1 e2
  subst e1 e2
  rfl
theorem Cli.set_server (x : Nat) : c.cs.toArray.toList.take 19 ++ [.int .u64 (x : Int)] ++ c.cs.toArray.toList.drop (19 + [Value.int .u64 (x : Int)].length) = { c with server := x }.cs := by
  obtain ⟨a0, a1, a2, a3, a4, a5, a6, a7, a8, a9, a10, a11, a12, a13, a14, a15, b0, b1, b2, b3, b4, b5, b6, b7, b8, b9, b10, b11, b12, b13, b14, b15, e1, e2⟩ := c.open_ h
  obtain ⟨user, key, level, nonce, server, id, sess, opn, hi, se, out⟩ := c
  dsimp only at e1 e2
  subst e1 e2
  rfl
theorem Cli.set_opn (x : Bool) : c.cs.toArray.toList.take 37 ++ [.bool x] ++ c.cs.toArray.toList.drop (37 + [Value.bool x].length) = { c with opn := x }.cs := by
  obtain ⟨a0, a1, a2, a3, a4, a5, a6, a7, a8, a9, a10, a11, a12, a13, a14, a15, b0, b1, b2, b3, b4, b5, b6, b7, b8, b9, b10, b11, b12, b13, b14, b15, e1, e2⟩ := c.open_ h
  obtain ⟨user, key, level, nonce, server, id, sess, opn, hi, se, out⟩ := c
  dsimp only at e1 e2
  subst e1 e2
  rfl
theorem Cli.set_out (x : Nat) : c.cs.toArray.toList.take 40 ++ [.int .u32 (x : Int)] ++ c.cs.toArray.toList.drop (40 + [Value.int .u32 (x : Int)].length) = { c with out := x }.cs := by
  obtain ⟨a0, a1, a2, a3, a4, a5, a6, a7, a8, a9, a10, a11, a12, a13, a14, a15, b0, b1, b2, b3, b4, b5, b6, b7, b8, b9, b10, b11, b12, b13, b14, b15, e1, e2⟩ := c.open_ h
  obtain ⟨user, key, level, nonce, server, id, sess, opn, hi, se, out⟩ := c
  dsimp only at e1 e2
  subst e1 e2
  rfl
theorem Cli.set_win (x y : Nat) : c.cs.toArray.toList.take 38 ++ [.int .u32 (x : Int), .int .u32 (y : Int)] ++ c.cs.toArray.toList.drop (38 + [Value.int .u32 (x : Int), .int .u32 (y : Int)].length) = { c with hi := x, se := y }.cs := by
  obtain ⟨a0, a1, a2, a3, a4, a5, a6, a7, a8, a9, a10, a11, a12, a13, a14, a15, b0, b1, b2, b3, b4, b5, b6, b7, b8, b9, b10, b11, b12, b13, b14, b15, e1, e2⟩ := c.open_ h
  obtain ⟨user, key, level, nonce, server, id, sess, opn, hi, se, out⟩ := c
  dsimp only at e1 e2
  subst e1 e2
  rfl
theorem Cli.set_sess (x : List UInt8) (hx : x.length = 16) : c.cs.toArray.toList.take 21 ++ bsV x ++ c.cs.toArray.toList.drop (21 + (bsV x).length) = { c with sess := x }.cs := by
  obtain ⟨a0, a1, a2, a3, a4, a5, a6, a7, a8, a9, a10, a11, a12, a13, a14, a15, b0, b1, b2, b3, b4, b5, b6, b7, b8, b9, b10, b11, b12, b13, b14, b15, e1, e2⟩ := c.open_ h
  obtain ⟨d0, d1, d2, d3, d4, d5, d6, d7, d8, d9, d10, d11, d12, d13, d14, d15, rfl⟩ := list16 x hx
  obtain ⟨user, key, level, nonce, server, id, sess, opn, hi, se, out⟩ := c
  dsimp only at e1 e2
  subst e1 e2
  rfl
end
end Go.Proofs.Ytfbkkmnkpjgciaa
