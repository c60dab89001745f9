/- Whole arrays: stored into a known block; copied into a part of one; the results that lie in one. Appending one element. No condition. -/
import Derived.Test.YtfbkkmnkpjgciaaOwn
namespace Go.Proofs.Ytfbkkmnkpjgciaa
open Go.RowKit
section
variable {P : Program} {w : World}
theorem setRow_blk {g : Nat} {t : TypeId} {cs cs' : Array Value} (h : Blk w g t cs) : Blk (w.setRow g cs') g t cs' ∧ w.grownBy (w.setRow g cs') (some g) :=
  ⟨setRow_heap w g cs cs' t (0, 0) h, ⟨rfl, rfl, rfl, by simp, fun k _ hk => setRow_other w g k _ (fun e => hk (by rw [e]))⟩⟩
theorem run_store_blk (ty : TypeId) (g : Nat) (t : TypeId) (cs cs' : Array Value) (h : Blk w g t cs) (hs : cs'.size = cs.size) (hi : (P.info? ty).map (·.size) = some cs'.size) (h1 : ∀ v ∈ cs'.toList, v.oneCell' = true) :
    (storeVar ty ⟨g, 0, none⟩ (.agg cs')).run P w = .ok () (w.setRow g cs') := by
  have hst := run_storeCells_fr (P := P) g 0 t (0, 0) cs'.toList 0 cs w h (fun j _ hh => by omega) (by simp; omega) h1
  simp only [Nat.add_zero, List.take_zero, List.nil_append, Nat.zero_add] at hst
  have e : cs'.toList ++ cs.toList.drop cs'.toList.length = cs'.toList := by
    rw [List.drop_of_length_le (by simp; omega), List.append_nil]
  rw [e] at hst
  cases hq : P.info? ty with
  | none => simp [hq] at hi
  | some i =>
    have hs : cs'.size = i.size := by simp [hq] at hi; omega
    simp [storeVar, sizeOf, typeInfo, hq, Value.cells, hs, hst]
theorem wpList_store_blk {ops : Array Oper} {rest : List Oper} {op : Oper} {a : Act} {Q : Exit → Act → World → Prop} (hgd : op.guard = none) (ty : TypeId) (x y : Operand) (ho : op.op = .store ty x y)
    (g : Nat) (t : TypeId) (cs cs' : Array Value) (hx : a.eval x = .pointer (some ⟨g, 0, none⟩)) (hy : a.eval y = .agg cs')
    (h : Blk w g t cs) (hs : cs'.size = cs.size) (hi : (P.info? ty).map (·.size) = some cs'.size) (h1 : ∀ v ∈ cs'.toList, v.oneCell' = true)
    (hk : ∀ w', Blk w' g t cs' → w.grownBy w' (some g) → wpList P ops Q rest (a.put op.dst undef) w') : wpList P ops Q (op :: rest) a w := by
  refine wpList_plain hgd fun _ hK => ?_
  unfold Oper.wp execOp
  simp only [ho, hx, hy, Instr.storeAt, Instr.sureAddr, Sem.run_bind, Sem.run_pure, Result.andThen_ok, run_store_blk ty g t cs cs' h hs hi h1]
  have hb := setRow_blk (cs' := cs') h
  exact hK _ _ (hk _ hb.1 hb.2)
/-- copy(d, s) into a part of a known block. -/
theorem step_copy_blk {ops : Array Oper} {o : Oper} {a : Act} {K : Act → World → Prop} {Q : Exit → Act → World → Prop} {E : Prop} (hgd : o.guard = none) (d s : Operand) (dT sT : TypeId)
    (ho : o.op = .call { callee := .builtin .copy, args := #[d, s], argTypes := #[dT, sT] }) (elem : TypeId) (hu : P.underlying dT = some (.slice elem)) (hsz : (P.info? elem).map (·.size) = some 1)
    (g off dLen dCap sLen sCap : Nat) (ad : Addr) (hd : a.eval d = .slice (some ⟨g, off, none⟩) dLen dCap) (hs : a.eval s = .slice (some ad) sLen sCap)
    (t : TypeId) (cur : Array Value) (hg : Blk w g t cur) (cs : List Value) (hn : cs.length = Nat.min sLen dLen) (hc : ∀ j v, cs[j]? = some v → w.cell? (ad.add j) = some v)
    (hfit : off + cs.length ≤ cur.size) (h1 : ∀ v ∈ cs, v.oneCell' = true)
    (h : ∀ w', Blk w' g t (cur.toList.take off ++ cs ++ cur.toList.drop (off + cs.length)).toArray → w.grownBy w' (some g) → K (a.put o.dst (goInt cs.length)) w') :
    if Region.wanted o (yielded ops a.tmps) = true then Oper.wp P o a w K Q else E := by
  rw [if_pos (by simp [Region.wanted, hgd])]
  have hrun := run_copy_row (P := P) w dT sT o.type elem g off dLen dCap ad sLen sCap cur t cs hu hsz hg hn hc hfit h1
  unfold Oper.wp execOp
  simp only [ho, resolve, invoke, builtin, Sem.run_bind, Sem.run_pure, Result.andThen_ok, List.map_toArray, List.map_cons, List.map_nil, hd, hs, hrun]
  have hb := setRow_blk (cs' := (cur.toList.take off ++ cs ++ cur.toList.drop (off + cs.length)).toArray) hg
  exact h _ hb.1 hb.2
theorem results_blk {fn : Func} {p : Tmp} {ty : TypeId} (h : fn.results = #[.cell p ty]) (tmps : Array Value) (g : Nat) (t : TypeId) (cs : Array Value) (d : TypeDesc)
    (hp : tmps.getD p undef = .pointer (some ⟨g, 0, none⟩)) (hg : Blk w g t cs)
    (hu : P.underlying ty = some d) (hd : (match d with | .struct _ | .array _ _ => true | _ => false) = true) (hi : (P.info? ty).map (·.size) = some cs.size) :
    (results fn tmps).run P w = .ok (.agg cs) w := results_cell_row h tmps w g t cs (0, 0) d hp hg hu hd hi
end
section
variable {P : Program} (w0 : World)
/-- 'v = append(v, u)': one element of one cell; the old slice still good. -/
theorem wpList_append1_O {ops : Array Oper} {rest : List Oper} {o : Oper} {a : Act} {Q : Exit → Act → World → Prop} (s x : Operand) (t : TypeId) (v u : Value)
    (ho : o.op = .call { callee := .builtin .append, args := #[s, x], argTypes := #[t, t] }) (hgd : o.guard = none) (hs : a.eval s = v) (hx : a.eval x = .slice (some ⟨w0.heap.size, 0, none⟩) 1 1)
    (base : Nat) (e : TypeId) (i : TypeInfo) (z : Value) (bytes : Nat) (ht : P.underlying t = some (.slice e)) (hi : P.info? e = some i) (hz : i.zero = some z)
    (hsize : i.size = 1) (hby : i.bytes = bytes) (hzs : z.cells.size = 1)
    (n : Nat) (xs : List Value) (hown : Own w0 base e 1 v n xs) (h1 : u.oneCell' = true)
    (h63 : n + 1 ≤ maxLen) (hbytes : (n + 1) * bytes ≤ 140737488355328) (hbase : base ≤ w0.heap.size)
    (h : ∀ v' w', Own w' base e 1 v' (n + 1) (xs ++ [u]) → Own w' base e 1 v n xs → Below base w0 w' → wpList P ops Q rest (a.put o.dst v') w') :
    wpList P ops Q (o :: rest) a (w0.alloc (.cells #[u] e)) := by
  have hr : Reads (w0.alloc (.cells #[u] e)) (w0.heap.size + 1) 1 (some ⟨w0.heap.size, 0, none⟩) 1 [u] := by
    have := Reads.of_blk (B := w0.heap.size + 1) (Blk.new w0 e #[u]) 0 1 (by simp) (Nat.lt_succ_self _)
    simpa using this
  exact wpList_append_O _ s x t v _ 1 1 ho hgd hs hx base e i z 1 bytes ht hi hz hsize hby hzs (by omega) n xs (hown.alloc _) _ [u] hr (by simpa using h1) h63 hbytes (by rw [size_alloc]; omega)
    fun v' w' h2 h3 h4 _ => h v' w' h2 h3 (((Below.refl base w0).alloc hbase _).trans h4)
theorem step_append1_O {ops : Array Oper} {o : Oper} {a : Act} {K : Act → World → Prop} {Q : Exit → Act → World → Prop} {E : Prop} (s x : Operand) (t : TypeId) (v u : Value)
    (ho : o.op = .call { callee := .builtin .append, args := #[s, x], argTypes := #[t, t] }) (hgd : o.guard = none) (hs : a.eval s = v) (hx : a.eval x = .slice (some ⟨w0.heap.size, 0, none⟩) 1 1)
    (base : Nat) (e : TypeId) (i : TypeInfo) (z : Value) (bytes : Nat) (ht : P.underlying t = some (.slice e)) (hi : P.info? e = some i) (hz : i.zero = some z)
    (hsize : i.size = 1) (hby : i.bytes = bytes) (hzs : z.cells.size = 1)
    (n : Nat) (xs : List Value) (hown : Own w0 base e 1 v n xs) (h1 : u.oneCell' = true)
    (h63 : n + 1 ≤ maxLen) (hbytes : (n + 1) * bytes ≤ 140737488355328) (hbase : base ≤ w0.heap.size)
    (h : ∀ v' w', Own w' base e 1 v' (n + 1) (xs ++ [u]) → Own w' base e 1 v n xs → Below base w0 w' → (w0.alloc (.cells #[u] e)).grownBy w' v.ownBlock → K (a.put o.dst v') w') :
    if Region.wanted o (yielded ops a.tmps) = true then Oper.wp P o a (w0.alloc (.cells #[u] e)) K Q else E := by
  have hr : Reads (w0.alloc (.cells #[u] e)) (w0.heap.size + 1) 1 (some ⟨w0.heap.size, 0, none⟩) 1 [u] := by
    have := Reads.of_blk (B := w0.heap.size + 1) (Blk.new w0 e #[u]) 0 1 (by simp) (Nat.lt_succ_self _)
    simpa using this
  exact step_append_O _ s x t v _ 1 1 ho hgd hs hx base e i z 1 bytes ht hi hz hsize hby hzs (by omega) n xs (hown.alloc _) _ [u] hr (by simpa using h1) h63 hbytes (by rw [size_alloc]; omega)
    fun v' w' h2 h3 h4 h5 => h v' w' h2 h3 (((Below.refl base w0).alloc hbase _).trans h4) h5
/-- '[]byte(s)' as an operation of a plain region. -/
theorem wpList_str_bytes {ops : Array Oper} {rest : List Oper} {o : Oper} {a : Act} {Q : Exit → Act → World → Prop} (x : Operand) (src dst e : TypeId) (s : ByteArray) (ho : o.op = .convert src dst x) (hgd : o.guard = none) (hx : a.eval x = .string s)
    (hs : P.underlying src = some .string) (hd : P.underlying dst = some (.slice e)) (he : P.underlying e = some (.int .u8)) (base : Nat) (hb : base ≤ w0.heap.size) (hm : s.size ≤ maxLen)
    (h : ∀ v w', Own w' base e 1 v s.size (s.data.toList.map fun b => .int .u8 (b.toNat : Int)) → Below w0.heap.size w0 w' → wpList P ops Q rest (a.put o.dst v) w') : wpList P ops Q (o :: rest) a w0 := by
  refine wpList_plain hgd fun _ hK => ?_
  obtain ⟨v, w', hrun, h2, h3⟩ := run_str_bytes (P := P) w0 src dst e s hs hd he base hb hm
  unfold Oper.wp execOp
  simp only [ho, hx, Sem.run_bind, Sem.run_pure, Result.andThen_ok, hrun]
  exact hK _ _ (h v w' h2 h3)
end
end Go.Proofs.Ytfbkkmnkpjgciaa
