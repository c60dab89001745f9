/- slices.Clone and slices.DeleteFunc of sessions (printed by wip/gen_sdel.py). -/
import Derived.Test.YtfbkkmnkpjgciaaSFind
namespace Go.Proofs.Ytfbkkmnkpjgciaa
open Go.RowKit
theorem info_s : (Try.prog.info? 84).map (fun i => (i.zero, i.size, i.bytes)) = some (some (.agg zSess.cs.toArray), 26, 88) := by kernel_rfl
theorem zs_size : (Value.agg zSess.cs.toArray).cells.size = 26 := Sess.size zSess_ok
theorem run_slice_s0 (w : World) : (Instr.buildSlice 51 0 #[]).run Try.prog w = .ok (.slice (some ⟨w.heap.size, 0, none⟩) 0 0) (w.alloc (.cells #[] 84)) := by kernel_rfl
set_option maxRecDepth 100000 in
/-- slices.Clone of sessions -/
theorem clone_s (w : World) (A : Option Addr) (n c : Nat) (L : List Sess) (h : SessL w w.heap.size A n L) (hn : n ≤ 1000) :
    Calls Try.prog 42 #[.slice A n c] w fun e w' => ∃ v, e = .returned v ∧ w'.ownsRow w.heap.size 84 26 v n (flatS L) ∧ Below w.heap.size w w' := by
  obtain ⟨i0, hi, hz0, hz1, hz2⟩ := info_parts info_s
  have q22 : ∀ (w : World) (a : Option Addr) (n c n' c' : Nat), (binOp .eql 51 (.slice a n c) (.slice none n' c')).run Try.prog w = .ok (.bool a.isNone) w := fun w a n c n' c' => Lib.run_eql_slice_nil w _ _ a n c n' c' Try.underlying51
  cases A with
  | none =>
    have hn0 : n = 0 := by
      rcases Nat.eq_zero_or_pos n with h0 | h0
      · exact h0
      · obtain ⟨ad, e, _⟩ := h.reads.2 h0
        cases e
    subst hn0
    have hl : flatS L = [] := List.eq_nil_of_length_eq_zero (by have := h.reads.1; omega)
    have HL := hide hl
    clear hl h hn
    go_enter Try.func42, Try.ntmps42
    go_wp2_with fail
    go_ret
    exact ⟨_, rfl, by rw [unhide HL]; exact World.ownsRow_nil _ _ _ _, Below.refl _ _⟩
  | some ad =>
    have HR := hide ((h.reads.alloc (Nat.le_refl _) (.cells #[] 84)).more (size_le w (.cells #[] 84)))
    have HO : Hid ((w.alloc (.cells #[] 84)).ownsRow w.heap.size 84 26 (.slice (some ⟨w.heap.size, 0, none⟩) 0 0) 0 []) := hide (World.ownsRow_made w #[] 0 (Nat.le_refl _) (Nat.zero_le _) (by simp))
    clear h
    go_enter Try.func42, Try.ntmps42
    go_wp2_with (first
      | (at_builtin; refine wpList_append_any (w.alloc (.cells #[] 84)) rfl (.tmp 5) (.tmp 6) 51 rfl w.heap.size 84 i0 (.agg zSess.cs.toArray) 26 88 Try.underlying51 hi hz0 hz1 hz2 zs_size (by omega) _ 0 [] rfl (unhide HO) _ (some ad) n c (flatS L) rfl (unhide HR) (flatS_one L) (by unfold maxLen; omega) (by omega) (size_le _ _) ?_
         intro v8 w8 ho8 hb8 _
         have HO8 := hide ho8
         have HB8 := hide hb8
         clear ho8 hb8)
      | fail)
    go_ret
    exact ⟨_, rfl, by have := unhide HO8; rwa [Nat.zero_add, List.nil_append] at this, ((Below.refl _ _).alloc (Nat.le_refl _) _).grown (unhide HB8) (size_le _ _) (fun j e => by have e1 : some w.heap.size = some j := e; injection e1 with e1; omega)⟩
theorem findG_spec (p : Sess → Bool) : ∀ (L : List Sess) (k : Nat), (findG p L k = -1 ∧ ∀ x ∈ L, p x = false) ∨ ∃ i x, findG p L k = ((k + i : Nat) : Int) ∧ L[i]? = some x ∧ p x = true ∧ ∀ y ∈ L.take i, p y = false
  | [], _ => .inl ⟨rfl, fun x hx => by cases hx⟩
  | y :: r, k => by
    cases h : p y with
    | true => exact .inr ⟨0, y, by simp [findG, h], rfl, h, fun z hz => by simp at hz⟩
    | false =>
      rcases findG_spec p r (k + 1) with ⟨e, ha⟩ | ⟨i, x, e, hx, hp, ha⟩
      · refine .inl ⟨by simp [findG, h, e], fun x hx => ?_⟩
        rcases List.mem_cons.1 hx with rfl | hx
        · exact h
        · exact ha x hx
      · refine .inr ⟨i + 1, x, by simp only [findG, h]; rw [if_neg (by simp), e]; congr 1; omega, by simpa using hx, hp, fun z hz => ?_⟩
        rw [List.take_succ_cons] at hz
        rcases List.mem_cons.1 hz with rfl | hz
        · exact h
        · exact ha z hz
def keepL (p : Sess → Bool) (L : List Sess) : List Sess := L.filter fun x => !p x
theorem keepL_all {p : Sess → Bool} {L : List Sess} (h : ∀ x ∈ L, p x = false) : keepL p L = L := List.filter_eq_self.2 fun x hx => by rw [h x hx]; rfl
theorem keepL_ok {p : Sess → Bool} {L : List Sess} (h : AllOk L) : AllOk (keepL p L) := fun x hx => h x (List.mem_filter.1 hx).1
theorem keepL_le (p : Sess → Bool) (L : List Sess) : (keepL p L).length ≤ L.length := List.length_filter_le _ _
/-- what the row of sessions holds while some are removed -/
structure DelInv (p : Sess → Bool) (L M : List Sess) (i j : Nat) : Prop where
  len : M.length = L.length
  ok : AllOk M
  lt : i < j
  low : M.take i = keepL p (L.take j)
  high : M.drop j = L.drop j
theorem take_succ_get {α : Type} {L : List α} {j : Nat} {x : α} (h : L[j]? = some x) : L.take (j + 1) = L.take j ++ [x] := by rw [List.take_add_one, h]; rfl
theorem DelInv.start {p : Sess → Bool} {L : List Sess} {i : Nat} {x : Sess} (hok : AllOk L) (hx : L[i]? = some x) (hp : p x = true) (h : ∀ y ∈ L.take i, p y = false) : DelInv p L L i (i + 1) :=
  ⟨rfl, hok, by omega, by rw [take_succ_get hx, keepL, List.filter_append]; simp [hp]; exact (keepL_all h).symm, rfl⟩
theorem DelInv.get {p : Sess → Bool} {L M : List Sess} {i j : Nat} (h : DelInv p L M i j) : M[j]? = L[j]? := by
  have := congrArg (fun l : List Sess => l[0]?) h.high
  simpa using this
theorem drop_of_drop {α : Type} {L M : List α} {j : Nat} (h : M.drop j = L.drop j) : M.drop (j + 1) = L.drop (j + 1) := by
  rw [← List.drop_drop, ← List.drop_drop, h]
theorem DelInv.skip {p : Sess → Bool} {L M : List Sess} {i j : Nat} {x : Sess} (h : DelInv p L M i j) (hx : L[j]? = some x) (hp : p x = true) : DelInv p L M i (j + 1) :=
  ⟨h.len, h.ok, by have := h.lt; omega, by rw [take_succ_get hx, keepL, List.filter_append, h.low]; simp [keepL, hp], drop_of_drop h.high⟩
theorem DelInv.keep {p : Sess → Bool} {L M : List Sess} {i j : Nat} {x : Sess} (h : DelInv p L M i j) (hx : L[j]? = some x) (hxo : x.Ok) (hp : p x = false) : DelInv p L (M.set i x) (i + 1) (j + 1) := by
  have hj := (List.getElem?_eq_some_iff.1 hx).1
  have hl := h.len
  have hlt := h.lt
  refine ⟨by simp [hl], fun y hy => ?_, by omega, ?_, ?_⟩
  · rcases List.mem_or_eq_of_mem_set hy with hy | rfl
    · exact h.ok y hy
    · exact hxo
  · rw [take_succ_get (x := x) (by rw [List.getElem?_set_self (by omega)]), take_succ_get hx, keepL, List.filter_append]
    have e1 : (M.set i x).take i = M.take i := by rw [List.take_set]; exact List.set_eq_of_length_le (by simp; omega)
    rw [e1, h.low]
    simp [keepL, hp]
  · rw [List.drop_set, if_pos (by omega)]
    exact drop_of_drop h.high
/-- a block whose first sessions are M -/
structure RowM (w : World) (g cap : Nat) (M : List Sess) (cur : Array Value) : Prop where
  blk : Blk w g 84 cur
  size : cur.size = cap * 26
  le : M.length ≤ cap
  cap : cap ≤ maxLen
  take : cur.toList.take (M.length * 26) = flatS M
theorem RowM.below {w w' : World} {g cap : Nat} {M : List Sess} {cur : Array Value} (h : RowM w g cap M cur) (hb : Below w.heap.size w w') : RowM w' g cap M cur := ⟨h.blk.below hb h.blk.lt, h.size, h.le, h.cap, h.take⟩
theorem RowM.alloc {w : World} {g cap : Nat} {M : List Sess} {cur : Array Value} (h : RowM w g cap M cur) (o : Obj) : RowM (w.alloc o) g cap M cur := ⟨h.blk.alloc o, h.size, h.le, h.cap, h.take⟩
theorem RowM.grown {w w' : World} {g g' cap : Nat} {M : List Sess} {cur : Array Value} (h : RowM w g cap M cur) (hg : w.grownBy w' (some g')) (hne : g ≠ g') : RowM w' g cap M cur := ⟨h.blk.grown hg (fun e => hne (by injection e)), h.size, h.le, h.cap, h.take⟩
theorem RowM.own {w : World} {g cap base : Nat} {M : List Sess} {cur : Array Value} (h : RowM w g cap M cur) (hok : AllOk M) (hb : base ≤ g) (i : Nat) (hi : i ≤ M.length) : w.ownsRow base 84 26 (.slice (some ⟨g, 0, none⟩) i cap) i (flatS (M.take i)) := by
  have hok' : AllOk (M.take i) := fun x hx => hok x (List.mem_of_mem_take hx)
  refine ⟨by rw [flatS_len hok']; simp; omega, .inr ⟨g, cap, cur, rfl, hb, h.blk, by have := h.le; omega, h.cap, h.size, ?_⟩⟩
  have e1 : cur.toList.take (i * 26) = (cur.toList.take (M.length * 26)).take (i * 26) := by rw [List.take_take]; congr 1; omega
  rw [e1, h.take]
  have e3 : flatS M = flatS (M.take i) ++ flatS (M.drop i) := by
    unfold flatS
    rw [← List.flatMap_append, List.take_append_drop]
  rw [e3]
  exact List.take_left' (by rw [flatS_len hok']; simp; omega)
theorem RowM.of_own {w : World} {base n : Nat} {v : Value} {L : List Sess} (h : w.ownsRow base 84 26 v n (flatS L)) (hok : AllOk L) (hn : 0 < n) : ∃ g cap cur, v = .slice (some ⟨g, 0, none⟩) n cap ∧ base ≤ g ∧ RowM w g cap L cur ∧ L.length = n := by
  have hl : L.length = n := by have := h.1; rw [flatS_len hok] at this; omega
  rcases h.2 with ⟨_, rfl⟩ | ⟨g, cap, cur, h1, h2, h3, h4, h5, h6, h7⟩
  · omega
  · exact ⟨g, cap, cur, h1, h2, ⟨h3, h6, by omega, h5, by rw [hl]; exact h7⟩, hl⟩
theorem RowM.range {w : World} {g cap j : Nat} {M : List Sess} {cur : Array Value} {x : Sess} (h : RowM w g cap M cur) (hok : AllOk M) (hx : M[j]? = some x) : w.rangeAt g (j * 26) x.cs := by
  intro k v hv
  have hj := (List.getElem?_eq_some_iff.1 hx).1
  have hk := (List.getElem?_eq_some_iff.1 hv).1
  rw [Sess.len (hok x (List.mem_of_getElem? hx))] at hk
  have h1 := flatS_get hok j x hx k v hv
  rw [h.blk.cell, ← h1, ← h.take, List.getElem?_take_of_lt (by omega)]
  simp
theorem flatS_set {M : List Sess} (hok : AllOk M) : ∀ (i : Nat) (x : Sess), i < M.length → flatS (M.set i x) = (flatS M).take (i * 26) ++ x.cs ++ (flatS M).drop (i * 26 + 26) := by
  induction M with
  | nil => intro i x h; simp at h
  | cons y M ih =>
    obtain ⟨h1, h2⟩ := hok.cons
    have hy := Sess.len h1
    intro i x hi
    cases i with
    | zero =>
      simp only [List.set_cons_zero, flatS, List.flatMap_cons, Nat.zero_mul, List.take_zero, List.nil_append, Nat.zero_add]
      rw [List.drop_left' hy]
    | succ i =>
      have := ih h2 i x (by simpa using hi)
      simp only [List.set_cons_succ]
      unfold flatS at this ⊢
      rw [List.flatMap_cons, List.flatMap_cons, this, show (i + 1) * 26 = y.cs.length + i * 26 by omega, List.take_length_add_append,
        show y.cs.length + i * 26 + 26 = y.cs.length + (i * 26 + 26) by omega, List.drop_length_add_append]
      simp
theorem RowM.set_ {w w' : World} {g cap i : Nat} {M : List Sess} {cur : Array Value} {x : Sess} (h : RowM w g cap M cur) (hok : AllOk M) (hx : x.Ok) (hi : i < M.length)
    (hb : Blk w' g 84 (cur.toList.take (i * 26) ++ x.cs ++ cur.toList.drop (i * 26 + x.cs.length)).toArray) : RowM w' g cap (M.set i x) (cur.toList.take (i * 26) ++ x.cs ++ cur.toList.drop (i * 26 + x.cs.length)).toArray := by
  have hxl := Sess.len hx
  have hle := h.le
  have hsz := h.size
  have hcu : cur.toList.length = cap * 26 := by rw [Array.length_toList]; exact hsz
  rw [hxl] at hb ⊢
  refine ⟨hb, ?_, by simpa using hle, h.cap, ?_⟩
  · rw [List.size_toArray, List.length_append, List.length_append, List.length_take, List.length_drop, hxl, hcu]
    omega
  · rw [List.length_set, flatS_set hok i x hi, ← h.take]
    simp only [List.take_take]
    have e0 : cur.toList = cur.toList.take (M.length * 26) ++ cur.toList.drop (M.length * 26) := (List.take_append_drop _ _).symm
    have hcl : (cur.toList.take (M.length * 26)).length = M.length * 26 := by rw [List.length_take, hcu]; omega
    rw [Nat.min_eq_left (by omega : i * 26 ≤ M.length * 26)]
    have e1 : cur.toList.drop (i * 26 + 26) = (cur.toList.take (M.length * 26)).drop (i * 26 + 26) ++ cur.toList.drop (M.length * 26) := by
      conv => lhs; rw [e0]
      rw [List.drop_append_of_le_length (by rw [hcl]; omega)]
    rw [e1, ← List.append_assoc]
    exact List.take_left' (by rw [List.length_append, List.length_append, List.length_take, List.length_drop, hxl, hcl]; omega)
theorem zeroCells_spec (z : Array Value) (n : Nat) (h1 : ∀ v ∈ z, v.oneCell' = true) : (Builtin.zeroCells z n).toList.length = n * z.size ∧ ∀ v ∈ (Builtin.zeroCells z n).toList, v.oneCell' = true := by
  refine ⟨by simp [Builtin.zeroCells], fun v hv => ?_⟩
  simp only [Builtin.zeroCells, Array.toList_map, List.mem_map, Array.mem_toList_iff, Array.mem_range] at hv
  obtain ⟨i, hi, rfl⟩ := hv
  have hz : 0 < z.size := by
    rcases Nat.eq_zero_or_pos z.size with h0 | h0
    · rw [h0] at hi; omega
    · exact h0
  have hm : i % z.size < z.size := Nat.mod_lt _ hz
  rw [getElem!_pos z _ hm]
  exact h1 _ (Array.getElem_mem hm)
section
variable {P : Program} {ops : Array Oper} {rest : List Oper} {o : Oper} {a : Act} {w : World} {Q : Exit → Act → World → Prop}
/-- clear of the tail of a known block -/
theorem wpList_clear_blk (hgd : o.guard = none) (x : Operand) (t : TypeId) (ho : o.op = .call { callee := .builtin .clear, args := #[x], argTypes := #[t] }) (e : TypeId) (z : Value) (ht : P.underlying t = some (.slice e)) (hz : ∀ w, (zeroValue e).run P w = .ok z w)
    (hz1 : ∀ v ∈ z.cells, v.oneCell' = true) (g off n c : Nat) (T : TypeId) (cur : Array Value) (hn : 0 < n) (hx : a.eval x = .slice (some ⟨g, off, none⟩) n c) (hb : Blk w g T cur) (hfit : off + n * z.cells.size ≤ cur.size)
    (hk : ∀ w' vs, vs.length = n * z.cells.size → Blk w' g T (cur.toList.take off ++ vs ++ cur.toList.drop (off + n * z.cells.size)).toArray → w.grownBy w' (some g) → wpList P ops Q rest (a.put o.dst (.tuple #[])) w') : wpList P ops Q (o :: rest) a w := by
  refine wpList_plain hgd fun _ hK => ?_
  obtain ⟨hzl, hzo⟩ := zeroCells_spec z.cells n hz1
  have hst := run_storeCells_fr (P := P) g off T (0, 0) (Builtin.zeroCells z.cells n).toList 0 cur w hb (fun j _ hh => by omega) (by omega) hzo
  simp only [Nat.add_zero] at hst
  have hr : (Builtin.clear_ #[t] o.type #[.slice (some ⟨g, off, none⟩) n c]).run P w = .ok (.tuple #[]) (w.setRow g (cur.toList.take off ++ (Builtin.zeroCells z.cells n).toList ++ cur.toList.drop (off + (Builtin.zeroCells z.cells n).toList.length)).toArray) := by
    obtain ⟨m, rfl⟩ : ∃ m, n = m + 1 := ⟨n - 1, by omega⟩
    simp [Builtin.clear_, run_underlying ht, hz, hst]
  have hw : o.wp P a w (fun a' w' => a' = a.put o.dst (.tuple #[]) ∧ w' = w.setRow g (cur.toList.take off ++ (Builtin.zeroCells z.cells n).toList ++ cur.toList.drop (off + (Builtin.zeroCells z.cells n).toList.length)).toArray) Q := by
    unfold Oper.wp execOp
    simp only [ho, resolve, invoke, builtin, Sem.run_bind, Sem.run_pure, Result.andThen_ok, List.map_toArray, List.map_cons, List.map_nil, hx, hr]
    exact ⟨rfl, rfl⟩
  refine Oper.wp_mono (fun a' w' h => ?_) hw
  obtain ⟨rfl, rfl⟩ := h
  have hb2 := setRow_blk (cs' := (cur.toList.take off ++ (Builtin.zeroCells z.cells n).toList ++ cur.toList.drop (off + (Builtin.zeroCells z.cells n).toList.length)).toArray) hb
  rw [hzl] at hb2
  refine hK _ _ ?_
  rw [hzl]
  exact hk _ _ hzl hb2.1 hb2.2
end
theorem und_s : Try.prog.underlying 51 = some (.slice (Try.prog.elem 51)) := by kernel_rfl
theorem elem_s : Try.prog.elem 51 = 84 := by kernel_rfl
theorem size_s (W : World) : (sizeOf 84).run Try.prog W = .ok 26 W := by kernel_rfl
theorem sls_l (W : World) (g n c i : Nat) (hin : i ≤ n) (hic : i < c) :
    (Instr.sliceAt 51 (.slice (some ⟨g, 0, none⟩) n c) (some (.int .i64 (i : Int))) none none).run Try.prog W = .ok (.slice (some ⟨g, i * 26, none⟩) (n - i) (c - i)) W := by
  rw [run_sliceAt_slice _ _ _ _ _ _ und_s, run_slice_l W _ _ _ _ und_s .i64 _ (by omega) (by omega), elem_s, size_s]
  have hne : ¬ c = i := by omega
  simp [Result.andThen, sliced, hne, add_mk]
theorem sls_h (W : World) (g n c j : Nat) (hjc : j ≤ c) :
    (Instr.sliceAt 51 (.slice (some ⟨g, 0, none⟩) n c) none (some (.int .i64 (j : Int))) none).run Try.prog W = .ok (.slice (some ⟨g, 0, none⟩) j c) W := by
  rw [run_sliceAt_slice _ _ _ _ _ _ und_s, run_slice_h W _ _ _ _ und_s .i64 _ (by omega) (by omega), elem_s, size_s]
  simp [Result.andThen, sliced, add_mk]
theorem zero_s (w : World) : (zeroValue 84).run Try.prog w = .ok (.agg zSess.cs.toArray) w := by kernel_rfl
theorem zs_one : ∀ v ∈ (Value.agg zSess.cs.toArray).cells, v.oneCell' = true := fun v hv => Sess.one v (by simpa [Value.cells] using hv)
theorem only_trans {a w w' : World} {g : Nat} {r : Option Nat} (h : a.grownBy w (some g)) (h2 : w.grownBy w' r) (hr : ∀ j, r = some j → j = g ∨ a.heap.size ≤ j) : a.grownBy w' (some g) :=
  ⟨h2.os.trans h.os, h2.tape.trans h.tape, h2.output.trans h.output, Nat.le_trans h.size h2.size, fun i hi hne => (h2.block i (Nat.lt_of_lt_of_le hi h.size) (fun e => by
    rcases hr i e.symm with e1 | e1
    · exact hne (by rw [e1])
    · omega)).trans (h.block i hi hne)⟩
set_option maxRecDepth 100000 in
set_option maxHeartbeats 8000000 in
theorem delfunc_sx (w : World) (base : Nat) (v0 : Value) (n : Nat) (L : List Sess) (hown : w.ownsRow base 84 26 v0 n (flatS L)) (hok : AllOk L) (hn : n ≤ 1000) (b : Nat) (now : Int) (hn0 : 0 ≤ now) (hn1 : now ≤ 17179869184) (hbb : b < base) (hbase : base ≤ w.heap.size) (hc : w.cell? ⟨b, 0, none⟩ = some (.int .i64 now)) :
    Calls Try.prog 43 #[v0, .func (.func 44) #[] #[.pointer (some ⟨b, 0, none⟩)]] w
      fun e w' => ∃ v, e = .returned v ∧ w'.ownsRow base 84 26 v (keepL (oldP now) L).length (flatS (keepL (oldP now) L)) ∧ w.grownBy w' v0.ownBlock := by
  obtain ⟨A0, c0, hv0, hnc0, hcm0⟩ := slice_of_own hown
  have hsl : SessL w w.heap.size A0 n L := SessL.of_own (hv0 ▸ hown) hok
  have hlen := hsl.len
  have HCon := hide (idxold_sx w A0 n c0 L hsl (Nat.le_trans hnc0 hcm0) b now hn0 hn1 (by omega) hc)
  rcases findG_spec (oldP now) L 0 with ⟨e1, hall⟩ | ⟨i0, x0, e1, hx0, hp0, hbef⟩
  · have ek := keepL_all hall
    rw [ek, hlen]
    rw [e1] at HCon
    have HO := hide hown
    clear hown hok hsl hall e1 ek hc
    subst hv0
    go_enter Try.func43, Try.ntmps43
    go_wp2_with fail
    refine (unhide HCon).mono ?_
    rintro e w1 ⟨rfl, hb1⟩
    have O1 := hide (own_below (unhide HO) hb1)
    have B1 := hide (only_of_below hb1 (Value.slice A0 n c0).ownBlock)
    clear hb1
    go_wp2_with fail
    go_ret
    exact ⟨_, rfl, unhide O1, unhide B1⟩
  · rw [Nat.zero_add] at e1
    rw [e1] at HCon
    have hi0 := (List.getElem?_eq_some_iff.1 hx0).1
    obtain ⟨g, cap, cur0, hv1, hgb, hrow, _⟩ := RowM.of_own hown hok (by omega)
    have hinv := DelInv.start hok hx0 hp0 hbef
    have HINV := hide hinv
    have HROW := hide hrow
    have HC := hide hc
    have HOK := hide hok
    have HLEN := hide hlen
    have hm1 : ((i0 : Int) == -1) = false := beq_eq_false_iff_ne.2 (by omega)
    have hglt := hrow.blk.lt
    have hbw0 : b < w.heap.size := by omega
    rw [hv1] at hv0
    injection hv0 with hv0a _ hv0c
    subst hv1
    subst hv0a hv0c
    clear hown hok hsl hbef hx0 hp0 hinv hrow hc hlen e1
    go_enter Try.func43, Try.ntmps43
    go_wp2_with fail
    refine (unhide HCon).mono ?_
    rintro e w1 ⟨rfl, hb1⟩
    have R1 := hide ((unhide HROW).below hb1)
    have B1 := hide (only_of_below hb1 (some g))
    have hs1 : w.heap.size ≤ w1.heap.size := hb1.size
    clear hb1 HCon
    go_wp2_with fail
    go_loopw [5, 6] (fun s5 s6 wr => ∃ (i j : Nat) (M : List Sess) (cur : Array Value), s5 = .int .i64 i ∧ s6 = .int .i64 j ∧ j ≤ n ∧ i < j ∧ Hid (DelInv (oldP now) L M i j) ∧ Hid (RowM wr g cap M cur) ∧ Hid (w.grownBy wr (some g))) (fun _ s6 _ => n - (intOf s6).toNat)
    case atStart => exact ⟨i0, i0 + 1, L, cur0, rfl, by go_num, by have := unhide HLEN; omega, by omega, HINV, R1, B1⟩
    case round =>
      obtain ⟨i, j, M, cur, rfl, rfl, hjn, hij, INV, ROW, BEL⟩ := hrel
      have hml : M.length = n := (unhide INV).len.trans (unhide HLEN)
      have HML := hide hml
      clear hml
      by_cases hlt : j < n
      · obtain ⟨x, hx⟩ : ∃ x, L[j]? = some x := ⟨L[j]'(by have := unhide HLEN; omega), List.getElem?_eq_getElem _⟩
        have hxm : M[j]? = some x := (unhide INV).get.trans hx
        have hxo : x.Ok := (unhide HOK) x (List.mem_of_getElem? hx)
        have HX := hide hx
        have HXO := hide hxo
        have HRG := hide ((unhide ROW).range (unhide INV).ok hxm)
        have hgw := (unhide ROW).blk.lt
        have hwb := (unhide BEL).size
        have HN := hide (Blk.new wr 84 zSess.cs.toArray)
        have HRn := hide ((unhide ROW).alloc (.cells zSess.cs.toArray 84))
        have HBn := hide (only_alloc (unhide BEL) (.cells zSess.cs.toArray 84))
        have hlt2 : (j : Int) < (n : Int) := by omega
        clear hx hxm hxo
        go_wp2_with (first
          | (refine wpList_load_mid rfl 84 (.tmp 24) rfl g (j * 26) rfl _ _ (unhide HRG) Try.underlying84 rfl (sess_infoL (unhide HXO)) ?_)
          | (refine wpList_alloc_to rfl 84 rfl _ wr.heap.size rfl (alloc_sess _) ?_)
          | (refine wpList_store_blk rfl 84 (.tmp 7) (.tmp 25) rfl wr.heap.size 84 _ x.cs.toArray rfl rfl (unhide HN) (Sess.size_eq (unhide HXO)) (sess_info (unhide HXO)) (fun v hv => Sess.one v (by simpa using hv)) ?_
             intro w5 hb5 hg5
             have X5 := hide hb5
             have R5 := hide ((unhide HRn).grown hg5 (by omega))
             have B5 := hide (only_trans (unhide HBn) hg5 (fun j e => by injection e with e; omega))
             clear hb5 hg5)
          | (refine wpList_load_row rfl 84 _ rfl wr.heap.size rfl 84 _ _ _ (unhide X5) Try.underlying84 rfl (sess_info (unhide HXO)) ?_)
          | fail)
        have hcb : w5.cell? ⟨b, 0, none⟩ = some (.int .i64 now) := (World.cell?_of_block ((unhide B5).block b hbw0 (fun e => by injection e with e; omega))).trans (unhide HC)
        have hb5 : b < w5.heap.size := by have := (unhide B5).size; omega
        refine (expire1_sx w5 x (unhide HXO) b now hn0 hn1 hb5 hcb).mono ?_
        clear hcb hb5
        obtain ⟨t, ht⟩ : ∃ t, oldP now x = t := ⟨_, rfl⟩
        rw [ht]
        have HT := hide ht
        clear ht
        rintro e w6 ⟨rfl, hb6⟩
        have X6 := hide ((unhide X5).below hb6 (unhide X5).lt)
        have R6 := hide ((unhide R5).below hb6)
        have B6 := hide (only_trans (unhide B5) (only_of_below hb6 none) (fun j e => by cases e))
        clear hb6
        cases t with
        | true =>
          go_wp2_with fail
          go_roundw
          case rel => exact ⟨i, j + 1, M, cur, rfl, by go_num, by omega, by omega, hide ((unhide INV).skip (unhide HX) (unhide HT)), R6, B6⟩
          case measure => simp [intOf]; omega
        | false =>
          have hli : i < M.length := by have := unhide HML; omega
          have hin : (i : Int) < (n : Int) := by omega
          have hfit : i * 26 + x.cs.length ≤ cur.size := by rw [Sess.len (unhide HXO), (unhide R6).size]; have := (unhide R6).le; omega
          go_wp2_with (first
            | (refine wpList_load_row rfl 84 _ rfl wr.heap.size rfl 84 _ _ _ (unhide X6) Try.underlying84 rfl (sess_info (unhide HXO)) ?_)
            | (refine wpList_store_part rfl 84 (.tmp 33) (.tmp 32) rfl g (i * 26) 84 _ (.agg x.cs.toArray) x.cs _ rfl rfl (unhide R6).blk rfl hfit (sess_infoL (unhide HXO)) Sess.one rfl ?_
               intro w7 hb7 hg7
               have R7 := hide ((unhide R6).set_ (unhide INV).ok (unhide HXO) hli hb7)
               have B7 := hide (only_trans (unhide B6) hg7 (fun j e => by injection e with e; omega))
               clear hb7 hg7)
            | fail)
          go_roundw
          case rel => exact ⟨i + 1, j + 1, M.set i x, _, by go_num, by go_num, by omega, by omega, hide ((unhide INV).keep (unhide HX) (unhide HXO) (unhide HT)), R7, B7⟩
          case measure => simp [intOf]; omega
      · obtain rfl : j = n := by omega
        have hcapj : j ≤ cap := by have := (unhide ROW).le; have := unhide HML; omega
        have hfit : i * 26 + (j - i) * (Value.agg zSess.cs.toArray).cells.size ≤ cur.size := by rw [zs_size, (unhide ROW).size]; omega
        have HSA := hide (fun W => sls_l W g j cap i (by omega) (by omega))
        have HSB := hide (fun W => sls_h W g j cap i (by omega))
        have SA := unhide HSA
        have SB := unhide HSB
        have hgw := (unhide ROW).blk.lt
        go_wp2_with (first
          | (refine wpList_clear_blk rfl (.tmp 38) 51 rfl 84 (.agg zSess.cs.toArray) Try.underlying51 zero_s zs_one g (i * 26) (j - i) (cap - i) 84 cur (by omega) rfl (unhide ROW).blk hfit ?_
             intro w7 vs hvs hb7 hg7
             have Z7 := hide hb7
             have VS := hide hvs
             have B7 := hide (only_trans (unhide BEL) hg7 (fun j e => by injection e with e; omega))
             clear hb7 hg7 hvs)
          | fail)
        go_ret
        have hi := unhide INV
        have hr := unhide ROW
        have hLl := unhide HLEN
        have hMl := unhide HML
        have ekl : keepL (oldP now) L = M.take i := by rw [hi.low, List.take_of_length_le (by omega)]
        have ekn : (keepL (oldP now) L).length = i := by rw [ekl, List.length_take]; omega
        refine ⟨_, rfl, ?_, unhide B7⟩
        have hz := unhide Z7
        have hv := unhide VS
        rw [zs_size] at hz hv
        have hcurl : cur.toList.length = cap * 26 := by rw [Array.length_toList]; exact hr.size
        have hokt : AllOk (M.take i) := fun y hy => hi.ok y (List.mem_of_mem_take hy)
        have h0 := hr.own hi.ok hgb i (by omega)
        rw [ekn, ekl]
        refine ⟨h0.1, .inr ⟨g, cap, _, rfl, hgb, hz, by omega, hr.cap, ?_, ?_⟩⟩
        · rw [List.size_toArray, List.length_append, List.length_append, List.length_take, List.length_drop, hv, hcurl]
          omega
        · rcases h0.2 with ⟨h, _⟩ | ⟨g', cap', cur', h1, _, h3, _, _, _, h7⟩
          · cases h
          · injection h1 with h1 _ _
            injection h1 with h1
            injection h1 with h1 _ _
            subst h1
            have : cur' = cur := by
              have hb := hr.blk
              unfold Blk at hb
              rw [h3] at hb
              injection hb with hb
              injection hb with hb
            subst this
            rw [← h7]
            simp only [List.append_assoc]
            exact List.take_left' (by rw [List.length_take, hcurl]; omega)
end Go.Proofs.Ytfbkkmnkpjgciaa
