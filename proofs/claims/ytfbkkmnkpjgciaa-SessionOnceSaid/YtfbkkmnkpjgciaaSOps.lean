/- Operations on whole structs as steps of a walk; the zero client; results of several parts. No condition. -/
import Derived.Test.YtfbkkmnkpjgciaaSSplit
import Derived.Test.YtfbkkmnkpjgciaaSCli
import Derived.Laws.Tables
namespace Go.Proofs.Ytfbkkmnkpjgciaa
open Go.RowKit
theorem size_alloc2 (w : World) (A B : Obj) : ((w.alloc A).alloc B).heap.size = w.heap.size + 2 := by simp
theorem size_alloc3 (w : World) (A B C : Obj) : (((w.alloc A).alloc B).alloc C).heap.size = w.heap.size + 3 := by simp
section
variable {P : Program} {ops : Array Oper} {rest : List Oper} {o : Oper} {a : Act} {w : World} {Q : Exit → Act → World → Prop}
theorem wpList_build_cs (hgd : o.guard = none) (t : TypeId) (parts : Array (Nat × Operand)) (ho : o.op = .build t parts) (pl : List (Nat × Value)) (hp : (parts.toList.map fun p => (p.1, a.eval p.2)) = pl) (cells : Array Value)
    (hc : P.built t pl = some cells) (h : wpList P ops Q rest (a.put o.dst (.agg cells)) w) : wpList P ops Q (o :: rest) a w := by
  refine wpList_plain hgd fun _ hK => ?_
  have hq : (parts.map fun p => (p.1, a.eval p.2)).toList = pl := by rw [← hp]; simp
  have hr := run_build (P := P) w t (parts.map fun p => (p.1, a.eval p.2)) cells (by rw [hq]; exact hc)
  unfold Oper.wp execOp
  simp only [ho, Sem.run_bind]
  rw [hr]
  exact hK _ _ h
theorem wpList_alloc_to (hgd : o.guard = none) (t : TypeId) (ho : o.op = .alloc t) (cells : Array Value) (g : Nat) (hg : w.heap.size = g) (hr : (Instr.alloc t true (.tuple #[])).run P w = .ok (.pointer (some ⟨w.heap.size, 0, none⟩)) (w.alloc (.cells cells t)))
    (h : wpList P ops Q rest (a.put o.dst (.pointer (some ⟨g, 0, none⟩))) (w.alloc (.cells cells t))) : wpList P ops Q (o :: rest) a w := by
  subst hg
  refine wpList_plain hgd fun _ hK => ?_
  unfold Oper.wp execOp
  simp only [ho, Sem.run_bind, hr]
  exact hK _ _ h
/-- one cell is stored into a known block -/
theorem wpList_store1_blk (hgd : o.guard = none) (ty : TypeId) (x y : Operand) (ho : o.op = .store ty x y) (g j : Nat) (t : TypeId) (cs : Array Value) (v : Value) (hx : a.eval x = .pointer (some ⟨g, j, none⟩)) (hy : a.eval y = v)
    (h : Blk w g t cs) (hj : j < cs.size) (hr : ∀ W : World, (W.cell? ⟨g, j, none⟩).isSome = true → W.frozen? ⟨g, j, none⟩ = false → (storeVar ty ⟨g, j, none⟩ v).run P W = .ok () (W.setCell ⟨g, j, none⟩ v))
    (hk : ∀ w', Blk w' g t (cs.setIfInBounds j v) → w.grownBy w' (some g) → wpList P ops Q rest (a.put o.dst undef) w') : wpList P ops Q (o :: rest) a w := by
  refine wpList_plain hgd fun _ hK => ?_
  have hs := hr w (by rw [h.cell, Array.getElem?_eq_getElem hj]; rfl) (h.frozen j)
  unfold Oper.wp execOp
  simp only [ho, hx, hy, Instr.storeAt, Instr.sureAddr, Sem.run_bind, Sem.run_pure, Result.andThen_ok, hs]
  exact hK _ _ (hk _ (h.set_ j v) (only_setCell (World.grownBy.refl w _) (.inl rfl) v))
end
theorem res_ctt {P : Program} {w : World} {fn : Func} {p u x : Tmp} {ty : TypeId} (h : fn.results = #[.cell p ty, .tmp u, .tmp x]) (tmps : Array Value) (g : Nat) (t : TypeId) (cs : Array Value) (d : TypeDesc) (z y : Value)
    (hp : tmps.getD p undef = .pointer (some ⟨g, 0, none⟩)) (hz : tmps.getD u undef = z) (hy : tmps.getD x undef = y) (hg : Blk w g t cs)
    (hu : P.underlying ty = some d) (hd : (match d with | .struct _ | .array _ _ => true | _ => false) = true) (hi : (P.info? ty).map (·.size) = some cs.size) :
    (results fn tmps).run P w = .ok (.tuple #[.agg cs, z, y]) w := by
  have hp' : tmps[p]?.getD undef = .pointer (some ⟨g, 0, none⟩) := by simpa using hp
  have hz' : tmps[u]?.getD undef = z := by simpa using hz
  have hy' : tmps[x]?.getD undef = y := by simpa using hy
  simp [results, h, hp', hz', hy', asAddr, run_loadVar_row w g t ty cs (0, 0) d hg hu hd hi]
theorem res_ctttt {P : Program} {w : World} {fn : Func} {p u x u2 x2 : Tmp} {ty : TypeId} (h : fn.results = #[.cell p ty, .tmp u, .tmp x, .tmp u2, .tmp x2]) (tmps : Array Value) (g : Nat) (t : TypeId) (cs : Array Value) (d : TypeDesc) (z y z2 y2 : Value)
    (hp : tmps.getD p undef = .pointer (some ⟨g, 0, none⟩)) (hz : tmps.getD u undef = z) (hy : tmps.getD x undef = y) (hz2 : tmps.getD u2 undef = z2) (hy2 : tmps.getD x2 undef = y2) (hg : Blk w g t cs)
    (hu : P.underlying ty = some d) (hd : (match d with | .struct _ | .array _ _ => true | _ => false) = true) (hi : (P.info? ty).map (·.size) = some cs.size) :
    (results fn tmps).run P w = .ok (.tuple #[.agg cs, z, y, z2, y2]) w := by
  have hp' : tmps[p]?.getD undef = .pointer (some ⟨g, 0, none⟩) := by simpa using hp
  have hz' : tmps[u]?.getD undef = z := by simpa using hz
  have hy' : tmps[x]?.getD undef = y := by simpa using hy
  have hz2' : tmps[u2]?.getD undef = z2 := by simpa using hz2
  have hy2' : tmps[x2]?.getD undef = y2 := by simpa using hy2
  simp [results, h, hp', hz', hy', hz2', hy2', asAddr, run_loadVar_row w g t ty cs (0, 0) d hg hu hd hi]
def z16 : List UInt8 := List.replicate 16 0
def zCli : Cli := ⟨[], z16, 0, 0, 0, 0, z16, false, 0, 0, 0⟩
theorem zCli_ok : zCli.Ok := ⟨by simp [zCli], rfl, rfl, by decide, by decide, by decide, by decide, by decide, by decide⟩
theorem Cli.size_eq {c : Cli} (h : c.Ok) : c.cs.toArray.size = zCli.cs.toArray.size := by rw [Cli.size h, Cli.size zCli_ok]
theorem alloc_cli (w : World) : (Instr.alloc 48 true (.tuple #[])).run Try.prog w = .ok (.pointer (some ⟨w.heap.size, 0, none⟩)) (w.alloc (.cells zCli.cs.toArray 48)) := by kernel_rfl
theorem build_cli0 : Try.prog.built 48 [] = some zCli.cs.toArray := by kernel_rfl
theorem build_cli (u : List UInt8) (ks : List UInt8) (hk : ks.length = 16) (l : Int) (n : Nat) : Try.prog.built 48 [(0, .string ⟨u.toArray⟩), (1, .agg (bsV ks).toArray), (2, .int .i64 l), (3, .int .u64 (n : Int))] = some (Cli.mk u ks l n 0 0 z16 false 0 0 0).cs.toArray := by
  obtain ⟨a0, a1, a2, a3, a4, a5, a6, a7, a8, a9, a10, a11, a12, a13, a14, a15, rfl⟩ := list16 ks hk
  kernel_rfl
/-- split of bytes that have not the form -/
theorem formB_no {f : UInt8} {l : List UInt8} (h : formB f l = false) : l.length < 18 ∨ 274 < l.length ∨ (18 ≤ l.length ∧ l.length ≤ 274 ∧ ∃ b, l[0]? = some b ∧ b ≠ f) := by
  by_cases h1 : l.length < 18
  · exact .inl h1
  · by_cases h2 : 274 < l.length
    · exact .inr (.inl h2)
    · refine .inr (.inr ⟨by omega, by omega, l[0]'(by omega), List.getElem?_eq_getElem _, fun e => ?_⟩)
      unfold formB at h
      have e0 : l.getD 0 0 = f := by rw [← e]; simp [List.getD, List.getElem?_eq_getElem (show 0 < l.length by omega)]
      rw [e0] at h
      simp at h
      omega
set_option maxRecDepth 100000 in
set_option maxHeartbeats 4000000 in
theorem split_bad (w : World) (f : UInt8) (A : Option Addr) (n c : Nat) (l : List UInt8) (hr : Reads w w.heap.size 1 A n (bsV l)) (hc : n ≤ maxLen) (hf : formB f l = false) :
    Calls Try.prog 37 #[.int .u8 (f.toNat : Int), .slice A n c] w fun e w' => e = .returned (.tuple #[.agg #[.int .u32 0, .int .u32 0, .int .i64 0, .slice none 0 0], .bool false]) ∧ Below w.heap.size w w' := by
  have hl : l.length = n := by have := hr.1; simpa [bsV] using this
  have hno := formB_no hf
  rw [hl] at hno
  have K1 := hide (Blk.new w 93 #[.int .u32 0, .int .u32 0, .int .i64 0, .slice none 0 0])
  have B1 := hide ((Below.refl w.heap.size w).alloc (Nat.le_refl _) (.cells #[.int .u32 0, .int .u32 0, .int .i64 0, .slice none 0 0] 93))
  unfold maxLen at hc
  rcases hno with h1 | h1 | ⟨h1, h2, b, h3, h4⟩
  · have hb1 : ((n : Int) < 18) = True := by simp; omega
    clear hl hf hr
    go_enter Try.func37, Try.ntmps37
    go_wp2_with (first
      | (refine wpList_store_blk rfl 93 (.tmp 4) (.tmp 22) rfl w.heap.size 93 _ #[.int .u32 0, .int .u32 0, .int .i64 0, .slice none 0 0] rfl rfl (unhide K1) rfl (by kernel_rfl) (by intro v hv; simp at hv; rcases hv with rfl | rfl | rfl | rfl <;> rfl) ?_
         intro w9 hb9 hg9
         have Z9 := hide hb9
         have B9 := hide ((unhide B1).grown hg9 (by simp) (fun j e => by injection e with e; omega))
         clear hb9 hg9)
      | fail)
    exact bodyPost_ret (v := .tuple #[.agg #[.int .u32 0, .int .u32 0, .int .i64 0, .slice none 0 0], .bool false]) (res2 rfl _ w.heap.size 93 _ _ _ rfl rfl (unhide Z9) Try.underlying93 rfl (by kernel_rfl)) rfl ⟨rfl, unhide B9⟩
  · have hb1 : ((n : Int) < 18) = False := by simp; omega
    have hb2 : ((274 : Int) < (n : Int)) = True := by simp; omega
    clear hl hf hr
    go_enter Try.func37, Try.ntmps37
    go_wp2_with (first
      | (refine wpList_store_blk rfl 93 (.tmp 4) (.tmp 22) rfl w.heap.size 93 _ #[.int .u32 0, .int .u32 0, .int .i64 0, .slice none 0 0] rfl rfl (unhide K1) rfl (by kernel_rfl) (by intro v hv; simp at hv; rcases hv with rfl | rfl | rfl | rfl <;> rfl) ?_
         intro w9 hb9 hg9
         have Z9 := hide hb9
         have B9 := hide ((unhide B1).grown hg9 (by simp) (fun j e => by injection e with e; omega))
         clear hb9 hg9)
      | fail)
    exact bodyPost_ret (v := .tuple #[.agg #[.int .u32 0, .int .u32 0, .int .i64 0, .slice none 0 0], .bool false]) (res2 rfl _ w.heap.size 93 _ _ _ rfl rfl (unhide Z9) Try.underlying93 rfl (by kernel_rfl)) rfl ⟨rfl, unhide B9⟩
  · have hb1 : ((n : Int) < 18) = False := by simp; omega
    have hb2 : ((274 : Int) < (n : Int)) = False := by simp; omega
    have h0z : (0 : Int) < (n : Int) := by omega
    have h0n : 0 < n := by omega
    obtain ⟨g, oo, rfl, hgl, hcell⟩ := spot_b hr h0n
    have c0 : (w.alloc (.cells #[.int .u32 0, .int .u32 0, .int .i64 0, .slice none 0 0] 93)).cell? ⟨g, oo, none⟩ = some (.int .u8 (b.toNat : Int)) := by
      rw [World.cell?_alloc_lt _ _ _ hgl]
      exact hcell 0 b h3
    have hne : ((b.toNat : Int) != (f.toNat : Int)) = true := by
      have : b.toNat ≠ f.toNat := fun e => h4 (UInt8.toNat_inj.1 e)
      simp; omega
    clear hl hf hr hcell h3 h4
    go_enter Try.func37, Try.ntmps37
    go_wp2_with (first
      | (refine wpList_store_blk rfl 93 (.tmp 4) (.tmp 22) rfl w.heap.size 93 _ #[.int .u32 0, .int .u32 0, .int .i64 0, .slice none 0 0] rfl rfl (unhide K1) rfl (by kernel_rfl) (by intro v hv; simp at hv; rcases hv with rfl | rfl | rfl | rfl <;> rfl) ?_
         intro w9 hb9 hg9
         have Z9 := hide hb9
         have B9 := hide ((unhide B1).grown hg9 (by simp) (fun j e => by injection e with e; omega))
         clear hb9 hg9)
      | fail)
    exact bodyPost_ret (v := .tuple #[.agg #[.int .u32 0, .int .u32 0, .int .i64 0, .slice none 0 0], .bool false]) (res2 rfl _ w.heap.size 93 _ _ _ rfl rfl (unhide Z9) Try.underlying93 rfl (by kernel_rfl)) rfl ⟨rfl, unhide B9⟩
end Go.Proofs.Ytfbkkmnkpjgciaa
