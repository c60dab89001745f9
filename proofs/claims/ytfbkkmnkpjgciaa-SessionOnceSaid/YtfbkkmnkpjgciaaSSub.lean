/- Parts of slices of bytes; slices.Clone of bytes. No condition. -/
import Derived.Test.YtfbkkmnkpjgciaaSProved
import Derived.Lib.SliceRun
import Derived.Test.YtfbkkmnkpjgciaaSLeaf
namespace Go.Proofs.Ytfbkkmnkpjgciaa
open Go.RowKit
def subA (A : Option Addr) (i c : Nat) : Option Addr := if c = i then A else A.map (·.add (i * 1))
theorem elem_b : Try.prog.elem 32 = 5 := by kernel_rfl
theorem und_b : Try.prog.underlying 32 = some (.slice (Try.prog.elem 32)) := by kernel_rfl
theorem size_b (W : World) : (sizeOf 5).run Try.prog W = .ok 1 W := by kernel_rfl
theorem sl_lh (W : World) (A : Option Addr) (n c i j : Nat) (x y : Int) (hx : x = (i : Int)) (hy : y = (j : Int)) (hij : i ≤ j) (hjc : j ≤ c) :
    (Instr.sliceAt 32 (.slice A n c) (some (.int .i64 x)) (some (.int .i64 y)) none).run Try.prog W = .ok (.slice (subA A i c) (j - i) (c - i)) W := by
  subst hx hy
  rw [run_sliceAt_slice _ _ _ _ _ _ und_b, run_slice_lh W _ _ _ _ und_b .i64 .i64 _ _ (by omega) (by omega) (by omega), elem_b, size_b]
  simp [Result.andThen, sliced, subA]
theorem sl_l (W : World) (A : Option Addr) (n c i : Nat) (x : Int) (hx : x = (i : Int)) (hin : i ≤ n) :
    (Instr.sliceAt 32 (.slice A n c) (some (.int .i64 x)) none none).run Try.prog W = .ok (.slice (subA A i c) (n - i) (c - i)) W := by
  subst hx
  rw [run_sliceAt_slice _ _ _ _ _ _ und_b, run_slice_l W _ _ _ _ und_b .i64 _ (by omega) (by omega), elem_b, size_b]
  simp [Result.andThen, sliced, subA]
theorem sl_h (W : World) (A : Option Addr) (n c j : Nat) (y : Int) (hy : y = (j : Int)) (hjc : j ≤ c) :
    (Instr.sliceAt 32 (.slice A n c) none (some (.int .i64 y)) none).run Try.prog W = .ok (.slice A j c) W := by
  subst hy
  rw [run_sliceAt_slice _ _ _ _ _ _ und_b, run_slice_h W _ _ _ _ und_b .i64 _ (by omega) (by omega), elem_b, size_b]
  simp only [Result.andThen, sliced, Int.toNat_natCast, Nat.sub_zero]
  cases A <;> simp [Addr.add]
theorem Reads.part {w : World} {B n c i j : Nat} {A : Option Addr} {l : List UInt8} (h : Reads w B 1 A n (bsV l)) (hij : i ≤ j) (hjn : j ≤ n) (hnc : n ≤ c) : Reads w B 1 (subA A i c) (j - i) (bsV ((l.drop i).take (j - i))) := by
  have h1 := (h.cut (k := i) (cap := c) (by omega) hnc).take (m := j - i) (by omega)
  have e : ((bsV l).drop (i * 1)).take (j - i) = bsV ((l.drop i).take (j - i)) := by simp [bsV, List.map_take, List.map_drop]
  rw [e] at h1
  exact h1
theorem Reads.head {w : World} {B n j : Nat} {A : Option Addr} {l : List UInt8} (h : Reads w B 1 A n (bsV l)) (hjn : j ≤ n) : Reads w B 1 A j (bsV (l.take j)) := by
  have h1 := h.take (m := j) hjn
  have e : (bsV l).take j = bsV (l.take j) := by simp [bsV, List.map_take]
  rw [e] at h1
  exact h1
theorem Reads.rest {w : World} {B n c i : Nat} {A : Option Addr} {l : List UInt8} (h : Reads w B 1 A n (bsV l)) (hin : i ≤ n) (hnc : n ≤ c) : Reads w B 1 (subA A i c) (n - i) (bsV (l.drop i)) := by
  have h1 := h.cut (k := i) (cap := c) hin hnc
  have e : (bsV l).drop (i * 1) = bsV (l.drop i) := by simp [bsV, List.map_drop]
  rw [e] at h1
  exact h1
/-- where a slice of bytes that is not empty lies -/
theorem spot_b {w : World} {B n : Nat} {A : Option Addr} {l : List UInt8} (h : Reads w B 1 A n (bsV l)) (hn : 0 < n) : ∃ g o, A = some ⟨g, o, none⟩ ∧ g < B ∧ ∀ (j : Nat) (b : UInt8), l[j]? = some b → w.cell? ⟨g, o + j, none⟩ = some (.int .u8 (b.toNat : Int)) := by
  have h1 : l.length = n := by have := h.1; simpa [bsV] using this
  obtain ⟨ad, rfl, hb, hc⟩ := h.2 hn
  obtain ⟨g, o, sp⟩ := ad
  have hu : (bsV l)[0]? = some (.int .u8 ((l[0]'(by omega)).toNat : Int)) := by simp [bsV, List.getElem?_eq_getElem (show 0 < l.length by omega)]
  have hs : sp = none := by simpa [Addr.add] using World.cell?_spot (hc 0 _ hu)
  subst hs
  exact ⟨g, o, rfl, hb, fun j b hj => by have := hc j (.int .u8 (b.toNat : Int)) (by simp [bsV, hj]); rwa [add_mk] at this⟩
theorem run_slice_0 (w : World) : (Instr.buildSlice 32 0 #[]).run Try.prog w = .ok (.slice (some ⟨w.heap.size, 0, none⟩) 0 0) (w.alloc (.cells #[] 5)) := by kernel_rfl
set_option maxRecDepth 100000 in
/-- slices.Clone of bytes -/
theorem clone_b (w : World) (A : Option Addr) (n c : Nat) (l : List UInt8) (h : Reads w w.heap.size 1 A n (bsV l)) (hn : n ≤ 1000000) :
    Calls Try.prog 52 #[.slice A n c] w fun e w' => ∃ v, e = .returned v ∧ w'.ownsRow w.heap.size 5 1 v n (bsV l) ∧ Below w.heap.size w w' := by
  obtain ⟨i0, hi, hz0, hz1, hz2⟩ := info_parts info_b
  have q22 : ∀ (w : World) (a : Option Addr) (n c n' c' : Nat), (binOp .eql 32 (.slice a n c) (.slice none n' c')).run Try.prog w = .ok (.bool a.isNone) w := fun w a n c n' c' => Lib.run_eql_slice_nil w _ _ a n c n' c' Try.underlying32
  cases A with
  | none =>
    have hn0 : n = 0 := by
      rcases Nat.eq_zero_or_pos n with h0 | h0
      · exact h0
      · obtain ⟨ad, e, _⟩ := h.2 h0
        cases e
    subst hn0
    have hl : bsV l = [] := List.eq_nil_of_length_eq_zero (by simpa using h.1)
    have HL := hide hl
    clear hl h hn
    go_enter Try.func52, Try.ntmps52
    go_wp2_with fail
    go_ret
    exact ⟨_, rfl, by rw [unhide HL]; exact World.ownsRow_nil _ _ _ _, Below.refl _ _⟩
  | some ad =>
    have HR := hide ((h.alloc (Nat.le_refl _) (.cells #[] 5)).more (size_le w (.cells #[] 5)))
    have HO : Hid ((w.alloc (.cells #[] 5)).ownsRow w.heap.size 5 1 (.slice (some ⟨w.heap.size, 0, none⟩) 0 0) 0 []) := hide (World.ownsRow_made w #[] 0 (Nat.le_refl _) (Nat.zero_le _) (by simp))
    clear h
    go_enter Try.func52, Try.ntmps52
    go_wp2_with (first
      | (at_builtin; refine wpList_append_b (w.alloc (.cells #[] 5)) (.tmp 5) (.tmp 6) 32 _ (some ad) n c rfl rfl rfl rfl w.heap.size 5 i0 (.int .u8 0) 1 Try.underlying32 hi hz0 hz1 hz2 rfl _ _ (unhide HO) _ _ (unhide HR) (bsV_one _) (by unfold maxLen; omega) (by omega) (size_le _ _) ?_
         intro v8 w8 ho8 hb8
         have HO8 := hide ho8
         have HB8 := hide hb8
         clear ho8 hb8)
      | fail)
    go_ret
    exact ⟨_, rfl, by have := unhide HO8; rwa [Nat.zero_add, List.nil_append] at this, ((Below.refl _ _).alloc (Nat.le_refl _) _).trans (unhide HB8)⟩
end Go.Proofs.Ytfbkkmnkpjgciaa
