/- Users and channels as lists of cells; slices of records in general. No condition. -/
import Derived.Test.YtfbkkmnkpjgciaaSExpire
namespace Go.Proofs.Ytfbkkmnkpjgciaa
open Go.RowKit
section
variable {α : Type} (cs : α → List Value) (m : Nat)
theorem flatR_len {L : List α} (h : ∀ x ∈ L, (cs x).length = m) : (L.flatMap cs).length = L.length * m := by
  induction L with
  | nil => simp
  | cons x L ih =>
    rw [List.flatMap_cons, List.length_append, h x List.mem_cons_self, ih (fun y hy => h y (List.mem_cons_of_mem _ hy)), List.length_cons, Nat.add_mul, Nat.one_mul, Nat.add_comm]
theorem flatR_get {L : List α} (h : ∀ x ∈ L, (cs x).length = m) : ∀ (k : Nat) (x : α), L[k]? = some x → ∀ (j : Nat) (v : Value), (cs x)[j]? = some v → (L.flatMap cs)[k * m + j]? = some v := by
  induction L with
  | nil => intro k x hk; simp at hk
  | cons y L ih =>
    have h1 := h y List.mem_cons_self
    have h2 := fun z hz => h z (List.mem_cons_of_mem y hz)
    intro k x hk j v hv
    rw [List.flatMap_cons]
    cases k with
    | zero =>
      obtain rfl : y = x := by simpa using hk
      rw [Nat.zero_mul, Nat.zero_add, List.getElem?_append_left (List.getElem?_eq_some_iff.1 hv).1]
      exact hv
    | succ k =>
      have e : (k + 1) * m + j = m + (k * m + j) := by rw [Nat.add_mul, Nat.one_mul]; omega
      rw [e, List.getElem?_append_right (by omega), h1, Nat.add_sub_cancel_left]
      exact ih h2 k x (by simpa using hk) j v hv
/-- a slice that reads as records -/
structure RecL (P : α → Prop) (w : World) (B : Nat) (A : Option Addr) (n : Nat) (L : List α) : Prop where
  reads : Reads w B m A n (L.flatMap cs)
  ok : ∀ x ∈ L, P x
  lens : ∀ x ∈ L, (cs x).length = m
variable {cs} {m} {P : α → Prop} {w w' : World} {B B' n : Nat} {A : Option Addr} {L : List α}
theorem RecL.len (h : RecL cs m P w B A n L) (hm : 0 < m) : L.length = n := by
  have h1 := h.reads.1
  rw [flatR_len cs m h.lens] at h1
  exact Nat.eq_of_mul_eq_mul_right hm h1
theorem RecL.below (h : RecL cs m P w B A n L) (hb : Below B w w') : RecL cs m P w' B A n L := ⟨h.reads.below hb, h.ok, h.lens⟩
theorem RecL.more (h : RecL cs m P w B A n L) (hb : B ≤ B') : RecL cs m P w B' A n L := ⟨h.reads.more hb, h.ok, h.lens⟩
theorem RecL.of_own {base : Nat} {e : TypeId} {c : Nat} (h : w.ownsRow base e m (.slice A n c) n (L.flatMap cs)) (ok : ∀ x ∈ L, P x) (ln : ∀ x ∈ L, (cs x).length = m) : RecL cs m P w w.heap.size A n L := ⟨Reads.of_own h, ok, ln⟩
theorem RecL.at_ {k : Nat} (h : RecL cs m P w B A n L) (hm : 0 < m) (hk : k < n) : ∃ g o x, A = some ⟨g, o, none⟩ ∧ g < B ∧ L[k]? = some x ∧ P x ∧ (cs x).length = m ∧ w.rangeAt g (o + k * m) (cs x) := by
  obtain ⟨g, o, rfl, hg, hc⟩ := spot_any h.reads (by omega) hm
  have hl := h.len hm
  have hx : L[k]? = some (L[k]'(by omega)) := List.getElem?_eq_getElem _
  refine ⟨g, o, L[k]'(by omega), rfl, hg, hx, h.ok _ (List.getElem_mem _), h.lens _ (List.getElem_mem _), fun j v hv => ?_⟩
  have := hc (k * m + j) v (flatR_get cs m h.lens k _ hx j v hv)
  rwa [← Nat.add_assoc] at this
end
structure Usr where
  name : List UInt8
  key : List UInt8
  on : Bool
  limit : Int
def Usr.cs (x : Usr) : List Value := .string ⟨x.name.toArray⟩ :: (bsV x.key ++ [.bool x.on, .int .i64 x.limit])
structure Usr.Ok (x : Usr) : Prop where
  name : x.name.length ≤ maxLen
  key : x.key.length = 16
theorem Usr.len {x : Usr} (h : x.Ok) : x.cs.length = 19 := by simp [Usr.cs, h.key]
theorem Usr.one {x : Usr} : ∀ v ∈ x.cs, v.oneCell' = true := by
  intro v hv
  simp only [Usr.cs, List.mem_cons, List.mem_append, List.not_mem_nil, or_false] at hv
  rcases hv with rfl | h | rfl | rfl
  · rfl
  · exact bsV_one _ v h
  · rfl
  · rfl
structure Usr.At (x : Usr) (f : Nat → Option Value) : Prop where
  name : f 0 = some (.string ⟨x.name.toArray⟩)
  on : f 17 = some (.bool x.on)
  limit : f 18 = some (.int .i64 x.limit)
  key : ∀ j v, (bsV x.key)[j]? = some v → f (1 + j) = some v
theorem Usr.at_ {x : Usr} (h : x.Ok) : x.At (fun j => x.cs[j]?) := by
  obtain ⟨a0, a1, a2, a3, a4, a5, a6, a7, a8, a9, a10, a11, a12, a13, a14, a15, e1⟩ := list16 x.key h.key
  obtain ⟨name, key, on, limit⟩ := x
  dsimp only at e1
  subst e1
  refine ⟨rfl, rfl, rfl, fun j v hv => ?_⟩
  have hj : j < 16 := by have := (List.getElem?_eq_some_iff.1 hv).1; simpa [bsV] using this
  have : j = 0 ∨ j = 1 ∨ j = 2 ∨ j = 3 ∨ j = 4 ∨ j = 5 ∨ j = 6 ∨ j = 7 ∨ j = 8 ∨ j = 9 ∨ j = 10 ∨ j = 11 ∨ j = 12 ∨ j = 13 ∨ j = 14 ∨ j = 15 := by omega
  rcases this with rfl | rfl | rfl | rfl | rfl | rfl | rfl | rfl | rfl | rfl | rfl | rfl | rfl | rfl | rfl | rfl <;> exact hv
theorem Usr.At.of {x : Usr} {f g : Nat → Option Value} (h : x.At f) (e : ∀ j v, f j = some v → g j = some v) : x.At g :=
  ⟨e _ _ h.name, e _ _ h.on, e _ _ h.limit, fun j v hv => e _ _ (h.key j v hv)⟩
theorem Usr.blk {x : Usr} (h : x.Ok) {w : World} {g : Nat} {t : TypeId} (hb : Blk w g t x.cs.toArray) : x.At (fun j => w.cell? ⟨g, j, none⟩) :=
  (x.at_ h).of fun j v hv => (hb.cell j).trans (by simpa using hv)
theorem Usr.range {x : Usr} (h : x.Ok) {w : World} {g o : Nat} (hr : w.rangeAt g o x.cs) : x.At (fun j => w.cell? ⟨g, o + j, none⟩) := (x.at_ h).of fun j v hv => hr j v hv
theorem usr_info {x : Usr} (h : x.Ok) : (Try.prog.info? 39).map (·.size) = some x.cs.length := by
  rw [x.len h]; kernel_rfl
theorem usr_infoA {x : Usr} (h : x.Ok) : (Try.prog.info? 39).map (·.size) = some x.cs.toArray.size := by
  rw [List.size_toArray, x.len h]; kernel_rfl
def zUsr : Usr := ⟨[], z16, false, 0⟩
theorem zUsr_ok : zUsr.Ok := ⟨by simp [zUsr], rfl⟩
theorem Usr.size_eq {x : Usr} (h : x.Ok) : x.cs.toArray.size = zUsr.cs.toArray.size := by rw [List.size_toArray, List.size_toArray, x.len h, zUsr.len zUsr_ok]
theorem alloc_usr (w : World) : (Instr.alloc 39 true (.tuple #[])).run Try.prog w = .ok (.pointer (some ⟨w.heap.size, 0, none⟩)) (w.alloc (.cells zUsr.cs.toArray 39)) := by kernel_rfl
structure Chn where
  number : Int
  limit : Int
def Chn.cs (x : Chn) : List Value := [.int .i64 x.number, .int .i64 x.limit]
abbrev UsrL := RecL Usr.cs 19 Usr.Ok
abbrev ChnL := RecL Chn.cs 2 (fun _ => True)
/-- the first error of those with the numbers from k on -/
def firstE (f : Nat → Int) : Nat → Nat → Int
  | 0, _ => 0
  | m + 1, k => if f k = 0 then firstE f m (k + 1) else f k
theorem firstE_step (f : Nat → Int) {n k : Nat} (h : k < n) : firstE f (n - k) k = if f k = 0 then firstE f (n - (k + 1)) (k + 1) else f k := by
  rw [show n - k = (n - (k + 1)) + 1 by omega]; rfl
def leqL (a b : List UInt8) : Bool := Op.bytesLess a b || (a == b)
def lvl0 (x : Int) : Bool := decide (0 ≤ x ∧ x ≤ 3)
def errU (L : List Usr) (k : Nat) : Int :=
  match L[k]? with
  | none => 0
  | some x => if nameF x.name = false then 1 else if lvl0 x.limit = false then 2 else
    match k with
    | 0 => 0
    | m + 1 => if ((L[m]?).map (fun p => leqL x.name p.name)).getD false = true then 7 else 0
def errC (L : List Chn) (k : Nat) : Int :=
  match L[k]? with
  | none => 0
  | some x => if x.number < 0 ∨ 4 ≤ x.number ∨ lvl0 x.limit = false then 2 else
    match k with
    | 0 => 0
    | m + 1 => if ((L[m]?).map (fun p => decide (x.number ≤ p.number))).getD false = true then 7 else 0
def accV (U : List Usr) (C : List Chn) : Int :=
  if 8 < U.length ∨ 4 < C.length then 3 else if firstE (errU U) U.length 0 = 0 then firstE (errC C) C.length 0 else firstE (errU U) U.length 0
set_option maxRecDepth 100000 in
theorem alevel_sx (w : World) (n : Int) (r : Bool) (hr : lvl0 n = r) : Calls Try.prog 53 #[.int .i64 n] w fun e w' => e = .returned (.bool r) ∧ w = w' := by
  unfold lvl0 at hr
  by_cases h1 : 0 ≤ n
  · by_cases h2 : n ≤ 3
    · obtain rfl : true = r := by rw [← hr]; simp; omega
      clear hr
      go_enter Try.func53, Try.ntmps53
      go_wp2_with fail
      go_ret
      exact ⟨rfl, rfl⟩
    · obtain rfl : false = r := by rw [← hr]; simp; omega
      clear hr
      go_enter Try.func53, Try.ntmps53
      go_wp2_with fail
      go_ret
      exact ⟨rfl, rfl⟩
  · obtain rfl : false = r := by rw [← hr]; simp; omega
    clear hr
    go_enter Try.func53, Try.ntmps53
    go_wp2_with fail
    go_ret
    exact ⟨rfl, rfl⟩
end Go.Proofs.Ytfbkkmnkpjgciaa
