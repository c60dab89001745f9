/- A session as a list of cells; slices of sessions. No condition. -/
import Derived.Test.YtfbkkmnkpjgciaaSAcc
namespace Go.Proofs.Ytfbkkmnkpjgciaa
open Go.RowKit
structure Sess where
  id : Nat
  user : List UInt8
  level : Int
  client : Nat
  server : Nat
  key : List UInt8
  opn : Bool
  hi : Nat
  se : Nat
  out : Nat
  last : Int
def Sess.cs (x : Sess) : List Value :=
  .int .u32 (x.id : Int) :: .string ⟨x.user.toArray⟩ :: .int .i64 x.level :: .int .u64 (x.client : Int) :: .int .u64 (x.server : Int) ::
    (bsV x.key ++ [.bool x.opn, .int .u32 (x.hi : Int), .int .u32 (x.se : Int), .int .u32 (x.out : Int), .int .i64 x.last])
structure Sess.Ok (x : Sess) : Prop where
  id : x.id < 4294967296
  user : x.user.length ≤ maxLen
  client : x.client < 18446744073709551616
  server : x.server < 18446744073709551616
  key : x.key.length = 16
  hi : x.hi < 4294967296
  se : x.se < 4294967296
  out : x.out < 4294967296
theorem Sess.open_ {x : Sess} (h : x.Ok) : ∃ (a0 a1 a2 a3 a4 a5 a6 a7 a8 a9 a10 a11 a12 a13 a14 a15 : UInt8), x.key = [a0, a1, a2, a3, a4, a5, a6, a7, a8, a9, a10, a11, a12, a13, a14, a15] := list16 x.key h.key
theorem Sess.len {x : Sess} (h : x.Ok) : x.cs.length = 26 := by simp [Sess.cs, h.key]
theorem Sess.size {x : Sess} (h : x.Ok) : x.cs.toArray.size = 26 := by rw [List.size_toArray, x.len h]
theorem Sess.one {x : Sess} : ∀ v ∈ x.cs, v.oneCell' = true := by
  intro v hv
  simp only [Sess.cs, List.mem_cons, List.mem_append, List.not_mem_nil, or_false] at hv
  rcases hv with rfl | rfl | rfl | rfl | rfl | h | rfl | rfl | rfl | rfl | rfl
  · rfl
  · rfl
  · rfl
  · rfl
  · rfl
  · exact bsV_one _ v h
  · rfl
  · rfl
  · rfl
  · rfl
  · rfl
structure Sess.At (x : Sess) (f : Nat → Option Value) : Prop where
  id : f 0 = some (.int .u32 (x.id : Int))
  user : f 1 = some (.string ⟨x.user.toArray⟩)
  level : f 2 = some (.int .i64 x.level)
  client : f 3 = some (.int .u64 (x.client : Int))
  server : f 4 = some (.int .u64 (x.server : Int))
  opn : f 21 = some (.bool x.opn)
  hi : f 22 = some (.int .u32 (x.hi : Int))
  se : f 23 = some (.int .u32 (x.se : Int))
  out : f 24 = some (.int .u32 (x.out : Int))
  last : f 25 = some (.int .i64 x.last)
  key : ∀ j v, (bsV x.key)[j]? = some v → f (5 + j) = some v
theorem Sess.at_ {x : Sess} (h : x.Ok) : x.At (fun j => x.cs[j]?) := by
  obtain ⟨a0, a1, a2, a3, a4, a5, a6, a7, a8, a9, a10, a11, a12, a13, a14, a15, e1⟩ := x.open_ h
  obtain ⟨id, user, level, client, server, key, opn, hi, se, out, last⟩ := x
  dsimp only at e1
  subst e1
  refine ⟨rfl, rfl, rfl, rfl, rfl, rfl, rfl, rfl, rfl, rfl, fun j v hv => ?_⟩
  have hj : j < 16 := by have := (List.getElem?_eq_some_iff.1 hv).1; simpa [bsV] using this
  have : j = 0 ∨ j = 1 ∨ j = 2 ∨ j = 3 ∨ j = 4 ∨ j = 5 ∨ j = 6 ∨ j = 7 ∨ j = 8 ∨ j = 9 ∨ j = 10 ∨ j = 11 ∨ j = 12 ∨ j = 13 ∨ j = 14 ∨ j = 15 := by omega
  rcases this with rfl | rfl | rfl | rfl | rfl | rfl | rfl | rfl | rfl | rfl | rfl | rfl | rfl | rfl | rfl | rfl <;> exact hv
theorem Sess.At.of {x : Sess} {f g : Nat → Option Value} (h : x.At f) (e : ∀ j v, f j = some v → g j = some v) : x.At g :=
  ⟨e _ _ h.id, e _ _ h.user, e _ _ h.level, e _ _ h.client, e _ _ h.server, e _ _ h.opn, e _ _ h.hi, e _ _ h.se, e _ _ h.out, e _ _ h.last, fun j v hv => e _ _ (h.key j v hv)⟩
theorem Sess.blk {x : Sess} (h : x.Ok) {w : World} {g : Nat} {t : TypeId} (hb : Blk w g t x.cs.toArray) : x.At (fun j => w.cell? ⟨g, j, none⟩) :=
  (x.at_ h).of fun j v hv => (hb.cell j).trans (by simpa using hv)
theorem sess_info {x : Sess} (h : x.Ok) : (Try.prog.info? 84).map (·.size) = some x.cs.toArray.size := by
  rw [x.size h]; kernel_rfl
theorem sess_infoL {x : Sess} (h : x.Ok) : (Try.prog.info? 84).map (·.size) = some x.cs.length := by
  rw [x.len h]; kernel_rfl
def zSess : Sess := ⟨0, [], 0, 0, 0, z16, false, 0, 0, 0, 0⟩
theorem zSess_ok : zSess.Ok := ⟨by decide, by simp [zSess], by decide, by decide, rfl, by decide, by decide, by decide⟩
theorem Sess.size_eq {x : Sess} (h : x.Ok) : x.cs.toArray.size = zSess.cs.toArray.size := by rw [x.size h, zSess.size zSess_ok]
theorem alloc_sess (w : World) : (Instr.alloc 84 true (.tuple #[])).run Try.prog w = .ok (.pointer (some ⟨w.heap.size, 0, none⟩)) (w.alloc (.cells zSess.cs.toArray 84)) := by kernel_rfl
theorem alloc_sl (w : World) : (Instr.alloc 53 true (.tuple #[])).run Try.prog w = .ok (.pointer (some ⟨w.heap.size, 0, none⟩)) (w.alloc (.cells #[.slice none 0 0, .int .u32 0] 53)) := by kernel_rfl
/-- the cells of sessions, one behind the other -/
def flatS (L : List Sess) : List Value := L.flatMap Sess.cs
def AllOk (L : List Sess) : Prop := ∀ x ∈ L, x.Ok
theorem AllOk.cons {x : Sess} {L : List Sess} (h : AllOk (x :: L)) : x.Ok ∧ AllOk L := ⟨h x List.mem_cons_self, fun y hy => h y (List.mem_cons_of_mem _ hy)⟩
theorem flatS_len {L : List Sess} (h : AllOk L) : (flatS L).length = L.length * 26 := by
  induction L with
  | nil => rfl
  | cons x L ih =>
    obtain ⟨h1, h2⟩ := h.cons
    rw [flatS, List.flatMap_cons, List.length_append, x.len h1]
    have := ih h2
    unfold flatS at this
    rw [this, List.length_cons]
    omega
theorem flatS_one (L : List Sess) : ∀ v ∈ flatS L, v.oneCell' = true := by
  intro v hv
  obtain ⟨x, _, hx⟩ := List.mem_flatMap.1 hv
  exact Sess.one v hx
theorem flatS_get {L : List Sess} (h : AllOk L) : ∀ (k : Nat) (x : Sess), L[k]? = some x → ∀ (j : Nat) (v : Value), x.cs[j]? = some v → (flatS L)[k * 26 + j]? = some v := by
  induction L with
  | nil => intro k x hk; simp at hk
  | cons y L ih =>
    obtain ⟨h1, h2⟩ := h.cons
    intro k x hk j v hv
    rw [flatS, List.flatMap_cons]
    cases k with
    | zero =>
      obtain rfl : y = x := by simpa using hk
      rw [Nat.zero_mul, Nat.zero_add, List.getElem?_append_left (List.getElem?_eq_some_iff.1 hv).1]
      exact hv
    | succ k =>
      rw [List.getElem?_append_right (by rw [y.len h1]; omega), y.len h1, show (k + 1) * 26 + j - 26 = k * 26 + j by omega]
      exact ih h2 k x (by simpa using hk) j v hv
theorem spot_any {w : World} {B size n : Nat} {A : Option Addr} {xs : List Value} (h : Reads w B size A n xs) (hn : 0 < n) (hs : 0 < size) : ∃ g o, A = some ⟨g, o, none⟩ ∧ g < B ∧ ∀ j u, xs[j]? = some u → w.cell? ⟨g, o + j, none⟩ = some u := by
  have h1 := h.1
  have h2 : 0 < n * size := Nat.mul_pos hn hs
  obtain ⟨ad, rfl, hb, hc⟩ := h.2 hn
  obtain ⟨g, o, sp⟩ := ad
  obtain ⟨u, hu⟩ : ∃ u, xs[0]? = some u := ⟨xs[0]'(by omega), List.getElem?_eq_getElem _⟩
  have hs : sp = none := by simpa [Addr.add] using World.cell?_spot (hc 0 u hu)
  subst hs
  exact ⟨g, o, rfl, hb, fun j u hu => by have := hc j u hu; rwa [add_mk] at this⟩
/-- a slice that reads as sessions -/
structure SessL (w : World) (B : Nat) (A : Option Addr) (n : Nat) (L : List Sess) : Prop where
  reads : Reads w B 26 A n (flatS L)
  ok : AllOk L
theorem SessL.len {w : World} {B n : Nat} {A : Option Addr} {L : List Sess} (h : SessL w B A n L) : L.length = n := by
  have h1 := h.reads.1
  rw [flatS_len h.ok] at h1
  omega
theorem SessL.below {w w' : World} {B n : Nat} {A : Option Addr} {L : List Sess} (h : SessL w B A n L) (hb : Below B w w') : SessL w' B A n L := ⟨h.reads.below hb, h.ok⟩
theorem SessL.more {w : World} {B B' n : Nat} {A : Option Addr} {L : List Sess} (h : SessL w B A n L) (hb : B ≤ B') : SessL w B' A n L := ⟨h.reads.more hb, h.ok⟩
theorem SessL.drew {w : World} {B n : Nat} {A : Option Addr} {L : List Sess} (h : SessL w B A n L) : SessL w.drew B A n L := ⟨h.reads.drew, h.ok⟩
theorem SessL.of_own {w : World} {base n : Nat} {e : TypeId} {A : Option Addr} {c : Nat} {L : List Sess} (h : w.ownsRow base e 26 (.slice A n c) n (flatS L)) (ok : AllOk L) : SessL w w.heap.size A n L := ⟨Reads.of_own h, ok⟩
/-- element k of a slice of sessions -/
theorem SessL.at_ {w : World} {B n k : Nat} {A : Option Addr} {L : List Sess} (h : SessL w B A n L) (hk : k < n) : ∃ g o x, A = some ⟨g, o, none⟩ ∧ g < B ∧ L[k]? = some x ∧ x.Ok ∧ w.rangeAt g (o + k * 26) x.cs := by
  obtain ⟨g, o, rfl, hg, hc⟩ := spot_any h.reads (by omega) (by omega)
  have hl := h.len
  have hx : L[k]? = some (L[k]'(by omega)) := List.getElem?_eq_getElem _
  refine ⟨g, o, L[k]'(by omega), rfl, hg, hx, h.ok _ (List.getElem_mem _), fun j v hv => ?_⟩
  have := hc (k * 26 + j) v (flatS_get h.ok k _ hx j v hv)
  rwa [← Nat.add_assoc] at this
theorem Sess.range {x : Sess} (h : x.Ok) {w : World} {g o : Nat} (hr : w.rangeAt g o x.cs) : x.At (fun j => w.cell? ⟨g, o + j, none⟩) := (x.at_ h).of fun j v hv => hr j v hv
/-- are sessions valid? -/
def okX (x : Sess) (nx b : Nat) : Bool :=
  decide (b < x.id) && (decide (x.id < nx) && (nameF x.user && (decide (1 ≤ x.level ∧ x.level ≤ 3) && (decide (0 ≤ x.last ∧ x.last ≤ 17179869184) && (x.opn || (x.hi == 0 && (x.se == 0 && x.out == 0)))))))
def validG : List Sess → Nat → Nat → Bool
  | [], _, _ => true
  | x :: r, nx, b => okX x nx b && validG r nx x.id
def validF (L : List Sess) (nx : Nat) : Bool := decide (L.length ≤ 4) && (decide (1 ≤ nx) && validG L nx 0)
theorem validG_drop {L : List Sess} {k : Nat} {x : Sess} (h : L[k]? = some x) (nx b : Nat) : validG (L.drop k) nx b = (okX x nx b && validG (L.drop (k + 1)) nx x.id) := by
  have hk := (List.getElem?_eq_some_iff.1 h).1
  have e := (List.getElem?_eq_some_iff.1 h).2
  rw [List.drop_eq_getElem_cons hk, e]
  rfl
end Go.Proofs.Ytfbkkmnkpjgciaa
