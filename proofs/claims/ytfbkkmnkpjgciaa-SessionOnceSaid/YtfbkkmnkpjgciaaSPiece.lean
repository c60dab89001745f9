/- Slices of bytes and slices of such slices, as the steps of a drawn region hand them on. No condition. -/
import Derived.Test.YtfbkkmnkpjgciaaSAny
import Derived.Test.YtfbkkmnkpjgciaaSJoin
import Derived.Test.YtfbkkmnkpjgciaaSDerive
import Derived.Great.BuildSlice
namespace Go.Proofs.Ytfbkkmnkpjgciaa
open Go.RowKit
/-- v is a slice of n bytes that reads as l -/
def SliceOf (w : World) (n : Nat) (l : List UInt8) (v : Value) : Prop := ∃ A c, v = .slice A n c ∧ n ≤ c ∧ c ≤ maxLen ∧ Reads w w.heap.size 1 A n (bsV l)
theorem SliceOf.below {w w' : World} {n : Nat} {l : List UInt8} {v : Value} (h : SliceOf w n l v) (hb : Below w.heap.size w w') : SliceOf w' n l v := by
  obtain ⟨A, c, e, h1, h2, h3⟩ := h
  exact ⟨A, c, e, h1, h2, (h3.below hb).more hb.size⟩
theorem SliceOf.of_own {w : World} {base n : Nat} {e : TypeId} {v : Value} {l : List UInt8} (h : w.ownsRow base e 1 v n (bsV l)) : SliceOf w n l v := by
  obtain ⟨A, c, rfl, h1, h2⟩ := slice_of_own h
  exact ⟨A, c, rfl, h1, h2, Reads.of_own h⟩
/-- v owns n bytes of the memory above base -/
def OwnOf (base : Nat) (w : World) (n : Nat) (l : List UInt8) (v : Value) : Prop := w.ownsRow base 5 1 v n (bsV l)
theorem OwnOf.below {base : Nat} {w w' : World} {n : Nat} {l : List UInt8} {v : Value} (h : OwnOf base w n l v) (hb : Below w.heap.size w w') : OwnOf base w' n l v :=
  own_below h hb
/-- v is a slice of slices of bytes that read as L -/
def PiecesOf (w : World) (n : Nat) (L : List (List UInt8)) (v : Value) : Prop := ∃ A c V, v = .slice A n c ∧ Reads w w.heap.size 1 A n V ∧ Pieces w w.heap.size V L
theorem Pieces.more {w : World} {B B' : Nat} {V : List Value} {L : List (List UInt8)} (h : Pieces w B V L) (hb : B ≤ B') : Pieces w B' V L :=
  ⟨h.1, fun k l hl => by
    obtain ⟨A, m, c, h1, h2, h3, h4⟩ := h.2 k l hl
    exact ⟨A, m, c, h1, h2, h3, h4.more hb⟩⟩
theorem PiecesOf.below {w w' : World} {n : Nat} {L : List (List UInt8)} {v : Value} (h : PiecesOf w n L v) (hb : Below w.heap.size w w') : PiecesOf w' n L v := by
  obtain ⟨A, c, V, e, h1, h2⟩ := h
  exact ⟨A, c, V, e, (h1.below hb).more hb.size, (h2.below hb).more hb.size⟩
theorem Pieces.nil (w : World) (B : Nat) : Pieces w B [] [] := ⟨rfl, fun k l h => by simp at h⟩
theorem Pieces.cons {w : World} {B : Nat} {V : List Value} {L : List (List UInt8)} {A : Option Addr} {n c : Nat} {l : List UInt8} (hn : n ≤ c) (hc : c ≤ maxLen) (hr : Reads w B 1 A n (bsV l)) (h : Pieces w B V L) : Pieces w B (.slice A n c :: V) (l :: L) :=
  ⟨by simp [h.1], fun k l' hl => by
    cases k with
    | zero =>
      obtain rfl : l = l' := by simpa using hl
      exact ⟨A, n, c, rfl, hn, hc, hr⟩
    | succ k =>
      obtain ⟨A', m, c', h1, h2⟩ := h.2 k l' (by simpa using hl)
      exact ⟨A', m, c', by simpa using h1, h2⟩⟩
/-- a new slice of slices -/
theorem PiecesOf.new {w : World} {t : TypeId} {V : List Value} {L : List (List UInt8)} (n : Nat) (hn : V.length = n) (h : Pieces w w.heap.size V L) : PiecesOf (w.alloc (.cells V.toArray t)) n L (.slice (some ⟨w.heap.size, 0, none⟩) n n) := by
  refine ⟨_, n, V, rfl, ?_, ?_⟩
  · have := Reads.of_blk (B := (w.alloc (.cells V.toArray t)).heap.size) (Blk.new w t V.toArray) 0 n (by simp [hn]) (by rw [size_alloc]; omega)
    rw [List.drop_zero, List.take_of_length_le (by omega)] at this
    exact this
  · exact (h.below ((Below.refl _ _).alloc (Nat.le_refl _) _)).more (size_le _ _)
theorem joined_of (w : World) (f : UInt8) (n : Nat) (L : List (List UInt8)) (v : Value) (h : PiecesOf w n L v) (hl : L.flatten.length ≤ 1000) (hn : n ≤ 100) :
    Calls Try.prog 21 #[.int .u8 (f.toNat : Int), v] w fun e w' => ∃ v, e = .returned v ∧ w'.ownsRow w.heap.size 5 1 v (joinF f L).length (bsV (joinF f L)) ∧ Below w.heap.size w w' := by
  obtain ⟨A, c, V, rfl, h1, h2⟩ := h
  exact joined_sx w f A n c V L w.heap.size (Nat.le_refl _) h1 h2 hl hn
theorem little_of (w : World) (x n : Nat) (hn : n = 4 ∨ n = 8) : Calls Try.prog 22 #[.int .u64 (x : Int), .int .i64 (n : Int)] w fun e w' => ∃ v, e = .returned v ∧ Below w.heap.size w w' ∧ SliceOf w' n (leB (x : Int) n) v :=
  (little_any (x : Int) (by omega) n hn w).mono fun e w' ⟨v, he, ho, hb⟩ => ⟨v, he, hb, SliceOf.of_own ho⟩
/-- a new slice of one byte -/
theorem SliceOf.new1 {w : World} {t : TypeId} (b : UInt8) : SliceOf (w.alloc (.cells #[.int .u8 (b.toNat : Int)] t)) 1 [b] (.slice (some ⟨w.heap.size, 0, none⟩) 1 1) := by
  refine ⟨_, 1, rfl, Nat.le_refl _, by unfold maxLen; omega, ?_⟩
  have := Reads.of_blk (B := (w.alloc (.cells #[.int .u8 (b.toNat : Int)] t)).heap.size) (Blk.new w t [Value.int .u8 (b.toNat : Int)].toArray) 0 1 (by simp) (by rw [size_alloc]; omega)
  simpa [bsV] using this
theorem run_slice_b (w : World) (b : UInt8) : (Instr.buildSlice 32 1 #[(0, .int .u8 (b.toNat : Int))]).run Try.prog w = .ok (.slice (some ⟨w.heap.size, 0, none⟩) 1 1) (w.alloc (.cells #[.int .u8 (b.toNat : Int)] 5)) := by kernel_rfl
theorem run_slice_1 (w : World) (A0 : Option Addr) (n0 c0 : Nat) : (Instr.buildSlice 61 1 #[(0, .slice A0 n0 c0)]).run Try.prog w = .ok (.slice (some ⟨w.heap.size, 0, none⟩) 1 1) (w.alloc (.cells #[.slice A0 n0 c0] 32)) := by kernel_rfl
theorem run_slice_2 (w : World) (A0 : Option Addr) (n0 c0 : Nat) (A1 : Option Addr) (n1 c1 : Nat) : (Instr.buildSlice 61 2 #[(0, .slice A0 n0 c0), (1, .slice A1 n1 c1)]).run Try.prog w = .ok (.slice (some ⟨w.heap.size, 0, none⟩) 2 2) (w.alloc (.cells #[.slice A0 n0 c0, .slice A1 n1 c1] 32)) := by kernel_rfl
theorem run_slice_3 (w : World) (A0 : Option Addr) (n0 c0 : Nat) (A1 : Option Addr) (n1 c1 : Nat) (A2 : Option Addr) (n2 c2 : Nat) : (Instr.buildSlice 61 3 #[(0, .slice A0 n0 c0), (1, .slice A1 n1 c1), (2, .slice A2 n2 c2)]).run Try.prog w = .ok (.slice (some ⟨w.heap.size, 0, none⟩) 3 3) (w.alloc (.cells #[.slice A0 n0 c0, .slice A1 n1 c1, .slice A2 n2 c2] 32)) := by kernel_rfl
theorem run_slice_4 (w : World) (A0 : Option Addr) (n0 c0 : Nat) (A1 : Option Addr) (n1 c1 : Nat) (A2 : Option Addr) (n2 c2 : Nat) (A3 : Option Addr) (n3 c3 : Nat) : (Instr.buildSlice 61 4 #[(0, .slice A0 n0 c0), (1, .slice A1 n1 c1), (2, .slice A2 n2 c2), (3, .slice A3 n3 c3)]).run Try.prog w = .ok (.slice (some ⟨w.heap.size, 0, none⟩) 4 4) (w.alloc (.cells #[.slice A0 n0 c0, .slice A1 n1 c1, .slice A2 n2 c2, .slice A3 n3 c3] 32)) := by kernel_rfl
end Go.Proofs.Ytfbkkmnkpjgciaa
