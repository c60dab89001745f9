/- Slices of components and of needs that come in, opened. No condition. -/
import Derived.Test.YtbcbleonpaemgaaDoorVOpen
import Derived.Test.YtbcbleonpaemgaaDoorVRight
import Derived.Test.YtbcbleonpaemgaaDoorVFind
import Derived.Test.YtbcbleonpaemgaaDoorOpen
import Derived.Deep.Slices
import Derived.Deep.Fields
import Derived.ChangeSame
namespace Go.Proofs.YtbcbleonpaemgaaDoor
open Go.ChangeShapes Go.WideShapes Go.ChangeAt Go.RowKit Go.Deep
section
variable {H : Type} {enc : TypeId × Value → H} {W : World} {base : Nat} {sp : Nat → Bool} {held : Bool}
theorem cV : Tryd.prog.cellsOf 26 = 3 := by kernel_rfl
theorem cS : Tryd.prog.cellsOf 9 = 1 := by kernel_rfl
theorem cN : Tryd.prog.cellsOf 3 = 1 := by kernel_rfl
theorem cI : Tryd.prog.cellsOf 42 = 4 := by kernel_rfl
theorem cNd : Tryd.prog.cellsOf 50 = 8 := by kernel_rfl
set_option maxRecDepth 100000 in
theorem trod_ver {fuel : Nat} {cs : List Value} {x : DataW H × List MemPlace} (h : DataW.trod enc Tryd.prog W base sp held fuel 26 cs = some x) : ∃ v : Ver, cs = [.int .i64 v.a, .int .i64 v.b, .int .i64 v.c] := by
  obtain ⟨ys, n, _, _, hlen, hyl, hf⟩ := DataW.trod_struct Tryd.underlying26 h
  rw [cV] at hlen
  match cs, hlen with
  | [c0, c1, c2], _ =>
    have e0 := hf 0 _ rfl
    have e1 := hf 1 _ rfl
    have e2 := hf 2 _ rfl
    have hy : ys.length = 3 := hyl
    simp only [List.getElem_toArray, List.getElem_cons_zero, List.getElem_cons_succ] at e0 e1 e2
    simp only [cN, List.drop, List.take] at e0 e1 e2
    rw [List.getElem?_eq_getElem (by omega)] at e0 e1 e2
    obtain ⟨z0, q0, _, _⟩ := DataW.trod_int Tryd.underlying3 e0
    obtain ⟨z1, q1, _, _⟩ := DataW.trod_int Tryd.underlying3 e1
    obtain ⟨z2, q2, _, _⟩ := DataW.trod_int Tryd.underlying3 e2
    simp at q0 q1 q2
    exact ⟨⟨z0, z1, z2⟩, by rw [q0, q1, q2]⟩
set_option maxRecDepth 100000 in
theorem trod_inst {fuel : Nat} {cs : List Value} {x : DataW H × List MemPlace} (h : DataW.trod enc Tryd.prog W base sp held fuel 42 cs = some x) : ∃ v : Inst, v.s.length ≤ maxLen ∧ cs = [.string ⟨v.s.toArray⟩, .int .i64 v.v.a, .int .i64 v.v.b, .int .i64 v.v.c] := by
  obtain ⟨ys, n, _, _, hlen, hyl, hf⟩ := DataW.trod_struct Tryd.underlying42 h
  rw [cI] at hlen
  match cs, hlen with
  | [c0, c1, c2, c3], _ =>
    have e0 := hf 0 _ rfl
    have e1 := hf 1 _ rfl
    have hy : ys.length = 2 := hyl
    simp only [List.getElem_toArray, List.getElem_cons_zero, List.getElem_cons_succ] at e0 e1
    simp only [cS, cV, List.drop, List.take] at e0 e1
    rw [List.getElem?_eq_getElem (by omega)] at e0 e1
    obtain ⟨s, q0, _, hs⟩ := DataW.trod_string Tryd.underlying9 e0
    obtain ⟨v, q1⟩ := trod_ver e1
    simp at q0 q1
    obtain ⟨q1, q2, q3⟩ := q1
    exact ⟨⟨s.data.toList, v⟩, by simpa using hs, by rw [q0, q1, q2, q3]⟩
set_option maxRecDepth 100000 in
theorem trod_need {fuel : Nat} {cs : List Value} {x : DataW H × List MemPlace} (h : DataW.trod enc Tryd.prog W base sp held fuel 50 cs = some x) : ∃ v : NeedS, v.c.length ≤ maxLen ∧ v.o.length ≤ maxLen ∧ cs = [.string ⟨v.c.toArray⟩, .int .i64 v.f.a, .int .i64 v.f.b, .int .i64 v.f.c, .string ⟨v.o.toArray⟩, .int .i64 v.t.a, .int .i64 v.t.b, .int .i64 v.t.c] := by
  obtain ⟨ys, n, _, _, hlen, hyl, hf⟩ := DataW.trod_struct Tryd.underlying50 h
  rw [cNd] at hlen
  match cs, hlen with
  | [c0, c1, c2, c3, c4, c5, c6, c7], _ =>
    have e0 := hf 0 _ rfl
    have e1 := hf 1 _ rfl
    have e2 := hf 2 _ rfl
    have e3 := hf 3 _ rfl
    have hy : ys.length = 4 := hyl
    simp only [List.getElem_toArray, List.getElem_cons_zero, List.getElem_cons_succ] at e0 e1 e2 e3
    simp only [cS, cV, List.drop, List.take] at e0 e1 e2 e3
    rw [List.getElem?_eq_getElem (by omega)] at e0 e1 e2 e3
    obtain ⟨s, q0, _, hs⟩ := DataW.trod_string Tryd.underlying9 e0
    obtain ⟨v, q1⟩ := trod_ver e1
    obtain ⟨s', r0, _, hs'⟩ := DataW.trod_string Tryd.underlying9 e2
    obtain ⟨v', r1⟩ := trod_ver e3
    simp at q0 q1 r0 r1
    obtain ⟨q1, q2, q3⟩ := q1
    obtain ⟨r1, r2, r3⟩ := r1
    exact ⟨⟨s.data.toList, v, s'.data.toList, v'⟩, by simpa using hs, by simpa using hs', by rw [q0, q1, q2, q3, r0, r1, r2, r3]⟩
end
section
variable {H : Type} {enc : TypeId × Value → H} {W : World}
set_option maxRecDepth 100000 in
theorem open_insts {r : Reach} {b0 : Nat} {v : Value} {d : DataW H} {p : List MemPlace}
    (hv : Value.okWide Tryd.prog W r b0 23 v) (h : DataW.Trod enc Tryd.prog W 0 (fun _ => true) true 23 v d p) :
    ∃ (A : Option Addr) (n c : Nat) (L : Nat → Inst), v = .slice A n c ∧ n ≤ c ∧ c ≤ maxLen ∧ InstAt W W.heap.size A n L := by
  obtain ⟨A, n, c, rfl⟩ := okWide_slice Tryd.underlying23 hv
  obtain ⟨fuel, hf⟩ := h
  rcases open_slice Tryd.underlying23 hf with ⟨hcs, _⟩ | ⟨a, len, cap, m, k, D, Pl, hcs, _, hl, hm, hmm, _, hi⟩
  · simp [Value.cells] at hcs
    obtain ⟨rfl, rfl, rfl⟩ := hcs
    exact ⟨none, 0, 0, fun _ => ⟨[], ⟨0, 0, 0⟩⟩, rfl, Nat.le_refl _, by simp [maxLen], fun i hi => by omega⟩
  · simp [Value.cells] at hcs
    obtain ⟨rfl, rfl, rfl⟩ := hcs
    simp only [if_true] at hmm
    have each : ∀ i, ∃ x : Inst, i < n → ∃ gb go, a = ⟨gb, go, none⟩ ∧ gb < W.heap.size ∧ x.s.length ≤ maxLen ∧ W.cell? ⟨gb, go + i * 4, none⟩ = some (.string ⟨x.s.toArray⟩) ∧ W.cell? ⟨gb, go + i * 4 + 1, none⟩ = some (.int .i64 x.v.a) ∧ W.cell? ⟨gb, go + i * 4 + 2, none⟩ = some (.int .i64 x.v.b) ∧ W.cell? ⟨gb, go + i * 4 + 3, none⟩ = some (.int .i64 x.v.c) := by
      intro i
      by_cases hin : i < n
      · obtain ⟨cs', hc, ht⟩ := hi i (by omega)
        obtain ⟨x, hxs, rfl⟩ := trod_inst ht
        rw [cI] at hc
        obtain ⟨_, _, hat⟩ := World.cells?_some hc
        have k0 := hat 0 (by omega)
        have k1 := hat 1 (by omega)
        have k2 := hat 2 (by omega)
        have k3 := hat 3 (by omega)
        obtain ⟨gb, go, spt⟩ := a
        have hsp : spt = none := by
          obtain ⟨cs0, hc0, ht0⟩ := hi 0 (by omega)
          obtain ⟨x0, _, rfl⟩ := trod_inst ht0
          rw [cI] at hc0
          obtain ⟨_, _, hat0⟩ := World.cells?_some hc0
          have k00 := hat0 0 (by omega)
          simpa [Addr.add] using World.cell?_spot k00
        subst hsp
        rw [Go.Deep.add_add, add_mk] at k0 k1 k2 k3
        have hlt : gb < W.heap.size := cell_lt k0
        exact ⟨x, fun _ => ⟨gb, go, rfl, hlt, hxs, k0, k1, k2, k3⟩⟩
      · exact ⟨⟨[], ⟨0, 0, 0⟩⟩, fun h => absurd h hin⟩
    obtain ⟨L, hL⟩ := Classical.skolem.1 each
    refine ⟨some a, n, c, L, rfl, hl, hm, fun i hin => ?_⟩
    obtain ⟨gb, go, rfl, h1, h2, h3, h4, h5, h6⟩ := hL i hin
    exact ⟨gb, go, rfl, h1, h2, h3, h4, h5, h6⟩
set_option maxRecDepth 100000 in
theorem open_needs {r : Reach} {b0 : Nat} {v : Value} {d : DataW H} {p : List MemPlace}
    (hv : Value.okWide Tryd.prog W r b0 24 v) (h : DataW.Trod enc Tryd.prog W 0 (fun _ => true) true 24 v d p) :
    ∃ (A : Option Addr) (n c : Nat) (L : Nat → NeedS), v = .slice A n c ∧ n ≤ c ∧ c ≤ maxLen ∧ NeedAt W W.heap.size A n L := by
  obtain ⟨A, n, c, rfl⟩ := okWide_slice Tryd.underlying24 hv
  obtain ⟨fuel, hf⟩ := h
  rcases open_slice Tryd.underlying24 hf with ⟨hcs, _⟩ | ⟨a, len, cap, m, k, D, Pl, hcs, _, hl, hm, hmm, _, hi⟩
  · simp [Value.cells] at hcs
    obtain ⟨rfl, rfl, rfl⟩ := hcs
    exact ⟨none, 0, 0, fun _ => ⟨[], ⟨0, 0, 0⟩, [], ⟨0, 0, 0⟩⟩, rfl, Nat.le_refl _, by simp [maxLen], fun i hi => by omega⟩
  · simp [Value.cells] at hcs
    obtain ⟨rfl, rfl, rfl⟩ := hcs
    simp only [if_true] at hmm
    have each : ∀ i, ∃ x : NeedS, i < n → ∃ gb go, a = ⟨gb, go, none⟩ ∧ gb < W.heap.size ∧ x.c.length ≤ maxLen ∧ x.o.length ≤ maxLen ∧ W.cell? ⟨gb, go + i * 8, none⟩ = some (.string ⟨x.c.toArray⟩) ∧ W.cell? ⟨gb, go + i * 8 + 1, none⟩ = some (.int .i64 x.f.a) ∧ W.cell? ⟨gb, go + i * 8 + 2, none⟩ = some (.int .i64 x.f.b) ∧ W.cell? ⟨gb, go + i * 8 + 3, none⟩ = some (.int .i64 x.f.c) ∧ W.cell? ⟨gb, go + i * 8 + 4, none⟩ = some (.string ⟨x.o.toArray⟩) ∧ W.cell? ⟨gb, go + i * 8 + 5, none⟩ = some (.int .i64 x.t.a) ∧ W.cell? ⟨gb, go + i * 8 + 6, none⟩ = some (.int .i64 x.t.b) ∧ W.cell? ⟨gb, go + i * 8 + 7, none⟩ = some (.int .i64 x.t.c) := by
      intro i
      by_cases hin : i < n
      · obtain ⟨cs', hc, ht⟩ := hi i (by omega)
        obtain ⟨x, hxs, hxo, rfl⟩ := trod_need ht
        rw [cNd] at hc
        obtain ⟨_, _, hat⟩ := World.cells?_some hc
        have k0 := hat 0 (by omega)
        have k1 := hat 1 (by omega)
        have k2 := hat 2 (by omega)
        have k3 := hat 3 (by omega)
        have k4 := hat 4 (by omega)
        have k5 := hat 5 (by omega)
        have k6 := hat 6 (by omega)
        have k7 := hat 7 (by omega)
        obtain ⟨gb, go, spt⟩ := a
        have hsp : spt = none := by
          obtain ⟨cs0, hc0, ht0⟩ := hi 0 (by omega)
          obtain ⟨x0, _, _, rfl⟩ := trod_need ht0
          rw [cNd] at hc0
          obtain ⟨_, _, hat0⟩ := World.cells?_some hc0
          have k00 := hat0 0 (by omega)
          simpa [Addr.add] using World.cell?_spot k00
        subst hsp
        rw [Go.Deep.add_add, add_mk] at k0 k1 k2 k3 k4 k5 k6 k7
        have hlt : gb < W.heap.size := cell_lt k0
        exact ⟨x, fun _ => ⟨gb, go, rfl, hlt, hxs, hxo, k0, k1, k2, k3, k4, k5, k6, k7⟩⟩
      · exact ⟨⟨[], ⟨0, 0, 0⟩, [], ⟨0, 0, 0⟩⟩, fun h => absurd h hin⟩
    obtain ⟨L, hL⟩ := Classical.skolem.1 each
    refine ⟨some a, n, c, L, rfl, hl, hm, fun i hin => ?_⟩
    obtain ⟨gb, go, rfl, h1, h2, h3, h4, h5, h6, h7, h8, h9, h10, h11⟩ := hL i hin
    exact ⟨gb, go, rfl, h1, h2, h3, h4, h5, h6, h7, h8, h9, h10, h11⟩
end
end Go.Proofs.YtbcbleonpaemgaaDoor
