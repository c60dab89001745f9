/- The arguments of a host's law, opened: a slice of happenings. No condition. -/
import Derived.Test.YtalhemdlkhkhfaaHHaps
import Derived.Test.YtalhemdlkhkhfaaOpen
import Derived.Deep.Slices
import Derived.Deep.Fields
import Derived.ChangeSame
namespace Go.Proofs.Ytalhemdlkhkhfaa
open Go.ChangeShapes Go.WideShapes Go.ChangeAt Go.RowKit Go.Deep
section
variable {H : Type} {enc : TypeId × Value → H} {P : Program} {w : World} {base : Nat} {spare : Nat → Bool} {held : Bool}
theorem open_slice_fields {t e : TypeId} {fs : Array Field} {fuel : Nat} {cs : List Value} {x : DataW H × List MemPlace} (ht : P.underlying t = some (.slice e)) (he : P.underlying e = some (.struct fs))
    (hone : oneCellFields P fs = true) (hC : P.cellsOf e = fs.size) (h : DataW.trod enc P w base spare held fuel t cs = some x) :
    (cs = [.slice none 0 0] ∧ x = (.nil, [])) ∨
    ∃ (a : Addr) (len cap m : Nat) (D : Nat → DataW H) (Pl : Nat → List MemPlace), cs = [.slice (some a) len cap] ∧ base ≤ a.block ∧ len ≤ cap ∧ cap ≤ maxLen ∧ m = (if spare a.block then cap else len) ∧
      x = (.slice ((List.range len).map D) ((List.range (m - len)).map fun j => D (len + j)), MemPlace.row a (m * fs.size) ++ (List.range m).flatMap Pl) ∧
      ∀ i, i < m → ∃ (ys : List (DataW H × List MemPlace)) (n : Nat), D i = .agg (ys.map (·.1)) ∧ Pl i = ys.flatMap (·.2) ∧ ys.length = fs.size ∧
        ∀ (j : Nat) (f : Field), fs[j]? = some f → ∃ (v : Value) (y : DataW H × List MemPlace), w.cell? (a.add (i * fs.size + j)) = some v ∧ ys[j]? = some y ∧ DataW.trod enc P w base spare held n f.type [v] = some y := by
  rcases open_slice ht h with h0 | ⟨a, len, cap, m, n, D, Pl, hcs, hb, hl, hm, hmm, hx, hi⟩
  · exact .inl h0
  · refine .inr ⟨a, len, cap, m, D, Pl, hcs, hb, hl, hm, hmm, by rw [hC] at hx; exact hx, fun i him => ?_⟩
    obtain ⟨cs', hc, ht'⟩ := hi i him
    rw [hC] at hc
    obtain ⟨ys, n', hn', hy, hlen, hyl, hf⟩ := DataW.trod_struct he ht'
    obtain ⟨_, hcl, hat⟩ := World.cells?_some hc
    simp only [Prod.mk.injEq] at hy
    refine ⟨ys, n', hy.1, hy.2, hyl, fun j f hj => ?_⟩
    obtain ⟨ho, hk⟩ := hone_of hone j f hj
    have hjl : j < fs.size := (Array.getElem?_eq_some_iff.1 hj).1
    have hcell := hat j hjl
    have hv : cs'[j]? = some (cs'[j]'(by omega)) := List.getElem?_eq_getElem (by omega)
    have h1 := hf j f hj
    rw [ho, hk] at h1
    have hone' : (cs'.drop j).take 1 = [cs'[j]'(by omega)] := by
      rw [List.drop_eq_getElem_cons (by omega)]
      rfl
    rw [hone'] at h1
    have hys : ys[j]? = some (ys[j]'(by omega)) := List.getElem?_eq_getElem (by omega)
    refine ⟨_, _, ?_, hys, h1.trans hys⟩
    rw [← Go.Deep.add_add, hcell, hv]
end
section
variable {H : Type} {enc : TypeId × Value → H} {W : World}
theorem open_haps {r : Reach} {b0 : Nat} {v : Value} {d : DataW H} {p : List MemPlace}
    (hv : Value.okWide Try.prog W r b0 24 v) (h : DataW.Trod enc Try.prog W 0 (fun _ => true) true 24 v d p) :
    ∃ (A : Option Addr) (n c : Nat) (L : Nat → Hap), v = .slice A n c ∧ n ≤ c ∧ c ≤ maxLen ∧ HapsAt W W.heap.size A n L := by
  obtain ⟨A, n, c, rfl⟩ := okWide_slice Try.underlying24 hv
  obtain ⟨fuel, hf⟩ := h
  rcases open_slice_fields Try.underlying24 Try.underlying31 (by kernel_rfl) (by kernel_rfl) hf with ⟨hcs, _⟩ | ⟨a, len, cap, m, D, Pl, hcs, _, hl, hm, hmm, _, hi⟩
  · simp [Value.cells] at hcs
    obtain ⟨rfl, rfl, rfl⟩ := hcs
    exact ⟨none, 0, 0, fun _ => ⟨0, false, false, false⟩, rfl, Nat.le_refl _, by simp [maxLen], fun i hi => by omega⟩
  · simp [Value.cells] at hcs
    obtain ⟨rfl, rfl, rfl⟩ := hcs
    simp only [if_true] at hmm
    have each : ∀ i, ∃ hp : Hap, i < n → ∃ gb go, a = ⟨gb, go, none⟩ ∧ gb < W.heap.size ∧ hp.a < 256 ∧ W.cell? ⟨gb, go + i * 4, none⟩ = some (.int .u8 (hp.a : Int)) ∧ W.cell? ⟨gb, go + i * 4 + 1, none⟩ = some (.bool hp.on) ∧ W.cell? ⟨gb, go + i * 4 + 2, none⟩ = some (.bool hp.rs) ∧ W.cell? ⟨gb, go + i * 4 + 3, none⟩ = some (.bool hp.sf) := by
      intro i
      by_cases hin : i < n
      · obtain ⟨ys, fl, _, _, _, hfl⟩ := hi i (by omega)
        obtain ⟨v0, y0, c0, _, t0⟩ := hfl 0 _ rfl
        obtain ⟨v1, y1, c1, _, t1⟩ := hfl 1 _ rfl
        obtain ⟨v2, y2, c2, _, t2⟩ := hfl 2 _ rfl
        obtain ⟨v3, y3, c3, _, t3⟩ := hfl 3 _ rfl
        obtain ⟨z0, e0, _, wz⟩ := DataW.trod_int Try.underlying5 t0
        obtain ⟨z1, e1, _⟩ := DataW.trod_bool Try.underlying4 t1
        obtain ⟨z2, e2, _⟩ := DataW.trod_bool Try.underlying4 t2
        obtain ⟨z3, e3, _⟩ := DataW.trod_bool Try.underlying4 t3
        have hb := bounds_u8 wz
        simp at e0 e1 e2 e3
        subst e0
        subst e1
        subst e2
        subst e3
        obtain ⟨_, _, _, _, _, hf0⟩ := hi 0 (by omega)
        obtain ⟨_, _, k0, _, _⟩ := hf0 0 _ rfl
        have k0' : W.cell? (a.add 0) = some _ := k0
        obtain ⟨gb, go, sp⟩ := a
        have hsp : sp = none := by simpa [Addr.add] using World.cell?_spot k0'
        subst hsp
        have hlt := cell_lt c0
        rw [block_of_add] at hlt
        rw [add_mk] at c0 c1 c2 c3
        obtain ⟨k, rfl⟩ := Int.eq_ofNat_of_zero_le hb.1
        have hk : k < 256 := by omega
        exact ⟨⟨k, z1, z2, z3⟩, fun _ => ⟨gb, go, rfl, hlt, hk, c0, c1, c2, c3⟩⟩
      · exact ⟨⟨0, false, false, false⟩, fun h => absurd h hin⟩
    obtain ⟨L, hL⟩ := Classical.skolem.1 each
    refine ⟨some a, n, c, L, rfl, hl, hm, fun i hin => ?_⟩
    obtain ⟨gb, go, rfl, h1, h2, h3, h4, h5, h6⟩ := hL i hin
    exact ⟨gb, go, rfl, h1, h2, h3, h4, h5, h6⟩
end
end Go.Proofs.Ytalhemdlkhkhfaa
