/- joined by tools/merge.py of Open SOpen. -/
import Derived.Test.YtfbkkmnkpjgciaaLe
import Derived.Test.YtfbkkmnkpjgciaaProg
import Derived.ProofKit
import Derived.OpenShut
import Derived.ShutString
import Derived.ChangeOld
import Derived.Test.YtfbkkmnkpjgciaaSShiftsW
import Derived.Deep.Slices
import Derived.Deep.Fields
import Derived.ChangeSame
import Derived.Lib.SmallJoins
/- Arguments of the laws, opened: a slice of bytes, an array of bytes. No condition. -/
namespace Go.Proofs.Ytfbkkmnkpjgciaa
open Go.ChangeShapes Go.WideShapes Go.ChangeAt Go.RowKit
section
variable {H : Type} {enc : TypeId × Value → H} {P : Program} {W : World}
theorem cell_lt {a : Addr} {v : Value} (h : W.cell? a = some v) : a.block < W.heap.size := by
  rcases Nat.lt_or_ge a.block W.heap.size with h1 | h1
  · exact h1
  · unfold World.cell? at h; rw [Array.getElem?_eq_none h1] at h; cases h
def toB (z : Int) : UInt8 := UInt8.ofNat z.toNat
theorem toB_eq {z : Int} (h : (Lit.int .u8 z).wf = true) : ((toB z).toNat : Int) = z := by
  have := bounds_u8 h
  unfold toB
  rw [UInt8.toNat_ofNat']
  omega
theorem open_bytes {t e : TypeId} (ht : P.underlying t = some (.slice e)) (he : P.underlying e = some (.int .u8)) (hc : P.cellsOf e = 1) {r : Reach} {b0 : Nat} {v : Value} {d : DataW H} {p : List MemPlace}
    (hv : Value.okWide P W r b0 t v) (h : DataW.Trod enc P W 0 (fun _ => true) true t v d p) :
    ∃ (A : Option Addr) (n c : Nat) (bs : List UInt8), v = .slice A n c ∧ n ≤ c ∧ c ≤ maxLen ∧ Reads W W.heap.size 1 A n (bsV bs) := by
  obtain ⟨A, n, c, rfl⟩ := okWide_slice ht hv
  obtain ⟨fuel, hf⟩ := h
  rcases open_ints ht he hc hf with ⟨hcs, _⟩ | ⟨x, l, c', zs, hcs, _, hl, hm, hz, _, hcell, hwz⟩
  · simp [Value.cells] at hcs
    obtain ⟨rfl, rfl, rfl⟩ := hcs
    exact ⟨none, 0, 0, [], rfl, Nat.le_refl _, by simp [maxLen], ⟨by simp, fun h => by omega⟩⟩
  · simp [Value.cells] at hcs
    obtain ⟨rfl, rfl, rfl⟩ := hcs
    simp only [if_true] at hz
    refine ⟨some x, n, c, (zs.take n).map toB, rfl, hl, hm, ⟨by simp; omega, fun h0 => ⟨x, rfl, ?_, fun j u hu => ?_⟩⟩⟩
    · have h1 := cell_lt (hcell 0 (by omega))
      rwa [block_of_add] at h1
    · simp only [bsV, List.getElem?_map, List.map_map, List.getElem?_take] at hu
      by_cases hj : j < n
      · rw [if_pos hj] at hu
        have hjz : j < zs.length := by omega
        rw [List.getElem?_eq_getElem hjz] at hu
        simp only [Option.map_some, Function.comp, Option.some.injEq] at hu
        rw [hcell j hjz, ← hu, toB_eq (hwz _ (List.getElem_mem hjz))]
        simp [hjz]
      · rw [if_neg hj] at hu
        cases hu
theorem open_byteArr {t e m : Nat} (ht : P.underlying t = some (.array m e)) (he : P.underlying e = some (.int .u8)) (hc : P.cellsOf e = 1) (hct : P.cellsOf t = m) {r : Reach} {b0 : Nat} {v : Value} {d : DataW H} {p : List MemPlace}
    (hv : Value.okWide P W r b0 t v) (h : DataW.Trod enc P W 0 (fun _ => true) true t v d p) : ∃ ks : List UInt8, ks.length = m ∧ v = .agg (bsV ks).toArray := by
  simp only [Value.okWide, ht] at hv
  obtain ⟨cs, rfl, h2, _⟩ := hv
  obtain ⟨fuel, hf⟩ := h
  obtain ⟨xs, k, _, _, hl, hxl, hx⟩ := DataW.trod_array ht hf
  have hcl : cs.toList.length = m := by simpa [Value.cells, hct] using hl
  have each : ∀ i (hi : i < cs.toList.length), ∃ a : Int, cs.toList[i] = .int .u8 a ∧ (Lit.int .u8 a).wf = true := by
    intro i hi
    have h3 := hx i (by omega)
    rw [hc, Nat.mul_one, List.getElem?_eq_getElem (by omega)] at h3
    have e1 : ((Value.agg cs).cells.toList.drop i).take 1 = [cs.toList[i]] := by
      show (cs.toList.drop i).take 1 = _
      rw [List.drop_eq_getElem_cons hi]; rfl
    rw [e1] at h3
    obtain ⟨a, ea, _, wa⟩ := DataW.trod_int he h3
    simp at ea
    exact ⟨a, by simpa using ea, wa⟩
  refine ⟨cs.toList.map (fun u => match u with | .int _ a => toB a | _ => 0), by simpa using hcl, ?_⟩
  congr 1
  apply Array.toList_inj.1
  apply List.ext_getElem
  · simp
  · intro i h1 h2
    obtain ⟨a, ea, wa⟩ := each i h1
    rw [ea]
    simp [bsV] at h2 ⊢
    have ea' : cs[i] = .int .u8 a := by simpa using ea
    rw [ea']
    exact (toB_eq wa).symm
end
end Go.Proofs.Ytfbkkmnkpjgciaa

/- The arguments of a session's laws, opened: a window, a slice of numbers. No condition. -/
namespace Go.Proofs.Ytfbkkmnkpjgciaa
open Go.Joins Go.ChangeShapes Go.WideShapes Go.ChangeAt Go.RowKit Go.Deep
section
variable {H : Type} {enc : TypeId × Value → H} {P : Program} {w : World} {base : Nat} {spare : Nat → Bool} {held : Bool}
theorem open_agg2 {r : Reach} {b0 : Nat} {t : TypeId} {f0 f1 : Field} {v : Value} {d : DataW H} {p : List MemPlace} (hs : P.underlying t = some (.struct #[f0, f1])) (hone : oneCellFields P #[f0, f1] = true) (hC : P.cellsOf t = 2)
    (hv : Value.okWide P w r b0 t v) (h : DataW.Trod enc P w base spare held t v d p) :
    ∃ (v0 v1 : Value) (y0 y1 : DataW H × List MemPlace) (n : Nat), v = .agg #[v0, v1] ∧
      DataW.trod enc P w base spare held n f0.type [v0] = some y0 ∧ DataW.trod enc P w base spare held n f1.type [v1] = some y1 := by
  obtain ⟨cs, rfl, hsz⟩ := okWide_struct hs hv
  obtain ⟨l⟩ := cs
  match l, hsz.trans hC with
  | [c0, c1], _ =>
    obtain ⟨fuel, hf⟩ := h
    obtain ⟨xs, n, _, hx, _, hlen, hg⟩ := DataW.trod_struct hs hf
    obtain ⟨o0, k0⟩ := hone_of hone 0 f0 rfl
    obtain ⟨o1, k1⟩ := hone_of hone 1 f1 rfl
    match xs, hlen with
    | [y0, y1], _ =>
      exact ⟨c0, c1, y0, y1, n, rfl, by simpa [Value.cells, o0, k0] using hg 0 f0 rfl, by simpa [Value.cells, o1, k1] using hg 1 f1 rfl⟩
end
section
variable {H : Type} {enc : TypeId × Value → H} {W : World}
theorem nat_of_u32 {a : Int} (h : (Lit.int .u32 a).wf = true) : ∃ x : Nat, a = (x : Int) ∧ x < 4294967296 := by
  have := bounds_u32 h
  obtain ⟨x, rfl⟩ := Int.eq_ofNat_of_zero_le this.1
  exact ⟨x, rfl, by omega⟩
set_option maxRecDepth 100000 in
theorem open_win {r : Reach} {b0 : Nat} {v : Value} {d : DataW H} {p : List MemPlace}
    (hv : Value.okWide Try.prog W r b0 24 v) (h : DataW.Trod enc Try.prog W 0 (fun _ => true) true 24 v d p) :
    ∃ (x y : Nat), x < 4294967296 ∧ y < 4294967296 ∧ v = .agg #[.int .u32 (x : Int), .int .u32 (y : Int)] := by
  obtain ⟨v0, v1, y0, y1, n, rfl, t0, t1⟩ := open_agg2 Try.underlying24 (by kernel_rfl) (by kernel_rfl) hv h
  obtain ⟨z0, e0, _, w0⟩ := DataW.trod_int Try.underlying22 t0
  obtain ⟨z1, e1, _, w1⟩ := DataW.trod_int Try.underlying22 t1
  simp at e0 e1
  subst e0 e1
  obtain ⟨a, rfl, ha⟩ := nat_of_u32 w0
  obtain ⟨b, rfl, hb⟩ := nat_of_u32 w1
  exact ⟨a, b, ha, hb, rfl⟩
set_option maxRecDepth 100000 in
theorem open_u32s {r : Reach} {b0 : Nat} {v : Value} {d : DataW H} {p : List MemPlace}
    (hv : Value.okWide Try.prog W r b0 25 v) (h : DataW.Trod enc Try.prog W 0 (fun _ => true) true 25 v d p) :
    ∃ (A : Option Addr) (n c : Nat) (zs : List Nat), v = .slice A n c ∧ n ≤ c ∧ c ≤ maxLen ∧ (∀ z ∈ zs, z < 4294967296) ∧ Reads W W.heap.size 1 A n (u32V zs) := by
  obtain ⟨A, n, c, rfl⟩ := okWide_slice Try.underlying25 hv
  obtain ⟨fuel, hf⟩ := h
  rcases open_ints Try.underlying25 Try.underlying22 (by kernel_rfl) hf with ⟨hcs, _⟩ | ⟨x, l, c', zs, hcs, _, hl, hm, hz, _, hcell, hwz⟩
  · simp [Value.cells] at hcs
    obtain ⟨rfl, rfl, rfl⟩ := hcs
    exact ⟨none, 0, 0, [], rfl, Nat.le_refl _, by simp [maxLen], (fun z hz => by cases hz), ⟨by simp [u32V], fun h => by omega⟩⟩
  · simp [Value.cells] at hcs
    obtain ⟨rfl, rfl, rfl⟩ := hcs
    simp only [if_true] at hz
    refine ⟨some x, n, c, (zs.take n).map Int.toNat, rfl, hl, hm, fun z hz => ?_, ⟨by simp [u32V]; omega, fun h0 => ⟨x, rfl, ?_, fun j u hu => ?_⟩⟩⟩
    · obtain ⟨y, hy, rfl⟩ := List.mem_map.1 hz
      obtain ⟨a, rfl, ha⟩ := nat_of_u32 (hwz y (List.mem_of_mem_take hy))
      simpa using ha
    · have h1 := cell_lt (hcell 0 (by omega))
      rwa [block_of_add] at h1
    · simp only [u32V, List.getElem?_map, List.map_map, List.getElem?_take] at hu
      by_cases hj : j < n
      · rw [if_pos hj] at hu
        have hjz : j < zs.length := by omega
        rw [List.getElem?_eq_getElem hjz] at hu
        simp only [Option.map_some, Function.comp, Option.some.injEq] at hu
        obtain ⟨a, ea, ha⟩ := nat_of_u32 (hwz _ (List.getElem_mem hjz))
        rw [hcell j hjz, ← hu, ea]
        simp [hjz, ea]
      · rw [if_neg hj] at hu
        cases hu
end
set_option maxRecDepth 100000 in
theorem shifts_any (w : World) (h0 s0 : Nat) (hh0 : h0 < 4294967296) (hs0 : s0 < 4294967296) (A : Option Addr) (n c : Nat) (zs : List Nat) (hz : ∀ z ∈ zs, z < 4294967296) (hr : Reads w w.heap.size 1 A n (u32V zs)) (hnc : n ≤ c) (hcm : c ≤ maxLen) (a : Int) (ha : 0 ≤ a ∧ a ≤ 4294967295) :
    Calls Try.prog 3 #[.agg #[.int .u32 (h0 : Int), .int .u32 (s0 : Int)], .slice A n c, .int .u32 a] w fun e w' => e = .returned (.bool true) ∧ Below w.heap.size w w' := by
  obtain ⟨x, rfl⟩ := Int.eq_ofNat_of_zero_le ha.1
  exact shifts_sx w h0 s0 hh0 hs0 A n c zs hz hr hnc hcm x (by omega)
end Go.Proofs.Ytfbkkmnkpjgciaa
