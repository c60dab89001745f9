/- Dice out of plain numbers: Light, Roll, Next, Micro. -/
import Derived.Test.YtcebjipekodmpaaDoorMRoots
import Derived.ProofKit
import Derived.OpenShut
import Derived.BigQuiet
import Derived.Deep.CutRange
namespace Go.Proofs.YtcebjipekodmpaaDoor
open Go.ChangeShapes Go.WideShapes Go.ChangeAt Go.RowKit
def intV (zs : List Int) : List Value := zs.map (Value.int .i64)
section
variable {H : Type} {enc : TypeId × Value → H} {P : Program} {W : World}
theorem cell_lt {a : Addr} {v : Value} (h : W.cell? a = some v) : a.block < W.heap.size := by
  rcases Nat.lt_or_ge a.block W.heap.size with h1 | h1
  · exact h1
  · unfold World.cell? at h; rw [Array.getElem?_eq_none h1] at h; cases h
theorem open_ints_arg {t e : TypeId} (ht : P.underlying t = some (.slice e)) (he : P.underlying e = some (.int .i64)) (hc : P.cellsOf e = 1) {r : Reach} {b0 : Nat} {v : Value} {d : DataW H} {p : List MemPlace}
    (hv : Value.okWide P W r b0 t v) (h : DataW.Trod enc P W 0 (fun _ => true) true t v d p) :
    ∃ (A : Option Addr) (n c : Nat) (zs : List Int), v = .slice A n c ∧ n ≤ c ∧ c ≤ maxLen ∧ Reads W W.heap.size 1 A n (intV zs) := by
  obtain ⟨A, n, c, rfl⟩ := okWide_slice ht hv
  obtain ⟨fuel, hf⟩ := h
  rcases open_ints ht he hc hf with ⟨hcs, _⟩ | ⟨x, l, c', zs, hcs, _, hl, hm, hz, _, hcell, hwz⟩
  · simp [Value.cells] at hcs
    obtain ⟨rfl, rfl, rfl⟩ := hcs
    exact ⟨none, 0, 0, [], rfl, Nat.le_refl _, by simp [maxLen], ⟨by simp [intV], fun h => by omega⟩⟩
  · simp [Value.cells] at hcs
    obtain ⟨rfl, rfl, rfl⟩ := hcs
    simp only [if_true] at hz
    refine ⟨some x, n, c, zs.take n, rfl, hl, hm, ⟨by simp [intV]; omega, fun h0 => ⟨x, rfl, ?_, fun j u hu => ?_⟩⟩⟩
    · have h1 := cell_lt (hcell 0 (by omega))
      rwa [block_of_add] at h1
    · simp only [intV, List.getElem?_map, List.getElem?_take] at hu
      by_cases hj : j < n
      · rw [if_pos hj] at hu
        have hjz : j < zs.length := by omega
        rw [List.getElem?_eq_getElem hjz] at hu
        simp only [Option.map_some, Option.some.injEq] at hu
        rw [hcell j hjz, ← hu]
        simp [hjz]
      · rw [if_neg hj] at hu
        cases hu
end
/-- The dice at block g: the list, and how many of its numbers are gone. -/
structure DiceAt (w : World) (g B : Nat) (A : Option Addr) (n c : Nat) (zs : List Int) : Prop where
  blk : ∃ k : Nat, k ≤ n ∧ Blk w g 52 #[.slice A n c, .int .i64 k]
  rd : Reads w B 1 A n (intV zs)
  hB : B ≤ g
  hn : n ≤ 600
def NextPost (w : World) (g : Nat) (m : Int) (A : Option Addr) (n c : Nat) (e : Ending) (w' : World) : Prop :=
  ∃ j k : Nat, (j : Int) < m ∧ k ≤ n ∧ e = .returned (.int .i64 j) ∧ Blk w' g 52 #[.slice A n c, .int .i64 k] ∧ w.grownBy w' (some g)
theorem int_at {zs : List Int} {k : Nat} {u : Value} (h : (intV zs)[k]? = some u) : ∃ z, u = .int .i64 z := by
  simp only [intV, List.getElem?_map, Option.map_eq_some_iff] at h
  obtain ⟨z, _, rfl⟩ := h
  exact ⟨z, rfl⟩
set_option maxHeartbeats 1000000 in
theorem next_at (w : World) (g B : Nat) (A : Option Addr) (n c k : Nat) (zs : List Int) (m : Int) (hm : 0 < m) (hm2 : m ≤ 1000000000000) (hk : k ≤ n) (hn : n ≤ 600)
    (hb : Blk w g 52 #[.slice A n c, .int .i64 k]) (hr : Reads w B 1 A n (intV zs)) (hB : B ≤ g) :
    Calls Tryd.prog 31 #[.pointer (some ⟨g, 0, none⟩), .int .i64 m] w (NextPost w g m A n c) := by
  have c0 : w.cell? ⟨g, 0, none⟩ = some (.slice A n c) := by rw [hb.cell]; rfl
  have c1 : w.cell? ⟨g, 1, none⟩ = some (.int .i64 k) := by rw [hb.cell]; rfl
  have f1 : w.frozen? ⟨g, 1, none⟩ = false := hb.frozen 1
  by_cases hlt : k < n
  · obtain ⟨ad, u, rfl, hab, hu, hcell⟩ := hr.at_ hlt
    obtain ⟨z, rfl⟩ := int_at hu
    have hd : decide (n ≤ k) = false := by simp; omega
    have HB := hide hb
    have hgb : (ad.add k).block < g := by rw [block_of_add]; omega
    clear hb hr hu
    go_enter Tryd.func31, Tryd.ntmps31
    go_wp2_with fail
    go_quiet (fail)
    go_upto_region 4 with fail
    have hb3 : Blk ((w.drewN nq).setCell ⟨g, 1, none⟩ (.int .i64 ((k : Int) + 1))) g 52 #[.slice (some ad) n c, .int .i64 ((k : Int) + 1)] := ((unhide HB).drewN nq).set_ 1 _
    have hg3 : w.grownBy ((w.drewN nq).setCell ⟨g, 1, none⟩ (.int .i64 ((k : Int) + 1))) (some g) := only_setCell (only_drewN (only_of_below (Below.refl _ _) _) nq) (.inl rfl) _
    have k2 := hg3.cell hcell (fun e => by injection e with e; omega)
    generalize (w.drewN nq).setCell ⟨g, 1, none⟩ (.int .i64 ((k : Int) + 1)) = w3 at *
    have k0 : w3.cell? ⟨g, 0, none⟩ = some (.slice (some ad) n c) := by rw [hb3.cell]; rfl
    have k1 : w3.cell? ⟨g, 1, none⟩ = some (.int .i64 ((k : Int) + 1)) := by rw [hb3.cell]; rfl
    have HB3 := hide hb3
    have HG3 := hide hg3
    clear hb3 hg3 c0 c1 f1 hcell hgb hd
    obtain ⟨j, HJ, hj⟩ : ∃ j : Nat, Hid (z % m = (j : Int)) ∧ (j : Int) < m := ⟨(z % m).toNat, hide (by have := Int.emod_nonneg z (show m ≠ 0 by omega); omega), by have := Int.emod_nonneg z (show m ≠ 0 by omega); have := Int.emod_lt_of_pos z hm; omega⟩
    have HC := hide (fun W => mod_any W z m j hm hm2 (unhide HJ))
    have hs1 : IntKind.i64.wrap ((k : Int) + 1 - 1) = (k : Int) := by rw [show (k : Int) + 1 - 1 = k by omega]; exact IntWalk.i64_in _ (by omega)
    have hs4 : IntKind.i64.wrap (k : Int) = (k : Int) := IntWalk.i64_in _ (by omega)
    have hs2 : (0 : Int) ≤ (k : Int) := by omega
    have hs3 : (k : Int) < (n : Int) := by omega
    go_quiet ((go_at_call 23; exact Calls.quiet_of_same (still_of (unhide HC _))))
    go_wp2_with fail
    go_ret
    exact ⟨j, k + 1, hj, by omega, rfl, by have := (unhide HB3).drewN nq; simpa using this, only_drewN (unhide HG3) _⟩
  · obtain rfl : k = n := by omega
    have hd : decide (k ≤ k) = true := by simp
    have HB := hide hb
    clear hb hr
    go_enter Tryd.func31, Tryd.ntmps31
    go_wp2_with fail
    go_quiet (fail)
    go_wp2_with fail
    go_ret
    exact ⟨0, k, by omega, by omega, rfl, (unhide HB).drewN _, only_drewN (only_of_below (Below.refl _ _) (some g)) _⟩
def MicroPost (w : World) (g : Nat) (A : Option Addr) (n c : Nat) (e : Ending) (w' : World) : Prop :=
  ∃ (v : Int) (k : Nat), -1000000000000 ≤ v ∧ v ≤ 1000000000000 ∧ k ≤ n ∧ e = .returned (.int .i64 v) ∧ Blk w' g 52 #[.slice A n c, .int .i64 k] ∧ w.grownBy w' (some g)
theorem grown_tr {a b d : World} {g : Nat} (h : a.grownBy b (some g)) (k : b.grownBy d (some g)) : a.grownBy d (some g) :=
  ⟨k.os.trans h.os, k.tape.trans h.tape, k.output.trans h.output, Nat.le_trans h.size k.size, fun i hi hne => (k.block i (Nat.lt_of_lt_of_le hi h.size) hne).trans (h.block i hi hne)⟩
def limV : Array Value := #[.int .i64 0, .int .i64 1, .int .i64 (-1), .int .i64 1000000, .int .i64 (-1000000), .int .i64 1000000000000, .int .i64 (-1000000000000), .int .i64 500000]
theorem lim_at (j : Nat) (hj : j < 8) : ∃ v : Int, limV[j]? = some (.int .i64 v) ∧ -1000000000000 ≤ v ∧ v ≤ 1000000000000 := by
  have : j = 0 ∨ j = 1 ∨ j = 2 ∨ j = 3 ∨ j = 4 ∨ j = 5 ∨ j = 6 ∨ j = 7 := by omega
  rcases this with rfl | rfl | rfl | rfl | rfl | rfl | rfl | rfl <;> exact ⟨_, rfl, by omega, by omega⟩
set_option maxHeartbeats 1000000 in
theorem micro_at (w : World) (g B : Nat) (A : Option Addr) (n c k : Nat) (zs : List Int) (hk : k ≤ n) (hn : n ≤ 600)
    (hb : Blk w g 52 #[.slice A n c, .int .i64 k]) (hr : Reads w B 1 A n (intV zs)) (hB : B ≤ g) :
    Calls Tryd.prog 16 #[.pointer (some ⟨g, 0, none⟩)] w (MicroPost w g A n c) := by
  have hlt := hb.lt
  have hr0 := hide (hr.alloc (by omega : B ≤ w.heap.size) (.cells limV 53))
  have hb0 := hide (hb.alloc (.cells limV 53))
  have hl0 := hide (Blk.new w 53 limV)
  have hg0 := hide (only_alloc (only_of_below (Below.refl _ _) (some g)) (.cells limV 53) : w.grownBy (w.alloc (.cells limV 53)) (some g))
  clear hb hr
  go_enter Tryd.func16, Tryd.ntmps16
  go_wp2_with fail
  refine (next_at (w.alloc (.cells limV 53)) g B A n c k zs 3 (by omega) (by omega) hk hn (unhide hb0) (unhide hr0) hB).mono ?_
  rintro e w1 ⟨j, k1, hj, hk1, rfl, hb1, hg1⟩
  have HR1 := hide ((unhide hr0).grown hg1 (by rw [size_alloc]; omega) (fun g' e => by injection e with e; omega))
  have HL1 := hide ((unhide hl0).grown hg1 (fun e => by injection e with e; omega))
  have HB1 := hide hb1
  have HG1 := hide (grown_tr (unhide hg0) hg1)
  have hsz : w.heap.size < w1.heap.size := by have := hg1.size; rw [size_alloc] at this; omega
  clear hb1 hg1 hr0 hb0 hl0 hg0
  have hj3 : j = 0 ∨ j = 1 ∨ j = 2 := by omega
  rcases hj3 with rfl | rfl | rfl
  · go_wp2_with fail
    refine (next_at w1 g B A n c k1 zs 8 (by omega) (by omega) hk1 hn (unhide HB1) (unhide HR1) hB).mono ?_
    rintro e w2 ⟨j2, k2, hj2, hk2, rfl, hb2, hg2⟩
    obtain ⟨v, hv, v1, v2⟩ := lim_at j2 (by omega)
    have hc : w2.cell? ⟨w.heap.size, j2, none⟩ = some (.int .i64 v) := by rw [((unhide HL1).grown hg2 (fun e => by injection e with e; omega)).cell]; exact hv
    have HB2 := hide hb2
    have HG2 := hide (grown_tr (unhide HG1) hg2)
    clear hb2 hg2 hv
    go_wp2_with fail
    go_ret
    exact ⟨v, k2, v1, v2, hk2, rfl, unhide HB2, unhide HG2⟩
  · go_wp2_with fail
    refine (next_at w1 g B A n c k1 zs 2000001 (by omega) (by omega) hk1 hn (unhide HB1) (unhide HR1) hB).mono ?_
    rintro e w2 ⟨j2, k2, hj2, hk2, rfl, hb2, hg2⟩
    have HB2 := hide hb2
    have HG2 := hide (grown_tr (unhide HG1) hg2)
    clear hb2 hg2
    go_wp2_with fail
    go_ret
    exact ⟨(j2 : Int) - 1000000, k2, by omega, by omega, hk2, rfl, unhide HB2, unhide HG2⟩
  · go_wp2_with fail
    refine (next_at w1 g B A n c k1 zs 2000001 (by omega) (by omega) hk1 hn (unhide HB1) (unhide HR1) hB).mono ?_
    rintro e w2 ⟨j2, k2, hj2, hk2, rfl, hb2, hg2⟩
    have HB2 := hide hb2
    have HG2 := hide (grown_tr (unhide HG1) hg2)
    have HR2 := hide ((unhide HR1).grown hg2 (by omega) (fun g' e => by injection e with e; omega))
    clear hb2 hg2
    go_wp2_with fail
    refine (next_at w2 g B A n c k2 zs 1000 (by omega) (by omega) hk2 hn (unhide HB2) (unhide HR2) hB).mono ?_
    rintro e w3 ⟨j3, k3, hj3, hk3, rfl, hb3, hg3⟩
    have HB3 := hide hb3
    have HG3 := hide (grown_tr (unhide HG2) hg3)
    clear hb3 hg3
    obtain ⟨p1, p2⟩ := prod_bd (((j2 : Int) - 1000000) * 1000) (1 + (j3 : Int)) 1000000000 1000 (by omega) (by omega) (by omega) (by omega)
    go_wp2_with fail
    go_ret
    exact ⟨((j2 : Int) - 1000000) * 1000 * (1 + (j3 : Int)), k3, by omega, by omega, hk3, rfl, unhide HB3, unhide HG3⟩
theorem light_at (w : World) (A : Option Addr) (n c : Nat) (b : Bool) (hb : decide (n ≤ 600) = b) :
    Calls Tryd.prog 13 #[.slice A n c] w fun e w' => e = .returned (.bool b) ∧ w = w' := by
  cases b
  · have h : ¬ n ≤ 600 := by simpa using hb
    go_enter Tryd.func13, Tryd.ntmps13
    go_wp2_with fail
    go_ret
    exact ⟨by simp; omega, rfl⟩
  · have h : n ≤ 600 := by simpa using hb
    go_enter Tryd.func13, Tryd.ntmps13
    go_wp2_with fail
    go_ret
    exact ⟨by simp; omega, rfl⟩
theorem roll_at (w : World) (A : Option Addr) (n c : Nat) :
    Calls Tryd.prog 15 #[.slice A n c] w fun e w' => e = .returned (.pointer (some ⟨w.heap.size, 0, none⟩)) ∧ w' = w.alloc (.cells #[.slice A n c, .int .i64 0] 52) := by
  go_enter Tryd.func15, Tryd.ntmps15
  go_wp2_with fail
  go_ret
  exact ⟨rfl, rfl⟩
end Go.Proofs.YtcebjipekodmpaaDoor
