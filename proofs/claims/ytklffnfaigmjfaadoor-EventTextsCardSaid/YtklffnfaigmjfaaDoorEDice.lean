/- Dice out of plain numbers: Light, Roll, Next, Bool, Byte. No condition. -/
import Derived.Test.YtklffnfaigmjfaaDoorEIndexes
import Derived.ProofKit
import Derived.OpenShut
import Derived.BigQuiet
import Derived.Deep.CutRange
namespace Go.Proofs.YtklffnfaigmjfaaDoor
open Go.ChangeShapes Go.WideShapes Go.ChangeAt Go.RowKit
def intV (zs : List Int) : List Value := zs.map (Value.int .i64)
section
variable {H : Type} {enc : TypeId × Value → H} {P : Program} {W : World}
theorem open_ints_arg {t e : TypeId} (ht : P.underlying t = some (.slice e)) (he : P.underlying e = some (.int .i64)) (hc : P.cellsOf e = 1) {r : Reach} {b0 : Nat} {v : Value} {d : DataW H} {p : List MemPlace}
    (hv : Value.okWide P W r b0 t v) (h : DataW.Trod enc P W 0 (fun _ => true) true t v d p) :
    ∃ (A : Option Addr) (n c : Nat) (zs : List Int), v = .slice A n c ∧ n ≤ c ∧ c ≤ maxLen ∧ Reads W W.heap.size 1 A n (intV zs) := by
  obtain ⟨A, n, c, rfl⟩ := okWide_slice ht hv
  obtain ⟨fuel, hf⟩ := h
  rcases open_ints ht he hc hf with ⟨hcs, _⟩ | ⟨x, l, c', zs, hcs, _, hl, hm, hz, _, hcell, hwz⟩
  · simp [Value.cells] at hcs
    obtain ⟨rfl, rfl, rfl⟩ := hcs
    exact ⟨none, 0, 0, [], rfl, Nat.le_refl _, by simp [maxLen], ⟨by simp [intV], fun h => by omega⟩⟩
  · simp [Value.cells] at hcs
    obtain ⟨rfl, rfl, rfl⟩ := hcs
    simp only [if_true] at hz
    refine ⟨some x, n, c, zs.take n, rfl, hl, hm, ⟨by simp [intV]; omega, fun h0 => ⟨x, rfl, ?_, fun j u hu => ?_⟩⟩⟩
    · have h1 := lt_of_cell (hcell 0 (by omega))
      rwa [block_of_add] at h1
    · simp only [intV, List.getElem?_map, List.getElem?_take] at hu
      by_cases hj : j < n
      · rw [if_pos hj] at hu
        have hjz : j < zs.length := by omega
        rw [List.getElem?_eq_getElem hjz] at hu
        simp only [Option.map_some, Option.some.injEq] at hu
        rw [hcell j hjz, ← hu]
        simp [hjz]
      · rw [if_neg hj] at hu
        cases hu
end
def DNextPost (w : World) (g : Nat) (m : Int) (A : Option Addr) (n c : Nat) (e : Ending) (w' : World) : Prop :=
  ∃ j k : Nat, (j : Int) < m ∧ k ≤ n ∧ e = .returned (.int .i64 j) ∧ Blk w' g 66 #[.slice A n c, .int .i64 k] ∧ w.grownBy w' (some g)
theorem int_at {zs : List Int} {k : Nat} {u : Value} (h : (intV zs)[k]? = some u) : ∃ z, u = .int .i64 z := by
  simp only [intV, List.getElem?_map, Option.map_eq_some_iff] at h
  obtain ⟨z, _, rfl⟩ := h
  exact ⟨z, rfl⟩
set_option maxHeartbeats 1000000 in
theorem next_at (w : World) (g B : Nat) (A : Option Addr) (n c k : Nat) (zs : List Int) (m : Int) (hm : 0 < m) (hm2 : m ≤ 1000000000000) (hk : k ≤ n) (hn : n ≤ 600)
    (hb : Blk w g 66 #[.slice A n c, .int .i64 k]) (hr : Reads w B 1 A n (intV zs)) (hB : B ≤ g) :
    Calls Tryd.prog 27 #[.pointer (some ⟨g, 0, none⟩), .int .i64 m] w (DNextPost w g m A n c) := by
  have c0 : w.cell? ⟨g, 0, none⟩ = some (.slice A n c) := by rw [hb.cell]; rfl
  have c1 : w.cell? ⟨g, 1, none⟩ = some (.int .i64 k) := by rw [hb.cell]; rfl
  have f1 : w.frozen? ⟨g, 1, none⟩ = false := hb.frozen 1
  by_cases hlt : k < n
  · obtain ⟨ad, u, rfl, hab, hu, hcell⟩ := hr.at_ hlt
    obtain ⟨z, rfl⟩ := int_at hu
    have hd : decide (n ≤ k) = false := by simp; omega
    have HB := hide hb
    have hgb : (ad.add k).block < g := by rw [block_of_add]; omega
    clear hb hr hu
    go_enter Tryd.func27, Tryd.ntmps27
    go_wp2_with fail
    go_quiet (fail)
    go_upto_region 4 with fail
    have hb3 : Blk ((w.drewN nq).setCell ⟨g, 1, none⟩ (.int .i64 ((k : Int) + 1))) g 66 #[.slice (some ad) n c, .int .i64 ((k : Int) + 1)] := ((unhide HB).drewN nq).set_ 1 _
    have hg3 : w.grownBy ((w.drewN nq).setCell ⟨g, 1, none⟩ (.int .i64 ((k : Int) + 1))) (some g) := only_setCell (only_drewN (only_of_below (Below.refl _ _) _) nq) (.inl rfl) _
    have k2 := hg3.cell hcell (fun e => by injection e with e; omega)
    generalize (w.drewN nq).setCell ⟨g, 1, none⟩ (.int .i64 ((k : Int) + 1)) = w3 at *
    have k0 : w3.cell? ⟨g, 0, none⟩ = some (.slice (some ad) n c) := by rw [hb3.cell]; rfl
    have k1 : w3.cell? ⟨g, 1, none⟩ = some (.int .i64 ((k : Int) + 1)) := by rw [hb3.cell]; rfl
    have HB3 := hide hb3
    have HG3 := hide hg3
    clear hb3 hg3 c0 c1 f1 hcell hgb hd
    obtain ⟨j, HJ, hj⟩ : ∃ j : Nat, Hid (z % m = (j : Int)) ∧ (j : Int) < m := ⟨(z % m).toNat, hide (by have := Int.emod_nonneg z (show m ≠ 0 by omega); omega), by have := Int.emod_nonneg z (show m ≠ 0 by omega); have := Int.emod_lt_of_pos z hm; omega⟩
    have HC := hide (fun W => mod_at W z m j (by omega) (by omega) (unhide HJ))
    have hs1 : IntKind.i64.wrap ((k : Int) + 1 - 1) = (k : Int) := by rw [show (k : Int) + 1 - 1 = k by omega]; exact IntWalk.i64_in _ (by omega)
    have hs4 : IntKind.i64.wrap (k : Int) = (k : Int) := IntWalk.i64_in _ (by omega)
    have hs2 : (0 : Int) ≤ (k : Int) := by omega
    have hs3 : (k : Int) < (n : Int) := by omega
    go_quiet ((go_at_call 10; exact Calls.quiet_of_same (still_of (unhide HC _))))
    go_wp2_with fail
    go_ret
    exact ⟨j, k + 1, hj, by omega, rfl, by have := (unhide HB3).drewN nq; simpa using this, only_drewN (unhide HG3) _⟩
  · obtain rfl : k = n := by omega
    have hd : decide (k ≤ k) = true := by simp
    have HB := hide hb
    clear hb hr
    go_enter Tryd.func27, Tryd.ntmps27
    go_wp2_with fail
    go_quiet (fail)
    go_wp2_with fail
    go_ret
    exact ⟨0, k, by omega, by omega, rfl, (unhide HB).drewN _, only_drewN (only_of_below (Below.refl _ _) (some g)) _⟩
theorem grown_tr {a b d : World} {g : Nat} (h : a.grownBy b (some g)) (k : b.grownBy d (some g)) : a.grownBy d (some g) :=
  ⟨k.os.trans h.os, k.tape.trans h.tape, k.output.trans h.output, Nat.le_trans h.size k.size, fun i hi hne => (k.block i (Nat.lt_of_lt_of_le hi h.size) hne).trans (h.block i hi hne)⟩
theorem light_at (w : World) (A : Option Addr) (n c : Nat) (b : Bool) (hb : decide (n ≤ 600) = b) :
    Calls Tryd.prog 21 #[.slice A n c] w fun e w' => e = .returned (.bool b) ∧ w = w' := by
  cases b
  · have h : ¬ n ≤ 600 := by simpa using hb
    go_enter Tryd.func21, Tryd.ntmps21
    go_wp2_with fail
    go_ret
    exact ⟨by simp; omega, rfl⟩
  · have h : n ≤ 600 := by simpa using hb
    go_enter Tryd.func21, Tryd.ntmps21
    go_wp2_with fail
    go_ret
    exact ⟨by simp; omega, rfl⟩
theorem roll_at (w : World) (A : Option Addr) (n c : Nat) :
    Calls Tryd.prog 22 #[.slice A n c] w fun e w' => e = .returned (.pointer (some ⟨w.heap.size, 0, none⟩)) ∧ w' = w.alloc (.cells #[.slice A n c, .int .i64 0] 66) := by
  go_enter Tryd.func22, Tryd.ntmps22
  go_wp2_with fail
  go_ret
  exact ⟨rfl, rfl⟩
/-- The dice at block g are good: a list below block B. -/
def DiceOk (w : World) (B g : Nat) : Prop := ∃ (A : Option Addr) (n c k : Nat) (zs : List Int), k ≤ n ∧ n ≤ 600 ∧ Blk w g 66 #[.slice A n c, .int .i64 k] ∧ Reads w B 1 A n (intV zs) ∧ B ≤ g
theorem DiceOk.lt {w : World} {B g : Nat} (h : DiceOk w B g) : g < w.heap.size := by
  obtain ⟨A, n, c, k, zs, _, _, hb, _, _⟩ := h
  exact hb.lt
theorem DiceOk.keep {w w' : World} {B g : Nat} (h : DiceOk w B g) (hb : ∀ b, b ≤ g → w'.heap[b]? = w.heap[b]?) : DiceOk w' B g := by
  obtain ⟨A, n, c, k, zs, h1, h2, h3, h4, h5⟩ := h
  exact ⟨A, n, c, k, zs, h1, h2, (hb g (Nat.le_refl _)).trans h3, h4.keep fun p hp => World.cell?_of_block (hb _ (by omega)), h5⟩
theorem DiceOk.far {w w' : World} {B g : Nat} {row : Option Nat} (h : DiceOk w B g) (k : w.grownBy w' row) (hr : ∀ j, row = some j → g < j) : DiceOk w' B g :=
  h.keep fun i hi => k.block i (by have := h.lt; omega) (fun e => by have := hr i e.symm; omega)
def DNext (w : World) (B g : Nat) (m : Int) (e : Ending) (w' : World) : Prop := ∃ j : Nat, (j : Int) < m ∧ e = .returned (.int .i64 j) ∧ DiceOk w' B g ∧ w.grownBy w' (some g)
theorem dnext_any (w : World) (B g : Nat) (m : Int) (hm : 0 < m) (hm2 : m ≤ 100000000) (h : DiceOk w B g) :
    Calls Tryd.prog 27 #[.pointer (some ⟨g, 0, none⟩), .int .i64 m] w (DNext w B g m) := by
  obtain ⟨A, n, c, k, zs, h1, h2, h3, h4, h5⟩ := h
  refine (next_at w g B A n c k zs m hm (by omega) h1 h2 h3 h4 h5).mono fun e w' h => ?_
  obtain ⟨j, k', hj, hk', he, hb, hg⟩ := h
  exact ⟨j, hj, he, ⟨A, n, c, k', zs, hk', h2, hb, h4.keep fun p hp => World.cell?_of_block (hg.block p.block (by
    have := h3.lt
    omega) (by intro e; injection e with e; omega)), h5⟩, hg⟩
def DBool (w : World) (B g : Nat) (e : Ending) (w' : World) : Prop := ∃ b : Bool, e = .returned (.bool b) ∧ DiceOk w' B g ∧ w.grownBy w' (some g)
theorem dbool_any (w : World) (B g : Nat) (m : Int) (hm : 0 < m) (hm2 : m ≤ 100000000) (h : DiceOk w B g) :
    Calls Tryd.prog 39 #[.pointer (some ⟨g, 0, none⟩), .int .i64 m] w (DBool w B g) := by
  have H := hide h
  clear h
  go_enter Tryd.func39, Tryd.ntmps39
  go_wp2_with fail
  refine (dnext_any _ B g m hm hm2 (unhide H)).mono ?_
  rintro e w1 ⟨j, hj, rfl, hd, hg⟩
  have HD := hide hd
  have HG := hide hg
  clear hd hg
  go_wp2_with fail
  go_ret
  exact ⟨_, rfl, unhide HD, unhide HG⟩
def byteLim : Array Value := #[.int .u8 0, .int .u8 1, .int .u8 127, .int .u8 128, .int .u8 254, .int .u8 255, .int .u8 15, .int .u8 240]
theorem byteLim_at (j : Nat) (hj : j < 8) : ∃ v : Int, byteLim[j]? = some (.int .u8 v) ∧ 0 ≤ v ∧ v < 256 := by
  have : j = 0 ∨ j = 1 ∨ j = 2 ∨ j = 3 ∨ j = 4 ∨ j = 5 ∨ j = 6 ∨ j = 7 := by omega
  rcases this with rfl | rfl | rfl | rfl | rfl | rfl | rfl | rfl <;> exact ⟨_, rfl, by omega, by omega⟩
def DByte (w : World) (B g : Nat) (e : Ending) (w' : World) : Prop := ∃ x : Int, 0 ≤ x ∧ x < 256 ∧ e = .returned (.int .u8 x) ∧ DiceOk w' B g ∧ w.grownBy w' (some g)
set_option maxHeartbeats 1000000 in
theorem dbyte_any (w : World) (B g : Nat) (h : DiceOk w B g) : Calls Tryd.prog 30 #[.pointer (some ⟨g, 0, none⟩)] w (DByte w B g) := by
  have hlt := h.lt
  have H0 : Hid (DiceOk (w.alloc (.cells byteLim 76)) B g) := hide (h.far (World.grownBy_alloc w _ none) (fun j e => by cases e))
  have L0 : Hid (Blk (w.alloc (.cells byteLim 76)) w.heap.size 76 byteLim) := hide (Blk.new w _ _)
  have G0 : Hid (w.grownBy (w.alloc (.cells byteLim 76)) (some g)) := hide (World.grownBy_alloc w _ _)
  clear h
  go_enter Tryd.func30, Tryd.ntmps30
  go_wp2_with fail
  refine (dbool_any _ B g 3 (by omega) (by omega) (unhide H0)).mono ?_
  rintro e w1 ⟨b, rfl, hd, hg⟩
  have H1 := hide hd
  have G1 := hide (grown_tr (unhide G0) hg)
  have L1 := hide ((unhide L0).grown hg (by intro e; injection e with e; omega))
  clear hd hg
  cases b
  · go_wp2_with fail
    refine (dnext_any _ B g 256 (by omega) (by omega) (unhide H1)).mono ?_
    rintro e w2 ⟨j, hj, rfl, hd, hg⟩
    have H2 := hide hd
    have G2 := hide (grown_tr (unhide G1) hg)
    have hw : IntKind.u8.wrap (j : Int) = (j : Int) := IntWalk.u8_in _ (by omega)
    clear hd hg
    go_wp2_with fail
    go_ret
    exact ⟨(j : Int), by omega, hj, rfl, unhide H2, unhide G2⟩
  · go_wp2_with fail
    refine (dnext_any _ B g 8 (by omega) (by omega) (unhide H1)).mono ?_
    rintro e w2 ⟨j, hj, rfl, hd, hg⟩
    have H2 := hide hd
    have G2 := hide (grown_tr (unhide G1) hg)
    obtain ⟨v, hv, v1, v2⟩ := byteLim_at j (by omega)
    have hc : w2.cell? ⟨w.heap.size, j, none⟩ = some (.int .u8 v) := by rw [((unhide L1).grown hg (by intro e; injection e with e; omega)).cell]; exact hv
    clear hd hg hv
    go_wp2_with fail
    go_ret
    exact ⟨v, v1, v2, rfl, unhide H2, unhide G2⟩
end Go.Proofs.YtklffnfaigmjfaaDoor
