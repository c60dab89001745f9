/- joined by tools/merge.py of Open Field SKey SOneP SOneQ SOneC SOneW. -/
import Derived.Test.YtfbkkmnkpjgciaaLe
import Derived.Test.YtfbkkmnkpjgciaaProg
import Derived.ProofKit
import Derived.OpenShut
import Derived.ShutString
import Derived.ChangeOld
import Derived.Test.YtfbkkmnkpjgciaaMem
import Derived.BigQuiet
import Derived.IntWalk
import Derived.Test.YtfbkkmnkpjgciaaSOps
import Derived.Test.YtfbkkmnkpjgciaaSAwakeM
import Derived.Test.YtfbkkmnkpjgciaaSAwake
/- Arguments of the laws, opened: a slice of bytes, an array of bytes. No condition. -/
namespace Go.Proofs.Ytfbkkmnkpjgciaa
open Go.ChangeShapes Go.WideShapes Go.ChangeAt Go.RowKit
section
variable {H : Type} {enc : TypeId × Value → H} {P : Program} {W : World}
theorem cell_lt {a : Addr} {v : Value} (h : W.cell? a = some v) : a.block < W.heap.size := by
  rcases Nat.lt_or_ge a.block W.heap.size with h1 | h1
  · exact h1
  · unfold World.cell? at h; rw [Array.getElem?_eq_none h1] at h; cases h
def toB (z : Int) : UInt8 := UInt8.ofNat z.toNat
theorem toB_eq {z : Int} (h : (Lit.int .u8 z).wf = true) : ((toB z).toNat : Int) = z := by
  have := bounds_u8 h
  unfold toB
  rw [UInt8.toNat_ofNat']
  omega
theorem open_bytes {t e : TypeId} (ht : P.underlying t = some (.slice e)) (he : P.underlying e = some (.int .u8)) (hc : P.cellsOf e = 1) {r : Reach} {b0 : Nat} {v : Value} {d : DataW H} {p : List MemPlace}
    (hv : Value.okWide P W r b0 t v) (h : DataW.Trod enc P W 0 (fun _ => true) true t v d p) :
    ∃ (A : Option Addr) (n c : Nat) (bs : List UInt8), v = .slice A n c ∧ n ≤ c ∧ c ≤ maxLen ∧ Reads W W.heap.size 1 A n (bsV bs) := by
  obtain ⟨A, n, c, rfl⟩ := okWide_slice ht hv
  obtain ⟨fuel, hf⟩ := h
  rcases open_ints ht he hc hf with ⟨hcs, _⟩ | ⟨x, l, c', zs, hcs, _, hl, hm, hz, _, hcell, hwz⟩
  · simp [Value.cells] at hcs
    obtain ⟨rfl, rfl, rfl⟩ := hcs
    exact ⟨none, 0, 0, [], rfl, Nat.le_refl _, by simp [maxLen], ⟨by simp, fun h => by omega⟩⟩
  · simp [Value.cells] at hcs
    obtain ⟨rfl, rfl, rfl⟩ := hcs
    simp only [if_true] at hz
    refine ⟨some x, n, c, (zs.take n).map toB, rfl, hl, hm, ⟨by simp; omega, fun h0 => ⟨x, rfl, ?_, fun j u hu => ?_⟩⟩⟩
    · have h1 := cell_lt (hcell 0 (by omega))
      rwa [block_of_add] at h1
    · simp only [bsV, List.getElem?_map, List.map_map, List.getElem?_take] at hu
      by_cases hj : j < n
      · rw [if_pos hj] at hu
        have hjz : j < zs.length := by omega
        rw [List.getElem?_eq_getElem hjz] at hu
        simp only [Option.map_some, Function.comp, Option.some.injEq] at hu
        rw [hcell j hjz, ← hu, toB_eq (hwz _ (List.getElem_mem hjz))]
        simp [hjz]
      · rw [if_neg hj] at hu
        cases hu
theorem open_byteArr {t e m : Nat} (ht : P.underlying t = some (.array m e)) (he : P.underlying e = some (.int .u8)) (hc : P.cellsOf e = 1) (hct : P.cellsOf t = m) {r : Reach} {b0 : Nat} {v : Value} {d : DataW H} {p : List MemPlace}
    (hv : Value.okWide P W r b0 t v) (h : DataW.Trod enc P W 0 (fun _ => true) true t v d p) : ∃ ks : List UInt8, ks.length = m ∧ v = .agg (bsV ks).toArray := by
  simp only [Value.okWide, ht] at hv
  obtain ⟨cs, rfl, h2, _⟩ := hv
  obtain ⟨fuel, hf⟩ := h
  obtain ⟨xs, k, _, _, hl, hxl, hx⟩ := DataW.trod_array ht hf
  have hcl : cs.toList.length = m := by simpa [Value.cells, hct] using hl
  have each : ∀ i (hi : i < cs.toList.length), ∃ a : Int, cs.toList[i] = .int .u8 a ∧ (Lit.int .u8 a).wf = true := by
    intro i hi
    have h3 := hx i (by omega)
    rw [hc, Nat.mul_one, List.getElem?_eq_getElem (by omega)] at h3
    have e1 : ((Value.agg cs).cells.toList.drop i).take 1 = [cs.toList[i]] := by
      show (cs.toList.drop i).take 1 = _
      rw [List.drop_eq_getElem_cons hi]; rfl
    rw [e1] at h3
    obtain ⟨a, ea, _, wa⟩ := DataW.trod_int he h3
    simp at ea
    exact ⟨a, by simpa using ea, wa⟩
  refine ⟨cs.toList.map (fun u => match u with | .int _ a => toB a | _ => 0), by simpa using hcl, ?_⟩
  congr 1
  apply Array.toList_inj.1
  apply List.ext_getElem
  · simp
  · intro i h1 h2
    obtain ⟨a, ea, wa⟩ := each i h1
    rw [ea]
    simp [bsV] at h2 ⊢
    have ea' : cs[i] = .int .u8 a := by simpa using ea
    rw [ea']
    exact (toB_eq wa).symm
end
end Go.Proofs.Ytfbkkmnkpjgciaa

/- The maker of values: New, Left and Next of baseboardfield. Next gives some number of its range and leaves the codes good. No condition. -/
namespace Go.Proofs.Ytfbkkmnkpjgciaa
open Go.RowKit
/-- Block g is a Codes: bytes below block B, and a place in them. -/
def CodesIs (w : World) (B g : Nat) (A : Option Addr) (m c : Nat) (bs : List UInt8) (at_ : Nat) : Prop :=
  Blk w g 70 #[.slice A m c, .int .i64 (at_ : Int)] ∧ Reads w B 1 A m (bsV bs) ∧ at_ ≤ m ∧ B ≤ g ∧ m ≤ 1048576
def CodesAt (w : World) (B g : Nat) : Prop := ∃ A m c bs at_, CodesIs w B g A m c bs at_
theorem CodesIs.keep {w w' : World} {B g : Nat} {A m c bs at_} (h : CodesIs w B g A m c bs at_) (hb : ∀ b, b ≤ g → w'.heap[b]? = w.heap[b]?) : CodesIs w' B g A m c bs at_ := by
  obtain ⟨h1, h2, h3, h4, h5⟩ := h
  refine ⟨(hb g (Nat.le_refl _)).trans h1, h2.keep fun p hp => World.cell?_of_block (hb _ (by omega)), h3, h4, h5⟩
theorem CodesAt.keep {w w' : World} {B g : Nat} (h : CodesAt w B g) (hb : ∀ b, b ≤ g → w'.heap[b]? = w.heap[b]?) : CodesAt w' B g := by
  obtain ⟨A, m, c, bs, at_, h⟩ := h
  exact ⟨A, m, c, bs, at_, h.keep hb⟩
theorem CodesIs.at_ {w : World} {B g : Nat} {A m c bs at_} (h : CodesIs w B g A m c bs at_) : CodesAt w B g := ⟨A, m, c, bs, at_, h⟩
theorem CodesIs.lt {w : World} {B g : Nat} {A m c bs at_} (h : CodesIs w B g A m c bs at_) : g < w.heap.size := h.1.lt
theorem CodesAt.lt {w : World} {B g : Nat} (h : CodesAt w B g) : g < w.heap.size := by
  obtain ⟨A, m, c, bs, at_, h⟩ := h
  exact h.lt
theorem left_any (w : World) (B g : Nat) (A : Option Addr) (m c : Nat) (bs : List UInt8) (at_ : Nat) (h : CodesIs w B g A m c bs at_) (b : Bool) (hb : decide (at_ < m) = b) :
    Calls Try.prog 34 #[.pointer (some ⟨g, 0, none⟩)] w fun e w' => e = .returned (.bool b) ∧ ∃ k, w' = w.drewN k := by
  have h0 := h.1.cell 0
  have h1 := h.1.cell 1
  simp only [List.getElem?_toArray, List.getElem?_cons_zero, List.getElem?_cons_succ] at h0 h1
  have HB := Lib.hid hb
  clear hb h
  go_enter Try.func34, Try.ntmps34
  go_wp2_with fail
  go_quiet (fail)
  go_wp2_with fail
  go_ret
  exact ⟨by rw [← HB.out]; simp, nq, rfl⟩
set_option maxHeartbeats 400000 in
theorem new_any (w : World) (A : Option Addr) (n c : Nat) (bs : List UInt8) (most : Nat) (h : Reads w w.heap.size 1 A n (bsV bs)) (hn : n ≤ c) (hc : c ≤ maxLen) (hm : most ≤ 1048576) :
    Calls Try.prog 8 #[.slice A n c, .int .i64 (most : Int)] w fun e w' => e = .returned (.pointer (some ⟨w.heap.size, 0, none⟩)) ∧ CodesAt w' w.heap.size w.heap.size ∧ Below w.heap.size w w' := by
  have h1 : ∀ (m : Nat), m ≤ n → m ≤ 1048576 → CodesAt (w.alloc (.cells #[.slice A m c, .int .i64 0] 70)) w.heap.size w.heap.size := fun m hm hb =>
    ⟨A, m, c, bs.take m, 0, Blk.new w _ _, by
      have := (h.take hm).alloc (Nat.le_refl _) (.cells #[.slice A m c, .int .i64 0] 70)
      simpa [bsV, List.map_take] using this, Nat.zero_le _, Nat.le_refl _, hb⟩
  have HH := hide h1
  unfold maxLen at hc
  clear h1 h
  by_cases hle : n ≤ most
  all_goals
    go_enter Try.func8, Try.ntmps8
    go_wp2_with fail
    go_ret
    exact ⟨rfl, (unhide HH) _ (by omega) (by omega), (Below.refl _ _).alloc (Nat.le_refl _) _⟩
/-- What a call of Next leaves: a number of the range, the codes good, and nothing else turned. -/
def NextPost (w : World) (B g : Nat) (n : Int) (e : Ending) (w' : World) : Prop :=
  ∃ r : Int, e = .returned (.int .i64 r) ∧ 0 ≤ r ∧ (r = 0 ∨ r < n) ∧ CodesAt w' B g ∧ w.grownBy w' (some g)
theorem NextPost.mk_ {w w' : World} {B g : Nat} {n r : Int} (h1 : 0 ≤ r) (h2 : r = 0 ∨ r < n) (h3 : CodesAt w' B g) (h4 : w.grownBy w' (some g)) : NextPost w B g n (.returned (.int .i64 r)) w' := ⟨r, rfl, h1, h2, h3, h4⟩
theorem CodesIs.step {w : World} {B g : Nat} {A m c bs at_} (h : CodesIs w B g A m c bs at_) (hlt : at_ < m) (k : Nat) : CodesIs ((w.drewN k).setCell ⟨g, 1, none⟩ (.int .i64 ((at_ : Int) + 1))) B g A m c bs (at_ + 1) := by
  obtain ⟨h1, h2, h3, h4, h5⟩ := h
  exact ⟨(h1.drewN k).set_ 1 _, (h2.drewN k).setCell h4 _, hlt, h4, h5⟩
theorem or_bound (x y : Int) (hx : 0 ≤ x) (hx2 : x < 256) (hy : 0 ≤ y) (hy2 : y < 256) : 0 ≤ bits .or .i64 x (y * 256) := by
  obtain ⟨X, rfl⟩ := Int.eq_ofNat_of_zero_le hx
  obtain ⟨Y, rfl⟩ := Int.eq_ofNat_of_zero_le hy
  have := i64_or_nat X (Y * 256) (by omega) (by omega)
  rw [show (Y : Int) * 256 = ((Y * 256 : Nat) : Int) from by omega, this]
  omega
set_option maxRecDepth 100000 in
set_option maxHeartbeats 1000000 in
theorem next_any (w : World) (B g : Nat) (n : Int) (h : CodesAt w B g) (hn : n ≤ 1000000000) (hn0 : -1000000000 ≤ n) :
    Calls Try.prog 16 #[.pointer (some ⟨g, 0, none⟩), .int .i64 n] w (NextPost w B g n) := by
  obtain ⟨A, m, c, bs, at_, h⟩ := h
  have HH := hide h
  have c1 := h.1.cell 1
  have c0 := h.1.cell 0
  have f1 := h.1.frozen 1
  simp only [List.getElem?_toArray, List.getElem?_cons_zero, List.getElem?_cons_succ] at c0 c1
  by_cases hlt : at_ < m
  · have hl := left_any w B g A m c bs at_ h true (by simpa using hlt)
    have HL := hide hl
    obtain ⟨ad, u, rfl, _, hx, hcx⟩ := h.2.1.at_ hlt
    obtain ⟨b, hb, rfl, hb0, hb1⟩ := bsV_get hx
    have hm5 := h.2.2.2.2
    clear hb hx h hl
    by_cases h1 : n < 1
    · go_enter Try.func16, Try.ntmps16
      go_wp2_with fail
      refine (unhide HL).mono ?_
      rintro e w1 ⟨rfl, k, rfl⟩
      go_wp2_with fail
      go_ret
      exact ⟨0, rfl, by omega, .inl rfl, ((unhide HH).keep (fun b _ => rfl)).at_, only_drewN (World.grownBy.refl w _) _⟩
    · have HS := hide (fun k => (unhide HH).step hlt k)
      have HG : Hid (∀ k (w' : World) (v : Value), Hid (w' = (w.drewN k).setCell ⟨g, 1, none⟩ v) → w.grownBy w' (some g)) := hide (fun k w' v h => by rw [h.out]; exact only_setCell (only_drewN (World.grownBy.refl w (some g)) k) (.inl rfl) v)
      by_cases h2 : n ≤ 256
      · go_enter Try.func16, Try.ntmps16
        go_wp2_with fail
        refine (unhide HL).mono ?_
        rintro e w1 ⟨rfl, k, rfl⟩
        go_wp2_with fail
        go_quiet (fail)
        go_wp2_with fail
        go_ret
        exact ⟨_, rfl, Int.emod_nonneg _ (by omega), .inr (Int.emod_lt_of_pos _ (by omega)), (unhide HS _).at_, unhide HG _ _ _ (Lib.hid rfl)⟩
      · by_cases h3 : at_ + 1 < m
        · have HL2 := hide (fun k => left_any _ B g _ m c bs (at_ + 1) (unhide HS k) true (by simpa using h3))
          have HS2 := hide (fun k j => (unhide HS k).step h3 j)
          obtain ⟨_, u2, e2, _, hx2, hcx2⟩ := (unhide HH).2.1.at_ h3
          injection e2 with e2
          subst e2
          obtain ⟨b2, hb2, rfl, hb20, hb21⟩ := bsV_get hx2
          have hne : (ad.add (at_ + 1)).block ≠ g := by
            have := (unhide HH).2.2.2.1
            rw [block_of_add]; omega
          have hc3 : ∀ (k : Nat) (v : Value), ((w.drewN k).setCell ⟨g, 1, none⟩ v).cell? ⟨ad.block, ad.off + (at_ + 1), none⟩ = some (.int .u8 (b2.toNat : Int)) := fun k v => by
            show ((w.drewN k).setCell ⟨g, 1, none⟩ v).cell? (ad.add (at_ + 1)) = _
            rw [World.cell?_setCell_other _ _ _ _ (fun e => hne (by rw [← e]))]
            exact hcx2
          have hor := or_bound (b.toNat : Int) (b2.toNat : Int) hb0 hb1 hb20 hb21
          clear hb2 hx2 hne
          have i1 : IntKind.i64.wrap ((at_ : Int) + 1) = (at_ : Int) + 1 := IntWalk.i64_in _ (by omega)
          have i2 : ((at_ : Int) + 1).toNat = at_ + 1 := by omega
          have i3 : (0 : Int) ≤ (at_ : Int) + 1 := by omega
          have i4 : (at_ : Int) + 1 < (m : Int) := by omega
          go_enter Try.func16, Try.ntmps16
          go_wp2_with fail
          refine (unhide HL).mono ?_
          rintro e w1 ⟨rfl, k, rfl⟩
          go_wp2_with fail
          go_quiet (fail)
          go_wp2_with fail
          refine (unhide HL2 _).mono ?_
          rintro e w1 ⟨rfl, k2, rfl⟩
          go_wp2_with fail
          go_quiet (fail)
          go_wp2_with fail
          go_ret
          exact ⟨_, rfl, Int.emod_nonneg _ (by omega), .inr (Int.emod_lt_of_pos _ (by omega)), (unhide HS2 _ _).at_, only_setCell (p := ⟨g, 1, none⟩) (only_drewN (unhide HG _ _ _ (Lib.hid rfl)) _) (.inl rfl) _⟩
        · have HL2 := hide (fun k => left_any _ B g _ m c bs (at_ + 1) (unhide HS k) false (by simpa using h3))
          go_enter Try.func16, Try.ntmps16
          go_wp2_with fail
          refine (unhide HL).mono ?_
          rintro e w1 ⟨rfl, k, rfl⟩
          go_wp2_with fail
          go_quiet (fail)
          go_wp2_with fail
          refine (unhide HL2 _).mono ?_
          rintro e w1 ⟨rfl, k2, rfl⟩
          go_wp2_with fail
          go_ret
          exact ⟨_, rfl, Int.emod_nonneg _ (by omega), .inr (Int.emod_lt_of_pos _ (by omega)), ((unhide HS _).keep (fun _ _ => rfl)).at_, only_drewN (unhide HG _ _ _ (Lib.hid rfl)) _⟩
  · have hl := left_any w B g A m c bs at_ h false (by simpa using hlt)
    have HL := hide hl
    clear h hl
    go_enter Try.func16, Try.ntmps16
    go_wp2_with fail
    refine (unhide HL).mono ?_
    rintro e w1 ⟨rfl, k, rfl⟩
    go_wp2_with fail
    go_ret
    exact ⟨0, rfl, by omega, .inl rfl, ((unhide HH).keep (fun b _ => rfl)).at_, only_drewN (World.grownBy.refl w _) _⟩
end Go.Proofs.Ytfbkkmnkpjgciaa

/- the key that codes give. No condition. -/
namespace Go.Proofs.Ytfbkkmnkpjgciaa
open Go.RowKit
theorem alloc_keyn (w : World) : (Instr.alloc 36 true (.tuple #[])).run Try.prog w = .ok (.pointer (some ⟨w.heap.size, 0, none⟩)) (w.alloc (.cells (bsV (List.replicate 16 0)).toArray 36)) := by kernel_rfl
theorem keyn_info {ks : List UInt8} (h : ks.length = 16) : (Try.prog.info? 36).map (·.size) = some (bsV ks).toArray.size := by
  rw [show (bsV ks).toArray.size = 16 by simp [bsV, h]]
  kernel_rfl
theorem bsV_setn (ks : List UInt8) (j : Nat) (b : UInt8) : (bsV ks).toArray.setIfInBounds j (.int .u8 (b.toNat : Int)) = (bsV (ks.set j b)).toArray := by
  rw [List.setIfInBounds_toArray]
  congr 1
  simp [bsV, List.map_set]
theorem grown_then {a b c : World} {row row' : Option Nat} (h : a.grownBy b row) (k : b.grownBy c row') (hr : ∀ j, row' = some j → a.heap.size ≤ j ∨ row = some j) : a.grownBy c row :=
  ⟨k.os.trans h.os, k.tape.trans h.tape, k.output.trans h.output, Nat.le_trans h.size k.size, fun i hi hne => (k.block i (Nat.lt_of_lt_of_le hi h.size) (fun e => by
    rcases hr i e.symm with h1 | h1
    · omega
    · exact hne h1.symm)).trans (h.block i hi hne)⟩
def KeyPost (w : World) (B g : Nat) (e : Ending) (w' : World) : Prop :=
  ∃ ks : List UInt8, ks.length = 16 ∧ e = .returned (.agg (bsV ks).toArray) ∧ CodesAt w' B g ∧ w.grownBy w' (some g)
set_option maxRecDepth 100000 in
set_option maxHeartbeats 1000000 in
theorem key_any (w : World) (B g : Nat) (h : CodesAt w B g) : Calls Try.prog 9 #[.pointer (some ⟨g, 0, none⟩)] w (KeyPost w B g) := by
  have hgl := h.lt
  obtain ⟨W, hW⟩ : ∃ W, (w.alloc (.cells #[.int .u8 0, .int .u8 0, .int .u8 0, .int .u8 0, .int .u8 0, .int .u8 0, .int .u8 0, .int .u8 0, .int .u8 0, .int .u8 0, .int .u8 0, .int .u8 0, .int .u8 0, .int .u8 0, .int .u8 0, .int .u8 0] 36)).alloc (.cells #[.int .u8 0, .int .u8 0, .int .u8 0, .int .u8 0, .int .u8 0, .int .u8 0, .int .u8 0, .int .u8 0, .int .u8 0, .int .u8 0, .int .u8 0, .int .u8 0, .int .u8 0, .int .u8 0, .int .u8 0, .int .u8 0] 36) = W := ⟨_, rfl⟩
  have G2 := hide (show Blk W w.heap.size 36 (bsV (List.replicate 16 0)).toArray from hW ▸ (Blk.new w _ _).alloc _)
  have G3 := hide (show Blk W (w.heap.size + 1) 36 (bsV (List.replicate 16 0)).toArray from hW ▸ Blk.new' (by simp))
  have HC := hide (show CodesAt W B g from hW ▸ h.keep fun b hb => by rw [Below.heap_alloc _ _ _ (by rw [size_alloc]; omega), Below.heap_alloc _ _ _ (by omega)])
  have HG := hide (show w.grownBy W (some g) from hW ▸ (World.grownBy_alloc w _ _).trans (World.grownBy_alloc _ _ _))
  clear h
  go_enter Try.func9, Try.ntmps9
  go_wp2_with fail
  refine (next_any W B g 16 (unhide HC) (by decide) (by decide)).mono ?_
  rintro e w1 ⟨r, rfl, hr0, hr1, hc1, hg1⟩
  have G2' := hide ((unhide G2).grown hg1 (fun e => by injection e with e; omega))
  have G3' := hide ((unhide G3).grown hg1 (fun e => by injection e with e; omega))
  have HG' := hide ((unhide HG).trans hg1)
  have HC' := hide hc1
  clear hc1 hg1 G2 G3 HG HC
  obtain ⟨k0, rfl⟩ : ∃ k0 : Nat, r = (k0 : Int) := ⟨r.toNat, by omega⟩
  have hk0 : k0 < 16 := by omega
  go_wp2_with fail
  go_loopw [4] (fun i wr => ∃ (k : Nat) (ks : List UInt8), i = .int .i64 ((k : Int) - 1) ∧ k ≤ 16 ∧ ks.length = 16 ∧ Blk wr w.heap.size 36 (bsV (List.replicate 16 0)).toArray ∧ Blk wr (w.heap.size + 1) 36 (bsV ks).toArray ∧ CodesAt wr B g ∧ w.grownBy wr (some g)) (fun i _ => (intOf i + 1).toNat)
  case atStart => exact ⟨k0 + 1, _, by go_num, by omega, by simp, unhide G2', unhide G3', unhide HC', unhide HG'⟩
  case round =>
    obtain ⟨k, ks, rfl, hk, hks, h2, h3, hc, hg⟩ := hrel
    have G2 := hide h2
    have G3 := hide h3
    have HC := hide hc
    have HG := hide hg
    clear h2 h3 hc hg G2' G3' HC' HG'
    rcases k with _ | k
    · have hlk : (bsV ks).toArray.size = 16 := by simp [bsV, hks]
      have hik := keyn_info hks
      have hl2 : ((bsV (List.replicate 16 (0 : UInt8))).toArray).size = 16 := rfl
      go_wp2_with (first
        | (refine wpList_load_row rfl 36 _ rfl (w.heap.size + 1) rfl 36 _ _ _ (unhide G3) Try.underlying36 rfl hik ?_)
        | (refine wpList_store_blk rfl 36 (.tmp 2) (.tmp 16) rfl w.heap.size 36 _ (bsV ks).toArray rfl rfl (unhide G2) (by rw [hlk, hl2]) hik (fun v hv => bsV_one ks v (by simpa using hv)) ?_
           intro w5 hb5 hg5
           have R5 := hide hb5
           have C5 := hide ((unhide HC).keep fun b hb => hg5.block b (by have := (unhide HC).lt; omega) (fun e => by injection e with e; omega))
           have X5 := hide (grown_then (unhide HG) hg5 (fun j e => by injection e with e; omega))
           clear hb5 hg5)
        | fail)
      refine bodyPost_ret (v := .agg (bsV ks).toArray) ?_ rfl (show KeyPost w B g _ _ from ⟨ks, hks, rfl, unhide C5, unhide X5⟩)
      exact results_blk rfl _ w.heap.size 36 _ _ rfl (unhide R5) Try.underlying36 rfl hik
    · have hcast : ((k + 1 : Nat) : Int) - 1 = (k : Int) := by omega
      rw [hcast]
      have hge : ((0 : Int) ≤ (k : Int)) := by omega
      go_wp2_with fail
      refine (next_any wr B g 256 (unhide HC) (by decide) (by decide)).mono ?_
      rintro e w1 ⟨r, rfl, hr0, hr1, hc1, hg1⟩
      obtain ⟨b, hb⟩ : ∃ b : UInt8, r = (b.toNat : Int) := ⟨UInt8.ofNat r.toNat, by rw [UInt8.toNat_ofNat']; omega⟩
      subst hb
      have hb255 : (b.toNat : Int) < 256 := by have := b.toNat_lt; omega
      have hwr : IntKind.u8.wrap (b.toNat : Int) = (b.toNat : Int) := by rw [IntKind.wrap_u8]; omega
      have n3 := (unhide G3).grown hg1 (fun e => by injection e with e; omega)
      have G2 := hide ((unhide G2).grown hg1 (fun e => by injection e with e; omega))
      have hcell : w1.cell? ⟨w.heap.size + 1, k, none⟩ = (bsV ks).toArray[k]? := n3.cell k
      obtain ⟨v0, hv0⟩ : ∃ v, (bsV ks).toArray[k]? = some v := ⟨_, Array.getElem?_eq_getElem (by simp [bsV]; omega)⟩
      rw [hv0] at hcell
      have hfro := n3.frozen k
      have N3 := hide n3
      have C1 := hide hc1
      have HG := hide ((unhide HG).trans hg1)
      have hk16 : (k : Int) < 16 := by omega
      clear hc1 hg1 n3 hv0
      go_wp2_with fail
      have hset := (unhide N3).set_ k (.int .u8 (b.toNat : Int))
      rw [bsV_setn] at hset
      go_roundw
      case rel => exact ⟨k, _, by go_num, by omega, by simp [hks], (unhide G2).far (by show w.heap.size ≠ w.heap.size + 1; omega) _, hset, (unhide C1).keep (fun b hb => Below.heap_setCell _ _ _ b (by show b ≠ w.heap.size + 1; omega)), grown_then (unhide HG) (only_setCell (p := ⟨w.heap.size + 1, k, none⟩) (World.grownBy.refl _ (some (w.heap.size + 1))) (.inl rfl) _) (fun j e => by injection e with e; omega)⟩
      case measure => simp [intOf]
end Go.Proofs.Ytfbkkmnkpjgciaa

/- the session of the law SessionOnce, in plain Lean. -/
namespace Go.Proofs.Ytfbkkmnkpjgciaa
open Go.RowKit
section
variable (ks : List UInt8)
def adN : List UInt8 := [97, 100, 109, 105, 110]
def onC0 : Cli := newCli adN ks ((3 : UInt8).toNat : Int) 1
def onB1 : List UInt8 := helloF adN 3 1
def onU : List Usr := [⟨adN, ks, true, 3⟩]
def onH : List Chn := [⟨0, 3⟩]
def onB2 : List UInt8 := chalF 1 2
def onS0 : Sess := newS (onU ks) onB1 2 1 0
theorem on_hello : helloS [] 1 (onU ks) onH 0 onB1 2 0 = ⟨0, [onS0 ks], 2, onB2⟩ := by kernel_rfl
def onC1 : Cli := ansC (onC0 ks) onB2
def onB3 : List UInt8 := provF 3 (onC0 ks).key (onC1 ks).id (onC0 ks).nonce (onC1 ks).server (levB (onC0 ks).level)
def onB4 : List UInt8 := provF 4 (onS0 ks).key (onS0 ks).id (onS0 ks).client (onS0 ks).server (levB (onS0 ks).level)
theorem on_key : (onS0 ks).key = (onC0 ks).key := by kernel_rfl
theorem on_id : (onS0 ks).id = (onC1 ks).id := by kernel_rfl
theorem on_cl : (onS0 ks).client = (onC0 ks).nonce := by kernel_rfl
theorem on_sv : (onS0 ks).server = (onC1 ks).server := by kernel_rfl
theorem on_lv : levB (onS0 ks).level = levB (onC0 ks).level := by kernel_rfl
theorem on_id1 : (onC1 ks).id = 1 := by kernel_rfl
theorem on_proof : proofS [onS0 ks] 2 (onB3 ks) 0 = ⟨0, [opened (onS0 ks) 0], 2, onB4 ks⟩ := by
  have e3 : onB3 ks = provF 3 (onS0 ks).key (onS0 ks).id (onS0 ks).client (onS0 ks).server (levB (onS0 ks).level) := by
    rw [on_key, on_id, on_cl, on_sv, on_lv]; rfl
  have hl : (onB3 ks).length = 13 := provF_len _ _ _ _ _ _
  have h0 : (onB3 ks)[0]? = some 3 := provF_head _ _ _ _ _ _
  have hi : leW (((onB3 ks).drop 1).take 4) = 1 := by
    unfold onB3
    rw [provF_id _ _ _ _ _ _ (by rw [on_id1]; decide), on_id1]
  unfold proofS
  rw [if_neg (by rw [show validF [onS0 ks] 2 = true by kernel_rfl]; simp), if_neg (by rw [show timeB 0 = true by kernel_rfl]; simp), if_neg (by rw [hl, h0]; simp), hi, show firstI (idP 1) (expF [onS0 ks] 2 0) 0 = some (0, onS0 ks) by kernel_rfl]
  dsimp only
  rw [if_neg (by rw [show (onS0 ks).opn = false by kernel_rfl]; simp), if_neg (by rw [← e3]; simp), show (expF [onS0 ks] 2 0) = [onS0 ks] by kernel_rfl]
  rfl
theorem on_b4 : onB4 ks = provF 4 (onC1 ks).key (onC1 ks).id (onC1 ks).nonce (onC1 ks).server (levB (onC1 ks).level) := by
  unfold onB4
  rw [on_key, on_id, on_cl, on_sv, on_lv]
  rfl
/-- the client that has sent k packets -/
def onC (k : Nat) : Cli := { onC1 ks with opn := true, out := k }
/-- the session with a window -/
def onS (h s : Nat) (t : Int) : Sess := { opened (onS0 ks) 0 with hi := h, se := s, last := t }
theorem on_sess : (onS ks 0 0 0).key = (onC1 ks).sess := by
  show derF (onS0 ks).key sessL ((onS0 ks).client : Int) ((onS0 ks).server : Int) = derF (onC0 ks).key sessL ((onC0 ks).nonce : Int) ((onC1 ks).server : Int)
  rw [on_key, on_cl, on_sv]
/-- the packet with the number k + 1 -/
def onP (k : Nat) : List UInt8 := packF 5 (onC1 ks).sess (onC1 ks).id (k + 1) 0 [UInt8.ofNat k]
theorem on_recv (h s : Nat) (t : Int) (ht : 0 ≤ t ∧ t ≤ 5) (k : Nat) (hk : k < 256) :
    recvS [onS ks h s t] 2 (onP ks k) 5 = (if (shiftF h s (k + 1)).2.2 ≠ 0 then badR (shiftF h s (k + 1)).2.2 else ⟨0, [onS ks (shiftF h s (k + 1)).1 (shiftF h s (k + 1)).2.1 5], 2, 1, 0, [UInt8.ofNat k]⟩) := by
  have hp : partsF (onP ks k) = ⟨1, k + 1, 0, [UInt8.ofNat k]⟩ := by
    unfold onP
    rw [parts_pack 5 (onC1 ks).sess (onC1 ks).id (k + 1) 0 [UInt8.ofNat k] (show (onC1 ks).id < 4294967296 by rw [on_id1]; decide) (by omega), on_id1]
  have hf : formB 5 (onP ks k) = true := form_pack _ _ _ _ _ _ (by simp)
  have hg : genF (onS ks h s t).key (onP ks k) = true := by
    have : (onS ks h s t).key = (onC1 ks).sess := on_sess ks
    rw [this]; exact gen_pack _ _ _ _ _ _
  have ht' : decide (0 ≤ t ∧ t ≤ 17179869184) = true := by simp; omega
  have e1 : okX (onS ks h s t) 2 0 = true := by
    show (decide (0 < 1) && (decide (1 < 2) && (nameF adN && (decide ((1 : Int) ≤ 3 ∧ (3 : Int) ≤ 3) && (decide (0 ≤ t ∧ t ≤ 17179869184) && (true || _)))))) = true
    rw [ht']
    kernel_rfl
  have e2 : validF [onS ks h s t] 2 = true := by
    show (decide (1 ≤ 4) && (decide (1 ≤ 2) && (okX (onS ks h s t) 2 0 && true))) = true
    rw [e1]
    rfl
  have e3 : oldP 5 (onS ks h s t) = false := by
    show (if (true : Bool) = true then decide (t ≤ 5 - 600) else _) = false
    rw [if_pos rfl]
    simp
    omega
  have e4 : expF [onS ks h s t] 2 5 = [onS ks h s t] := by
    unfold expF
    rw [e2, if_pos (by kernel_rfl)]
    exact keepL_all fun x hx => by simp at hx; subst hx; exact e3
  have e5 : firstI (idP 1) [onS ks h s t] 0 = some (0, onS ks h s t) := by kernel_rfl
  unfold recvS
  rw [if_neg (by rw [e2]; simp), if_neg (by rw [show timeB 5 = true by kernel_rfl]; simp), if_neg (by rw [hf]; simp), hp]
  dsimp only
  rw [if_neg (by rw [show kindB 0 = true by kernel_rfl]; simp), e4, e5]
  dsimp only
  rw [if_neg (by rw [show (onS ks h s t).opn = true by kernel_rfl]; simp), if_neg (by rw [hg]; simp)]
  rfl
end
end Go.Proofs.Ytfbkkmnkpjgciaa

/- what the loop of SessionOnce keeps, in plain Lean. -/
namespace Go.Proofs.Ytfbkkmnkpjgciaa
open Go.RowKit
theorem bit_low (x d j : Nat) (h : j < d) : (x * 2 ^ d).testBit j = false := by
  rw [Nat.mul_comm, Nat.testBit_two_pow_mul]
  simp
  omega
theorem shift_max {h s n : Nat} (he : (shiftF h s n).2.2 = 0) : (shiftF h s n).1 = max h n := by
  unfold shiftF at he ⊢
  by_cases c1 : h < n
  · rw [if_pos c1]
    split <;> (dsimp only; omega)
  · rw [if_neg c1] at he ⊢
    by_cases c2 : n = 0 ∨ n = h
    · rw [if_pos c2] at he; cases he
    · rw [if_neg c2] at he ⊢
      by_cases c3 : 32 ≤ h - n - 1
      · rw [if_pos c3] at he; cases he
      · rw [if_neg c3] at he ⊢
        cases c4 : s.testBit (h - n - 1) with
        | true => rw [c4, if_pos rfl] at he; cases he
        | false =>
          rw [if_neg (by simp)]
          dsimp only
          omega
/-- every bit of s, and the greatest number, stand for a number of T -/
def BitInv (h s : Nat) (T : Nat → Bool) : Prop := (h ≠ 0 → T h = true) ∧ ∀ k, 1 ≤ k → k < h → h - k - 1 < 32 → s.testBit (h - k - 1) = true → T k = true
theorem BitInv.start : BitInv 0 0 (fun _ => false) := ⟨fun h => absurd rfl h, fun k _ h => by omega⟩
theorem bit_refuse {h s n : Nat} {T : Nat → Bool} (hi : BitInv h s T) (hn : 1 ≤ n) (he : (shiftF h s n).2.2 ≠ 0) : T n = true ∨ 32 < (h : Int) - (n : Int) := by
  unfold shiftF at he
  by_cases c1 : h < n
  · rw [if_pos c1] at he
    split at he <;> exact absurd rfl he
  · rw [if_neg c1] at he
    by_cases c2 : n = 0 ∨ n = h
    · obtain rfl : n = h := by omega
      exact .inl (hi.1 (by omega))
    · rw [if_neg c2] at he
      by_cases c3 : 32 ≤ h - n - 1
      · right; omega
      · rw [if_neg c3] at he
        cases c4 : s.testBit (h - n - 1) with
        | true => exact .inl (hi.2 n hn (by omega) (by omega) c4)
        | false => rw [c4, if_neg (by simp)] at he; exact absurd rfl he
theorem bit_step {h s n : Nat} {T : Nat → Bool} (hi : BitInv h s T) (hn : 1 ≤ n) (he : (shiftF h s n).2.2 = 0) : BitInv (shiftF h s n).1 (shiftF h s n).2.1 (fun y => y == n || T y) := by
  obtain ⟨ht, hb⟩ := hi
  unfold shiftF at he ⊢
  by_cases c1 : h < n
  · rw [if_pos c1] at he ⊢
    by_cases c2 : 32 ≤ n - h - 1
    · rw [if_pos c2]
      refine ⟨fun _ => by simp, fun k h1 h2 h3 h4 => ?_⟩
      dsimp only at h4
      rw [Nat.zero_testBit] at h4
      cases h4
    · rw [if_neg c2]
      refine ⟨fun _ => by simp, fun k h1 h2 h3 h4 => ?_⟩
      dsimp only at h2 h3 h4 ⊢
      obtain ⟨d, rfl⟩ : ∃ d, n = h + 1 + d := ⟨n - h - 1, by omega⟩
      rw [show h + 1 + d - h - 1 = d by omega, bit_mod _ _ h3] at h4
      by_cases c3 : h < k
      · rw [bit_low _ _ _ (by omega)] at h4; cases h4
      · by_cases c4 : k = h
        · subst c4
          rw [ht (by omega)]
          simp
        · obtain ⟨q, rfl⟩ : ∃ q, h = k + 1 + q := ⟨h - k - 1, by omega⟩
          rw [show k + 1 + q + 1 + d - k - 1 = d + (q + 1) by omega, bit_shl, if_neg (by omega), bit_two _ _ _ (by omega)] at h4
          rw [hb k h1 (by omega) (by omega) (by rw [show k + 1 + q - k - 1 = q by omega]; exact h4)]
          simp
  · rw [if_neg c1] at he ⊢
    by_cases c2 : n = 0 ∨ n = h
    · rw [if_pos c2] at he; cases he
    · rw [if_neg c2] at he ⊢
      by_cases c3 : 32 ≤ h - n - 1
      · rw [if_pos c3] at he; cases he
      · rw [if_neg c3] at he ⊢
        cases c4 : s.testBit (h - n - 1) with
        | true => rw [c4, if_pos rfl] at he; cases he
        | false =>
          rw [if_neg (by simp)]
          refine ⟨fun h0 => by dsimp only at h0 ⊢; rw [ht h0]; simp, fun k h1 h2 h3 h4 => ?_⟩
          dsimp only at h2 h3 h4 ⊢
          rw [Nat.testBit_or, Nat.testBit_two_pow] at h4
          rcases Bool.or_eq_true _ _ |>.mp h4 with e | e
          · rw [hb k h1 h2 h3 e]; simp
          · have : h - n - 1 = h - k - 1 := by simpa using e
            obtain rfl : k = n := by omega
            simp
/-- what the loop keeps of the window and the numbers that were taken -/
structure OnInv (h s : Nat) (T : Nat → Bool) (m : Nat) : Prop where
  win : WinInv h s T
  bit : BitInv h s T
  le : h ≤ m
  hl : h < 4294967296
  sl : s < 4294967296
theorem OnInv.start : OnInv 0 0 (fun _ => false) 0 := ⟨WinInv.start _ _, BitInv.start, Nat.le_refl _, by decide, by decide⟩
theorem OnInv.more {h s m m' : Nat} {T : Nat → Bool} (i : OnInv h s T m) (hm : m ≤ m') : OnInv h s T m' := ⟨i.win, i.bit, Nat.le_trans i.le hm, i.hl, i.sl⟩
theorem OnInv.step {h s m n : Nat} {T : Nat → Bool} (i : OnInv h s T m) (hn : 1 ≤ n) (hm : n ≤ m) (hm2 : m < 4294967296) (he : (shiftF h s n).2.2 = 0) : OnInv (shiftF h s n).1 (shiftF h s n).2.1 (fun y => y == n || T y) m := by
  have h1 := shiftF_lt h s n i.hl i.sl (by omega)
  refine ⟨(shift_inv i.win he).2, bit_step i.bit hn he, ?_, h1.1, h1.2⟩
  rw [shift_max he]
  have := i.le
  omega
theorem OnInv.new {h s m n : Nat} {T : Nat → Bool} (i : OnInv h s T m) (he : (shiftF h s n).2.2 = 0) : T n = false := by
  cases e : T n with
  | false => rfl
  | true =>
    have := shift_once i.win e
    rw [he] at this
    cases this
end Go.Proofs.Ytfbkkmnkpjgciaa

/- the calls of the law SessionOnce, with any key. No condition. -/
namespace Go.Proofs.Ytfbkkmnkpjgciaa
open Go.RowKit
open Go.Maps (Keyed IsMap)
section
variable {ks : List UInt8} (hk : ks.length = 16)
include hk
theorem onC0_ok : (onC0 ks).Ok := newCli_ok (by decide) hk (by decide)
theorem onC1_ok : (onC1 ks).Ok := ansC_ok (onC0_ok hk) rfl
theorem onCA_ok : ({ onC1 ks with opn := true } : Cli).Ok :=
  have h := onC1_ok hk
  ⟨h.user, h.key, h.sess, h.nonce, h.server, h.id, h.hi, h.se, h.out⟩
theorem onC_ok {k : Nat} (h4 : k < 4294967296) : (onC ks k).Ok :=
  have h := onC1_ok hk
  ⟨h.user, h.key, h.sess, h.nonce, h.server, h.id, h.hi, h.se, h4⟩
theorem onS0_ok : (onS0 ks).Ok := ⟨by show 1 < 4294967296; decide, by show 5 ≤ maxLen; decide, by rw [on_cl]; show 1 < 18446744073709551616; decide, by show 2 < 18446744073709551616; decide, by rw [on_key]; exact hk, by show 0 < 4294967296; decide, by show 0 < 4294967296; decide, by show 0 < 4294967296; decide⟩
theorem onS_ok {h s : Nat} (t : Int) (h1 : h < 4294967296) (h2 : s < 4294967296) : (onS ks h s t).Ok :=
  have h := onS0_ok hk
  ⟨h.id, h.user, h.client, h.server, der_len _ _ _ _, h1, h2, h.out⟩
theorem onU_ok : ∀ x ∈ onU ks, x.Ok := by
  intro x hx
  simp [onU] at hx
  subst hx
  exact ⟨by show 5 ≤ maxLen; decide, hk⟩
end
theorem on_send : ∀ k : Nat, k < 60 → sendF ((0 : UInt8).toNat : Int) 1 (k : Int) = 0 := by decide
def onU0 (ks : List UInt8) : Usr := ⟨adN, ks, true, 3⟩
def onH0 : Chn := ⟨0, 3⟩
theorem build_onu (a0 a1 a2 a3 a4 a5 a6 a7 a8 a9 a10 a11 a12 a13 a14 a15 : UInt8) : Try.prog.built 39 [(0, .string ⟨adN.toArray⟩), (1, .agg (bsV [a0, a1, a2, a3, a4, a5, a6, a7, a8, a9, a10, a11, a12, a13, a14, a15]).toArray), (2, .bool true), (3, .int .i64 3)] = some (onU0 [a0, a1, a2, a3, a4, a5, a6, a7, a8, a9, a10, a11, a12, a13, a14, a15]).cs.toArray := by kernel_rfl
theorem build_on {ks : List UInt8} (hk : ks.length = 16) : Try.prog.built 39 [(0, .string ⟨adN.toArray⟩), (1, .agg (bsV ks).toArray), (2, .bool true), (3, .int .i64 3)] = some (onU0 ks).cs.toArray := by
  obtain ⟨a0, a1, a2, a3, a4, a5, a6, a7, a8, a9, a10, a11, a12, a13, a14, a15, rfl⟩ := list16 ks hk
  exact build_onu _ _ _ _ _ _ _ _ _ _ _ _ _ _ _ _
theorem build_onh : Try.prog.built 42 [(0, .int .i64 0), (1, .int .i64 3)] = some onH0.cs.toArray := by kernel_rfl
theorem run_onus_ (w : World) (a0 a1 a2 a3 a4 a5 a6 a7 a8 a9 a10 a11 a12 a13 a14 a15 : UInt8) : (Instr.buildSlice 40 1 #[(0, .agg (onU0 [a0, a1, a2, a3, a4, a5, a6, a7, a8, a9, a10, a11, a12, a13, a14, a15]).cs.toArray)]).run Try.prog w = .ok (.slice (some ⟨w.heap.size, 0, none⟩) 1 1) (w.alloc (.cells (onU0 [a0, a1, a2, a3, a4, a5, a6, a7, a8, a9, a10, a11, a12, a13, a14, a15]).cs.toArray 39)) := by kernel_rfl
theorem run_onus {ks : List UInt8} (hk : ks.length = 16) (w : World) : (Instr.buildSlice 40 1 #[(0, .agg (onU0 ks).cs.toArray)]).run Try.prog w = .ok (.slice (some ⟨w.heap.size, 0, none⟩) 1 1) (w.alloc (.cells (onU0 ks).cs.toArray 39)) := by
  obtain ⟨a0, a1, a2, a3, a4, a5, a6, a7, a8, a9, a10, a11, a12, a13, a14, a15, rfl⟩ := list16 ks hk
  exact run_onus_ _ _ _ _ _ _ _ _ _ _ _ _ _ _ _ _ _
theorem run_onhs (w : World) (g : Nat) (hg : w.heap.size = g) : (Instr.buildSlice 43 1 #[(0, .agg onH0.cs.toArray)]).run Try.prog w = .ok (.slice (some ⟨g, 0, none⟩) 1 1) (w.alloc (.cells onH0.cs.toArray 42)) := by subst hg; kernel_rfl
section
variable {ks : List UInt8} (hk : ks.length = 16)
include hk
theorem on_beginC (w : World) : Calls Try.prog 10 #[.string ⟨adN.toArray⟩, .agg (bsV ks).toArray, .int .i64 3, .int .u64 1] w (BegPost w (onC0 ks) onB1) :=
  begin_ok w adN ks hk 3 1 (by decide) (by kernel_rfl) (by decide)
theorem on_helloC (w : World) (gu gc : Nat) (hu : Blk w gu 39 (onU0 ks).cs.toArray) (hc : Blk w gc 42 onH0.cs.toArray) (Ab : Option Addr) (cb : Nat) (hb : Reads w w.heap.size 1 Ab 15 (bsV onB1)) (hbc : 15 ≤ cb) (hbm : cb ≤ maxLen) :
    Calls Try.prog 11 #[.agg #[.slice none 0 0, .int .u32 1], .agg #[.slice (some ⟨gu, 0, none⟩) 1 1, .slice (some ⟨gc, 0, none⟩) 1 1], .int .i64 0, .slice Ab 15 cb, .int .u64 2, .int .i64 0] w (SesOk w [onS0 ks] 2 onB2) := by
  have hU : UsrL w w.heap.size (some ⟨gu, 0, none⟩) 1 (onU ks) := by
    have hl := Usr.len (onU_ok hk ⟨adN, ks, true, 3⟩ (by simp [onU]))
    refine ⟨⟨by simp [onU, hl], fun _ => ⟨⟨gu, 0, none⟩, rfl, hu.lt, fun j u hj => ?_⟩⟩, fun x hx => onU_ok hk x hx, fun x hx => ?_⟩
    · rw [add_mk, hu.cell]
      simpa [onU, onU0] using hj
    · simp [onU] at hx; subst hx; exact hl
  have hC : ChnL w w.heap.size (some ⟨gc, 0, none⟩) 1 onH := by
    refine ⟨⟨rfl, fun _ => ⟨⟨gc, 0, none⟩, rfl, hc.lt, fun j u hj => ?_⟩⟩, fun x hx => trivial, fun x hx => ?_⟩
    · rw [add_mk, hc.cell]
      simpa [onH, onH0] using hj
    · simp [onH] at hx; subst hx; rfl
  exact (hello_sx w none 0 0 [] 1 ⟨Reads.none_, fun x hx => by cases hx⟩ (by decide) (by decide) (some ⟨gu, 0, none⟩) 1 1 (some ⟨gc, 0, none⟩) 1 1 (onU ks) onH hU hC (by decide) (by decide) 0 Ab 15 cb onB1 hb hbc hbm 2 (by decide) 0 _ (on_hello ks)).mono fun e w' h => h.ok
theorem on_answerC (w : World) (A : Option Addr) (cc : Nat) (hr : Reads w w.heap.size 1 A 13 (bsV onB2)) (hnc : 13 ≤ cc) :
    Calls Try.prog 13 #[.agg (onC0 ks).cs.toArray, .slice A 13 cc] w (BegPost w (onC1 ks) (onB3 ks)) :=
  answer_ok w (onC0 ks) (onC0_ok hk) A cc onB2 hr hnc (by kernel_rfl) rfl rfl
omit hk in
theorem on_proofC (w : World) (A : Option Addr) (c : Nat) (hS : SessL w w.heap.size A 1 [onS0 ks]) (Ab : Option Addr) (cb : Nat) (hb : Reads w w.heap.size 1 Ab 13 (bsV (onB3 ks))) (hbc : 13 ≤ cb) (hbm : cb ≤ maxLen) :
    Calls Try.prog 14 #[.agg #[.slice A 1 c, .int .u32 2], .slice Ab 13 cb, .int .i64 0] w (SesOk w [onS ks 0 0 0] 2 (onB4 ks)) :=
  (proof_sx w A 1 c [onS0 ks] 2 hS (by decide) (by decide) Ab 13 cb (onB3 ks) hb hbc hbm 0 _ (on_proof ks)).mono fun e w' h => h.ok
theorem on_acceptC (w : World) (A : Option Addr) (cc : Nat) (hr : Reads w w.heap.size 1 A 13 (bsV (onB4 ks))) (hnc : 13 ≤ cc) :
    Calls Try.prog 15 #[.agg (onC1 ks).cs.toArray, .slice A 13 cc] w (AccPost w (onC ks 0)) :=
  accept_ok w (onC1 ks) (onC1_ok hk) A cc (onB4 ks) hr hnc (by kernel_rfl) rfl (by rw [on_id1]; decide) (on_b4 ks)
theorem on_postC (w : World) (k : Nat) (h60 : k < 60) (A : Option Addr) (cc : Nat) (hr : Reads w w.heap.size 1 A 1 (bsV [UInt8.ofNat k])) (hnc : 1 ≤ cc) (hcm : cc ≤ maxLen) :
    Calls Try.prog 17 #[.agg (onC ks k).cs.toArray, .int .i64 0, .slice A 1 cc] w (BegPost w (onC ks (k + 1)) (onP ks k)) :=
  post_ok w (onC ks k) (onC_ok hk (by omega)) 0 A 1 cc [UInt8.ofNat k] hr hnc hcm (by kernel_rfl) rfl (on_send k h60) (by decide) (by show k < 4294967295; omega)
omit hk in
theorem on_recvC (w : World) (A : Option Addr) (c : Nat) (h s : Nat) (t : Int) (hS : SessL w w.heap.size A 1 [onS ks h s t]) (k : Nat) (Ab : Option Addr) (cb : Nat) (hb : Reads w w.heap.size 1 Ab 19 (bsV (onP ks k))) (hbc : 19 ≤ cb) (hbm : cb ≤ maxLen) :
    Calls Try.prog 18 #[.agg #[.slice A 1 c, .int .u32 2], .slice Ab 19 cb, .int .i64 5] w (RcvPost w (recvS [onS ks h s t] 2 (onP ks k) 5)) :=
  recv_sx w A 1 c [onS ks h s t] 2 hS (by decide) (by decide) Ab 19 cb (onP ks k) hb hbc hbm 5 _ rfl
end
theorem onP_len (ks : List UInt8) (k : Nat) : (onP ks k).length = 19 := pack_len _ _ _ _ _ _
/-- the slices of the law's own memory -/
def Packs (w : World) (base : Nat) (V : List Value) (L : List (List UInt8)) : Prop :=
  V.length = L.length ∧ ∀ (k : Nat) (l : List UInt8), L[k]? = some l → ∃ v, V[k]? = some v ∧ w.ownsRow base 5 1 v l.length (bsV l)
theorem Packs.nil (w : World) (base : Nat) : Packs w base [] [] := ⟨rfl, fun k l h => by simp at h⟩
theorem Packs.push {w : World} {base : Nat} {V : List Value} {L : List (List UInt8)} {v : Value} {l : List UInt8} (h : Packs w base V L) (hv : w.ownsRow base 5 1 v l.length (bsV l)) : Packs w base (V ++ [v]) (L ++ [l]) := by
  refine ⟨by simp [h.1], fun k l' hl => ?_⟩
  by_cases hk : k < L.length
  · rw [List.getElem?_append_left hk] at hl
    obtain ⟨v', h1, h2⟩ := h.2 k l' hl
    exact ⟨v', by rw [List.getElem?_append_left (by rw [h.1]; exact hk)]; exact h1, h2⟩
  · have hk2 : k = L.length := by
      have := (List.getElem?_eq_some_iff.1 hl).1
      simp at this
      omega
    subst hk2
    obtain rfl : l = l' := by simpa using hl
    exact ⟨v, by rw [← h.1]; simp, hv⟩
theorem own_own_ne {w : World} {b1 b2 : Nat} {e1 e2 : TypeId} {s1 s2 n1 n2 : Nat} {v1 v2 : Value} {x1 x2 : List Value} (h1 : w.ownsRow b1 e1 s1 v1 n1 x1) (h2 : w.ownsRow b2 e2 s2 v2 n2 x2) (hne : e1 ≠ e2) : v1.ownBlock = none ∨ v1.ownBlock ≠ v2.ownBlock := by
  rcases h1.2 with ⟨rfl, _⟩ | ⟨g1, cap1, cur1, rfl, _, hh1, _⟩
  · exact .inl rfl
  · right
    rcases h2.2 with ⟨rfl, _⟩ | ⟨g2, cap2, cur2, rfl, _, hh2, _⟩
    · simp [Value.ownBlock]
    · intro he
      have : g1 = g2 := by simpa [Value.ownBlock] using he
      subst this
      rw [hh1] at hh2
      injection hh2 with hh2
      injection hh2 with _ hh2 _
      exact hne hh2
theorem Packs.kept {w w' : World} {base b2 n2 s2 : Nat} {e2 : TypeId} {v2 : Value} {x2 : List Value} {V : List Value} {L : List (List UInt8)} (h : Packs w base V L) (hg : w.grownBy w' v2.ownBlock) (h2 : w.ownsRow b2 e2 s2 v2 n2 x2) (hne : 5 ≠ e2) : Packs w' base V L :=
  ⟨h.1, fun k l hl => by
    obtain ⟨v, h3, h4⟩ := h.2 k l hl
    exact ⟨v, h3, h4.kept hg (own_own_ne h4 h2 hne)⟩⟩
theorem Packs.stored {w w' : World} {base g : Nat} {t : TypeId} {cs : Array Value} {V : List Value} {L : List (List UInt8)} (h : Packs w base V L) (hg : w.grownBy w' (some g)) (hb : Blk w g t cs) (hne : 5 ≠ t) : Packs w' base V L :=
  ⟨h.1, fun k l hl => by
    obtain ⟨v, h3, h4⟩ := h.2 k l hl
    exact ⟨v, h3, h4.kept hg (.inr (own_blk_ne h4 hb hne))⟩⟩
theorem Packs.below {w w' : World} {base : Nat} {V : List Value} {L : List (List UInt8)} (h : Packs w base V L) (hb : Below w.heap.size w w') : Packs w' base V L :=
  ⟨h.1, fun k l hl => by
    obtain ⟨v, h3, h4⟩ := h.2 k l hl
    exact ⟨v, h3, own_below h4 hb⟩⟩
/-- the first m packets -/
def packs (ks : List UInt8) (m : Nat) : List (List UInt8) := (List.range m).map (onP ks)
theorem packs_succ (ks : List UInt8) (m : Nat) : packs ks (m + 1) = packs ks m ++ [onP ks m] := by simp [packs, List.range_succ]
theorem packs_get (ks : List UInt8) (m k : Nat) (h : k < m) : (packs ks m)[k]? = some (onP ks k) := by simp [packs, h]
theorem packs_len (ks : List UInt8) (m : Nat) : (packs ks m).length = m := by simp [packs]
theorem i64_under : Try.prog.underlying 3 = some (.int .i64) := by kernel_rfl
theorem mapii_under : Try.prog.underlying 62 = some (.map 3 3) := by kernel_rfl
theorem i64_keyed : Keyed Try.prog 3 := Go.Maps.int_keyed i64_under
theorem i64_key (x : Nat) (hx : x < 4294967296) : keyOf Try.prog 3 (.int .i64 (x : Int)) = some (.int .i64 (x : Int)) := by
  have hw : (Lit.int .i64 (x : Int)).wf = true := by
    simp [Lit.wf, IntKind.min, IntKind.max, IntKind.signed, IntKind.bits]
    omega
  exact Go.Maps.keyOf_int_mk i64_under hw
theorem int_zero (w : World) : (zeroValue 3).run Try.prog w = .ok (.int .i64 0) w := by kernel_rfl
/-- block b is a map of at most n entries; T says how often -/
def Counts (w : World) (b n : Nat) (T : Nat → Nat) : Prop :=
  ∃ D : DataW Unit, w.ownsMap Try.prog 3 (plainElem Try.prog 3) b n D ∧ (∀ x, T x < 100) ∧ ∀ x : Nat, D.atKey (.int .i64 (x : Int)) (.lit (.int .i64 0)) = .lit (.int .i64 (T x : Int))
theorem Counts.made (w : World) : Counts (w.alloc (.map #[] 0)) w.heap.size 0 (fun _ => 0) :=
  ⟨_, World.ownsMap_made w _ _ _, fun _ => by show 0 < 100; decide, fun _ => rfl⟩
theorem Counts.kept {w w' : World} {row : Option Nat} {b n : Nat} {T : Nat → Nat} (h : Counts w b n T) (hg : w.grownBy w' row) (hne : some b ≠ row) : Counts w' b n T := by
  obtain ⟨D, h1, h2⟩ := h
  exact ⟨D, h1.kept hg hne, h2⟩
theorem Counts.below {w w' : World} {B b n : Nat} {T : Nat → Nat} (h : Counts w b n T) (hb : Below B w w') (hB : b < B) : Counts w' b n T := by
  obtain ⟨D, ⟨es, clock, h1, h2⟩, h3⟩ := h
  exact ⟨D, ⟨es, clock, (hb.block b hB).trans h1, h2⟩, h3⟩
theorem Counts.lt {w : World} {b n : Nat} {T : Nat → Nat} (h : Counts w b n T) : b < w.heap.size := by
  obtain ⟨D, h1, _⟩ := h
  exact h1.lt
theorem Counts.blk_ne {w : World} {b n g : Nat} {t : TypeId} {cs : Array Value} {T : Nat → Nat} (h : Counts w b n T) (hb : Blk w g t cs) : some b ≠ some g := by
  obtain ⟨D, ⟨es, clock, h1, h2⟩, h3⟩ := h
  intro e
  injection e with e
  subst e
  unfold Blk at hb
  rw [h1] at hb
  simp at hb
theorem Counts.own_ne {w : World} {b n : Nat} {T : Nat → Nat} {b2 s2 n2 : Nat} {e2 : TypeId} {v2 : Value} {x2 : List Value} (h : Counts w b n T) (h2 : w.ownsRow b2 e2 s2 v2 n2 x2) : some b ≠ v2.ownBlock := by
  obtain ⟨D, ⟨es, clock, h1, h3⟩, h4⟩ := h
  rcases h2.2 with ⟨rfl, _⟩ | ⟨g2, cap2, cur2, rfl, _, hh2, _⟩
  · simp [Value.ownBlock]
  · intro he
    have : b = g2 := by simpa [Value.ownBlock] using he
    subst this
    rw [h1] at hh2
    simp at hh2
theorem i64_lit (y : Nat) (hy : y < 100) : (Lit.int .i64 (y : Int)).wf = true := by
  simp [Lit.wf, IntKind.min, IntKind.max, IntKind.signed, IntKind.bits]
  omega
theorem Counts.look {w : World} {b n : Nat} {T : Nat → Nat} (h : Counts w b n T) (x : Nat) (hx : x < 4294967296) : (Instr.lookup 62 (.map (some b)) (.int .i64 (x : Int)) false).run Try.prog w = .ok (.int .i64 (T x : Int)) w := by
  obtain ⟨D, h1, ht, h2⟩ := h
  obtain ⟨v, ps, hrun, hv⟩ := h1.lookup i64_keyed mapii_under (int_zero w) (plainElem_int i64_under (i64_lit 0 (by decide))) (i64_key x hx)
  obtain ⟨a, ha, hz, _⟩ := plainElem_int_inv i64_under hv
  rw [h2 x] at hz
  simp only [Prod.mk.injEq, DataW.lit.injEq, Lit.int.injEq, true_and] at hz
  rw [ha, ← hz.1] at hrun
  exact hrun
theorem Counts.put {w : World} {b n : Nat} {T : Nat → Nat} (h : Counts w b n T) (x : Nat) (hx : x < 4294967296) (hn : n < maxLen) (y : Nat) (hy : y < 100) : ∃ w', (Instr.mapUpdate 62 (.map (some b)) (.int .i64 (x : Int)) (.int .i64 (y : Int))).run Try.prog w = .ok () w' ∧ Counts w' b (n + 1) (fun z => if z = x then y else T z) ∧ w.grownBy w' (some b) := by
  obtain ⟨D, h1, ht, h2⟩ := h
  obtain ⟨w', hrun, ho, hg⟩ := h1.update i64_keyed mapii_under hn (i64_key x hx) (plainElem_int i64_under (i64_lit y hy))
  refine ⟨w', hrun, ⟨_, ho, fun z => ?_, fun z => ?_⟩, hg⟩
  · dsimp only
    split
    · exact hy
    · exact ht z
  by_cases e : z = x
  · subst e
    rw [Go.Maps.atKey_put_same h1.isMap (by simp [WideAt.IsKeyLit])]
    simp
  · rw [Go.Maps.atKey_put_other (fun h => e (Int.ofNat.inj (by simpa using h))), h2 z]
    simp [e]
end Go.Proofs.Ytfbkkmnkpjgciaa

/- what the loop of SessionOnce keeps in memory. No condition. -/
namespace Go.Proofs.Ytfbkkmnkpjgciaa
open Go.RowKit
def cntF (T : Nat → Bool) (k : Nat) : Nat := if T (k + 1) = true then 1 else 0
theorem cnt_put (T : Nat → Bool) (x : Nat) : (fun z => if z = x then 1 else cntF T z) = cntF (fun y => y == x + 1 || T y) := by
  funext z
  unfold cntF
  by_cases h : z = x
  · subst h; simp
  · rw [if_neg h]
    simp [h]
/-- the codes in block gk, the client in g2 (mc packets sent), the sessions in g5, the count in gm, the m packets that were sent in the row .slice A m c -/
structure OnW (w0 : World) (ks : List UInt8) (gk g2 g5 gm : Nat) (m mc h se q : Nat) (t : Int) (T : Nat → Bool) (A : Option Addr) (c : Nat) (V : List Value) (Al : Option Addr) (cl : Nat) (w : World) : Prop where
  kge : w0.heap.size ≤ gk
  k2 : gk < g2
  k5 : gk < g5
  km : gk < gm
  row : w.ownsRow (gk + 1) 32 1 (.slice A m c) m V
  pk : Packs w (gk + 1) V (packs ks m)
  cli : Blk w g2 48 (onC ks mc).cs.toArray
  ses : Blk w g5 53 #[.slice Al 1 cl, .int .u32 2]
  sl : w.ownsRow (gk + 1) 84 26 (.slice Al 1 cl) 1 (flatS [onS ks h se t])
  cnt : Counts w gm q (cntF T)
  cod : CodesAt w gk gk
  low : Below w0.heap.size w0 w
section
variable {w0 : World} {ks : List UInt8} {gk g2 g5 gm m mc h se q : Nat} {t : Int} {T : Nat → Bool} {A : Option Addr} {c : Nat} {V : List Value} {Al : Option Addr} {cl : Nat} {w w' : World}
theorem OnW.below (o : OnW w0 ks gk g2 g5 gm m mc h se q t T A c V Al cl w) (hb : Below w.heap.size w w') : OnW w0 ks gk g2 g5 gm m mc h se q t T A c V Al cl w' :=
  ⟨o.kge, o.k2, o.k5, o.km, own_below o.row hb, o.pk.below hb, o.cli.below hb o.cli.lt, o.ses.below hb o.ses.lt, own_below o.sl hb, o.cnt.below hb o.cnt.lt, o.cod.keep fun b hb2 => hb.block b (by have := o.cod.lt; omega), o.low.trans (hb.mono o.low.size)⟩
theorem OnW.drew (o : OnW w0 ks gk g2 g5 gm m mc h se q t T A c V Al cl w) : OnW w0 ks gk g2 g5 gm m mc h se q t T A c V Al cl w.drew := o.below (Below.refl _ _).drew
theorem OnW.alloc (o : OnW w0 ks gk g2 g5 gm m mc h se q t T A c V Al cl w) (x : Obj) : OnW w0 ks gk g2 g5 gm m mc h se q t T A c V Al cl (w.alloc x) := o.below ((Below.refl _ _).alloc (Nat.le_refl _) x)
theorem codes_blk {B g : Nat} (h : CodesAt w B g) : ∃ cs, Blk w g 70 cs := by
  obtain ⟨A, m, c, bs, at_, h⟩ := h
  exact ⟨_, h.1⟩
/-- the codes have moved on -/
theorem OnW.next (o : OnW w0 ks gk g2 g5 gm m mc h se q t T A c V Al cl w) (hc : CodesAt w' gk gk) (hg : w.grownBy w' (some gk)) : OnW w0 ks gk g2 g5 gm m mc h se q t T A c V Al cl w' := by
  obtain ⟨cs, hb⟩ := codes_blk o.cod
  exact ⟨o.kge, o.k2, o.k5, o.km, o.row.kept hg (.inr (own_blk_ne o.row hb (by decide))), o.pk.stored hg hb (by decide), o.cli.grown hg (fun e => by injection e with e; have := o.k2; omega), o.ses.grown hg (fun e => by injection e with e; have := o.k5; omega),
    o.sl.kept hg (.inr (own_blk_ne o.sl hb (by decide))), o.cnt.kept hg (fun e => by injection e with e; have := o.km; omega), hc, o.low.grown hg o.low.size (fun g e => by injection e with e; have := o.kge; omega)⟩
/-- the sessions are others -/
theorem OnW.took (o : OnW w0 ks gk g2 g5 gm m mc h se q t T A c V Al cl w) {Al' : Option Addr} {cl' h' se' : Nat} {t' : Int} (hs : w.ownsRow (gk + 1) 84 26 (.slice Al' 1 cl') 1 (flatS [onS ks h' se' t'])) (hb : Blk w' g5 53 #[.slice Al' 1 cl', .int .u32 2]) (hg : w.grownBy w' (some g5)) :
    OnW w0 ks gk g2 g5 gm m mc h' se' q t' T A c V Al' cl' w' :=
  ⟨o.kge, o.k2, o.k5, o.km, o.row.kept hg (.inr (own_blk_ne o.row o.ses (by decide))), o.pk.stored hg o.ses (by decide), o.cli.grown hg (fun e => by injection e with e; exact (o.cli.ne_ o.ses (by decide)) e), hb,
    hs.kept hg (.inr (own_blk_ne hs o.ses (by decide))), o.cnt.kept hg (o.cnt.blk_ne o.ses), o.cod.keep fun b hb2 => hg.block b (by have := o.cod.lt; omega) (fun e => by injection e with e; have := o.k5; omega), o.low.grown hg o.low.size (fun g e => by injection e with e; have := o.kge; have := o.k5; omega)⟩
/-- one more is counted -/
theorem OnW.counted (o : OnW w0 ks gk g2 g5 gm m mc h se q t T A c V Al cl w) {q' : Nat} {T' : Nat → Bool} (hc : Counts w' gm q' (cntF T')) (hg : w.grownBy w' (some gm)) : OnW w0 ks gk g2 g5 gm m mc h se q' t T' A c V Al cl w' := by
  refine ⟨o.kge, o.k2, o.k5, o.km, o.row.kept hg (.inr fun e => (o.cnt.own_ne o.row) e.symm), ⟨o.pk.1, fun k l hl => ?_⟩, o.cli.grown hg (fun e => (o.cnt.blk_ne o.cli) e.symm), o.ses.grown hg (fun e => (o.cnt.blk_ne o.ses) e.symm),
    o.sl.kept hg (.inr fun e => (o.cnt.own_ne o.sl) e.symm), hc, o.cod.keep fun b hb2 => hg.block b (by have := o.cod.lt; omega) (fun e => by injection e with e; have := o.km; omega), o.low.grown hg o.low.size (fun g e => by injection e with e; have := o.kge; have := o.km; omega)⟩
  obtain ⟨v, h3, h4⟩ := o.pk.2 k l hl
  exact ⟨v, h3, h4.kept hg (.inr fun e => (o.cnt.own_ne h4) e.symm)⟩
/-- the client is another -/
theorem OnW.client (o : OnW w0 ks gk g2 g5 gm m mc h se q t T A c V Al cl w) {mc' : Nat} (hb : Blk w' g2 48 (onC ks mc').cs.toArray) (hg : w.grownBy w' (some g2)) : OnW w0 ks gk g2 g5 gm m mc' h se q t T A c V Al cl w' :=
  ⟨o.kge, o.k2, o.k5, o.km, o.row.kept hg (.inr (own_blk_ne o.row o.cli (by decide))), o.pk.stored hg o.cli (by decide), hb, o.ses.grown hg (fun e => by injection e with e; exact (o.ses.ne_ o.cli (by decide)) e),
    o.sl.kept hg (.inr (own_blk_ne o.sl o.cli (by decide))), o.cnt.kept hg (o.cnt.blk_ne o.cli), o.cod.keep fun b hb2 => hg.block b (by have := o.cod.lt; omega) (fun e => by injection e with e; have := o.k2; omega), o.low.grown hg o.low.size (fun g e => by injection e with e; have := o.kge; have := o.k2; omega)⟩
/-- one more packet is in the row -/
theorem OnW.push (o : OnW w0 ks gk g2 g5 gm m mc h se q t T A c V Al cl w) {v' u : Value} (hu : w.ownsRow (gk + 1) 5 1 u (onP ks m).length (bsV (onP ks m))) (hr : w'.ownsRow (gk + 1) 32 1 v' (m + 1) (V ++ [u])) (hg : w.grownBy w' (Value.slice A m c).ownBlock) :
    ∃ A' c', v' = .slice A' (m + 1) c' ∧ OnW w0 ks gk g2 g5 gm (m + 1) mc h se q t T A' c' (V ++ [u]) Al cl w' := by
  obtain ⟨A', c', rfl, _, _⟩ := slice_of_own hr
  refine ⟨A', c', rfl, ⟨o.kge, o.k2, o.k5, o.km, hr, ?_, o.cli.grown hg (fun e => (own_blk_ne o.row o.cli (by decide)) e.symm), o.ses.grown hg (fun e => (own_blk_ne o.row o.ses (by decide)) e.symm),
    o.sl.kept hg (own_own_ne o.sl o.row (by decide)), o.cnt.kept hg (o.cnt.own_ne o.row), o.cod.keep fun b hb2 => hg.block b (by have := o.cod.lt; omega) (fun e => by have := own_ge o.row b e.symm; omega), o.low.grown hg o.low.size (fun g e => by have := own_ge o.row g e; have := o.kge; omega)⟩⟩
  rw [packs_succ]
  exact (o.pk.kept hg o.row (by decide)).push (hu.kept hg (own_own_ne hu o.row (by decide)))
/-- packet k as it lies in the row -/
theorem OnW.packet (o : OnW w0 ks gk g2 g5 gm m mc h se q t T A c V Al cl w) {k : Nat} (hk : k < m) : ∃ g o2 Ak ck, A = some ⟨g, o2, none⟩ ∧ g < w.heap.size ∧ w.cell? ⟨g, o2 + k, none⟩ = some (.slice Ak 19 ck) ∧ Reads w w.heap.size 1 Ak 19 (bsV (onP ks k)) ∧ 19 ≤ ck ∧ ck ≤ maxLen := by
  obtain ⟨v, hv, hv2⟩ := o.pk.2 k _ (packs_get ks m k hk)
  rw [onP_len] at hv2
  obtain ⟨Ak, ck, rfl, h1, h2⟩ := slice_of_own hv2
  obtain ⟨g, oo, hA, hgl, hcell⟩ := spot_any (Reads.of_own o.row) (by omega) (by decide)
  exact ⟨g, oo, Ak, ck, hA, hgl, hcell k _ hv, Reads.of_own hv2, h1, h2⟩
end
/-- what Receive hands back, both arms in one -/
def RcvU (w : World) (ks : List UInt8) (h s k : Nat) (e : Ending) (w' : World) : Prop :=
  ∃ A n c Ad nd cd, ∃ x y z : Int, e = .returned (.tuple #[.agg #[.slice A n c, .int .u32 x], .int .u32 y, .int .i64 z, .slice Ad nd cd, .int .i64 (shiftF h s (k + 1)).2.2]) ∧ Below w.heap.size w w' ∧
    ((shiftF h s (k + 1)).2.2 = 0 → n = 1 ∧ x = 2 ∧ nd = 1 ∧ w'.ownsRow w.heap.size 84 26 (.slice A 1 c) 1 (flatS [onS ks (shiftF h s (k + 1)).1 (shiftF h s (k + 1)).2.1 5]) ∧ w'.ownsRow w.heap.size 5 1 (.slice Ad 1 cd) 1 (bsV [UInt8.ofNat k]))
theorem on_recvU {ks : List UInt8} (w : World) (A : Option Addr) (c : Nat) (h s : Nat) (t : Int) (ht : 0 ≤ t ∧ t ≤ 5) (hS : SessL w w.heap.size A 1 [onS ks h s t]) (k : Nat) (h60 : k < 256) (Ab : Option Addr) (cb : Nat) (hb : Reads w w.heap.size 1 Ab 19 (bsV (onP ks k))) (hbc : 19 ≤ cb) (hbm : cb ≤ maxLen) :
    Calls Try.prog 18 #[.agg #[.slice A 1 c, .int .u32 2], .slice Ab 19 cb, .int .i64 5] w (RcvU w ks h s k) := by
  refine (on_recvC w A c h s t hS k Ab cb hb hbc hbm).mono fun e w' hp => ?_
  rw [on_recv ks h s t ht k h60] at hp
  by_cases hz : (shiftF h s (k + 1)).2.2 = 0
  · rw [if_neg (by simp [hz])] at hp
    obtain ⟨A1, c1, A2, c2, he, h1, h2, _, _, h5⟩ := RcvPost.ok hp
    exact ⟨A1, 1, c1, A2, 1, c2, 2, 1, 0, by rw [he, hz]; rfl, h5, fun _ => ⟨rfl, rfl, rfl, h1, h2⟩⟩
  · rw [if_pos hz] at hp
    unfold RcvPost badR at hp
    dsimp only at hp
    rw [if_neg hz] at hp
    exact ⟨none, 0, 0, none, 0, 0, 0, 0, 0, hp.1, hp.2, fun h0 => absurd h0 hz⟩
theorem wpList_mapput {P : Program} {ops : Array Oper} {rest : List Oper} {o : Oper} {a : Act} {w w' : World} {Q : Exit → Act → World → Prop} (hgd : o.guard = none) (t : TypeId) (m x v : Operand) (ho : o.op = .mapUpdate t m x v) (mv xv vv : Value) (hm : a.eval m = mv) (hx : a.eval x = xv) (hv : a.eval v = vv)
    (hr : (Instr.mapUpdate t mv xv vv).run P w = .ok () w') (hk : wpList P ops Q rest (a.put o.dst undef) w') : wpList P ops Q (o :: rest) a w := by
  refine wpList_plain hgd fun _ hK => ?_
  unfold Oper.wp execOp
  simp only [ho, hm, hx, hv, Sem.run_bind, Sem.run_pure, Result.andThen_ok, hr]
  exact hK _ _ hk
theorem cut_k {B g : Nat} {w w' : World} (h : CodesAt w B g) {row : Option Nat} (hg : w.grownBy w' row) (hr : ∀ j, row = some j → g < j) : CodesAt w' B g :=
  h.keep fun b hb => hg.block b (by have := h.lt; omega) (fun e => by have := hr b e.symm; omega)
theorem CodesAt.below {B b g : Nat} {w w' : World} (h : CodesAt w B g) (hb : Below b w w') (hg : g < b) : CodesAt w' B g := h.keep fun x hx => hb.block x (by omega)
theorem sinfo_of {P : Program} {t : TypeId} {z : Option Value} {s b : Nat} (h : (P.info? t).map (fun i => (i.zero, i.size, i.bytes)) = some (z, s, b)) : ∃ i, P.info? t = some i ∧ i.zero = z ∧ i.size = s ∧ i.bytes = b := by
  cases hi : P.info? t with
  | none => rw [hi] at h; simp at h
  | some i =>
    rw [hi] at h
    simp only [Option.map_some, Option.some.injEq, Prod.mk.injEq] at h
    exact ⟨i, rfl, h.1, h.2.1, h.2.2⟩
theorem bytes_info : ∃ i, Try.prog.info? 32 = some i ∧ i.zero = some (.slice none 0 0) ∧ i.size = 1 ∧ i.bytes = 24 := sinfo_of (by kernel_rfl)
theorem step_bslice {P : Program} {o : Oper} {a : Act} {w : World} {K : Act → World → Prop} {Q : Exit → Act → World → Prop} (t : TypeId) (len : Nat) (parts : Array (Nat × Operand)) (ho : o.op = .buildSlice t len parts) (pl : List (Nat × Value)) (hp : (parts.toList.map fun p => (p.1, a.eval p.2)) = pl) (v : Value) (w' : World)
    (hr : (Instr.buildSlice t len pl.toArray).run P w = .ok v w') (h : K (a.put o.dst v) w') : Oper.wp P o a w K Q := by
  have hq : (parts.map fun p => (p.1, a.eval p.2)) = pl.toArray := by rw [← hp]; apply Array.ext'; simp
  unfold Oper.wp execOp
  simp only [ho, Sem.run_bind]
  rw [hq, hr]
  exact h
end Go.Proofs.Ytfbkkmnkpjgciaa
