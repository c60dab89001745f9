/- The maker of values: New, Left and Next of baseboardfield. Next gives some number of its range and leaves the codes good. No condition. -/
import Derived.Test.YtbcbleonpaemgaaDoorLe
import Derived.Test.YtbcbleonpaemgaaDoorMem
import Derived.Test.YtbcbleonpaemgaaDoorProg
import Derived.BigQuiet
import Derived.IntWalk
namespace Go.Proofs.YtbcbleonpaemgaaDoor
open Go.RowKit
/-- Block g is a Codes: bytes below block B, and a place in them. -/
def CodesIs (w : World) (B g : Nat) (A : Option Addr) (m c : Nat) (bs : List UInt8) (at_ : Nat) : Prop :=
  Blk w g 63 #[.slice A m c, .int .i64 (at_ : Int)] ∧ Reads w B 1 A m (bsV bs) ∧ at_ ≤ m ∧ B ≤ g ∧ m ≤ 1048576
def CodesAt (w : World) (B g : Nat) : Prop := ∃ A m c bs at_, CodesIs w B g A m c bs at_
theorem CodesIs.keep {w w' : World} {B g : Nat} {A m c bs at_} (h : CodesIs w B g A m c bs at_) (hb : ∀ b, b ≤ g → w'.heap[b]? = w.heap[b]?) : CodesIs w' B g A m c bs at_ := by
  obtain ⟨h1, h2, h3, h4, h5⟩ := h
  refine ⟨(hb g (Nat.le_refl _)).trans h1, h2.keep fun p hp => World.cell?_of_block (hb _ (by omega)), h3, h4, h5⟩
theorem CodesAt.keep {w w' : World} {B g : Nat} (h : CodesAt w B g) (hb : ∀ b, b ≤ g → w'.heap[b]? = w.heap[b]?) : CodesAt w' B g := by
  obtain ⟨A, m, c, bs, at_, h⟩ := h
  exact ⟨A, m, c, bs, at_, h.keep hb⟩
theorem CodesIs.at_ {w : World} {B g : Nat} {A m c bs at_} (h : CodesIs w B g A m c bs at_) : CodesAt w B g := ⟨A, m, c, bs, at_, h⟩
theorem CodesIs.lt {w : World} {B g : Nat} {A m c bs at_} (h : CodesIs w B g A m c bs at_) : g < w.heap.size := h.1.lt
theorem CodesAt.lt {w : World} {B g : Nat} (h : CodesAt w B g) : g < w.heap.size := by
  obtain ⟨A, m, c, bs, at_, h⟩ := h
  exact h.lt
theorem left_any (w : World) (B g : Nat) (A : Option Addr) (m c : Nat) (bs : List UInt8) (at_ : Nat) (h : CodesIs w B g A m c bs at_) (b : Bool) (hb : decide (at_ < m) = b) :
    Calls Tryd.prog 37 #[.pointer (some ⟨g, 0, none⟩)] w fun e w' => e = .returned (.bool b) ∧ ∃ k, w' = w.drewN k := by
  have h0 := h.1.cell 0
  have h1 := h.1.cell 1
  simp only [List.getElem?_toArray, List.getElem?_cons_zero, List.getElem?_cons_succ] at h0 h1
  have HB := Lib.hid hb
  clear hb h
  go_enter Tryd.func37, Tryd.ntmps37
  go_wp2_with fail
  go_quiet (fail)
  go_wp2_with fail
  go_ret
  exact ⟨by rw [← HB.out]; simp, nq, rfl⟩
set_option maxHeartbeats 400000 in
theorem new_any (w : World) (A : Option Addr) (n c : Nat) (bs : List UInt8) (most : Nat) (h : Reads w w.heap.size 1 A n (bsV bs)) (hn : n ≤ c) (hc : c ≤ maxLen) (hm : most ≤ 1048576) :
    Calls Tryd.prog 10 #[.slice A n c, .int .i64 (most : Int)] w fun e w' => e = .returned (.pointer (some ⟨w.heap.size, 0, none⟩)) ∧ CodesAt w' w.heap.size w.heap.size ∧ Below w.heap.size w w' := by
  have h1 : ∀ (m : Nat), m ≤ n → m ≤ 1048576 → CodesAt (w.alloc (.cells #[.slice A m c, .int .i64 0] 63)) w.heap.size w.heap.size := fun m hm hb =>
    ⟨A, m, c, bs.take m, 0, Blk.new w _ _, by
      have := (h.take hm).alloc (Nat.le_refl _) (.cells #[.slice A m c, .int .i64 0] 63)
      simpa [bsV, List.map_take] using this, Nat.zero_le _, Nat.le_refl _, hb⟩
  have HH := hide h1
  unfold maxLen at hc
  clear h1 h
  by_cases hle : n ≤ most
  all_goals
    go_enter Tryd.func10, Tryd.ntmps10
    go_wp2_with fail
    go_ret
    exact ⟨rfl, (unhide HH) _ (by omega) (by omega), (Below.refl _ _).alloc (Nat.le_refl _) _⟩
/-- What a call of Next leaves: a number of the range, the codes good, and nothing else turned. -/
def NextPost (w : World) (B g : Nat) (n : Int) (e : Ending) (w' : World) : Prop :=
  ∃ r : Int, e = .returned (.int .i64 r) ∧ 0 ≤ r ∧ (r = 0 ∨ r < n) ∧ CodesAt w' B g ∧ w.grownBy w' (some g)
theorem NextPost.mk_ {w w' : World} {B g : Nat} {n r : Int} (h1 : 0 ≤ r) (h2 : r = 0 ∨ r < n) (h3 : CodesAt w' B g) (h4 : w.grownBy w' (some g)) : NextPost w B g n (.returned (.int .i64 r)) w' := ⟨r, rfl, h1, h2, h3, h4⟩
theorem CodesIs.step {w : World} {B g : Nat} {A m c bs at_} (h : CodesIs w B g A m c bs at_) (hlt : at_ < m) (k : Nat) : CodesIs ((w.drewN k).setCell ⟨g, 1, none⟩ (.int .i64 ((at_ : Int) + 1))) B g A m c bs (at_ + 1) := by
  obtain ⟨h1, h2, h3, h4, h5⟩ := h
  exact ⟨(h1.drewN k).set_ 1 _, (h2.drewN k).setCell h4 _, hlt, h4, h5⟩
theorem or_bound (x y : Int) (hx : 0 ≤ x) (hx2 : x < 256) (hy : 0 ≤ y) (hy2 : y < 256) : 0 ≤ bits .or .i64 x (y * 256) := by
  obtain ⟨X, rfl⟩ := Int.eq_ofNat_of_zero_le hx
  obtain ⟨Y, rfl⟩ := Int.eq_ofNat_of_zero_le hy
  have := i64_or_nat X (Y * 256) (by omega) (by omega)
  rw [show (Y : Int) * 256 = ((Y * 256 : Nat) : Int) from by omega, this]
  omega
set_option maxRecDepth 100000 in
set_option maxHeartbeats 1000000 in
theorem next_any (w : World) (B g : Nat) (n : Int) (h : CodesAt w B g) (hn : n ≤ 1000000000) (hn0 : -1000000000 ≤ n) :
    Calls Tryd.prog 19 #[.pointer (some ⟨g, 0, none⟩), .int .i64 n] w (NextPost w B g n) := by
  obtain ⟨A, m, c, bs, at_, h⟩ := h
  have HH := hide h
  have c1 := h.1.cell 1
  have c0 := h.1.cell 0
  have f1 := h.1.frozen 1
  simp only [List.getElem?_toArray, List.getElem?_cons_zero, List.getElem?_cons_succ] at c0 c1
  by_cases hlt : at_ < m
  · have hl := left_any w B g A m c bs at_ h true (by simpa using hlt)
    have HL := hide hl
    obtain ⟨ad, u, rfl, _, hx, hcx⟩ := h.2.1.at_ hlt
    obtain ⟨b, hb, rfl, hb0, hb1⟩ := bsV_get hx
    have hm5 := h.2.2.2.2
    clear hb hx h hl
    by_cases h1 : n < 1
    · go_enter Tryd.func19, Tryd.ntmps19
      go_wp2_with fail
      refine (unhide HL).mono ?_
      rintro e w1 ⟨rfl, k, rfl⟩
      go_wp2_with fail
      go_ret
      exact ⟨0, rfl, by omega, .inl rfl, ((unhide HH).keep (fun b _ => rfl)).at_, only_drewN (World.grownBy.refl w _) _⟩
    · have HS := hide (fun k => (unhide HH).step hlt k)
      have HG : Hid (∀ k (w' : World) (v : Value), Hid (w' = (w.drewN k).setCell ⟨g, 1, none⟩ v) → w.grownBy w' (some g)) := hide (fun k w' v h => by rw [h.out]; exact only_setCell (only_drewN (World.grownBy.refl w (some g)) k) (.inl rfl) v)
      by_cases h2 : n ≤ 256
      · go_enter Tryd.func19, Tryd.ntmps19
        go_wp2_with fail
        refine (unhide HL).mono ?_
        rintro e w1 ⟨rfl, k, rfl⟩
        go_wp2_with fail
        go_quiet (fail)
        go_wp2_with fail
        go_ret
        exact ⟨_, rfl, Int.emod_nonneg _ (by omega), .inr (Int.emod_lt_of_pos _ (by omega)), (unhide HS _).at_, unhide HG _ _ _ (Lib.hid rfl)⟩
      · by_cases h3 : at_ + 1 < m
        · have HL2 := hide (fun k => left_any _ B g _ m c bs (at_ + 1) (unhide HS k) true (by simpa using h3))
          have HS2 := hide (fun k j => (unhide HS k).step h3 j)
          obtain ⟨_, u2, e2, _, hx2, hcx2⟩ := (unhide HH).2.1.at_ h3
          injection e2 with e2
          subst e2
          obtain ⟨b2, hb2, rfl, hb20, hb21⟩ := bsV_get hx2
          have hne : (ad.add (at_ + 1)).block ≠ g := by
            have := (unhide HH).2.2.2.1
            rw [block_of_add]; omega
          have hc3 : ∀ (k : Nat) (v : Value), ((w.drewN k).setCell ⟨g, 1, none⟩ v).cell? ⟨ad.block, ad.off + (at_ + 1), none⟩ = some (.int .u8 (b2.toNat : Int)) := fun k v => by
            show ((w.drewN k).setCell ⟨g, 1, none⟩ v).cell? (ad.add (at_ + 1)) = _
            rw [World.cell?_setCell_other _ _ _ _ (fun e => hne (by rw [← e]))]
            exact hcx2
          have hor := or_bound (b.toNat : Int) (b2.toNat : Int) hb0 hb1 hb20 hb21
          clear hb2 hx2 hne
          have i1 : IntKind.i64.wrap ((at_ : Int) + 1) = (at_ : Int) + 1 := IntWalk.i64_in _ (by omega)
          have i2 : ((at_ : Int) + 1).toNat = at_ + 1 := by omega
          have i3 : (0 : Int) ≤ (at_ : Int) + 1 := by omega
          have i4 : (at_ : Int) + 1 < (m : Int) := by omega
          go_enter Tryd.func19, Tryd.ntmps19
          go_wp2_with fail
          refine (unhide HL).mono ?_
          rintro e w1 ⟨rfl, k, rfl⟩
          go_wp2_with fail
          go_quiet (fail)
          go_wp2_with fail
          refine (unhide HL2 _).mono ?_
          rintro e w1 ⟨rfl, k2, rfl⟩
          go_wp2_with fail
          go_quiet (fail)
          go_wp2_with fail
          go_ret
          exact ⟨_, rfl, Int.emod_nonneg _ (by omega), .inr (Int.emod_lt_of_pos _ (by omega)), (unhide HS2 _ _).at_, only_setCell (p := ⟨g, 1, none⟩) (only_drewN (unhide HG _ _ _ (Lib.hid rfl)) _) (.inl rfl) _⟩
        · have HL2 := hide (fun k => left_any _ B g _ m c bs (at_ + 1) (unhide HS k) false (by simpa using h3))
          go_enter Tryd.func19, Tryd.ntmps19
          go_wp2_with fail
          refine (unhide HL).mono ?_
          rintro e w1 ⟨rfl, k, rfl⟩
          go_wp2_with fail
          go_quiet (fail)
          go_wp2_with fail
          refine (unhide HL2 _).mono ?_
          rintro e w1 ⟨rfl, k2, rfl⟩
          go_wp2_with fail
          go_ret
          exact ⟨_, rfl, Int.emod_nonneg _ (by omega), .inr (Int.emod_lt_of_pos _ (by omega)), ((unhide HS _).keep (fun _ _ => rfl)).at_, only_drewN (unhide HG _ _ _ (Lib.hid rfl)) _⟩
  · have hl := left_any w B g A m c bs at_ h false (by simpa using hlt)
    have HL := hide hl
    clear h hl
    go_enter Tryd.func19, Tryd.ntmps19
    go_wp2_with fail
    refine (unhide HL).mono ?_
    rintro e w1 ⟨rfl, k, rfl⟩
    go_wp2_with fail
    go_ret
    exact ⟨0, rfl, by omega, .inl rfl, ((unhide HH).keep (fun b _ => rfl)).at_, only_drewN (World.grownBy.refl w _) _⟩
end Go.Proofs.YtbcbleonpaemgaaDoor
