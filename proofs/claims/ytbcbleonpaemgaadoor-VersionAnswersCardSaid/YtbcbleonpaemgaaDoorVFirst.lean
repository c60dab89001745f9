/- The law VersionFirst, walked: it returns true. No condition. -/
import Derived.Test.YtbcbleonpaemgaaDoorVNeeds2
import Derived.Test.YtbcbleonpaemgaaDoorVCheck
import Derived.Test.YtbcbleonpaemgaaDoorVAwake
namespace Go.Proofs.YtbcbleonpaemgaaDoor
open Go.RowKit
theorem flat8 (l : List NeedS) : ∀ (i j : Nat), i < l.length → j < 8 → ∃ x, l[i]? = some x ∧ (l.flatMap NeedS.cs)[i * 8 + j]? = x.cs[j]? := by
  induction l with
  | nil => intro i j h; simp at h
  | cons y l ih =>
    intro i j hi hj
    rw [List.flatMap_cons]
    rcases i with _ | i
    · refine ⟨y, rfl, ?_⟩
      rw [List.getElem?_append_left (by simp [NeedS.cs]; omega)]
      simp
    · obtain ⟨x, h1, h2⟩ := ih i j (by simpa using hi) hj
      refine ⟨x, by simpa using h1, ?_⟩
      rw [List.getElem?_append_right (by simp [NeedS.cs]; omega), ← h2]
      congr 1
      simp [NeedS.cs]
      omega
def needOf (l : List NeedS) (i : Nat) : NeedS := l.getD i ⟨[], zeroV, [], zeroV⟩
theorem need_of_own {w : World} {base n : Nat} {e : TypeId} {v : Value} {l : List NeedS} (hn : n = l.length) (h : w.ownsRow base e 8 v n (l.flatMap NeedS.cs)) (hs : ∀ x ∈ l, x.c.length ≤ maxLen ∧ x.o.length ≤ maxLen) :
    ∃ A c, v = .slice A n c ∧ n ≤ c ∧ c ≤ maxLen ∧ NeedAt w w.heap.size A n (needOf l) := by
  subst hn
  rcases h.2 with ⟨rfl, h0⟩ | ⟨g, cap, cur, rfl, _, hg, hnc, hcm, hsz, hx⟩
  · refine ⟨none, 0, by rw [h0], by omega, by simp [maxLen], fun i hi => by omega⟩
  · refine ⟨_, cap, rfl, hnc, hcm, fun i hi => ?_⟩
    have hb : Blk w g e cur := hg
    have hc : ∀ j, j < 8 → w.cell? ⟨g, 0 + i * 8 + j, none⟩ = (needOf l i).cs[j]? := by
      intro j hj
      obtain ⟨x, h1, h2⟩ := flat8 l i j hi hj
      rw [Nat.zero_add, hb.cell]
      have e1 : (needOf l i) = x := by simp [needOf, h1]
      rw [e1, ← h2, ← hx, List.getElem?_take_of_lt (by omega)]
      simp
    obtain ⟨x, h1, _⟩ := flat8 l i 0 hi (by omega)
    have e1 : (needOf l i) = x := by simp [needOf, h1]
    have hm := hs x (List.mem_of_getElem? h1)
    exact ⟨g, 0, rfl, hb.lt, by rw [e1]; exact hm.1, by rw [e1]; exact hm.2, hc 0 (by omega), hc 1 (by omega), hc 2 (by omega), hc 3 (by omega), hc 4 (by omega), hc 5 (by omega), hc 6 (by omega), hc 7 (by omega)⟩
/-- What the first need that is not met is. -/
theorem firstG_spec (L : Nat → Inst) (n : Nat) (N : Nat → NeedS) : ∀ (f k : Nat), (firstG L n N f k = -1 ∧ ∀ i, k ≤ i → i < k + f → metF L n (N i) = true) ∨ (∃ x : Nat, firstG L n N f k = (x : Int) ∧ k ≤ x ∧ x < k + f ∧ metF L n (N x) = false ∧ ∀ i, k ≤ i → i < x → metF L n (N i) = true)
  | 0, k => .inl ⟨rfl, fun i h1 h2 => by omega⟩
  | f + 1, k => by
    unfold firstG
    by_cases h : metF L n (N k) = true
    · rw [if_pos h]
      rcases firstG_spec L n N f (k + 1) with ⟨h1, h2⟩ | ⟨x, h1, h2, h3, h4, h5⟩
      · exact .inl ⟨h1, fun i a b => by
          rcases Nat.eq_or_lt_of_le a with rfl | a'
          · exact h
          · exact h2 i a' (by omega)⟩
      · exact .inr ⟨x, h1, by omega, by omega, h4, fun i a b => by
          rcases Nat.eq_or_lt_of_le a with rfl | a'
          · exact h
          · exact h5 i a' b⟩
    · rw [if_neg h]
      exact .inr ⟨k, rfl, Nat.le_refl _, by omega, by simpa using h, fun i a b => by omega⟩
theorem first_len (l : List NeedS) (h : ∀ x ∈ l, x.c.length ≤ 16 ∧ x.o.length ≤ 16) : ∀ x ∈ l, x.c.length ≤ maxLen ∧ x.o.length ≤ maxLen := fun x hx => by
  have := h x hx
  unfold maxLen
  omega
theorem inst_len (l : List Inst) (n : Nat) (h : l.map (·.s) = nmL.take n) : ∀ x ∈ l, x.s.length ≤ maxLen := fun x hx => by
  have h1 : x.s ∈ nmL.take n := by rw [← h]; exact List.mem_map_of_mem hx
  have h2 := List.mem_of_mem_take h1
  have h3 : ∀ y ∈ nmL, y.length ≤ 4 := by decide
  have := h3 _ h2
  unfold maxLen
  omega
/-- Codes, then components, then needs: as two laws make them. -/
structure Made (w W : World) (A A' : Option Addr) (n c m d : Nat) (L : Nat → Inst) (N : Nat → NeedS) (l : List Inst) (most : Nat) : Prop where
  below : Below w.heap.size w W
  n1 : 1 ≤ n
  n5 : n ≤ 5
  nc : n ≤ c
  cm : c ≤ maxLen
  mm : m ≤ most
  md : m ≤ d
  dm : d ≤ maxLen
  inst : InstAt W W.heap.size A n L
  need : NeedAt W W.heap.size A' m N
  ln : l.length = n
  lL : L = instOf l
  names : l.map (·.s) = nmL.take n
  vers : ∀ x ∈ l, goodV x.v
theorem Made.mk_ {w w1 w2 w3 : World} {g : Nat} {v v' : Value} {l : List Inst} {l' : List NeedS} {most : Nat} (hb : Below w.heap.size w w1) (hg : w.heap.size ≤ g) (hgl : g < w1.heap.size)
    (h1 : 1 ≤ l.length) (h2 : l.length ≤ 5) (h3 : l.map (·.s) = nmL.take l.length) (h4 : ∀ x ∈ l, goodV x.v) (h5 : w2.ownsRow w1.heap.size 42 4 v l.length (l.flatMap Inst.cs)) (h6 : w1.grownBy w2 (some g))
    (k2 : l'.length ≤ most) (k4 : ∀ x ∈ l', x.c.length ≤ 16 ∧ x.o.length ≤ 16) (k5 : w3.ownsRow w2.heap.size 50 8 v' l'.length (l'.flatMap NeedS.cs)) (k6 : w2.grownBy w3 (some g)) :
    ∃ A A' c d, v = .slice A l.length c ∧ v' = .slice A' l'.length d ∧ Made w w3 A A' l.length c l'.length d (instOf l) (needOf l') l most := by
  have hne : v.ownBlock = none ∨ v.ownBlock ≠ some g := by
    by_cases e : v.ownBlock = some g
    · have := own_ge h5 g e; omega
    · exact .inr e
  obtain ⟨A, c, rfl, hnc, hcm, hI⟩ := inst_of_own rfl (h5.kept k6 hne) (inst_len l _ h3)
  obtain ⟨A', d, rfl, hmd, hdm, hN⟩ := need_of_own rfl k5 (first_len l' k4)
  exact ⟨A, A', c, d, rfl, rfl, ⟨((hb.grown h6 hb.size (fun j e => by injection e with e; omega)).grown k6 (by have := h6.size; have := hb.size; omega) (fun j e => by injection e with e; omega)), h1, h2, hnc, hcm, k2, hmd, hdm, hI, hN, rfl, rfl, h3, h4⟩⟩
end Go.Proofs.YtbcbleonpaemgaaDoor
