/- Raising a version on which others depend leaves needs met: plain laws. No program. No condition. -/
import Derived.Test.YtbcbleonpaemgaaDoorVFirst
namespace Go.Proofs.YtbcbleonpaemgaaDoor
theorem findG_spec (L : Nat → Inst) (name : List UInt8) : ∀ (f k : Nat), (findG L name f k = (zeroV, false) ∧ ∀ i, k ≤ i → i < k + f → (L i).s ≠ name) ∨ (∃ i, k ≤ i ∧ i < k + f ∧ (L i).s = name ∧ findG L name f k = ((L i).v, true) ∧ ∀ j, k ≤ j → j < i → (L j).s ≠ name)
  | 0, k => .inl ⟨rfl, fun i h1 h2 => by omega⟩
  | f + 1, k => by
    unfold findG
    by_cases h : (L k).s = name
    · rw [if_pos h]
      exact .inr ⟨k, Nat.le_refl _, by omega, h, rfl, fun j a b => by omega⟩
    · rw [if_neg h]
      rcases findG_spec L name f (k + 1) with ⟨h1, h2⟩ | ⟨i, h1, h2, h3, h4, h5⟩
      · exact .inl ⟨h1, fun i a b => by
          rcases Nat.eq_or_lt_of_le a with rfl | a'
          · exact h
          · exact h2 i a' (by omega)⟩
      · exact .inr ⟨i, by omega, by omega, h3, h4, fun j a b => by
          rcases Nat.eq_or_lt_of_le a with rfl | a'
          · exact h
          · exact h5 j a' b⟩
theorem find_none {L : Nat → Inst} {n : Nat} {name : List UInt8} (h : ∀ i, i < n → (L i).s ≠ name) : findF L n name = (zeroV, false) := by
  rcases findG_spec L name n 0 with ⟨h1, _⟩ | ⟨i, _, h2, h3, _⟩
  · exact h1
  · exact absurd h3 (h i (by omega))
/-- Names differ. -/
def Apart (L : Nat → Inst) (n : Nat) : Prop := ∀ i j, i < n → j < n → (L i).s = (L j).s → i = j
theorem find_one {L : Nat → Inst} {n i : Nat} (ha : Apart L n) (hi : i < n) : findF L n (L i).s = ((L i).v, true) := by
  rcases findG_spec L (L i).s n 0 with ⟨_, h2⟩ | ⟨j, _, h2, h3, h4, _⟩
  · exact absurd rfl (h2 i (by omega) (by omega))
  · obtain rfl := ha j i (by omega) hi h3
    exact h4
def upI (L : Nat → Inst) (k : Nat) (d : Int) (i : Nat) : Inst := if i = k then ⟨(L k).s, ⟨(L k).v.a + d, (L k).v.b, (L k).v.c⟩⟩ else L i
theorem up_name (L : Nat → Inst) (k : Nat) (d : Int) (i : Nat) : (upI L k d i).s = (L i).s := by
  unfold upI
  split
  · rename_i h; rw [h]
  · rfl
theorem up_apart {L : Nat → Inst} {n : Nat} (ha : Apart L n) (k : Nat) (d : Int) : Apart (upI L k d) n := fun i j hi hj h => ha i j hi hj (by rwa [up_name, up_name] at h)
theorem cmp3_raise (u t : Ver) (d : Int) (hd : 0 ≤ d) (h : 0 ≤ cmp3 u t) : 0 ≤ cmp3 ⟨u.a + d, u.b, u.c⟩ t := by
  obtain ⟨a, b, c⟩ := u
  obtain ⟨a', b', c'⟩ := t
  simp only [cmp3, restC, cmpI] at h ⊢
  by_cases h1 : a < a'
  · simp [h1] at h
  · by_cases h2 : a + d = a'
    · have hd0 : d = 0 := by omega
      have ha : a = a' := by omega
      subst hd0 ha
      simpa using h
    · have h3 : ¬ a + d < a' := by omega
      have h4 : a' < a + d := by omega
      simp [h3, h4]
theorem met_raise {L : Nat → Inst} {n k : Nat} (ha : Apart L n) (d : Int) (hd : 0 ≤ d) (x : NeedS) (hx : x.c ≠ (L k).s) (h : metF L n x = true) : metF (upI L k d) n x = true := by
  have hua := up_apart ha k d
  by_cases hc : ∃ i, i < n ∧ (L i).s = x.c
  · obtain ⟨i, hi, hic⟩ := hc
    have hik : i ≠ k := fun e => hx (by rw [← hic, e])
    have f1 : findF L n x.c = ((L i).v, true) := by rw [← hic]; exact find_one ha hi
    have f2 : findF (upI L k d) n x.c = ((L i).v, true) := by
      have := find_one hua hi
      rw [up_name, hic] at this
      rw [this]
      simp [upI, hik]
    unfold metF at h ⊢
    rw [f1] at h
    rw [f2]
    simp only [Bool.true_eq_false, false_or] at h ⊢
    by_cases hf : cmp3 (L i).v x.f < 0
    · simp [hf]
    · simp only [hf, if_false] at h ⊢
      by_cases ho : ∃ j, j < n ∧ (L j).s = x.o
      · obtain ⟨j, hj, hjo⟩ := ho
        have g1 : findF L n x.o = ((L j).v, true) := by rw [← hjo]; exact find_one ha hj
        have g2 : findF (upI L k d) n x.o = ((upI L k d j).v, true) := by
          have := find_one hua hj
          rwa [up_name, hjo] at this
        rw [g1] at h
        rw [g2]
        simp only [Bool.true_and, decide_eq_true_eq] at h ⊢
        by_cases hjk : j = k
        · subst hjk
          simp only [upI, if_true]
          exact cmp3_raise _ _ d hd h
        · simpa [upI, hjk] using h
      · have g1 : findF L n x.o = (zeroV, false) := find_none (fun i hi e => ho ⟨i, hi, e⟩)
        rw [g1] at h
        simp at h
  · have f2 : findF (upI L k d) n x.c = (zeroV, false) := find_none (fun i hi e => hc ⟨i, hi, by rwa [up_name] at e⟩)
    unfold metF
    rw [f2]
    simp
/-- The list without its component k. -/
def outI (L : Nat → Inst) (k : Nat) (i : Nat) : Inst := if i < k then L i else L (i + 1)
theorem met_without {L : Nat → Inst} {n k : Nat} (ha : Apart L n) (hk : k < n) (x : NeedS) (hx : x.c = (L k).s) : metF (outI L k) (n - 1) x = true := by
  have f : findF (outI L k) (n - 1) x.c = (zeroV, false) := find_none (fun i hi e => by
    unfold outI at e
    split at e
    · have := ha i k (by omega) hk (by rw [e, hx]); omega
    · have := ha (i + 1) k (by omega) hk (by rw [e, hx]); omega)
  unfold metF
  rw [f]
  simp
theorem nm_apart : ∀ i, i < 6 → ∀ j, j < 6 → nmL.getD i [] = nmL.getD j [] → i = j := by decide
theorem made_apart {l : List Inst} {n : Nat} (hl : l.length = n) (hn : n ≤ 5) (h : l.map (·.s) = nmL.take n) : Apart (instOf l) n := by
  have hat : ∀ i, i < n → (instOf l i).s = nmL.getD i [] := by
    intro i hi
    have h1 : (l.map (·.s))[i]? = (nmL.take n)[i]? := by rw [h]
    rw [List.getElem?_map, List.getElem?_take_of_lt hi] at h1
    have hil : i < l.length := by omega
    have h6 : i < nmL.length := by have : nmL.length = 6 := rfl; omega
    rw [List.getElem?_eq_getElem hil, List.getElem?_eq_getElem h6] at h1
    simp only [Option.map_some, Option.some.injEq] at h1
    unfold instOf
    rw [List.getD_eq_getElem?_getD, List.getElem?_eq_getElem hil, List.getD_eq_getElem?_getD, List.getElem?_eq_getElem h6]
    exact h1
  intro i j hi hj e
  rw [hat i hi, hat j hj] at e
  exact nm_apart i (by omega) j (by omega) e
theorem instOf_set (l : List Inst) (k : Nat) (hk : k < l.length) (d : Int) : instOf (l.set k ⟨(instOf l k).s, ⟨(instOf l k).v.a + d, (instOf l k).v.b, (instOf l k).v.c⟩⟩) = upI (instOf l) k d := by
  funext i
  unfold upI
  by_cases h : i = k
  · subst h
    rw [if_pos rfl]
    simp [instOf, hk]
  · rw [if_neg h]
    simp only [instOf, List.getD_eq_getElem?_getD]
    rw [List.getElem?_set_ne (fun e => h e.symm)]
theorem instOf_out (l : List Inst) (k : Nat) (hk : k < l.length) : instOf (l.take k ++ l.drop (k + 1)) = outI (instOf l) k := by
  funext i
  unfold outI
  have hl : (l.take k).length = k := by simp; omega
  by_cases h : i < k
  · rw [if_pos h]
    simp only [instOf, List.getD_eq_getElem?_getD]
    rw [List.getElem?_append_left (by omega), List.getElem?_take_of_lt h]
  · rw [if_neg h]
    simp only [instOf, List.getD_eq_getElem?_getD]
    rw [List.getElem?_append_right (by omega), hl, List.getElem?_drop]
    rw [show k + 1 + (i - k) = i + 1 by omega]
theorem flat_set (l : List Inst) (k : Nat) (hk : k < l.length) (a : Int) : (l.flatMap Inst.cs).set (k * 4 + 1) (.int .i64 a) = (l.set k ⟨(instOf l k).s, ⟨a, (instOf l k).v.b, (instOf l k).v.c⟩⟩).flatMap Inst.cs := by
  induction l generalizing k with
  | nil => simp at hk
  | cons y l ih =>
    rcases k with _ | k
    · simp [instOf, Inst.cs, List.flatMap_cons]
    · have := ih k (by simpa using hk)
      rw [List.set_cons_succ, List.flatMap_cons, List.flatMap_cons]
      rw [show (k + 1) * 4 + 1 = y.cs.length + (k * 4 + 1) by simp [Inst.cs]; omega, List.set_append_right _ _ (by omega), Nat.add_sub_cancel_left, this]
      simp [instOf]
theorem flat_take (l : List Inst) (k : Nat) : (l.flatMap Inst.cs).take (k * 4) = (l.take k).flatMap Inst.cs := by
  induction l generalizing k with
  | nil => simp
  | cons y l ih =>
    rcases k with _ | k
    · simp
    · rw [List.flatMap_cons, List.take_succ_cons, List.flatMap_cons, ← ih k, show (k + 1) * 4 = y.cs.length + k * 4 by simp [Inst.cs]; omega, List.take_length_add_append]
theorem flat_drop (l : List Inst) (k : Nat) : (l.flatMap Inst.cs).drop (k * 4) = (l.drop k).flatMap Inst.cs := by
  induction l generalizing k with
  | nil => simp
  | cons y l ih =>
    rcases k with _ | k
    · simp
    · rw [List.flatMap_cons, List.drop_succ_cons, ← ih k, show (k + 1) * 4 = y.cs.length + k * 4 by simp [Inst.cs]; omega, List.drop_length_add_append]
end Go.Proofs.YtbcbleonpaemgaaDoor
