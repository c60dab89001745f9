/- strings.Split at one byte by a plain function: the pieces between the bytes. Plain laws, no condition. -/
import Derived.Lib.SplitLaws
namespace Go.Proofs.YtklffnfaigmjfaaDoor
open Go.Lib
/-- The pieces of a text between the bytes c. -/
def splitD (c : UInt8) : List UInt8 → List (List UInt8)
  | [] => [[]]
  | b :: l => if b = c then [] :: splitD c l else (match splitD c l with | [] => [[b]] | p :: ps => (b :: p) :: ps)
theorem splitD_ne (c : UInt8) (l : List UInt8) : splitD c l ≠ [] := by
  cases l with
  | nil => simp [splitD]
  | cons b l =>
    unfold splitD
    split
    · simp
    · split <;> simp
theorem splitK_eq (c : UInt8) : ∀ l : List UInt8, splitK [c] 0 (count l [c]) l = splitD c l
  | [] => by rw [count_miss (by simp [index])]; rfl
  | b :: l => by
    have ih := splitK_eq c l
    by_cases h : b = c
    · subst h
      have hix : index (b :: l) [b] = 0 := by rw [index]; simp [List.isPrefixOf]
      rw [count_cons_eq, Nat.add_comm, splitK, hix, splitD, if_pos rfl]
      simp [ih]
    · rw [count_cons_ne b c l h, splitD, if_neg h, ← ih]
      have hp : ([c] : List UInt8).isPrefixOf (b :: l) = false := by simp [List.isPrefixOf, Ne.symm h]
      have hix : index (b :: l) [c] = if index l [c] == -1 then -1 else index l [c] + 1 := by rw [index, hp]; simp
      by_cases hm : index l [c] = -1
      · rw [count_miss hm]; rfl
      · have hge := index_ge l [c]
        obtain ⟨j, hj⟩ : ∃ j : Nat, index l [c] = j := ⟨(index l [c]).toNat, by omega⟩
        have hix' : index (b :: l) [c] = ((j + 1 : Nat) : Int) := by rw [hix, if_neg (fun e => hm (beq_iff_eq.1 e)), hj]; omega
        rw [count_hit (by simp) hj, Nat.add_comm 1]
        have e1 : ¬ (index (b :: l) [c] == -1) = true := by rw [hix']; exact fun e => by have := beq_iff_eq.1 e; omega
        have e2 : ¬ (index l [c] == -1) = true := by rw [hj]; exact fun e => by have := beq_iff_eq.1 e; omega
        rw [splitK, if_neg e1, splitK, if_neg e2, hix', hj]
        simp
theorem splitB_map (c : UInt8) (l : List UInt8) : (splitB ⟨#[c]⟩ 0 (countB ⟨l.toArray⟩ ⟨#[c]⟩) ⟨l.toArray⟩) = (splitD c l).map fun p => (⟨p.toArray⟩ : ByteArray) := by
  have h := splitB_data ⟨#[c]⟩ 0 (countB ⟨l.toArray⟩ ⟨#[c]⟩) ⟨l.toArray⟩
  have h2 : splitK (⟨#[c]⟩ : ByteArray).data.toList 0 (countB ⟨l.toArray⟩ ⟨#[c]⟩) (⟨l.toArray⟩ : ByteArray).data.toList = splitD c l := by
    rw [← splitK_eq]
  rw [h2] at h
  rw [← h, List.map_map]
  conv => lhs; rw [← List.map_id (splitB _ _ _ _)]
  apply List.map_congr_left
  intro x _
  obtain ⟨⟨t⟩⟩ := x
  rfl
theorem splitD_length (c : UInt8) (l : List UInt8) : countB ⟨l.toArray⟩ ⟨#[c]⟩ + 1 = (splitD c l).length := by
  have h := congrArg List.length (splitB_map c l)
  rw [splitB_all ⟨#[c]⟩ (Nat.le_refl 1) 0 _ _ rfl, List.length_map] at h
  exact h
/-- Behind a stretch without c. -/
theorem splitD_end (c : UInt8) : ∀ d : List UInt8, (∀ x ∈ d, x ≠ c) → splitD c d = [d]
  | [], _ => rfl
  | b :: d, h => by
    rw [splitD, if_neg (h b (by simp)), splitD_end c d fun x hx => h x (by simp [hx])]
theorem splitD_app (c : UInt8) : ∀ (d r : List UInt8), (∀ x ∈ d, x ≠ c) → splitD c (d ++ c :: r) = d :: splitD c r
  | [], r, _ => by rw [List.nil_append, splitD, if_pos rfl]
  | b :: d, r, h => by
    rw [List.cons_append, splitD, if_neg (h b (by simp)), splitD_app c d r fun x hx => h x (by simp [hx])]
theorem splitD_head (c : UInt8) : ∀ (d r : List UInt8), (∀ x ∈ d, x ≠ c) → ∃ p ps, splitD c (d ++ r) = (d ++ p) :: ps ∧ splitD c r = p :: ps
  | [], r, _ => by
    rcases h : splitD c r with _ | ⟨p, ps⟩
    · exact absurd h (splitD_ne c r)
    · exact ⟨p, ps, by rw [List.nil_append, h]; rfl, rfl⟩
  | b :: d, r, h => by
    obtain ⟨p, ps, h1, h2⟩ := splitD_head c d r fun x hx => h x (by simp [hx])
    exact ⟨p, ps, by rw [List.cons_append, splitD, if_neg (h b (by simp)), h1]; rfl, h2⟩
theorem splitD_len (c : UInt8) : ∀ (l : List UInt8), ∀ p ∈ splitD c l, p.length ≤ l.length
  | [], p, hp => by simp [splitD] at hp; simp [hp]
  | b :: l, p, hp => by
    have ih := splitD_len c l
    unfold splitD at hp
    split at hp
    · rcases List.mem_cons.1 hp with rfl | h
      · simp
      · have := ih p h; simp; omega
    · rcases hs : splitD c l with _ | ⟨q, qs⟩
      · exact absurd hs (splitD_ne c l)
      · rw [hs] at hp ih
        simp only [List.mem_cons] at hp
        rcases hp with rfl | h
        · have := ih q (by simp); simp; omega
        · have := ih p (by simp [h]); simp; omega
end Go.Proofs.YtklffnfaigmjfaaDoor
