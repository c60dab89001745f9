/- Steps of the reference's Parse: a byte of the text, the digits so far. No condition. -/
import Derived.Test.YtcebjipekodmpaaDoorMRPPlain
namespace Go.Proofs.YtcebjipekodmpaaDoor
open Go
theorem get_pos (b : List UInt8) (i : Nat) (c : UInt8) (h : b[i]? = some c) (hh : i < (⟨b.toArray⟩ : ByteArray).size) : (⟨b.toArray⟩ : ByteArray)[i]'hh = c := by
  obtain ⟨h1, h2⟩ := List.getElem?_eq_some_iff.1 h
  exact h2
theorem get_neg (b : List UInt8) (i : Nat) (c : UInt8) (h : b[i]? = some c) (hh : 1 + i < (⟨(45 :: b).toArray⟩ : ByteArray).size) : (⟨(45 :: b).toArray⟩ : ByteArray)[1 + i]'hh = c := by
  apply get_pos
  rw [Nat.add_comm, List.getElem?_cons_succ]
  exact h
theorem isD_nat {c : UInt8} (h : isD c = true) : 48 ≤ c.toNat ∧ c.toNat ≤ 57 := by simpa [isD] using h
theorem isD_not {c : UInt8} (h : isD c = false) : c.toNat < 48 ∨ 57 < c.toNat := by
  have : ¬ (48 ≤ c.toNat ∧ c.toNat ≤ 57) := by simpa [isD] using h
  omega
theorem dig_at (b D : List UInt8) (hD : b.takeWhile isD = D) (i : Nat) (h : i < D.length) : ∃ c, b[i]? = some c ∧ isD c = true := by
  obtain ⟨X, hX, ha, _⟩ := tw_split b
  rw [hD] at hX ha
  refine ⟨D[i], ?_, ?_⟩
  · rw [hX, List.getElem?_append_left h]
    exact List.getElem?_eq_getElem h
  · rw [List.all_eq_true] at ha
    exact ha _ (List.getElem_mem h)
theorem end_at (b D : List UInt8) (hD : b.takeWhile isD = D) : b = D ∨ ∃ c r, b = D ++ c :: r ∧ isD c = false ∧ b[D.length]? = some c := by
  obtain ⟨X, hX, ha, hn⟩ := tw_split b
  rw [hD] at hX
  rcases X with _ | ⟨c, r⟩
  · exact Or.inl (by rw [hX, List.append_nil])
  · refine Or.inr ⟨c, r, hX, hn c r rfl, ?_⟩
    rw [hX, List.getElem?_append_right (Nat.le_refl _), Nat.sub_self]
    rfl
theorem tw_all (b D : List UInt8) (hD : b.takeWhile isD = D) : D.all isD = true := by
  obtain ⟨X, _, ha, _⟩ := tw_split b
  rwa [hD] at ha
theorem tw_len (b D : List UInt8) (hD : b.takeWhile isD = D) : D.length ≤ b.length := by
  rcases end_at b D hD with h | ⟨c, r, h, _⟩
  · rw [h]; exact Nat.le_refl _
  · rw [h, List.length_append]; omega
theorem tw_take (b D : List UInt8) (hD : b.takeWhile isD = D) (i : Nat) (h : i ≤ D.length) : b.take i = D.take i := by
  rcases end_at b D hD with e | ⟨c, r, e, _⟩
  · rw [e]
  · rw [e, List.take_append_of_le_length h]
theorem dec_step (b : List UInt8) (i : Nat) (c : UInt8) (h : b[i]? = some c) : decV 0 (b.take (i + 1)) = 10 * decV 0 (b.take i) + (c.toNat - 48) := by
  rw [List.take_add_one, h, decV_app]
  simp only [Option.toList]
  rw [decV_cons, decV_nil]
  omega
theorem dec_bound (b D : List UInt8) (hD : b.takeWhile isD = D) (i : Nat) (h : i ≤ D.length) : decV 0 (b.take i) < 10 ^ i := by
  rw [tw_take b D hD i h]
  have ha := tw_all b D hD
  have h2 : (D.take i).all isD = true := by
    rw [List.all_eq_true] at ha ⊢
    exact fun x hx => ha x (List.mem_of_mem_take hx)
  have := decV_lt _ h2
  rwa [List.length_take, Nat.min_eq_left h] at this
theorem head_of (b D : List UInt8) (hD : b.takeWhile isD = D) (c : UInt8) (h1 : 0 < D.length) (h : b[0]? = some c) : D.head? = some c := by
  rcases end_at b D hD with e | ⟨c', r, e, _⟩
  · rw [← e, List.head?_eq_getElem?]; exact h
  · rw [e, List.getElem?_append_left h1] at h
    rw [List.head?_eq_getElem?]; exact h
/-- One more digit behind the point. -/
theorem part_step (j d k V v : Nat) (hj : j < 6) (hv : v = V + d * 10 ^ (6 - j)) : v + 10 ^ (6 - (j + 1)) * k = V + (10 * d + k) * 10 ^ (6 - (j + 1)) ∧ 10 ^ (6 - j) / 10 = 10 ^ (6 - (j + 1)) := by
  have : j = 0 ∨ j = 1 ∨ j = 2 ∨ j = 3 ∨ j = 4 ∨ j = 5 := by omega
  rcases this with rfl | rfl | rfl | rfl | rfl | rfl <;> simp at hv ⊢ <;> omega
end Go.Proofs.YtcebjipekodmpaaDoor
