/- More words for memory: parts of a slice that reads as a list. No condition. -/
import Derived.Test.YtfbkkmnkpjgciaaBase
namespace Go.Proofs.Ytfbkkmnkpjgciaa
open Go.RowKit
section
variable {w w' : World} {B n m k : Nat} {A A' : Option Addr} {xs : List Value} {ad : Addr}
theorem Reads.sub (h : Reads w B 1 (some ad) n xs) (hkm : k + m ≤ n) : Reads w B 1 (some (ad.add k)) m ((xs.drop k).take m) := by
  have h1 := h.1
  refine ⟨by simp; omega, fun h0 => ?_⟩
  obtain ⟨ad', e, hb, hc⟩ := h.2 (by omega)
  injection e with e
  subst e
  refine ⟨_, rfl, by rw [block_of_add]; exact hb, fun j u hu => ?_⟩
  have hj : j < m := by
    have := (List.getElem?_eq_some_iff.1 hu).1
    simp at this; omega
  rw [add_of_add]
  rw [List.getElem?_take_of_lt hj, List.getElem?_drop] at hu
  exact hc _ _ hu
theorem Reads.tail_ (h : Reads w B 1 A n xs) (hk : k ≤ n) (hA : k < n → A' = A.map (·.add k)) : Reads w B 1 A' (n - k) (xs.drop k) := by
  have h1 := h.1
  refine ⟨by simp; omega, fun h0 => ?_⟩
  obtain ⟨ad', rfl, hb, hc⟩ := h.2 (by omega)
  refine ⟨_, hA (by omega), by rw [block_of_add]; exact hb, fun j u hu => ?_⟩
  rw [add_of_add]
  rw [List.getElem?_drop] at hu
  exact hc _ _ hu
end
theorem own_ge {w : World} {base : Nat} {e : TypeId} {size n : Nat} {v : Value} {xs : List Value} (h : w.ownsRow base e size v n xs) : ∀ g, v.ownBlock = some g → base ≤ g := by
  intro g hg
  rcases h.2 with ⟨rfl, _⟩ | ⟨g', cap, cur, rfl, hb, _⟩
  · simp [Value.ownBlock] at hg
  · have : g' = g := by simpa [Value.ownBlock] using hg
    omega
theorem slice_of_own {w : World} {base : Nat} {e : TypeId} {size n : Nat} {v : Value} {xs : List Value} (h : w.ownsRow base e size v n xs) : ∃ A c, v = .slice A n c ∧ n ≤ c ∧ c ≤ maxLen := by
  rcases h.2 with ⟨rfl, rfl⟩ | ⟨g, cap, cur, rfl, _, _, hc, hm, _⟩
  · exact ⟨none, 0, rfl, Nat.le_refl _, by simp [maxLen]⟩
  · exact ⟨_, cap, rfl, hc, hm⟩
/-- 'v = append(v, u)': one element of one cell, onto a row of the call's own. -/
theorem wpList_append1 {P : Program} (w0 : World) {ops : Array Oper} {rest : List Oper} {o : Oper} {a : Act} {Q : Exit → Act → World → Prop} (hgd : o.guard = none) (s x : Operand) (t : TypeId)
    (ho : o.op = .call { callee := .builtin .append, args := #[s, x], argTypes := #[t, t] })
    (base : Nat) (e : TypeId) (i : TypeInfo) (z : Value) (bytes : Nat) (ht : P.underlying t = some (.slice e)) (hi : P.info? e = some i) (hz : i.zero = some z)
    (hsize : i.size = 1) (hby : i.bytes = bytes) (hzs : z.cells.size = 1)
    (v : Value) (n : Nat) (xs : List Value) (hs : a.eval s = v) (hown : w0.ownsRow base e 1 v n xs) (u : Value) (hx : a.eval x = .slice (some ⟨w0.heap.size, 0, none⟩) 1 1) (h1 : u.oneCell' = true)
    (h63 : n + 1 ≤ maxLen) (hbytes : (n + 1) * bytes ≤ 140737488355328) (hbase : base ≤ w0.heap.size)
    (h : ∀ v' w', w'.ownsRow base e 1 v' (n + 1) (xs ++ [u]) → Below base w0 w' → wpList P ops Q rest (a.put o.dst v') w') :
    wpList P ops Q (o :: rest) a (w0.alloc (.cells #[u] e)) := by
  have hr : Reads (w0.alloc (.cells #[u] e)) (w0.heap.size + 1) 1 (some ⟨w0.heap.size, 0, none⟩) 1 [u] := by
    have := Reads.of_blk (B := w0.heap.size + 1) (Blk.new w0 e #[u]) 0 1 (by simp) (Nat.lt_succ_self _)
    simpa using this
  refine wpList_append_any _ hgd s x t ho base e i z 1 bytes ht hi hz hsize hby hzs (by omega) v n xs hs (hown.alloc _) (w0.heap.size + 1) _ 1 1 [u] hx hr (by simpa using h1) h63 hbytes (by rw [size_alloc]; omega) ?_
  intro v' w' hown' hg _
  refine h v' w' hown' ?_
  exact ((Below.refl base w0).alloc hbase _).grown hg (by rw [size_alloc]; omega) (own_ge hown)
end Go.Proofs.Ytfbkkmnkpjgciaa
