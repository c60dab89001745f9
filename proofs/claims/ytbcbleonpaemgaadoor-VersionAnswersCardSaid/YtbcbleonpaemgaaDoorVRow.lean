/- Slices of components that the call has made itself read as lists. No condition. -/
import Derived.Test.YtbcbleonpaemgaaDoorVFind

namespace Go.Proofs.YtbcbleonpaemgaaDoor
open Go.RowKit
def Inst.cs (x : Inst) : List Value := [.string ⟨x.s.toArray⟩, .int .i64 x.v.a, .int .i64 x.v.b, .int .i64 x.v.c]
theorem flat_at (l : List Inst) : ∀ (i j : Nat), i < l.length → j < 4 → ∃ x, l[i]? = some x ∧ (l.flatMap Inst.cs)[i * 4 + j]? = x.cs[j]? := by
  induction l with
  | nil => intro i j h; simp at h
  | cons y l ih =>
    intro i j hi hj
    rw [List.flatMap_cons]
    rcases i with _ | i
    · refine ⟨y, rfl, ?_⟩
      rw [List.getElem?_append_left (by simp [Inst.cs]; omega)]
      simp
    · obtain ⟨x, h1, h2⟩ := ih i j (by simpa using hi) hj
      refine ⟨x, by simpa using h1, ?_⟩
      rw [List.getElem?_append_right (by simp [Inst.cs]; omega), ← h2]
      congr 1
      simp [Inst.cs]
      omega
def instOf (l : List Inst) (i : Nat) : Inst := l.getD i ⟨[], zeroV⟩
theorem inst_of_own {w : World} {base n : Nat} {e : TypeId} {v : Value} {l : List Inst} (hn : n = l.length) (h : w.ownsRow base e 4 v n (l.flatMap Inst.cs)) (hs : ∀ x ∈ l, x.s.length ≤ maxLen) :
    ∃ A c, v = .slice A n c ∧ n ≤ c ∧ c ≤ maxLen ∧ InstAt w w.heap.size A n (instOf l) := by
  subst hn
  rcases h.2 with ⟨rfl, h0⟩ | ⟨g, cap, cur, rfl, _, hg, hnc, hcm, hsz, hx⟩
  · refine ⟨none, 0, by rw [h0], by omega, by simp [maxLen], fun i hi => by omega⟩
  · refine ⟨_, cap, rfl, hnc, hcm, fun i hi => ?_⟩
    have hb : Blk w g e cur := hg
    have hc : ∀ j, j < 4 → w.cell? ⟨g, 0 + i * 4 + j, none⟩ = (instOf l i).cs[j]? := by
      intro j hj
      obtain ⟨x, h1, h2⟩ := flat_at l i j hi hj
      rw [Nat.zero_add, hb.cell]
      have e1 : (instOf l i) = x := by simp [instOf, h1]
      rw [e1, ← h2, ← hx, List.getElem?_take_of_lt (by omega)]
      simp
    refine ⟨g, 0, rfl, hb.lt, ?_, hc 0 (by omega), hc 1 (by omega), hc 2 (by omega), hc 3 (by omega)⟩
    obtain ⟨x, h1, _⟩ := flat_at l i 0 hi (by omega)
    have e1 : (instOf l i) = x := by simp [instOf, h1]
    rw [e1]
    exact hs x (List.mem_of_getElem? h1)
end Go.Proofs.YtbcbleonpaemgaaDoor
