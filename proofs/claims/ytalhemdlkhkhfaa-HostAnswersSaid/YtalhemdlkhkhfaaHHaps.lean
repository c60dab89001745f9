/- What a host's law reads and keeps: happenings in a slice; Act and Step keep a host valid. No condition. -/
import Derived.Test.YtalhemdlkhkhfaaHAwake
import Derived.Test.YtalhemdlkhkhfaaHAct
namespace Go.Proofs.Ytalhemdlkhkhfaa
open Go.RowKit
/-- A happening. -/
structure Hap where
  a : Nat
  on : Bool
  rs : Bool
  sf : Bool
def HapsAt (w : World) (B : Nat) (A : Option Addr) (n : Nat) (L : Nat → Hap) : Prop :=
  ∀ i, i < n → ∃ gb go, A = some ⟨gb, go, none⟩ ∧ gb < B ∧ (L i).a < 256 ∧ w.cell? ⟨gb, go + i * 4, none⟩ = some (.int .u8 ((L i).a : Int)) ∧ w.cell? ⟨gb, go + i * 4 + 1, none⟩ = some (.bool (L i).on) ∧ w.cell? ⟨gb, go + i * 4 + 2, none⟩ = some (.bool (L i).rs) ∧ w.cell? ⟨gb, go + i * 4 + 3, none⟩ = some (.bool (L i).sf)
theorem HapsAt.below {w w' : World} {B : Nat} {A : Option Addr} {n : Nat} {L : Nat → Hap} (h : HapsAt w B A n L) (hb : Below B w w') : HapsAt w' B A n L := by
  intro i hi
  obtain ⟨gb, go, e, hl, h0, h1, h2, h3, h4⟩ := h i hi
  exact ⟨gb, go, e, hl, h0, (hb.cell (p := ⟨gb, _, none⟩) hl).trans h1, (hb.cell (p := ⟨gb, _, none⟩) hl).trans h2, (hb.cell (p := ⟨gb, _, none⟩) hl).trans h3, (hb.cell (p := ⟨gb, _, none⟩) hl).trans h4⟩
theorem act_valid (x : HH) (h : validH x = true) (k : Nat) : validH (actH x k) = true := by
  obtain ⟨p, r, hh, s, l, b⟩ := x
  unfold actH
  split <;> revert h <;> cases p <;> cases r <;> cases hh <;> simp [validH]
theorem step_valid (x : HH) (h : validH x = true) (on rs sf : Bool) : validH (stepH x on rs sf) = true := by
  obtain ⟨p, r, hh, s, l, b⟩ := x
  revert h
  by_cases h0 : b = 0
  · subst h0
    cases on <;> cases p <;> cases r <;> cases hh <;> cases rs <;> cases s <;> cases sf <;> simp [validH, stepH, chain, offF, onF, bootF, stopF, beginF]
  · by_cases h1 : 0 < b
    · by_cases h2 : b = 1
      · subst h2
        cases on <;> cases p <;> cases r <;> cases hh <;> cases rs <;> simp [validH, stepH, chain, offF, onF, bootF, stopF, beginF]
      · cases on <;> cases p <;> cases r <;> cases hh <;> cases rs <;> simp [validH, stepH, chain, offF, onF, bootF, stopF, beginF, h0, h1, h2] <;> omega
    · have h2 : ¬ 0 ≤ b := by omega
      simp [validH, h2]
theorem step_p (x : HH) (h : validH x = true) (on rs sf : Bool) : (stepH x on rs sf).p = on := by
  obtain ⟨p, r, hh, s, l, b⟩ := x
  cases on <;> cases p <;> cases rs <;> simp [stepH, chain, offF, onF, bootF, stopF, beginF] <;> (repeat (first | split | rfl))
theorem step_kick (x : HH) (h : validH x = true) (rs sf : Bool) : kickR (stepH x false rs sf) = false := by
  have h1 := step_p x h false rs sf
  have h2 := step_valid x h false rs sf
  revert h1 h2
  generalize stepH x false rs sf = y
  obtain ⟨p, r, hh, s, l, b⟩ := y
  cases p <;> cases r <;> cases hh <;> simp [validH, kickR]
end Go.Proofs.Ytalhemdlkhkhfaa
