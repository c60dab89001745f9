/- host.Valid and the reference's Valid return validH; nothing that was there turns. No condition. -/
import Derived.Test.YtalhemdlkhkhfaaBase
import Derived.Test.YtalhemdlkhkhfaaProg
import Derived.IntWalk
namespace Go.Proofs.Ytalhemdlkhkhfaa
open Go.RowKit
/-- A host. -/
structure HH where
  p : Bool
  r : Bool
  h : Bool
  s : Bool
  l : Bool
  b : Int
def HH.v (x : HH) : Value := .agg #[.bool x.p, .bool x.r, .bool x.h, .bool x.s, .bool x.l, .int .i64 x.b]
def validH (x : HH) : Bool := decide (0 ≤ x.b) && decide (x.b ≤ 20) && (x.p || (!x.r && !x.h && decide (x.b = 0))) && (decide (x.b = 0) || !x.r) && (!x.h || x.r)
theorem valid_out (w : World) (p r h s l : Bool) (b : Int) (hb : b < 0 ∨ 20 < b) :
    Calls Try.prog 11 #[.agg #[.bool p, .bool r, .bool h, .bool s, .bool l, .int .i64 b]] w fun e w' => e = .returned (.bool false) ∧ Below w.heap.size w w' := by
  by_cases hn : b < 0
  · have hd : decide (b < 0) = true := by simpa using hn
    (go_enter Try.func11, Try.ntmps11
     go_wp2_with fail
     go_ret
     exact ⟨rfl, (Below.refl _ _).alloc (Nat.le_refl _) _⟩)
  · have hd : decide (b < 0) = false := by simpa using hn
    have h2 : decide (20 < b) = true := by simp; omega
    have h3 : 20 < b := by omega
    (go_enter Try.func11, Try.ntmps11
     go_wp2_with fail
     go_ret
     exact ⟨rfl, (Below.refl _ _).alloc (Nat.le_refl _) _⟩)
theorem valid_in (w : World) (p r h s l : Bool) (b : Int) (hb : 0 ≤ b) (hb2 : b ≤ 20) :
    Calls Try.prog 11 #[.agg #[.bool p, .bool r, .bool h, .bool s, .bool l, .int .i64 b]] w fun e w' => e = .returned (.bool (validH ⟨p, r, h, s, l, b⟩)) ∧ Below w.heap.size w w' := by
  have h1 : decide (b < 0) = false := by simpa using hb
  have h2 : decide (20 < b) = false := by simpa using hb2
  have h3 : ¬ b < 0 := by omega
  have h4 : ¬ 20 < b := by omega
  by_cases h0 : b = 0
  · subst h0
    cases p <;> cases r <;> cases h <;>
    (go_enter Try.func11, Try.ntmps11
     go_wp2_with fail
     go_ret
     exact ⟨rfl, (Below.refl _ _).alloc (Nat.le_refl _) _⟩)
  · have h5 : (b == 0) = false := by simpa using h0
    have h6 : (b != 0) = true := by simpa using h0
    cases p <;> cases r <;> cases h <;>
    (go_enter Try.func11, Try.ntmps11
     go_wp2_with fail
     go_ret
     exact ⟨by simp [validH, hb, hb2, h0], (Below.refl _ _).alloc (Nat.le_refl _) _⟩)
theorem valid_any (w : World) (x : HH) :
    Calls Try.prog 11 #[x.v] w fun e w' => e = .returned (.bool (validH x)) ∧ Below w.heap.size w w' := by
  obtain ⟨p, r, h, s, l, b⟩ := x
  by_cases hb : b < 0 ∨ 20 < b
  · have e : validH ⟨p, r, h, s, l, b⟩ = false := by
      unfold validH
      rcases hb with hb | hb
      · simp [show ¬ 0 ≤ b by omega]
      · simp [show ¬ b ≤ 20 by omega]
    rw [e]
    exact valid_out w p r h s l b hb
  · exact valid_in w p r h s l b (by omega) (by omega)
end Go.Proofs.Ytalhemdlkhkhfaa
