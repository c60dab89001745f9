/- Step and Act at any host, the program's and the reference's. No condition. -/
import Derived.Test.YtalhemdlkhkhfaaHBad
import Derived.Test.YtalhemdlkhkhfaaHRStep
import Derived.Test.YtalhemdlkhkhfaaHHaps
namespace Go.Proofs.Ytalhemdlkhkhfaa
open Go.RowKit
def stepR (x : HH) (on rs sf : Bool) : HH × Bool × Bool × Bool × Int :=
  if validH x = true then (stepH x on rs sf, goodR (stepH x on rs sf), doneR (stepH x on rs sf) sf, kickR (stepH x on rs sf), 0) else (zeroH, false, false, false, 1)
theorem step_all (w : World) (x : HH) (on rs sf : Bool) (y : HH) (a b c : Bool) (e : Int) (h : stepR x on rs sf = (y, a, b, c, e)) :
    Calls Try.prog 9 #[.agg x.c, .agg #[.bool on, .bool rs, .bool sf]] w fun z w' => z = .returned (.tuple #[.agg y.c, .agg #[.bool a, .bool b, .bool c], .int .i64 e]) ∧ Below w.heap.size w w' := by
  unfold stepR at h
  by_cases hx : validH x = true
  · rw [if_pos hx] at h
    injection h with h1 h2
    injection h2 with h2 h3
    injection h3 with h3 h4
    injection h4 with h4 h5
    subst h1 h2 h3 h4 h5
    exact step_ok w x hx on rs sf
  · rw [if_neg hx] at h
    injection h with h1 h2
    injection h2 with h2 h3
    injection h3 with h3 h4
    injection h4 with h4 h5
    subst h1 h2 h3 h4 h5
    obtain ⟨p, r, hh, s, l, b⟩ := x
    exact step_bad w p r hh s l b (by simpa using hx) on rs sf
theorem rstep_all (w : World) (x : HH) (on rs sf : Bool) (y : HH) (a b c : Bool) (e : Int) (h : stepR x on rs sf = (y, a, b, c, e)) :
    Calls Try.prog 10 #[.agg x.c, .agg #[.bool on, .bool rs, .bool sf]] w fun z w' => z = .returned (.tuple #[.agg y.c, .agg #[.bool a, .bool b, .bool c], .int .i64 e]) ∧ Below w.heap.size w w' := by
  unfold stepR at h
  by_cases hx : validH x = true
  · rw [if_pos hx] at h
    injection h with h1 h2
    injection h2 with h2 h3
    injection h3 with h3 h4
    injection h4 with h4 h5
    subst h1 h2 h3 h4 h5
    exact rstep_ok w x hx on rs sf
  · rw [if_neg hx] at h
    injection h with h1 h2
    injection h2 with h2 h3
    injection h3 with h3 h4
    injection h4 with h4 h5
    subst h1 h2 h3 h4 h5
    obtain ⟨p, r, hh, s, l, b⟩ := x
    exact rstep_bad w p r hh s l b (by simpa using hx) on rs sf
end Go.Proofs.Ytalhemdlkhkhfaa
