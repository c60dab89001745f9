/- The reference's Valid, with the world that it leaves. No condition. -/
import Derived.Test.YtalhemdlkhkhfaaHRVal
namespace Go.Proofs.Ytalhemdlkhkhfaa
open Go.RowKit
def OneMore (w : World) (x : HH) (w' : World) : Prop := w' = w.alloc (.cells #[.bool x.p, .bool x.r, .bool x.h, .bool x.s, .bool x.l, .int .i64 x.b] 23)
theorem ref_valid_x (w : World) (p r h s l : Bool) (b : Int) (hb : 0 ≤ b) (hb2 : b ≤ 20) :
    Calls Try.prog 12 #[.agg #[.bool p, .bool r, .bool h, .bool s, .bool l, .int .i64 b]] w fun e w' => e = .returned (.bool (validH ⟨p, r, h, s, l, b⟩)) ∧ OneMore w ⟨p, r, h, s, l, b⟩ w' := by
  have h1 : decide (b < 0) = false := by simpa using hb
  have h2 : decide (20 < b) = false := by simpa using hb2
  have h3 : ¬ b < 0 := by omega
  have h4 : ¬ 20 < b := by omega
  by_cases h0 : b = 0
  · subst h0
    cases p <;> cases r <;> cases h <;>
    (go_enter Try.func12, Try.ntmps12
     go_wp2_with fail
     go_ret
     exact ⟨rfl, rfl⟩)
  · have h5 : (b == 0) = false := by simpa using h0
    have h6 : (b != 0) = true := by simpa using h0
    cases p <;> cases r <;> cases h <;>
    (go_enter Try.func12, Try.ntmps12
     go_wp2_with fail
     go_ret
     exact ⟨by simp [validH, hb, hb2, h0], rfl⟩)
theorem ref_begin_x (w : World) (p r h s l : Bool) (b : Int) :
    Calls Try.prog 17 #[.agg #[.bool p, .bool r, .bool h, .bool s, .bool l, .int .i64 b]] w fun e w' => e = .returned (.agg #[.bool true, .bool false, .bool false, .bool s, .bool l, .int .i64 20]) ∧ w' = (w.alloc (.cells #[.bool true, .bool false, .bool false, .bool s, .bool l, .int .i64 20] 23)).alloc (.cells #[.bool true, .bool false, .bool false, .bool s, .bool l, .int .i64 20] 23) := by
  go_enter Try.func17, Try.ntmps17
  go_wp2_with fail
  exact bodyPost_ret (v := .agg #[.bool true, .bool false, .bool false, .bool s, .bool l, .int .i64 20]) (by simp [results, Try.results17, go_sem]) rfl ⟨rfl, rfl⟩
end Go.Proofs.Ytalhemdlkhkhfaa
