/- event.Valid and the reference's Valid return validE; nothing that was there turns. No condition. -/
import Derived.Test.YtklffnfaigmjfaaDoorEMake
import Derived.Test.YtklffnfaigmjfaaDoorEFmtPlain
import Derived.BigQuiet
namespace Go.Proofs.YtklffnfaigmjfaaDoor
open Go.RowKit
set_option maxHeartbeats 1000000 in
theorem valid_any (w : World) (e : Ev) (b : Bool) (hb : validE e = b) :
    Calls Tryd.prog 20 #[.agg e.c] w fun z w' => z = .returned (.bool b) ∧ w' = w.alloc (.cells e.c 26) := by
  obtain ⟨id, tm, gn, st, sn, ty, ds, d0, d1, d2⟩ := e
  have HB := hide hb
  clear hb
  show Calls Tryd.prog 20 #[.agg #[.int .u16 id, .int .u32 tm, .int .u16 gn, .int .u8 st, .int .u8 sn, .int .u8 ty, .bool ds, .int .u8 d0, .int .u8 d1, .int .u8 d2]] w _
  have h1 : decide (id ≤ 65534) = true ∨ decide (id ≤ 65534) = false := by cases decide (id ≤ 65534) <;> simp
  have h2 : decide (tm ≤ 4294967294) = true ∨ decide (tm ≤ 4294967294) = false := by cases decide (tm ≤ 4294967294) <;> simp
  have h3 : decide (ty ≤ 127) = true ∨ decide (ty ≤ 127) = false := by cases decide (ty ≤ 127) <;> simp
  rcases h1 with h1 | h1 <;> rcases h2 with h2 | h2 <;> rcases h3 with h3 | h3
  all_goals
    have HB2 := unhide HB
    simp only [validE, h1, h2, h3, Bool.and_true, Bool.and_false] at HB2
    subst HB2
    go_enter Tryd.func20, Tryd.ntmps20
    go_wp2_with fail
    go_ret
    exact ⟨rfl, rfl⟩
set_option maxHeartbeats 1000000 in
theorem rvalid_any (w : World) (e : Ev) (b : Bool) (hb : validE e = b) :
    Calls Tryd.prog 29 #[.agg e.c] w fun z w' => z = .returned (.bool b) ∧ w' = w.alloc (.cells e.c 26) := by
  obtain ⟨id, tm, gn, st, sn, ty, ds, d0, d1, d2⟩ := e
  have HB := hide hb
  clear hb
  show Calls Tryd.prog 29 #[.agg #[.int .u16 id, .int .u32 tm, .int .u16 gn, .int .u8 st, .int .u8 sn, .int .u8 ty, .bool ds, .int .u8 d0, .int .u8 d1, .int .u8 d2]] w _
  have h1 : decide (id ≤ 65534) = true ∨ decide (id ≤ 65534) = false := by cases decide (id ≤ 65534) <;> simp
  have h2 : decide (tm ≤ 4294967294) = true ∨ decide (tm ≤ 4294967294) = false := by cases decide (tm ≤ 4294967294) <;> simp
  have h3 : decide (ty ≤ 127) = true ∨ decide (ty ≤ 127) = false := by cases decide (ty ≤ 127) <;> simp
  rcases h1 with h1 | h1 <;> rcases h2 with h2 | h2 <;> rcases h3 with h3 | h3
  all_goals
    have HB2 := unhide HB
    simp only [validE, h1, h2, h3, Bool.and_true, Bool.and_false] at HB2
    subst HB2
    go_enter Tryd.func29, Tryd.ntmps29
    go_wp2_with fail
    go_ret
    exact ⟨rfl, rfl⟩

set_option maxHeartbeats 1000000 in
theorem word_any (w : World) (ty : Int) (l : List UInt8) (hl : wordL ty = l) :
    Calls Tryd.prog 42 #[.int .u8 ty] w fun z w' => z = .returned (.string ⟨l.toArray⟩) ∧ w = w' := by
  subst hl
  by_cases h1 : ty = 1
  · subst h1
    go_enter Tryd.func42, Tryd.ntmps42
    go_wp2_with fail
    go_ret
    exact ⟨rfl, rfl⟩
  · have hb1 : (ty == 1) = false := by simpa using h1
    by_cases h2 : ty = 111
    · subst h2
      go_enter Tryd.func42, Tryd.ntmps42
      go_wp2_with fail
      go_ret
      exact ⟨rfl, rfl⟩
    · have hb2 : (ty == 111) = false := by simpa using h2
      have H : Hid (wordL ty = [111, 116, 104, 101, 114]) := hide (by unfold wordL; rw [if_neg h1, if_neg h2])
      clear h1 h2
      go_enter Tryd.func42, Tryd.ntmps42
      go_wp2_with fail
      go_ret
      exact ⟨by rw [unhide H]; rfl, rfl⟩
set_option maxHeartbeats 1000000 in
theorem rword_any (w : World) (ty : Int) (l : List UInt8) (hl : wordL ty = l) :
    Calls Tryd.prog 46 #[.int .u8 ty] w fun z w' => z = .returned (.string ⟨l.toArray⟩) ∧ w = w' := by
  subst hl
  by_cases h1 : ty = 1
  · subst h1
    go_enter Tryd.func46, Tryd.ntmps46
    go_wp2_with fail
    go_ret
    exact ⟨rfl, rfl⟩
  · have hb1 : (ty == 1) = false := by simpa using h1
    by_cases h2 : ty = 111
    · subst h2
      go_enter Tryd.func46, Tryd.ntmps46
      go_wp2_with fail
      go_ret
      exact ⟨rfl, rfl⟩
    · have hb2 : (ty == 111) = false := by simpa using h2
      have H : Hid (wordL ty = [111, 116, 104, 101, 114]) := hide (by unfold wordL; rw [if_neg h1, if_neg h2])
      clear h1 h2
      go_enter Tryd.func46, Tryd.ntmps46
      go_wp2_with fail
      go_ret
      exact ⟨by rw [unhide H]; rfl, rfl⟩
end Go.Proofs.YtklffnfaigmjfaaDoor
