/- The reference's Valid, order, Compare, find: validV, cmpI, cmp3, findF. No condition. -/
import Derived.Test.YtbcbleonpaemgaaDoorVFind
import Derived.Deep.CutRange
namespace Go.Proofs.YtbcbleonpaemgaaDoor
open Go.RowKit
theorem six (b1 b2 b3 b4 b5 b6 : Bool) : b1 = false ∨ (b1 = true ∧ b2 = false) ∨ (b1 = true ∧ b2 = true ∧ b3 = false) ∨ (b1 = true ∧ b2 = true ∧ b3 = true ∧ b4 = false) ∨ (b1 = true ∧ b2 = true ∧ b3 = true ∧ b4 = true ∧ b5 = false) ∨ (b1 = true ∧ b2 = true ∧ b3 = true ∧ b4 = true ∧ b5 = true ∧ b6 = false) ∨ (b1 = true ∧ b2 = true ∧ b3 = true ∧ b4 = true ∧ b5 = true ∧ b6 = true) := by
  cases b1 <;> cases b2 <;> cases b3 <;> cases b4 <;> cases b5 <;> cases b6 <;> simp
set_option maxHeartbeats 2000000 in
theorem rval_any (w : World) (x : Ver) (r : Bool) (hr : validV x = r) :
    Calls Tryd.prog 15 #[.agg #[.int .i64 x.a, .int .i64 x.b, .int .i64 x.c]] w fun e w' => e = .returned (.bool r) ∧ w' = w.alloc (.cells #[.int .i64 x.a, .int .i64 x.b, .int .i64 x.c] 26) := by
  obtain ⟨a, b, c⟩ := x
  have HR := hide hr
  clear hr
  dsimp only
  rcases six (decide (0 ≤ a)) (decide (a ≤ 999)) (decide (0 ≤ b)) (decide (b ≤ 999)) (decide (0 ≤ c)) (decide (c ≤ 999)) with h1 | ⟨h1, h2⟩ | ⟨h1, h2, h3⟩ | ⟨h1, h2, h3, h4⟩ | ⟨h1, h2, h3, h4, h5⟩ | ⟨h1, h2, h3, h4, h5, h6⟩ | ⟨h1, h2, h3, h4, h5, h6⟩
  all_goals
    have HB2 := unhide HR
    simp only [validV, validR, inN, *, Bool.true_and, Bool.false_and, Bool.and_false] at HB2
    subst HB2
    go_enter Tryd.func15, Tryd.ntmps15
    go_wp2_with fail
    go_ret
    exact ⟨rfl, rfl⟩
theorem rord_any (w : World) (x y : Int) (r : Int) (hr : cmpI x y = r) :
    Calls Tryd.prog 34 #[.int .i64 x, .int .i64 y] w fun e w' => e = .returned (.int .i64 r) ∧ w = w' := by
  by_cases h1 : x < y
  · obtain rfl : r = -1 := by rw [← hr, cmpI, if_pos h1]
    clear hr
    go_enter Tryd.func34, Tryd.ntmps34
    go_wp2_with fail
    go_ret
    exact ⟨rfl, rfl⟩
  · by_cases h2 : y < x
    · obtain rfl : r = 1 := by rw [← hr, cmpI, if_neg h1, if_pos h2]
      clear hr
      go_enter Tryd.func34, Tryd.ntmps34
      go_wp2_with fail
      go_ret
      exact ⟨rfl, rfl⟩
    · obtain rfl : r = 0 := by rw [← hr, cmpI, if_neg h1, if_neg h2]
      clear hr
      go_enter Tryd.func34, Tryd.ntmps34
      go_wp2_with fail
      go_ret
      exact ⟨rfl, rfl⟩
set_option maxHeartbeats 2000000 in
theorem rcmp_any (w : World) (x y : Ver) (r : Int) (hr : cmp3 x y = r) :
    Calls Tryd.prog 17 #[.agg #[.int .i64 x.a, .int .i64 x.b, .int .i64 x.c], .agg #[.int .i64 y.a, .int .i64 y.b, .int .i64 y.c]] w fun e w' => e = .returned (.int .i64 r) ∧ Below w.heap.size w w' := by
  obtain ⟨a, b, c⟩ := x
  obtain ⟨a', b', c'⟩ := y
  dsimp only
  obtain ⟨r0, h0⟩ : ∃ r0, cmpI a a' = r0 := ⟨_, rfl⟩
  obtain ⟨r1, h1⟩ : ∃ r1, cmpI b b' = r1 := ⟨_, rfl⟩
  obtain ⟨r2, h2⟩ : ∃ r2, cmpI c c' = r2 := ⟨_, rfl⟩
  have hr2 : (if r0 = 0 then (if r1 = 0 then r2 else r1) else r0) = r := by rw [← hr]; simp only [cmp3, restC, h0, h1, h2]
  have O0 := hide fun W => rord_any W a a' r0 h0
  have O1 := hide fun W => rord_any W b b' r1 h1
  have O2 := hide fun W => rord_any W c c' r2 h2
  have HR := hide hr2
  obtain ⟨W2, hW2⟩ : ∃ W2, (w.alloc (.cells #[.int .i64 a, .int .i64 b, .int .i64 c] 26)).alloc (.cells #[.int .i64 a', .int .i64 b', .int .i64 c'] 26) = W2 := ⟨_, rfl⟩
  have H1 : Blk W2 w.heap.size 26 #[.int .i64 a, .int .i64 b, .int .i64 c] := hW2 ▸ (Blk.new w _ _).alloc _
  have H2 : Blk W2 (w.heap.size + 1) 26 #[.int .i64 a', .int .i64 b', .int .i64 c'] := hW2 ▸ Blk.new' (by simp)
  have B0 : Hid (Below w.heap.size w W2) := hide (hW2 ▸ below2 _ _ _)
  have p0 : W2.cell? ⟨w.heap.size, 0, none⟩ = some (.int .i64 a) := H1.cell 0
  have p1 : W2.cell? ⟨w.heap.size, 1, none⟩ = some (.int .i64 b) := H1.cell 1
  have p2 : W2.cell? ⟨w.heap.size, 2, none⟩ = some (.int .i64 c) := H1.cell 2
  have q0 : W2.cell? ⟨w.heap.size + 1, 0, none⟩ = some (.int .i64 a') := H2.cell 0
  have q1 : W2.cell? ⟨w.heap.size + 1, 1, none⟩ = some (.int .i64 b') := H2.cell 1
  have q2 : W2.cell? ⟨w.heap.size + 1, 2, none⟩ = some (.int .i64 c') := H2.cell 2
  have HW := hide hW2
  clear hW2 H1 H2 hr h0 h1 h2 hr2
  by_cases z0 : r0 = 0
  · have y0 : (r0 != 0) = false := by simpa using z0
    by_cases z1 : r1 = 0
    · have y1 : (r1 != 0) = false := by simpa using z1
      obtain rfl : r2 = r := by have := unhide HR; rw [if_pos z0, if_pos z1] at this; exact this
      clear z0 z1
      go_enter Tryd.func17, Tryd.ntmps17
      go_upto_region 1 with fail
      rw [unhide HW]
      go_wp2_with fail
      refine (unhide O0 _).mono ?_
      rintro e w' ⟨rfl, rfl⟩
      go_wp2_with fail
      refine (unhide O1 _).mono ?_
      rintro e w' ⟨rfl, rfl⟩
      go_wp2_with fail
      refine (unhide O2 _).mono ?_
      rintro e w' ⟨rfl, rfl⟩
      go_wp2_with fail
      go_ret
      exact ⟨rfl, unhide B0⟩
    · have y1 : (r1 != 0) = true := by simpa using z1
      obtain rfl : r1 = r := by have := unhide HR; rw [if_pos z0, if_neg z1] at this; exact this
      clear z0 z1
      go_enter Tryd.func17, Tryd.ntmps17
      go_upto_region 1 with fail
      rw [unhide HW]
      go_wp2_with fail
      refine (unhide O0 _).mono ?_
      rintro e w' ⟨rfl, rfl⟩
      go_wp2_with fail
      refine (unhide O1 _).mono ?_
      rintro e w' ⟨rfl, rfl⟩
      go_wp2_with fail
      go_ret
      exact ⟨rfl, unhide B0⟩
  · have y0 : (r0 != 0) = true := by simpa using z0
    obtain rfl : r0 = r := by have := unhide HR; rw [if_neg z0] at this; exact this
    clear z0
    go_enter Tryd.func17, Tryd.ntmps17
    go_upto_region 1 with fail
    rw [unhide HW]
    go_wp2_with fail
    refine (unhide O0 _).mono ?_
    rintro e w' ⟨rfl, rfl⟩
    go_wp2_with fail
    go_ret
    exact ⟨rfl, unhide B0⟩
end Go.Proofs.YtbcbleonpaemgaaDoor
