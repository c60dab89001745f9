/- The law VersionOrders, walked: it returns true (printed by wip/gen_orders.py). No condition. -/
import Derived.Test.YtbcbleonpaemgaaDoorVAwake
import Derived.Deep.RegionHeld3
import Derived.Deep.CutRange
namespace Go.Proofs.YtbcbleonpaemgaaDoor
open Go.RowKit
theorem cmp_flip (x y : Ver) : cmp3 y x = -cmp3 x y := by
  simp only [cmp3, restC, cmpI]
  repeat (first | split | omega)
theorem cmp_zero (x y : Ver) : cmp3 x y = 0 ↔ x.a = y.a ∧ x.b = y.b ∧ x.c = y.c := by
  simp only [cmp3, restC, cmpI]
  repeat (first | split | omega)
theorem cmp_lim (x y : Ver) : -1 ≤ cmp3 x y ∧ cmp3 x y ≤ 1 := by
  simp only [cmp3, restC, cmpI]
  repeat (first | split | omega)
theorem cmp_le (x y : Ver) : cmp3 x y ≤ 0 ↔ x.a < y.a ∨ (x.a = y.a ∧ (x.b < y.b ∨ (x.b = y.b ∧ x.c ≤ y.c))) := by
  simp only [cmp3, restC, cmpI]
  repeat (first | split | omega)
theorem cmp_lt (x y : Ver) : cmp3 x y < 0 ↔ x.a < y.a ∨ (x.a = y.a ∧ (x.b < y.b ∨ (x.b = y.b ∧ x.c < y.c))) := by
  simp only [cmp3, restC, cmpI]
  repeat (first | split | omega)
theorem cmp_tr (x y z : Ver) : ¬ (cmp3 x y ≤ 0 ∧ cmp3 y z ≤ 0 ∧ 0 < cmp3 x z) ∧ ¬ (cmp3 x y < 0 ∧ cmp3 y z < 0 ∧ 0 ≤ cmp3 x z) := by
  have h1 := cmp_le x y
  have h2 := cmp_le y z
  have h3 := cmp_le x z
  have h4 := cmp_lt x y
  have h5 := cmp_lt y z
  have h6 := cmp_lt x z
  constructor
  · rintro ⟨a, b, c⟩
    have c2 : ¬ cmp3 x z ≤ 0 := by omega
    rw [h1] at a
    rw [h2] at b
    rw [h3] at c2
    clear h1 h2 h3 h4 h5 h6 c
    omega
  · rintro ⟨a, b, c⟩
    have c2 : ¬ cmp3 x z < 0 := by omega
    rw [h4] at a
    rw [h5] at b
    rw [h6] at c2
    clear h1 h2 h3 h4 h5 h6 c
    omega
theorem cmp_patch (x y : Ver) : cmp3 x ⟨x.a, x.b, y.c⟩ = cmp3 ⟨0, 0, x.c⟩ ⟨0, 0, y.c⟩ := by
  simp [cmp3, restC, cmpI]
set_option maxRecDepth 100000 in
set_option maxHeartbeats 4000000 in
theorem orders_walk (w : World) (x y z : Ver) :
    Calls Tryd.prog 4 #[.agg #[.int .i64 x.a, .int .i64 x.b, .int .i64 x.c], .agg #[.int .i64 y.a, .int .i64 y.b, .int .i64 y.c], .agg #[.int .i64 z.a, .int .i64 z.b, .int .i64 z.c]] w fun e w' => e = .returned (.bool true) ∧ Below w.heap.size w w' := by
  obtain ⟨ab, hab⟩ : ∃ q, cmp3 x y = q := ⟨_, rfl⟩
  obtain ⟨bc, hbc⟩ : ∃ q, cmp3 y z = q := ⟨_, rfl⟩
  obtain ⟨ac, hac⟩ : ∃ q, cmp3 x z = q := ⟨_, rfl⟩
  have hba := cmp_flip x y
  have hz := cmp_zero x y
  have htr := cmp_tr x y z
  have l1 := cmp_lim x y
  have l2 := cmp_lim y z
  have l3 := cmp_lim x z
  rw [hab] at hba hz htr l1
  rw [hbc] at htr l2
  rw [hac] at htr l3
  obtain ⟨q1, hq1⟩ : ∃ q, cmp3 x ⟨x.a, x.b, y.c⟩ = q := ⟨_, rfl⟩
  have hq2 := cmp_patch x y
  rw [hq1] at hq2
  have FA := hide awake_any
  have H0 := hide (((Blk.new w 26 x.c3).alloc (.cells y.c3 26)).alloc (.cells z.c3 26))
  have H1 : Hid (Blk (((w.alloc (.cells x.c3 26)).alloc (.cells y.c3 26)).alloc (.cells z.c3 26)) (w.heap.size + 1) 26 y.c3) := hide ((Blk.new' (by simp)).alloc _)
  have H2 : Hid (Blk (((w.alloc (.cells x.c3 26)).alloc (.cells y.c3 26)).alloc (.cells z.c3 26)) (w.heap.size + 1 + 1) 26 z.c3) := hide (Blk.new' (by simp))
  have B0 := hide ((((Below.refl w.heap.size w).alloc (Nat.le_refl _) (.cells x.c3 26)).alloc (by simp) (.cells y.c3 26)).alloc (by simp; omega) (.cells z.c3 26))
  have HAB := hide hab
  have HBC := hide hbc
  have HAC := hide hac
  have HBA := hide hba
  have HQ1 := hide hq1
  have HQ2 := hide hq2
  have HZ := hide hz
  have HTR := hide htr
  clear hab hbc hac hba hq1 hq2 hz htr
  go_enter Tryd.func4, Tryd.ntmps4
  go_wp2_with fail
  refine (unhide FA _).mono ?_
  rintro e w1 ⟨rfl, hb1⟩
  have K0 := hide ((unhide H0).below hb1 (unhide H0).lt)
  have K1 := hide ((unhide H1).below hb1 (unhide H1).lt)
  have K2 := hide ((unhide H2).below hb1 (unhide H2).lt)
  have B1 := hide ((unhide B0).trans (hb1.mono (unhide B0).size))
  clear hb1 H0 H1 H2 B0
  go_wp2_with fail
  have hin : Nonempty (InClass (fun W => Below w1.heap.size w1 W)) := ⟨⟨_, Below.refl _ _⟩⟩
  have C1 : Hid (∀ x' : InClass (fun W => Below w1.heap.size w1 W), Calls Tryd.prog 16 #[.agg #[.int .i64 x.a, .int .i64 x.b, .int .i64 x.c], .agg #[.int .i64 y.a, .int .i64 y.b, .int .i64 y.c]] x'.val fun e w'' => e = .returned (.int .i64 ab) ∧ ∃ y' : InClass (fun W => Below w1.heap.size w1 W), w'' = y'.val) :=
    hide fun x' => class_call (cmp_any _ x y ab (unhide HAB)) fun w' h => x'.ok.trans (h.mono x'.ok.size)
  have C2 : Hid (∀ x' : InClass (fun W => Below w1.heap.size w1 W), Calls Tryd.prog 16 #[.agg #[.int .i64 y.a, .int .i64 y.b, .int .i64 y.c], .agg #[.int .i64 z.a, .int .i64 z.b, .int .i64 z.c]] x'.val fun e w'' => e = .returned (.int .i64 bc) ∧ ∃ y' : InClass (fun W => Below w1.heap.size w1 W), w'' = y'.val) :=
    hide fun x' => class_call (cmp_any _ y z bc (unhide HBC)) fun w' h => x'.ok.trans (h.mono x'.ok.size)
  have C3 : Hid (∀ x' : InClass (fun W => Below w1.heap.size w1 W), Calls Tryd.prog 16 #[.agg #[.int .i64 x.a, .int .i64 x.b, .int .i64 x.c], .agg #[.int .i64 z.a, .int .i64 z.b, .int .i64 z.c]] x'.val fun e w'' => e = .returned (.int .i64 ac) ∧ ∃ y' : InClass (fun W => Below w1.heap.size w1 W), w'' = y'.val) :=
    hide fun x' => class_call (cmp_any _ x z ac (unhide HAC)) fun w' h => x'.ok.trans (h.mono x'.ok.size)
  have hS0 := hide ((Below.refl w1.heap.size w1).drew)
  refine wp_region_class (fun W => Below w1.heap.size w1 W) (by kernel_rfl) (by kernel_rfl) (unhide hS0) ?_
  refine BigFrame.wpQuiet_want rfl (fun K hK => quiet_load_row _ _ rfl w.heap.size rfl 26 x.c3 _ (fun W hW => by obtain ⟨z', rfl⟩ := hW; exact (unhide K0).below z'.ok (unhide K0).lt) Tryd.underlying26 rfl (by kernel_rfl) (hK _ ?_))
  simp only [Act.put, List.setIfInBounds_toArray, List.set_cons_zero, List.set_cons_succ, Ver.c3]
  refine BigFrame.wpQuiet_want rfl (fun K hK => quiet_load_row _ _ rfl (w.heap.size + 1) rfl 26 y.c3 _ (fun W hW => by obtain ⟨z', rfl⟩ := hW; exact (unhide K1).below z'.ok (unhide K1).lt) Tryd.underlying26 rfl (by kernel_rfl) (hK _ ?_))
  simp only [Act.put, List.setIfInBounds_toArray, List.set_cons_zero, List.set_cons_succ, Ver.c3]
  go_big_quiet_step ((go_at_call 16; exact (unhide C1) _))
  refine BigFrame.wpQuiet_want rfl (fun K hK => quiet_load_row _ _ rfl (w.heap.size + 1) rfl 26 y.c3 _ (fun W hW => by obtain ⟨z', rfl⟩ := hW; exact (unhide K1).below z'.ok (unhide K1).lt) Tryd.underlying26 rfl (by kernel_rfl) (hK _ ?_))
  simp only [Act.put, List.setIfInBounds_toArray, List.set_cons_zero, List.set_cons_succ, Ver.c3]
  refine BigFrame.wpQuiet_want rfl (fun K hK => quiet_load_row _ _ rfl (w.heap.size + 1 + 1) rfl 26 z.c3 _ (fun W hW => by obtain ⟨z', rfl⟩ := hW; exact (unhide K2).below z'.ok (unhide K2).lt) Tryd.underlying26 rfl (by kernel_rfl) (hK _ ?_))
  simp only [Act.put, List.setIfInBounds_toArray, List.set_cons_zero, List.set_cons_succ, Ver.c3]
  go_big_quiet_step ((go_at_call 16; exact (unhide C2) _))
  refine BigFrame.wpQuiet_want rfl (fun K hK => quiet_load_row _ _ rfl w.heap.size rfl 26 x.c3 _ (fun W hW => by obtain ⟨z', rfl⟩ := hW; exact (unhide K0).below z'.ok (unhide K0).lt) Tryd.underlying26 rfl (by kernel_rfl) (hK _ ?_))
  simp only [Act.put, List.setIfInBounds_toArray, List.set_cons_zero, List.set_cons_succ, Ver.c3]
  refine BigFrame.wpQuiet_want rfl (fun K hK => quiet_load_row _ _ rfl (w.heap.size + 1 + 1) rfl 26 z.c3 _ (fun W hW => by obtain ⟨z', rfl⟩ := hW; exact (unhide K2).below z'.ok (unhide K2).lt) Tryd.underlying26 rfl (by kernel_rfl) (hK _ ?_))
  simp only [Act.put, List.setIfInBounds_toArray, List.set_cons_zero, List.set_cons_succ, Ver.c3]
  go_big_quiet_step ((go_at_call 16; exact (unhide C3) _))
  repeat (go_big_quiet_step (fail))
  refine wpQuiet_nil ?_
  intro _ hw'
  obtain ⟨x3, hw''⟩ := hw'
  subst hw''
  have x3k := x3.ok
  generalize x3.val = w3 at x3k ⊢
  have M0 := hide ((unhide K0).below x3k (unhide K0).lt)
  have M1 := hide ((unhide K1).below x3k (unhide K1).lt)
  have B3 := hide ((unhide B1).trans (x3k.mono (unhide B1).size))
  clear x3k C1 C2 C3 hS0 hin
  go_upto_region 4 with fail
  go_cut [59] from 22 to 74 (fun v wx => v = .bool false ∧ Below w3.heap.size w3 wx)
  case first =>
    have hba := cmp_any w3 y x (-ab) (unhide HBA)
    have CBA := hide hba
    clear hba
    go_wp2_with (first
      | (refine wpList_load_row rfl 26 _ rfl w.heap.size rfl 26 _ _ _ (unhide M0) Tryd.underlying26 rfl (by kernel_rfl) ?_)
      | (refine wpList_load_row rfl 26 _ rfl (w.heap.size + 1) rfl 26 _ _ _ (unhide M1) Tryd.underlying26 rfl (by kernel_rfl) ?_)
      | fail)
    refine (unhide CBA).mono ?_
    rintro e w4 ⟨rfl, hb4⟩
    have N0 := hide ((unhide M0).below hb4 (unhide M0).lt)
    have N1 := hide ((unhide M1).below hb4 (unhide M1).lt)
    have B4 := hide hb4
    have d0 : w4.cell? ⟨w.heap.size, 0, none⟩ = some (.int .i64 x.a) := (unhide N0).cell 0
    have d1 : w4.cell? ⟨w.heap.size, 1, none⟩ = some (.int .i64 x.b) := (unhide N0).cell 1
    have d2 : w4.cell? ⟨w.heap.size, 2, none⟩ = some (.int .i64 x.c) := (unhide N0).cell 2
    have d3 : w4.cell? ⟨w.heap.size + 1, 0, none⟩ = some (.int .i64 y.a) := (unhide N1).cell 0
    have d4 : w4.cell? ⟨w.heap.size + 1, 1, none⟩ = some (.int .i64 y.b) := (unhide N1).cell 1
    have d5 : w4.cell? ⟨w.heap.size + 1, 2, none⟩ = some (.int .i64 y.c) := (unhide N1).cell 2
    clear hb4 CBA
    have hne : ab = 0 ∨ ((ab = 1 ∨ ab = -1) ∧ (¬ x.a = y.a ∨ (x.a = y.a ∧ ¬ x.b = y.b) ∨ (x.a = y.a ∧ x.b = y.b ∧ ¬ x.c = y.c))) := by
      have := unhide HZ
      omega
    have h9 : (bc = -1 ∨ bc = 0 ∨ bc = 1) ∧ (ac = -1 ∨ ac = 0 ∨ ac = 1) := by omega
    clear l1 l2 l3
    rcases hne with rfl | ⟨rfl | rfl, hne⟩
    · obtain ⟨e1, e2, e3⟩ := (unhide HZ).1 rfl
      have t1 : (x.a == y.a) = true := by simpa using e1
      have t2 : (x.b == y.b) = true := by simpa using e2
      have t3 : (x.c == y.c) = true := by simpa using e3
      clear e1 e2 e3
      obtain ⟨rfl | rfl | rfl, rfl | rfl | rfl⟩ := h9
      all_goals first | (exfalso; have := unhide HTR; omega) | skip
      all_goals
        go_wp2_with fail
        go_meet
        exact ⟨rfl, unhide B4⟩
    · clear h9
      rcases hne with h | ⟨e1, h⟩ | ⟨e1, e2, h⟩
      · have h' : (x.a == y.a) = false := by simpa using h
        clear h
        go_wp2_with fail
        go_meet
        exact ⟨rfl, unhide B4⟩
      · have h' : (x.b == y.b) = false := by simpa using h
        have t1 : (x.a == y.a) = true := by simpa using e1
        clear h e1
        go_wp2_with fail
        go_meet
        exact ⟨rfl, unhide B4⟩
      · have h' : (x.c == y.c) = false := by simpa using h
        have t1 : (x.a == y.a) = true := by simpa using e1
        have t2 : (x.b == y.b) = true := by simpa using e2
        clear h e1 e2
        go_wp2_with fail
        go_meet
        exact ⟨rfl, unhide B4⟩
    · rcases hne with h | ⟨e1, h⟩ | ⟨e1, e2, h⟩
      · have h' : (x.a == y.a) = false := by simpa using h
        clear h
        obtain ⟨rfl | rfl | rfl, rfl | rfl | rfl⟩ := h9
        all_goals first | (exfalso; have := unhide HTR; omega) | skip
        all_goals
          go_wp2_with fail
          go_meet
          exact ⟨rfl, unhide B4⟩
      · have h' : (x.b == y.b) = false := by simpa using h
        have t1 : (x.a == y.a) = true := by simpa using e1
        clear h e1
        obtain ⟨rfl | rfl | rfl, rfl | rfl | rfl⟩ := h9
        all_goals first | (exfalso; have := unhide HTR; omega) | skip
        all_goals
          go_wp2_with fail
          go_meet
          exact ⟨rfl, unhide B4⟩
      · have h' : (x.c == y.c) = false := by simpa using h
        have t1 : (x.a == y.a) = true := by simpa using e1
        have t2 : (x.b == y.b) = true := by simpa using e2
        clear h e1 e2
        obtain ⟨rfl | rfl | rfl, rfl | rfl | rfl⟩ := h9
        all_goals first | (exfalso; have := unhide HTR; omega) | skip
        all_goals
          go_wp2_with fail
          go_meet
          exact ⟨rfl, unhide B4⟩
  case rest =>
    obtain ⟨rfl, hB⟩ := hcut
    have N0 := hide ((unhide M0).below hB (unhide M0).lt)
    have N1 := hide ((unhide M1).below hB (unhide M1).lt)
    have BC := hide ((unhide B3).trans (hB.mono (unhide B3).size))
    have hn0 := (unhide N0).lt
    have hn1 := (unhide N1).lt
    have c2 : wc.cell? ⟨w.heap.size + 1, 2, none⟩ = some (.int .i64 y.c) := (unhide N1).cell 2
    clear hB
    have c3 : wc.cell? ⟨w.heap.size, 0, none⟩ = some (.int .i64 x.a) := (unhide N0).cell 0
    have c4 : wc.cell? ⟨w.heap.size, 1, none⟩ = some (.int .i64 x.b) := (unhide N0).cell 1
    have c5 : wc.cell? ⟨w.heap.size, 2, none⟩ = some (.int .i64 x.c) := (unhide N0).cell 2
    go_wp2_with fail
    obtain ⟨W5, hW5⟩ : ∃ W5, wc.alloc (.cells #[.int .i64 x.a, .int .i64 x.b, .int .i64 y.c] 26) = W5 := ⟨_, rfl⟩
    have P0 : Blk W5 w.heap.size 26 x.c3 := hW5 ▸ (unhide N0).alloc _
    have P1 : Blk W5 (w.heap.size + 1) 26 y.c3 := hW5 ▸ (unhide N1).alloc _
    have P2 : Blk W5 wc.heap.size 26 #[.int .i64 x.a, .int .i64 x.b, .int .i64 y.c] := hW5 ▸ Blk.new wc _ _
    have B5 : Hid (Below w.heap.size w W5) := hide (hW5 ▸ (unhide BC).alloc (unhide BC).size _)
    rw [hW5]
    clear hW5 c2 c3 c4 c5 M0 M1 K0 K1 K2
    have hin : Nonempty (InClass (fun W => Below W5.heap.size W5 W)) := ⟨⟨_, Below.refl _ _⟩⟩
    have C1 : Hid (∀ x' : InClass (fun W => Below W5.heap.size W5 W), Calls Tryd.prog 16 #[.agg #[.int .i64 x.a, .int .i64 x.b, .int .i64 x.c], .agg #[.int .i64 x.a, .int .i64 x.b, .int .i64 y.c]] x'.val fun e w'' => e = .returned (.int .i64 q1) ∧ ∃ y' : InClass (fun W => Below W5.heap.size W5 W), w'' = y'.val) :=
      hide fun x' => class_call (cmp_any _ x ⟨x.a, x.b, y.c⟩ q1 (unhide HQ1)) fun w' h => x'.ok.trans (h.mono x'.ok.size)
    have C2 : Hid (∀ x' : InClass (fun W => Below W5.heap.size W5 W), Calls Tryd.prog 16 #[.agg #[.int .i64 0, .int .i64 0, .int .i64 x.c], .agg #[.int .i64 0, .int .i64 0, .int .i64 y.c]] x'.val fun e w'' => e = .returned (.int .i64 q1) ∧ ∃ y' : InClass (fun W => Below W5.heap.size W5 W), w'' = y'.val) :=
      hide fun x' => class_call (cmp_any _ ⟨0, 0, x.c⟩ ⟨0, 0, y.c⟩ q1 (unhide HQ2).symm) fun w' h => x'.ok.trans (h.mono x'.ok.size)
    have g0 : ∀ x' : InClass (fun W => Below W5.heap.size W5 W), x'.val.cell? ⟨w.heap.size, 0, none⟩ = some (.int .i64 x.a) := fun x' => (P0.below x'.ok P0.lt).cell 0
    have g1 : ∀ x' : InClass (fun W => Below W5.heap.size W5 W), x'.val.cell? ⟨w.heap.size, 1, none⟩ = some (.int .i64 x.b) := fun x' => (P0.below x'.ok P0.lt).cell 1
    have g2 : ∀ x' : InClass (fun W => Below W5.heap.size W5 W), x'.val.cell? ⟨w.heap.size, 2, none⟩ = some (.int .i64 x.c) := fun x' => (P0.below x'.ok P0.lt).cell 2
    have g3 : ∀ x' : InClass (fun W => Below W5.heap.size W5 W), x'.val.cell? ⟨w.heap.size + 1, 2, none⟩ = some (.int .i64 y.c) := fun x' => (P1.below x'.ok P1.lt).cell 2
    have g4 : ∀ x' : InClass (fun W => Below W5.heap.size W5 W), x'.val.cell? ⟨wc.heap.size, 0, none⟩ = some (.int .i64 x.a) := fun x' => (P2.below x'.ok P2.lt).cell 0
    have g5 : ∀ x' : InClass (fun W => Below W5.heap.size W5 W), x'.val.cell? ⟨wc.heap.size, 1, none⟩ = some (.int .i64 x.b) := fun x' => (P2.below x'.ok P2.lt).cell 1
    have g6 : ∀ x' : InClass (fun W => Below W5.heap.size W5 W), x'.val.cell? ⟨wc.heap.size, 2, none⟩ = some (.int .i64 y.c) := fun x' => (P2.below x'.ok P2.lt).cell 2
    have hS5 := hide ((Below.refl W5.heap.size W5).drew)
    refine wp_region_class (fun W => Below W5.heap.size W5 W) (by kernel_rfl) (by kernel_rfl) (unhide hS5) ?_
    clear P0 P1 P2
    repeat (go_big_quiet_step (first | (go_at_call 16; exact (unhide C1) _) | (go_at_call 16; exact (unhide C2) _)))
    refine wpQuiet_nil ?_
    intro _ hw'
    obtain ⟨x8, hw''⟩ := hw'
    subst hw''
    have B8 := hide ((unhide B5).trans (x8.ok.mono (unhide B5).size))
    clear g0 g1 g2 g3 g4 g5 g6 C1 C2
    go_wp2_with fail
    go_ret
    exact ⟨rfl, unhide B8⟩
end Go.Proofs.YtbcbleonpaemgaaDoor
