/- version.Format at 1.2.0. No condition. -/
import Derived.Test.YtbcbleonpaemgaaDoorVVal
namespace Go.Proofs.YtbcbleonpaemgaaDoor
open Go.RowKit
theorem small_any (w : World) (d : Nat) (hd : d < 10) (s : ByteArray) (hs : s = ⟨#[UInt8.ofNat (48 + d)]⟩) :
    Calls Tryd.prog 56 #[.int .i64 (d : Int)] w fun e w' => e = .returned (.string s) ∧ w = w' := by
  subst hs
  have h : d = 0 ∨ d = 1 ∨ d = 2 ∨ d = 3 ∨ d = 4 ∨ d = 5 ∨ d = 6 ∨ d = 7 ∨ d = 8 ∨ d = 9 := by omega
  rcases h with rfl | rfl | rfl | rfl | rfl | rfl | rfl | rfl | rfl | rfl
  all_goals
    go_enter Tryd.func56, Tryd.ntmps56
    go_wp2_with fail
    go_ret
    exact ⟨rfl, rfl⟩
theorem fmtint_any (w : World) (d : Nat) (hd : d < 10) (s : ByteArray) (hs : s = ⟨#[UInt8.ofNat (48 + d)]⟩) :
    Calls Tryd.prog 51 #[.int .i64 (d : Int), .int .i64 10] w fun e w' => e = .returned (.string s) ∧ w = w' := by
  have HS := hide fun W => small_any W d hd s hs
  clear hs
  go_enter Tryd.func51, Tryd.ntmps51
  go_wp2_with fail
  refine (unhide HS _).mono ?_
  rintro e w' ⟨rfl, rfl⟩
  go_wp2_with fail
  go_ret
  exact ⟨rfl, rfl⟩
theorem itoa2_any (w : World) (d : Nat) (hd : d < 10) (s : ByteArray) (hs : s = ⟨#[UInt8.ofNat (48 + d)]⟩) :
    Calls Tryd.prog 48 #[.int .i64 (d : Int)] w fun e w' => e = .returned (.string s) ∧ w = w' := by
  have HS := hide fun W => fmtint_any W d hd s hs
  clear hs
  go_enter Tryd.func48, Tryd.ntmps48
  go_wp2_with fail
  refine (unhide HS _).mono ?_
  rintro e w' ⟨rfl, rfl⟩
  go_wp2_with fail
  go_ret
  exact ⟨rfl, rfl⟩
theorem itoa_any (w : World) (d : Nat) (hd : d < 10) (s : ByteArray) (hs : s = ⟨#[UInt8.ofNat (48 + d)]⟩) :
    Calls Tryd.prog 30 #[.int .i64 (d : Int)] w fun e w' => e = .returned (.string s) ∧ w = w' := by
  have HS := hide fun W => itoa2_any W d hd s hs
  clear hs
  go_enter Tryd.func30, Tryd.ntmps30
  go_wp2_with fail
  refine (unhide HS _).mono ?_
  rintro e w' ⟨rfl, rfl⟩
  go_wp2_with fail
  go_ret
  exact ⟨rfl, rfl⟩
set_option maxHeartbeats 1000000 in
theorem format_120 (w : World) :
    Calls Tryd.prog 12 #[.agg #[.int .i64 1, .int .i64 2, .int .i64 0]] w fun e w' => e = .returned (.tuple #[.string ⟨#[49, 46, 50, 46, 48]⟩, .int .i64 0]) ∧ Below w.heap.size w w' := by
  have HV := hide fun W => val_any W ⟨1, 2, 0⟩ true (by decide)
  have B0 := hide ((Below.refl w.heap.size w).alloc (Nat.le_refl _) (.cells #[.int .i64 1, .int .i64 2, .int .i64 0] 26))
  have HX := hide (Blk.new w 26 #[.int .i64 1, .int .i64 2, .int .i64 0])
  go_enter Tryd.func12, Tryd.ntmps12
  go_wp2_with fail
  refine (unhide HV _).mono ?_
  rintro e w1 ⟨rfl, hb1⟩
  have B1 := hide ((unhide B0).trans (hb1.mono (by simp)))
  have hX := (unhide HX).below hb1 (unhide HX).lt
  clear hb1
  have hin : Nonempty (InClass (fun W => Below w1.heap.size w1 W)) := ⟨⟨_, Below.refl _ _⟩⟩
  have K : ∀ (d : Nat) (_ : d < 10) (x' : InClass (fun W => Below w1.heap.size w1 W)), Calls Tryd.prog 30 #[.int .i64 (d : Int)] x'.val fun e w'' => e = .returned (.string ⟨#[UInt8.ofNat (48 + d)]⟩) ∧ ∃ y' : InClass (fun W => Below w1.heap.size w1 W), w'' = y'.val := fun d hd x' => (itoa_any x'.val d hd _ rfl).mono fun e w'' h => ⟨h.1, x', h.2.symm⟩
  have K1 := hide (K 1 (by omega))
  have K2 := hide (K 2 (by omega))
  have K0 := hide (K 0 (by omega))
  have G0 : Hid (∀ x' : InClass (fun W => Below w1.heap.size w1 W), x'.val.cell? ⟨w.heap.size, 0, none⟩ = some (.int .i64 1)) := hide fun x' => (hX.below x'.ok hX.lt).cell 0
  have G1 : Hid (∀ x' : InClass (fun W => Below w1.heap.size w1 W), x'.val.cell? ⟨w.heap.size, 1, none⟩ = some (.int .i64 2)) := hide fun x' => (hX.below x'.ok hX.lt).cell 1
  have G2 : Hid (∀ x' : InClass (fun W => Below w1.heap.size w1 W), x'.val.cell? ⟨w.heap.size, 2, none⟩ = some (.int .i64 0)) := hide fun x' => (hX.below x'.ok hX.lt).cell 2
  clear hX K
  have hS0 := hide ((Below.refl w1.heap.size w1).drew)
  go_wp2_with fail
  refine wp_region_class (fun W => Below w1.heap.size w1 W) (by kernel_rfl) (by kernel_rfl) (unhide hS0) ?_
  have g0 := unhide G0
  have g1 := unhide G1
  have g2 := unhide G2
  repeat (go_big_quiet_step (first | (go_at_call 30; exact (unhide K1) _) | (go_at_call 30; exact (unhide K2) _) | (go_at_call 30; exact (unhide K0) _)))
  refine wpQuiet_nil ?_
  intro _ hw'
  obtain ⟨x13, hw''⟩ := hw'
  subst hw''
  have B4 := hide ((unhide B1).trans (x13.ok.mono (unhide B1).size))
  clear g0 g1 g2
  go_wp2_with fail
  go_ret2
  exact ⟨rfl, unhide B4⟩
end Go.Proofs.YtbcbleonpaemgaaDoor
