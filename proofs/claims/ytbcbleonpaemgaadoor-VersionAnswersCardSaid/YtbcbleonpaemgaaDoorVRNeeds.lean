/- The reference's Needs returns rightF (printed by wip/gen_vrneeds.py). No condition. -/
import Derived.Test.YtbcbleonpaemgaaDoorVRName
import Derived.Test.YtbcbleonpaemgaaDoorVRMet
import Derived.Test.YtbcbleonpaemgaaDoorVRight
namespace Go.Proofs.YtbcbleonpaemgaaDoor
open Go.RowKit
set_option maxRecDepth 100000 in
set_option maxHeartbeats 4000000 in
theorem rneeds_any (w : World) (A : Option Addr) (n c : Nat) (_hn : n ≤ c) (_hc : c ≤ maxLen) (N : Nat → NeedS) (hN : NeedAt w w.heap.size A n N) (r : Bool) (hr : rightF N n = r) :
    Calls Tryd.prog 42 #[.slice A n c] w fun e w' => e = .returned (.bool r) ∧ Below w.heap.size w w' := by
  by_cases h8 : 16 < n
  · obtain rfl : false = r := by rw [← hr]; simp [rightF]; omega
    clear hr hN
    go_enter Tryd.func42, Tryd.ntmps42
    go_wp2_with fail
    go_ret
    exact ⟨rfl, Below.refl _ _⟩
  · have hr0 : rightG N (n - 0) 0 = r := by rw [← hr]; simp [rightF, show n ≤ 16 by omega]
    have hn8 : n ≤ 16 := by omega
    have HR := hide hr0
    have HN := hide hN
    have B0 := hide (Below.refl w.heap.size w)
    clear hr hr0 hN h8
    go_enter Tryd.func42, Tryd.ntmps42
    go_wp2_with fail
    go_loopw [3] (fun i wr => ∃ k : Nat, k ≤ n ∧ i = .int .i64 k ∧ rightG N (n - k) k = r ∧ Below w.heap.size w wr) (fun i _ => n - (intOf i).toNat)
    case atStart => exact ⟨0, by omega, rfl, unhide HR, unhide B0⟩
    case round =>
      obtain ⟨k, hk, rfl, hrk, hB⟩ := hrel
      have HBW := hide hB
      clear hB
      by_cases hlt : k < n
      · rw [rightG_step N n k hlt] at hrk
        obtain ⟨gb, go, rfl, hgb, hl1, hl2, c0, c1, c2, c3, c4, c5, c6, c7⟩ := (unhide HN).below (unhide HBW) k hlt
        obtain ⟨⟨xc, ⟨fa, fb, fc⟩, xo, ⟨ta, tb, tc⟩⟩, hs⟩ : ∃ x, N k = x := ⟨_, rfl⟩
        rw [hs] at hrk hl1 hl2 c0 c1 c2 c3 c4 c5 c6 c7
        dsimp only at hl1 hl2 c0 c1 c2 c3 c4 c5 c6 c7
        simp only [rightAt] at hrk
        have hlt2 : (k : Int) < (n : Int) := by omega
        obtain ⟨b1, h1⟩ : ∃ b, nameF xc = b := ⟨_, rfl⟩
        obtain ⟨b2, h2⟩ : ∃ b, nameF xo = b := ⟨_, rfl⟩
        obtain ⟨b3, h3⟩ : ∃ b, (xc == xo) = b := ⟨_, rfl⟩
        obtain ⟨b4, h4⟩ : ∃ b, validV ⟨fa, fb, fc⟩ = b := ⟨_, rfl⟩
        obtain ⟨b5, h5⟩ : ∃ b, validV ⟨ta, tb, tc⟩ = b := ⟨_, rfl⟩
        rw [h1, h2, h3, h4, h5] at hrk
        have hgl : gb < wr.heap.size := by have := (unhide HBW).size; omega
        have hin : Nonempty (InClass (fun W => Below wr.heap.size wr W)) := ⟨⟨_, Below.refl _ _⟩⟩
        have K1 : Hid (∀ x' : InClass (fun W => Below wr.heap.size wr W), Calls Tryd.prog 22 #[.string ⟨xc.toArray⟩] x'.val fun e w'' => e = .returned (.bool b1) ∧ ∃ y' : InClass (fun W => Below wr.heap.size wr W), w'' = y'.val) := hide fun x' => (rname_any x'.val xc hl1 _ h1).mono fun e w'' h => ⟨h.1, x', h.2.symm⟩
        have K2 : Hid (∀ x' : InClass (fun W => Below wr.heap.size wr W), Calls Tryd.prog 22 #[.string ⟨xo.toArray⟩] x'.val fun e w'' => e = .returned (.bool b2) ∧ ∃ y' : InClass (fun W => Below wr.heap.size wr W), w'' = y'.val) := hide fun x' => (rname_any x'.val xo hl2 _ h2).mono fun e w'' h => ⟨h.1, x', h.2.symm⟩
        have K4 : Hid (∀ x' : InClass (fun W => Below wr.heap.size wr W), Calls Tryd.prog 15 #[.agg #[.int .i64 fa, .int .i64 fb, .int .i64 fc]] x'.val fun e w'' => e = .returned (.bool b4) ∧ ∃ y' : InClass (fun W => Below wr.heap.size wr W), w'' = y'.val) := hide fun x' => class_call ((rval_any x'.val ⟨fa, fb, fc⟩ _ h4).mono fun _ _ h => ⟨h.1, by rw [h.2]; exact (Below.refl _ _).alloc (Nat.le_refl _) _⟩) fun w' h => x'.ok.trans (h.mono x'.ok.size)
        have K5 : Hid (∀ x' : InClass (fun W => Below wr.heap.size wr W), Calls Tryd.prog 15 #[.agg #[.int .i64 ta, .int .i64 tb, .int .i64 tc]] x'.val fun e w'' => e = .returned (.bool b5) ∧ ∃ y' : InClass (fun W => Below wr.heap.size wr W), w'' = y'.val) := hide fun x' => class_call ((rval_any x'.val ⟨ta, tb, tc⟩ _ h5).mono fun _ _ h => ⟨h.1, by rw [h.2]; exact (Below.refl _ _).alloc (Nat.le_refl _) _⟩) fun w' h => x'.ok.trans (h.mono x'.ok.size)
        have G0 : Hid (∀ x' : InClass (fun W => Below wr.heap.size wr W), x'.val.cell? ⟨gb, go + k * 8, none⟩ = some (.string ⟨xc.toArray⟩)) := hide fun x' => (x'.ok.cell (p := ⟨gb, _, none⟩) hgl).trans c0
        have G1 : Hid (∀ x' : InClass (fun W => Below wr.heap.size wr W), x'.val.cell? ⟨gb, go + k * 8 + 1, none⟩ = some (.int .i64 fa)) := hide fun x' => (x'.ok.cell (p := ⟨gb, _, none⟩) hgl).trans c1
        have G2 : Hid (∀ x' : InClass (fun W => Below wr.heap.size wr W), x'.val.cell? ⟨gb, go + k * 8 + 2, none⟩ = some (.int .i64 fb)) := hide fun x' => (x'.ok.cell (p := ⟨gb, _, none⟩) hgl).trans c2
        have G3 : Hid (∀ x' : InClass (fun W => Below wr.heap.size wr W), x'.val.cell? ⟨gb, go + k * 8 + 3, none⟩ = some (.int .i64 fc)) := hide fun x' => (x'.ok.cell (p := ⟨gb, _, none⟩) hgl).trans c3
        have G4 : Hid (∀ x' : InClass (fun W => Below wr.heap.size wr W), x'.val.cell? ⟨gb, go + k * 8 + 4, none⟩ = some (.string ⟨xo.toArray⟩)) := hide fun x' => (x'.ok.cell (p := ⟨gb, _, none⟩) hgl).trans c4
        have G5 : Hid (∀ x' : InClass (fun W => Below wr.heap.size wr W), x'.val.cell? ⟨gb, go + k * 8 + 5, none⟩ = some (.int .i64 ta)) := hide fun x' => (x'.ok.cell (p := ⟨gb, _, none⟩) hgl).trans c5
        have G6 : Hid (∀ x' : InClass (fun W => Below wr.heap.size wr W), x'.val.cell? ⟨gb, go + k * 8 + 6, none⟩ = some (.int .i64 tb)) := hide fun x' => (x'.ok.cell (p := ⟨gb, _, none⟩) hgl).trans c6
        have G7 : Hid (∀ x' : InClass (fun W => Below wr.heap.size wr W), x'.val.cell? ⟨gb, go + k * 8 + 7, none⟩ = some (.int .i64 tc)) := hide fun x' => (x'.ok.cell (p := ⟨gb, _, none⟩) hgl).trans c7
        have HRK := hide hrk
        clear hs h1 h2 h4 h5 hrk c0 c1 c2 c3 c4 c5 c6 c7
        go_wp2_with fail
        have hS0 := hide ((Below.refl wr.heap.size wr).drew)
        cases b1
        · obtain rfl : false = r := by rw [← unhide HRK]; rfl
          refine wp_region_class (fun W => Below wr.heap.size wr W) (by kernel_rfl) (by kernel_rfl) (unhide hS0) ?_
          have g0 := unhide G0
          have g1 := unhide G1
          have g2 := unhide G2
          have g3 := unhide G3
          have g4 := unhide G4
          have g5 := unhide G5
          have g6 := unhide G6
          have g7 := unhide G7
          iterate 8 (go_big_quiet_step ((go_at_call 22; exact (unhide K1) _)))
          iterate 20 (go_big_quiet_step ((go_at_call 22; exact (unhide K2) _)))
          iterate 10 (go_big_quiet_step ((go_at_call 15; exact (unhide K4) _)))
          repeat (go_big_quiet_step ((go_at_call 15; exact (unhide K5) _)))
          refine wpQuiet_nil ?_
          intro _ hw'
          obtain ⟨x13, hw''⟩ := hw'
          subst hw''
          have B4 := hide ((unhide HBW).trans (x13.ok.mono (unhide HBW).size))
          clear g0 g1 g2 g3 g4 g5 g6 g7
          go_wp2_with fail
          go_ret
          exact ⟨rfl, unhide B4⟩
        cases b2
        · obtain rfl : false = r := by rw [← unhide HRK]; rfl
          refine wp_region_class (fun W => Below wr.heap.size wr W) (by kernel_rfl) (by kernel_rfl) (unhide hS0) ?_
          have g0 := unhide G0
          have g1 := unhide G1
          have g2 := unhide G2
          have g3 := unhide G3
          have g4 := unhide G4
          have g5 := unhide G5
          have g6 := unhide G6
          have g7 := unhide G7
          iterate 8 (go_big_quiet_step ((go_at_call 22; exact (unhide K1) _)))
          iterate 20 (go_big_quiet_step ((go_at_call 22; exact (unhide K2) _)))
          iterate 10 (go_big_quiet_step ((go_at_call 15; exact (unhide K4) _)))
          repeat (go_big_quiet_step ((go_at_call 15; exact (unhide K5) _)))
          refine wpQuiet_nil ?_
          intro _ hw'
          obtain ⟨x13, hw''⟩ := hw'
          subst hw''
          have B4 := hide ((unhide HBW).trans (x13.ok.mono (unhide HBW).size))
          clear g0 g1 g2 g3 g4 g5 g6 g7
          go_wp2_with fail
          go_ret
          exact ⟨rfl, unhide B4⟩
        cases b3
        case true =>
          obtain rfl : false = r := by rw [← unhide HRK]; rfl
          refine wp_region_class (fun W => Below wr.heap.size wr W) (by kernel_rfl) (by kernel_rfl) (unhide hS0) ?_
          have g0 := unhide G0
          have g1 := unhide G1
          have g2 := unhide G2
          have g3 := unhide G3
          have g4 := unhide G4
          have g5 := unhide G5
          have g6 := unhide G6
          have g7 := unhide G7
          iterate 8 (go_big_quiet_step ((go_at_call 22; exact (unhide K1) _)))
          iterate 20 (go_big_quiet_step ((go_at_call 22; exact (unhide K2) _)))
          iterate 10 (go_big_quiet_step ((go_at_call 15; exact (unhide K4) _)))
          repeat (go_big_quiet_step ((go_at_call 15; exact (unhide K5) _)))
          refine wpQuiet_nil ?_
          intro _ hw'
          obtain ⟨x13, hw''⟩ := hw'
          subst hw''
          have B4 := hide ((unhide HBW).trans (x13.ok.mono (unhide HBW).size))
          clear g0 g1 g2 g3 g4 g5 g6 g7
          go_wp2_with fail
          go_ret
          exact ⟨rfl, unhide B4⟩
        cases b4
        · obtain rfl : false = r := by rw [← unhide HRK]; rfl
          refine wp_region_class (fun W => Below wr.heap.size wr W) (by kernel_rfl) (by kernel_rfl) (unhide hS0) ?_
          have g0 := unhide G0
          have g1 := unhide G1
          have g2 := unhide G2
          have g3 := unhide G3
          have g4 := unhide G4
          have g5 := unhide G5
          have g6 := unhide G6
          have g7 := unhide G7
          iterate 8 (go_big_quiet_step ((go_at_call 22; exact (unhide K1) _)))
          iterate 20 (go_big_quiet_step ((go_at_call 22; exact (unhide K2) _)))
          iterate 10 (go_big_quiet_step ((go_at_call 15; exact (unhide K4) _)))
          repeat (go_big_quiet_step ((go_at_call 15; exact (unhide K5) _)))
          refine wpQuiet_nil ?_
          intro _ hw'
          obtain ⟨x13, hw''⟩ := hw'
          subst hw''
          have B4 := hide ((unhide HBW).trans (x13.ok.mono (unhide HBW).size))
          clear g0 g1 g2 g3 g4 g5 g6 g7
          go_wp2_with fail
          go_ret
          exact ⟨rfl, unhide B4⟩
        cases b5
        · obtain rfl : false = r := by rw [← unhide HRK]; rfl
          refine wp_region_class (fun W => Below wr.heap.size wr W) (by kernel_rfl) (by kernel_rfl) (unhide hS0) ?_
          have g0 := unhide G0
          have g1 := unhide G1
          have g2 := unhide G2
          have g3 := unhide G3
          have g4 := unhide G4
          have g5 := unhide G5
          have g6 := unhide G6
          have g7 := unhide G7
          iterate 8 (go_big_quiet_step ((go_at_call 22; exact (unhide K1) _)))
          iterate 20 (go_big_quiet_step ((go_at_call 22; exact (unhide K2) _)))
          iterate 10 (go_big_quiet_step ((go_at_call 15; exact (unhide K4) _)))
          repeat (go_big_quiet_step ((go_at_call 15; exact (unhide K5) _)))
          refine wpQuiet_nil ?_
          intro _ hw'
          obtain ⟨x13, hw''⟩ := hw'
          subst hw''
          have B4 := hide ((unhide HBW).trans (x13.ok.mono (unhide HBW).size))
          clear g0 g1 g2 g3 g4 g5 g6 g7
          go_wp2_with fail
          go_ret
          exact ⟨rfl, unhide B4⟩
        have hrest : rightG N (n - (k + 1)) (k + 1) = r := by rw [← unhide HRK]; simp
        have HREST := hide hrest
        clear hrest
        refine wp_region_class (fun W => Below wr.heap.size wr W) (by kernel_rfl) (by kernel_rfl) (unhide hS0) ?_
        have g0 := unhide G0
        have g1 := unhide G1
        have g2 := unhide G2
        have g3 := unhide G3
        have g4 := unhide G4
        have g5 := unhide G5
        have g6 := unhide G6
        have g7 := unhide G7
        iterate 8 (go_big_quiet_step ((go_at_call 22; exact (unhide K1) _)))
        iterate 20 (go_big_quiet_step ((go_at_call 22; exact (unhide K2) _)))
        iterate 10 (go_big_quiet_step ((go_at_call 15; exact (unhide K4) _)))
        repeat (go_big_quiet_step ((go_at_call 15; exact (unhide K5) _)))
        refine wpQuiet_nil ?_
        intro _ hw'
        obtain ⟨x13, hw''⟩ := hw'
        subst hw''
        have B4 := hide ((unhide HBW).trans (x13.ok.mono (unhide HBW).size))
        clear g0 g1 g2 g3 g4 g5 g6 g7
        go_wp2_with fail
        go_roundw
        case rel => exact ⟨k + 1, by omega, by go_num, unhide HREST, unhide B4⟩
        case measure => simp [intOf]; omega
      · obtain rfl : k = n := by omega
        rw [Nat.sub_self] at hrk
        obtain rfl : true = r := hrk
        go_wp2_with fail
        go_ret
        exact ⟨rfl, unhide HBW⟩
end Go.Proofs.YtbcbleonpaemgaaDoor
