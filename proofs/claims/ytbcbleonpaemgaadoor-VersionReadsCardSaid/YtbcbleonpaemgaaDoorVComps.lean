/- version.components returns compsF. No condition. -/
import Derived.Test.YtbcbleonpaemgaaDoorVMet
namespace Go.Proofs.YtbcbleonpaemgaaDoor
open Go.RowKit
theorem binOp_string_leq (t : TypeId) (a b : ByteArray) : binOp .leq t (.string a) (.string b) = pure (.bool (Op.bytesLess a.toList b.toList || (a.toList == b.toList))) := by simp [binOp, Op.stringOp]
def compAt (L : Nat → Inst) (k : Nat) : Bool := nameF (L k).s && (validV (L k).v && (decide (k = 0) || !(Op.bytesLess (L k).s (L (k - 1)).s || ((L k).s == (L (k - 1)).s))))
def compsG (L : Nat → Inst) : Nat → Nat → Bool
  | 0, _ => true
  | m + 1, k => compAt L k && compsG L m (k + 1)
def compsF (L : Nat → Inst) (n : Nat) : Bool := decide (n ≤ 8) && compsG L n 0
theorem compsG_step (L : Nat → Inst) (n k : Nat) (h : k < n) : compsG L (n - k) k = (compAt L k && compsG L (n - (k + 1)) (k + 1)) := by
  rw [show n - k = (n - (k + 1)) + 1 by omega]; rfl
set_option maxRecDepth 100000 in
set_option maxHeartbeats 4000000 in
theorem comps_any (w : World) (A : Option Addr) (n c : Nat) (_hn : n ≤ c) (_hc : c ≤ maxLen) (L : Nat → Inst) (hL : InstAt w w.heap.size A n L) (r : Bool) (hr : compsF L n = r) :
    Calls Tryd.prog 39 #[.slice A n c] w fun e w' => e = .returned (.bool r) ∧ Below w.heap.size w w' := by
  by_cases h8 : 8 < n
  · obtain rfl : false = r := by rw [← hr]; simp [compsF]; omega
    clear hr hL
    go_enter Tryd.func39, Tryd.ntmps39
    go_wp2_with fail
    go_ret
    exact ⟨rfl, Below.refl _ _⟩
  · have hr0 : compsG L (n - 0) 0 = r := by rw [← hr]; simp [compsF, show n ≤ 8 by omega]
    have hn8 : n ≤ 8 := by omega
    have HR := hide hr0
    have HL := hide hL
    have B0 := hide (Below.refl w.heap.size w)
    clear hr hr0 hL h8
    go_enter Tryd.func39, Tryd.ntmps39
    go_wp2_with fail
    go_loopw [10] (fun i wr => ∃ k : Nat, k ≤ n ∧ i = .int .i64 k ∧ compsG L (n - k) k = r ∧ Below w.heap.size w wr) (fun i _ => n - (intOf i).toNat)
    case atStart => exact ⟨0, by omega, rfl, unhide HR, unhide B0⟩
    case round =>
      obtain ⟨k, hk, rfl, hrk, hB⟩ := hrel
      have HBW := hide hB
      clear hB
      by_cases hlt : k < n
      · rw [compsG_step L n k hlt] at hrk
        obtain ⟨gb, go, rfl, hgb, hsl, c0, c1, c2, c3⟩ := (unhide HL).below (unhide HBW) k hlt
        obtain ⟨⟨s, ⟨va, vb, vc⟩⟩, hs⟩ : ∃ x, L k = x := ⟨_, rfl⟩
        have hca : compAt L k = (nameF s && (validV ⟨va, vb, vc⟩ && (decide (k = 0) || !(Op.bytesLess s (L (k - 1)).s || (s == (L (k - 1)).s))))) := by rw [compAt, hs]
        rw [hs] at hsl c0 c1 c2 c3
        dsimp only at hsl c0 c1 c2 c3
        rw [hca] at hrk
        have hlt2 : (k : Int) < (n : Int) := by omega
        obtain ⟨bn, hbn⟩ : ∃ b, nameF s = b := ⟨_, rfl⟩
        obtain ⟨bv, hbv⟩ : ∃ b, validV ⟨va, vb, vc⟩ = b := ⟨_, rfl⟩
        rw [hbn, hbv] at hrk
        obtain ⟨W3, hW3⟩ : ∃ W3, wr.alloc (.cells #[.string ⟨s.toArray⟩, .int .i64 va, .int .i64 vb, .int .i64 vc] 42) = W3 := ⟨_, rfl⟩
        have hX : Blk W3 wr.heap.size 42 #[.string ⟨s.toArray⟩, .int .i64 va, .int .i64 vb, .int .i64 vc] := hW3 ▸ Blk.new wr _ _
        have B3 : Hid (Below w.heap.size w W3) := hide (hW3 ▸ (unhide HBW).alloc (unhide HBW).size _)
        have hin : Nonempty (InClass (fun W => Below W3.heap.size W3 W)) := ⟨⟨_, Below.refl _ _⟩⟩
        have K1 : Hid (∀ x' : InClass (fun W => Below W3.heap.size W3 W), Calls Tryd.prog 21 #[.string ⟨s.toArray⟩] x'.val fun e w'' => e = .returned (.bool bn) ∧ ∃ y' : InClass (fun W => Below W3.heap.size W3 W), w'' = y'.val) :=
          hide fun x' => (name_any x'.val s hsl bn hbn).mono fun e w'' h => ⟨h.1, x', h.2.symm⟩
        have K2 : Hid (∀ x' : InClass (fun W => Below W3.heap.size W3 W), Calls Tryd.prog 14 #[.agg #[.int .i64 va, .int .i64 vb, .int .i64 vc]] x'.val fun e w'' => e = .returned (.bool bv) ∧ ∃ y' : InClass (fun W => Below W3.heap.size W3 W), w'' = y'.val) :=
          hide fun x' => class_call (val_any _ ⟨va, vb, vc⟩ bv hbv) fun w' h => x'.ok.trans (h.mono x'.ok.size)
        have G0 : Hid (∀ x' : InClass (fun W => Below W3.heap.size W3 W), x'.val.cell? ⟨wr.heap.size, 0, none⟩ = some (.string ⟨s.toArray⟩)) := hide fun x' => (hX.below x'.ok hX.lt).cell 0
        have G1 : Hid (∀ x' : InClass (fun W => Below W3.heap.size W3 W), x'.val.cell? ⟨wr.heap.size, 1, none⟩ = some (.int .i64 va)) := hide fun x' => (hX.below x'.ok hX.lt).cell 1
        have G2 : Hid (∀ x' : InClass (fun W => Below W3.heap.size W3 W), x'.val.cell? ⟨wr.heap.size, 2, none⟩ = some (.int .i64 vb)) := hide fun x' => (hX.below x'.ok hX.lt).cell 2
        have G3 : Hid (∀ x' : InClass (fun W => Below W3.heap.size W3 W), x'.val.cell? ⟨wr.heap.size, 3, none⟩ = some (.int .i64 vc)) := hide fun x' => (hX.below x'.ok hX.lt).cell 3
        have HW3 := hide hW3
        have HHS := hide hs
        have HRK := hide hrk
        clear hs hca hbn hbv hW3 hX hrk
        go_wp2_with fail
        rw [unhide HW3]
        clear c0 c1 c2 c3
        have hS0 := hide ((Below.refl W3.heap.size W3).drew)
        cases bn
        · obtain rfl : false = r := by rw [← unhide HRK]; rfl
          refine wp_region_class (fun W => Below W3.heap.size W3 W) (by kernel_rfl) (by kernel_rfl) (unhide hS0) ?_
          have g0 := unhide G0
          have g1 := unhide G1
          have g2 := unhide G2
          have g3 := unhide G3
          repeat (go_big_quiet_step (first | (go_at_call 21; exact (unhide K1) _) | (go_at_call 14; exact (unhide K2) _)))
          refine wpQuiet_nil ?_
          intro _ hw'
          obtain ⟨x13, hw''⟩ := hw'
          subst hw''
          have B4 := hide ((unhide B3).trans (x13.ok.mono (unhide B3).size))
          clear g0 g1 g2 g3
          go_wp2_with fail
          go_ret
          exact ⟨rfl, unhide B4⟩
        · cases bv
          · obtain rfl : false = r := by rw [← unhide HRK]; rfl
            refine wp_region_class (fun W => Below W3.heap.size W3 W) (by kernel_rfl) (by kernel_rfl) (unhide hS0) ?_
            have g0 := unhide G0
            have g1 := unhide G1
            have g2 := unhide G2
            have g3 := unhide G3
            repeat (go_big_quiet_step (first | (go_at_call 21; exact (unhide K1) _) | (go_at_call 14; exact (unhide K2) _)))
            refine wpQuiet_nil ?_
            intro _ hw'
            obtain ⟨x13, hw''⟩ := hw'
            subst hw''
            have B4 := hide ((unhide B3).trans (x13.ok.mono (unhide B3).size))
            clear g0 g1 g2 g3
            go_wp2_with fail
            go_ret
            exact ⟨rfl, unhide B4⟩
          · rcases k with _ | m
            · have hrest : compsG L (n - 1) 1 = r := by rw [← unhide HRK]; simp
              have HREST := hide hrest
              clear hrest
              refine wp_region_class (fun W => Below W3.heap.size W3 W) (by kernel_rfl) (by kernel_rfl) (unhide hS0) ?_
              have g0 := unhide G0
              have g1 := unhide G1
              have g2 := unhide G2
              have g3 := unhide G3
              repeat (go_big_quiet_step (first | (go_at_call 21; exact (unhide K1) _) | (go_at_call 14; exact (unhide K2) _)))
              refine wpQuiet_nil ?_
              intro _ hw'
              obtain ⟨x13, hw''⟩ := hw'
              subst hw''
              have B4 := hide ((unhide B3).trans (x13.ok.mono (unhide B3).size))
              clear g0 g1 g2 g3
              go_wp2_with fail
              go_roundw
              case rel => exact ⟨_, by omega, by go_num, unhide HREST, unhide B4⟩
              case measure => simp [intOf]; omega
            · have hp := (unhide HL).below (unhide B3) m (by omega)
              obtain ⟨gb', go', hA, _, _, cp, _⟩ := hp
              have hsp := unhide HHS
              obtain ⟨sp, hspe⟩ : ∃ sp, (L m).s = sp := ⟨_, rfl⟩
              have hrk2 : ((!(Op.bytesLess s sp || (s == sp))) && compsG L (n - (m + 1 + 1)) (m + 1 + 1)) = r := by rw [← unhide HRK, ← hspe]; simp
              injection hA with hA
              injection hA with hA1 hA2
              subst hA1
              subst hA2
              rw [hspe] at cp
              have gp : ∀ x' : InClass (fun W => Below W3.heap.size W3 W), x'.val.cell? ⟨gb, go + m * 4, none⟩ = some (.string ⟨sp.toArray⟩) := fun x' => (x'.ok.cell (p := ⟨gb, _, none⟩) (by have := (unhide B3).size; show gb < W3.heap.size; omega)).trans cp
              have hi1 : IntKind.i64.wrap ((m : Int) + 1 - 1) = (m : Int) := by rw [show (m : Int) + 1 - 1 = (m : Int) by omega]; exact IntWalk.i64_in _ (by omega)
              have hi2 : (0 : Int) ≤ (m : Int) := by omega
              have hleq := binOp_string_leq
              have hi3 : (m : Int) < (n : Int) := by omega
              clear cp hspe hsp
              obtain ⟨b1, hb1⟩ : ∃ b, Op.bytesLess s sp = b := ⟨_, rfl⟩
              obtain ⟨b2, hb2⟩ : ∃ b, (s == sp) = b := ⟨_, rfl⟩
              rw [hb1, hb2] at hrk2
              have HRK2 := hide hrk2
              clear hrk2
              cases b1
              · cases b2
                · have hrest : compsG L (n - (m + 1 + 1)) (m + 1 + 1) = r := by rw [← unhide HRK2]; simp
                  have HREST := hide hrest
                  clear hrest
                  refine wp_region_class (fun W => Below W3.heap.size W3 W) (by kernel_rfl) (by kernel_rfl) (unhide hS0) ?_
                  have g0 := unhide G0
                  have g1 := unhide G1
                  have g2 := unhide G2
                  have g3 := unhide G3
                  repeat (go_big_quiet_step (first | (go_at_call 21; exact (unhide K1) _) | (go_at_call 14; exact (unhide K2) _)))
                  refine wpQuiet_nil ?_
                  intro _ hw'
                  obtain ⟨x13, hw''⟩ := hw'
                  subst hw''
                  have B4 := hide ((unhide B3).trans (x13.ok.mono (unhide B3).size))
                  clear g0 g1 g2 g3 gp
                  go_wp2_with fail
                  go_roundw
                  case rel => exact ⟨_, by omega, by go_num, unhide HREST, unhide B4⟩
                  case measure => simp [intOf]; omega
                · obtain rfl : false = r := by rw [← unhide HRK2]; rfl
                  refine wp_region_class (fun W => Below W3.heap.size W3 W) (by kernel_rfl) (by kernel_rfl) (unhide hS0) ?_
                  have g0 := unhide G0
                  have g1 := unhide G1
                  have g2 := unhide G2
                  have g3 := unhide G3
                  repeat (go_big_quiet_step (first | (go_at_call 21; exact (unhide K1) _) | (go_at_call 14; exact (unhide K2) _)))
                  refine wpQuiet_nil ?_
                  intro _ hw'
                  obtain ⟨x13, hw''⟩ := hw'
                  subst hw''
                  have B4 := hide ((unhide B3).trans (x13.ok.mono (unhide B3).size))
                  clear g0 g1 g2 g3 gp
                  go_wp2_with fail
                  go_ret
                  exact ⟨rfl, unhide B4⟩
              · obtain rfl : false = r := by rw [← unhide HRK2]; rfl
                refine wp_region_class (fun W => Below W3.heap.size W3 W) (by kernel_rfl) (by kernel_rfl) (unhide hS0) ?_
                have g0 := unhide G0
                have g1 := unhide G1
                have g2 := unhide G2
                have g3 := unhide G3
                repeat (go_big_quiet_step (first | (go_at_call 21; exact (unhide K1) _) | (go_at_call 14; exact (unhide K2) _)))
                refine wpQuiet_nil ?_
                intro _ hw'
                obtain ⟨x13, hw''⟩ := hw'
                subst hw''
                have B4 := hide ((unhide B3).trans (x13.ok.mono (unhide B3).size))
                clear g0 g1 g2 g3 gp
                go_wp2_with fail
                go_ret
                exact ⟨rfl, unhide B4⟩
      · obtain rfl : k = n := by omega
        rw [Nat.sub_self] at hrk
        obtain rfl : true = r := hrk
        go_wp2_with fail
        go_ret
        exact ⟨rfl, unhide HBW⟩
end Go.Proofs.YtbcbleonpaemgaaDoor
