/- The reference's Right returns compsF. No condition. -/
import Derived.Test.YtbcbleonpaemgaaDoorVRName
import Derived.Test.YtbcbleonpaemgaaDoorVRMet
import Derived.Test.YtbcbleonpaemgaaDoorVComps
import Derived.Laws.Cover1
namespace Go.Proofs.YtbcbleonpaemgaaDoor
open Go.RowKit
theorem less_flip : ∀ (x y : List UInt8), Op.bytesLess y x = !(Op.bytesLess x y || (x == y))
  | [], [] => rfl
  | [], _ :: _ => rfl
  | _ :: _, [] => rfl
  | a :: x, b :: y => by
    have ih := less_flip x y
    simp only [Op.bytesLess, ih]
    rcases Nat.lt_trichotomy a.toNat b.toNat with h | h | h
    · have h1 : a < b := h
      have h2 : ¬ b < a := fun h' => by have : b.toNat < a.toNat := h'; omega
      have h3 : (b == a) = false := by simp; intro e; subst e; omega
      simp [h1, h2, h3]
    · have e : a = b := UInt8.toNat_inj.1 h
      subst e
      simp
    · have h1 : b < a := h
      have h2 : ¬ a < b := fun h' => by have : a.toNat < b.toNat := h'; omega
      have h3 : (a == b) = false := by simp; intro e; subst e; omega
      simp [h1, h2, h3]
set_option maxRecDepth 100000 in
set_option maxHeartbeats 4000000 in
theorem rcomps_any (w : World) (A : Option Addr) (n c : Nat) (_hn : n ≤ c) (_hc : c ≤ maxLen) (L : Nat → Inst) (hL : InstAt w w.heap.size A n L) (r : Bool) (hr : compsF L n = r) :
    Calls Tryd.prog 41 #[.slice A n c] w fun e w' => e = .returned (.bool r) ∧ Below w.heap.size w w' := by
  by_cases h8 : 8 < n
  · obtain rfl : false = r := by rw [← hr]; simp [compsF]; omega
    clear hr hL
    go_enter Tryd.func41, Tryd.ntmps41
    go_wp2_with fail
    go_ret
    exact ⟨rfl, Below.refl _ _⟩
  · have hr0 : compsG L (n - 0) 0 = r := by rw [← hr]; simp [compsF, show n ≤ 8 by omega]
    have hn8 : n ≤ 8 := by omega
    have HR := hide hr0
    have HL := hide hL
    have B0 := hide (Below.refl w.heap.size w)
    clear hr hr0 hL h8
    go_enter Tryd.func41, Tryd.ntmps41
    go_wp2_with fail
    go_loopw [3] (fun i wr => ∃ k : Nat, k ≤ n ∧ i = .int .i64 k ∧ compsG L (n - k) k = r ∧ Below w.heap.size w wr) (fun i _ => n - (intOf i).toNat)
    case atStart => exact ⟨0, by omega, rfl, unhide HR, unhide B0⟩
    case round =>
      obtain ⟨k, hk, rfl, hrk, hB⟩ := hrel
      have HBW := hide hB
      clear hB
      by_cases hlt : k < n
      · rw [compsG_step L n k hlt] at hrk
        obtain ⟨gb, go, rfl, hgb, hsl, c0, c1, c2, c3⟩ := (unhide HL).below (unhide HBW) k hlt
        obtain ⟨⟨s, ⟨va, vb, vc⟩⟩, hs⟩ : ∃ x, L k = x := ⟨_, rfl⟩
        have hca : compAt L k = (nameF s && (validV ⟨va, vb, vc⟩ && (decide (k = 0) || !(Op.bytesLess s (L (k - 1)).s || (s == (L (k - 1)).s))))) := by rw [compAt, hs]
        rw [hs] at hsl c0 c1 c2 c3
        dsimp only at hsl c0 c1 c2 c3
        rw [hca] at hrk
        have hlt2 : (k : Int) < (n : Int) := by omega
        obtain ⟨bn, hbn⟩ : ∃ b, nameF s = b := ⟨_, rfl⟩
        obtain ⟨bv, hbv⟩ : ∃ b, validV ⟨va, vb, vc⟩ = b := ⟨_, rfl⟩
        rw [hbn, hbv] at hrk
        have B3 := HBW
        have hgl : gb < wr.heap.size := by have := (unhide HBW).size; omega
        have hin : Nonempty (InClass (fun W => Below wr.heap.size wr W)) := ⟨⟨_, Below.refl _ _⟩⟩
        have K1 : Hid (∀ x' : InClass (fun W => Below wr.heap.size wr W), Calls Tryd.prog 22 #[.string ⟨s.toArray⟩] x'.val fun e w'' => e = .returned (.bool bn) ∧ ∃ y' : InClass (fun W => Below wr.heap.size wr W), w'' = y'.val) :=
          hide fun x' => (rname_any x'.val s hsl bn hbn).mono fun e w'' h => ⟨h.1, x', h.2.symm⟩
        have K2 : Hid (∀ x' : InClass (fun W => Below wr.heap.size wr W), Calls Tryd.prog 15 #[.agg #[.int .i64 va, .int .i64 vb, .int .i64 vc]] x'.val fun e w'' => e = .returned (.bool bv) ∧ ∃ y' : InClass (fun W => Below wr.heap.size wr W), w'' = y'.val) :=
          hide fun x' => class_call ((rval_any x'.val ⟨va, vb, vc⟩ bv hbv).mono fun _ _ h => ⟨h.1, by rw [h.2]; exact (Below.refl _ _).alloc (Nat.le_refl _) _⟩) fun w' h => x'.ok.trans (h.mono x'.ok.size)
        have G0 : Hid (∀ x' : InClass (fun W => Below wr.heap.size wr W), x'.val.cell? ⟨gb, go + k * 4, none⟩ = some (.string ⟨s.toArray⟩)) := hide fun x' => (x'.ok.cell (p := ⟨gb, _, none⟩) hgl).trans c0
        have G1 : Hid (∀ x' : InClass (fun W => Below wr.heap.size wr W), x'.val.cell? ⟨gb, go + k * 4 + 1, none⟩ = some (.int .i64 va)) := hide fun x' => (x'.ok.cell (p := ⟨gb, _, none⟩) hgl).trans c1
        have G2 : Hid (∀ x' : InClass (fun W => Below wr.heap.size wr W), x'.val.cell? ⟨gb, go + k * 4 + 2, none⟩ = some (.int .i64 vb)) := hide fun x' => (x'.ok.cell (p := ⟨gb, _, none⟩) hgl).trans c2
        have G3 : Hid (∀ x' : InClass (fun W => Below wr.heap.size wr W), x'.val.cell? ⟨gb, go + k * 4 + 3, none⟩ = some (.int .i64 vc)) := hide fun x' => (x'.ok.cell (p := ⟨gb, _, none⟩) hgl).trans c3
        have HHS := hide hs
        have HRK := hide hrk
        clear hs hca hbn hbv hrk
        go_wp2_with fail
        clear c0 c1 c2 c3
        have hS0 := hide ((Below.refl wr.heap.size wr).drew)
        cases bn
        · obtain rfl : false = r := by rw [← unhide HRK]; rfl
          refine wp_region_class (fun W => Below wr.heap.size wr W) (by kernel_rfl) (by kernel_rfl) (unhide hS0) ?_
          have g0 := unhide G0
          have g1 := unhide G1
          have g2 := unhide G2
          have g3 := unhide G3
          repeat (go_big_quiet_step (first | (go_at_call 22; exact (unhide K1) _) | (go_at_call 15; exact (unhide K2) _)))
          refine wpQuiet_nil ?_
          intro _ hw'
          obtain ⟨x13, hw''⟩ := hw'
          subst hw''
          have B4 := hide ((unhide B3).trans (x13.ok.mono (unhide B3).size))
          clear g0 g1 g2 g3
          go_wp2_with fail
          go_ret
          exact ⟨rfl, unhide B4⟩
        · cases bv
          · obtain rfl : false = r := by rw [← unhide HRK]; rfl
            refine wp_region_class (fun W => Below wr.heap.size wr W) (by kernel_rfl) (by kernel_rfl) (unhide hS0) ?_
            have g0 := unhide G0
            have g1 := unhide G1
            have g2 := unhide G2
            have g3 := unhide G3
            repeat (go_big_quiet_step (first | (go_at_call 22; exact (unhide K1) _) | (go_at_call 15; exact (unhide K2) _)))
            refine wpQuiet_nil ?_
            intro _ hw'
            obtain ⟨x13, hw''⟩ := hw'
            subst hw''
            have B4 := hide ((unhide B3).trans (x13.ok.mono (unhide B3).size))
            clear g0 g1 g2 g3
            go_wp2_with fail
            go_ret
            exact ⟨rfl, unhide B4⟩
          · rcases k with _ | m
            · have hrest : compsG L (n - 1) 1 = r := by rw [← unhide HRK]; simp
              have HREST := hide hrest
              clear hrest
              refine wp_region_class (fun W => Below wr.heap.size wr W) (by kernel_rfl) (by kernel_rfl) (unhide hS0) ?_
              have g0 := unhide G0
              have g1 := unhide G1
              have g2 := unhide G2
              have g3 := unhide G3
              simp only [Nat.zero_mul, Nat.add_zero] at g0 g1 g2 g3
              repeat (go_big_quiet_step (first | (go_at_call 22; exact (unhide K1) _) | (go_at_call 15; exact (unhide K2) _)))
              refine wpQuiet_nil ?_
              intro _ hw'
              obtain ⟨x13, hw''⟩ := hw'
              subst hw''
              have B4 := hide ((unhide B3).trans (x13.ok.mono (unhide B3).size))
              clear g0 g1 g2 g3
              go_wp2_with fail
              go_roundw
              case rel => exact ⟨_, by omega, by go_num, unhide HREST, unhide B4⟩
              case measure => simp [intOf]; omega
            · have hp := (unhide HL).below (unhide B3) m (by omega)
              obtain ⟨gb', go', hA, _, _, cp, _⟩ := hp
              have hsp := unhide HHS
              obtain ⟨sp, hspe⟩ : ∃ sp, (L m).s = sp := ⟨_, rfl⟩
              have hrk2 : ((!(Op.bytesLess s sp || (s == sp))) && compsG L (n - (m + 1 + 1)) (m + 1 + 1)) = r := by rw [← unhide HRK, ← hspe]; simp
              injection hA with hA
              injection hA with hA1 hA2
              subst hA1
              subst hA2
              rw [hspe] at cp
              have gp : ∀ x' : InClass (fun W => Below wr.heap.size wr W), x'.val.cell? ⟨gb, go + m * 4, none⟩ = some (.string ⟨sp.toArray⟩) := fun x' => (x'.ok.cell (p := ⟨gb, _, none⟩) (by have := (unhide B3).size; show gb < wr.heap.size; omega)).trans cp
              have hi1 : IntKind.i64.wrap ((m : Int) + 1 - 1) = (m : Int) := by rw [show (m : Int) + 1 - 1 = (m : Int) by omega]; exact IntWalk.i64_in _ (by omega)
              have hi2 : (0 : Int) ≤ (m : Int) := by omega
              have hgeq := Go.binOp_string_geq
              have hi3 : (m : Int) < (n : Int) := by omega
              clear cp hspe hsp
              obtain ⟨b1, hb1⟩ : ∃ b, Op.bytesLess s sp = b := ⟨_, rfl⟩
              obtain ⟨b2, hb2⟩ : ∃ b, (s == sp) = b := ⟨_, rfl⟩
              rw [hb1, hb2] at hrk2
              have hfl : Op.bytesLess sp s = !(b1 || b2) := by rw [less_flip s sp, hb1, hb2]
              have HRK2 := hide hrk2
              clear hrk2
              cases b1
              · cases b2
                · have hrest : compsG L (n - (m + 1 + 1)) (m + 1 + 1) = r := by rw [← unhide HRK2]; simp
                  have HREST := hide hrest
                  clear hrest
                  refine wp_region_class (fun W => Below wr.heap.size wr W) (by kernel_rfl) (by kernel_rfl) (unhide hS0) ?_
                  have g0 := unhide G0
                  have g1 := unhide G1
                  have g2 := unhide G2
                  have g3 := unhide G3
                  repeat (go_big_quiet_step (first | (go_at_call 22; exact (unhide K1) _) | (go_at_call 15; exact (unhide K2) _)))
                  refine wpQuiet_nil ?_
                  intro _ hw'
                  obtain ⟨x13, hw''⟩ := hw'
                  subst hw''
                  have B4 := hide ((unhide B3).trans (x13.ok.mono (unhide B3).size))
                  clear g0 g1 g2 g3 gp
                  go_wp2_with fail
                  go_roundw
                  case rel => exact ⟨_, by omega, by go_num, unhide HREST, unhide B4⟩
                  case measure => simp [intOf]; omega
                · obtain rfl : false = r := by rw [← unhide HRK2]; rfl
                  refine wp_region_class (fun W => Below wr.heap.size wr W) (by kernel_rfl) (by kernel_rfl) (unhide hS0) ?_
                  have g0 := unhide G0
                  have g1 := unhide G1
                  have g2 := unhide G2
                  have g3 := unhide G3
                  repeat (go_big_quiet_step (first | (go_at_call 22; exact (unhide K1) _) | (go_at_call 15; exact (unhide K2) _)))
                  refine wpQuiet_nil ?_
                  intro _ hw'
                  obtain ⟨x13, hw''⟩ := hw'
                  subst hw''
                  have B4 := hide ((unhide B3).trans (x13.ok.mono (unhide B3).size))
                  clear g0 g1 g2 g3 gp
                  go_wp2_with fail
                  go_ret
                  exact ⟨rfl, unhide B4⟩
              · obtain rfl : false = r := by rw [← unhide HRK2]; rfl
                refine wp_region_class (fun W => Below wr.heap.size wr W) (by kernel_rfl) (by kernel_rfl) (unhide hS0) ?_
                have g0 := unhide G0
                have g1 := unhide G1
                have g2 := unhide G2
                have g3 := unhide G3
                repeat (go_big_quiet_step (first | (go_at_call 22; exact (unhide K1) _) | (go_at_call 15; exact (unhide K2) _)))
                refine wpQuiet_nil ?_
                intro _ hw'
                obtain ⟨x13, hw''⟩ := hw'
                subst hw''
                have B4 := hide ((unhide B3).trans (x13.ok.mono (unhide B3).size))
                clear g0 g1 g2 g3 gp
                go_wp2_with fail
                go_ret
                exact ⟨rfl, unhide B4⟩
      · obtain rfl : k = n := by omega
        rw [Nat.sub_self] at hrk
        obtain rfl : true = r := hrk
        go_wp2_with fail
        go_ret
        exact ⟨rfl, unhide HBW⟩
end Go.Proofs.YtbcbleonpaemgaaDoor
