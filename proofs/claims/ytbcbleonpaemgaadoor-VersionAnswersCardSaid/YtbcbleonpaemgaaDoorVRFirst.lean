/- The reference's First returns firstG. No condition. -/
import Derived.Test.YtbcbleonpaemgaaDoorVRMet
import Derived.Test.YtbcbleonpaemgaaDoorVCheck
namespace Go.Proofs.YtbcbleonpaemgaaDoor
open Go.RowKit
set_option maxRecDepth 100000 in
set_option maxHeartbeats 4000000 in
theorem rfirst_any (w : World) (A : Option Addr) (n c : Nat) (hn : n ≤ c) (hc : c ≤ maxLen) (L : Nat → Inst) (hL : InstAt w w.heap.size A n L) (A' : Option Addr) (m d : Nat) (hm : m ≤ d) (hd : d ≤ maxLen) (N : Nat → NeedS) (hN : NeedAt w w.heap.size A' m N) (x : Int) (hr : firstG L n N m 0 = x) :
    Calls Tryd.prog 43 #[.slice A n c, .slice A' m d] w fun e w' => e = .returned (.int .i64 x) ∧ Below w.heap.size w w' := by
  have HX := hide (show firstG L n N (m - 0) 0 = x from hr)
  have HL := hide hL
  have HN := hide hN
  have HM := hide rmet_any
  have hd2 : m ≤ 9223372036854775807 := by unfold maxLen at hd; omega
  have HHN := hide hn
  have HHC := hide hc
  clear hr hL hN hn hc
  go_enter Tryd.func43, Tryd.ntmps43
  go_wp2_with fail
  go_loopw [5] (fun i wr => ∃ k : Nat, k ≤ m ∧ i = .int .i64 k ∧ firstG L n N (m - k) k = x ∧ Below w.heap.size w wr) (fun i _ => m - (intOf i).toNat)
  case atStart => exact ⟨0, by omega, rfl, unhide HX, Below.refl _ _⟩
  case round =>
    obtain ⟨k, hk, rfl, hrk, hB⟩ := hrel
    have HBW := hide hB
    clear hB
    by_cases hlt : k < m
    · rw [firstG_step L n N m k hlt] at hrk
      obtain ⟨gb, go, rfl, hgb, hl1, hl2, c0, c1, c2, c3, c4, c5, c6, c7⟩ := (unhide HN).below (unhide HBW) k hlt
      obtain ⟨⟨xc, ⟨fa, fb, fc⟩, xo, ⟨ta, tb, tc⟩⟩, hs⟩ : ∃ x, N k = x := ⟨_, rfl⟩
      rw [hs] at hrk hl1 hl2 c0 c1 c2 c3 c4 c5 c6 c7
      dsimp only at hl1 hl2 c0 c1 c2 c3 c4 c5 c6 c7
      have hlt2 : (k : Int) < (m : Int) := by omega
      obtain ⟨b, hb⟩ : ∃ b, metF L n ⟨xc, ⟨fa, fb, fc⟩, xo, ⟨ta, tb, tc⟩⟩ = b := ⟨_, rfl⟩
      rw [hb] at hrk
      have HB := hide hb
      have HRK := hide hrk
      clear hs hb hrk
      go_wp2_with fail
      refine (unhide HM _ A n c (unhide HHN) (unhide HHC) L (((unhide HL).below (unhide HBW)).more (unhide HBW).size) ⟨xc, ⟨fa, fb, fc⟩, xo, ⟨ta, tb, tc⟩⟩ hl1 hl2 b (unhide HB)).mono ?_
      rintro e w3 ⟨rfl, hb3⟩
      have B3 := hide ((unhide HBW).trans (hb3.mono (unhide HBW).size))
      clear hb3 c0 c1 c2 c3 c4 c5 c6 c7
      cases b
      · have hrk := unhide HRK
        simp only [↓reduceIte, Bool.false_eq_true] at hrk
        subst hrk
        go_wp2_with fail
        go_ret
        exact ⟨rfl, unhide B3⟩
      · have hrk := unhide HRK
        simp only [↓reduceIte] at hrk
        have HREST := hide hrk
        clear hrk
        go_wp2_with fail
        go_roundw
        case rel => exact ⟨k + 1, by omega, by go_num, unhide HREST, unhide B3⟩
        case measure => simp [intOf]; omega
    · obtain rfl : k = m := by omega
      rw [Nat.sub_self] at hrk
      obtain rfl : -1 = x := hrk
      go_wp2_with fail
      go_ret
      exact ⟨rfl, unhide HBW⟩
end Go.Proofs.YtbcbleonpaemgaaDoor
