/- version.Check returns checkF. No condition. -/
import Derived.Test.YtbcbleonpaemgaaDoorVRight
import Derived.Test.YtbcbleonpaemgaaDoorVComps
namespace Go.Proofs.YtbcbleonpaemgaaDoor
open Go.RowKit
/-- The first need from k on that is not met, -1 if there is none. -/
def firstG (L : Nat → Inst) (n : Nat) (N : Nat → NeedS) : Nat → Nat → Int
  | 0, _ => -1
  | m + 1, k => if metF L n (N k) = true then firstG L n N m (k + 1) else (k : Int)
theorem firstG_step (L : Nat → Inst) (n : Nat) (N : Nat → NeedS) (m k : Nat) (h : k < m) : firstG L n N (m - k) k = if metF L n (N k) = true then firstG L n N (m - (k + 1)) (k + 1) else (k : Int) := by
  rw [show m - k = (m - (k + 1)) + 1 by omega]; rfl
def checkF (L : Nat → Inst) (n : Nat) (N : Nat → NeedS) (m : Nat) : Int × Int :=
  if compsF L n = true then (if rightF N m = true then (firstG L n N m 0, 0) else (0, 2)) else (0, 1)
set_option maxRecDepth 100000 in
set_option maxHeartbeats 4000000 in
theorem check_any (w : World) (A : Option Addr) (n c : Nat) (hn : n ≤ c) (hc : c ≤ maxLen) (L : Nat → Inst) (hL : InstAt w w.heap.size A n L) (A' : Option Addr) (m d : Nat) (hm : m ≤ d) (hd : d ≤ maxLen) (N : Nat → NeedS) (hN : NeedAt w w.heap.size A' m N) (x y : Int) (hr : checkF L n N m = (x, y)) :
    Calls Tryd.prog 24 #[.slice A n c, .slice A' m d] w fun e w' => e = .returned (.tuple #[.int .i64 x, .int .i64 y]) ∧ Below w.heap.size w w' := by
  obtain ⟨b1, h1⟩ : ∃ b, compsF L n = b := ⟨_, rfl⟩
  obtain ⟨b2, h2⟩ : ∃ b, rightF N m = b := ⟨_, rfl⟩
  rw [checkF, h1, h2] at hr
  have HR := hide hr
  have HL := hide hL
  have HN := hide hN
  have HM := hide met_any
  have K1 := hide (comps_any w A n c hn hc L hL b1 h1)
  have K2 := hide fun W (h : NeedAt W W.heap.size A' m N) => right_any W A' m d hm hd N h b2 h2
  have hd2 : m ≤ 9223372036854775807 := by unfold maxLen at hd; omega
  have HHN := hide hn
  have HHC := hide hc
  clear hr hL hN h1 h2 hn hc
  go_enter Tryd.func24, Tryd.ntmps24
  go_wp2_with fail
  refine (unhide K1).mono ?_
  rintro e w1 ⟨rfl, hb1⟩
  have B1 := hide hb1
  clear hb1
  cases b1
  · have hr := unhide HR
    simp only [↓reduceIte, Bool.false_eq_true] at hr
    injection hr with hx hy
    subst hx hy
    go_wp2_with fail
    go_ret2
    exact ⟨rfl, unhide B1⟩
  go_wp2_with fail
  refine (unhide K2 _ (((unhide HN).below (unhide B1)).more (unhide B1).size)).mono ?_
  rintro e w2 ⟨rfl, hb2⟩
  have B2 := hide ((unhide B1).trans (hb2.mono (unhide B1).size))
  clear hb2
  cases b2
  · have hr := unhide HR
    simp only [↓reduceIte, Bool.false_eq_true] at hr
    injection hr with hx hy
    subst hx hy
    go_wp2_with fail
    go_ret2
    exact ⟨rfl, unhide B2⟩
  have hr := unhide HR
  simp only [↓reduceIte] at hr
  injection hr with hx hy
  subst hy
  have hx0 : firstG L n N (m - 0) 0 = x := hx
  have HX := hide hx0
  clear hx hx0
  go_wp2_with fail
  go_loopw [16] (fun i wr => ∃ k : Nat, k ≤ m ∧ i = .int .i64 k ∧ firstG L n N (m - k) k = x ∧ Below w.heap.size w wr) (fun i _ => m - (intOf i).toNat)
  case atStart => exact ⟨0, by omega, rfl, unhide HX, unhide B2⟩
  case round =>
    obtain ⟨k, hk, rfl, hrk, hB⟩ := hrel
    have HBW := hide hB
    clear hB
    by_cases hlt : k < m
    · rw [firstG_step L n N m k hlt] at hrk
      obtain ⟨gb, go, rfl, hgb, hl1, hl2, c0, c1, c2, c3, c4, c5, c6, c7⟩ := (unhide HN).below (unhide HBW) k hlt
      obtain ⟨⟨xc, ⟨fa, fb, fc⟩, xo, ⟨ta, tb, tc⟩⟩, hs⟩ : ∃ x, N k = x := ⟨_, rfl⟩
      rw [hs] at hrk hl1 hl2 c0 c1 c2 c3 c4 c5 c6 c7
      dsimp only at hl1 hl2 c0 c1 c2 c3 c4 c5 c6 c7
      have hlt2 : (k : Int) < (m : Int) := by omega
      obtain ⟨b, hb⟩ : ∃ b, metF L n ⟨xc, ⟨fa, fb, fc⟩, xo, ⟨ta, tb, tc⟩⟩ = b := ⟨_, rfl⟩
      rw [hb] at hrk
      have BX := hide ((unhide HBW).alloc (unhide HBW).size (.cells #[.string ⟨xc.toArray⟩, .int .i64 fa, .int .i64 fb, .int .i64 fc, .string ⟨xo.toArray⟩, .int .i64 ta, .int .i64 tb, .int .i64 tc] 50))
      have HB := hide hb
      have HRK := hide hrk
      clear hs hb hrk
      go_wp2_with fail
      refine (unhide HM _ A n c (unhide HHN) (unhide HHC) L (((unhide HL).below (unhide BX)).more (unhide BX).size) ⟨xc, ⟨fa, fb, fc⟩, xo, ⟨ta, tb, tc⟩⟩ hl1 hl2 b (unhide HB)).mono ?_
      rintro e w3 ⟨rfl, hb3⟩
      have B3 := hide ((unhide BX).trans (hb3.mono (unhide BX).size))
      clear hb3 c0 c1 c2 c3 c4 c5 c6 c7
      cases b
      · have hrk := unhide HRK
        simp only [↓reduceIte, Bool.false_eq_true] at hrk
        subst hrk
        go_wp2_with fail
        go_ret2
        exact ⟨rfl, unhide B3⟩
      · have hrk := unhide HRK
        simp only [↓reduceIte] at hrk
        have HREST := hide hrk
        clear hrk
        go_wp2_with fail
        go_roundw
        case rel => exact ⟨k + 1, by omega, by go_num, unhide HREST, unhide B3⟩
        case measure => simp [intOf]; omega
    · obtain rfl : k = m := by omega
      rw [Nat.sub_self] at hrk
      obtain rfl : -1 = x := hrk
      go_wp2_with fail
      go_ret2
      exact ⟨rfl, unhide HBW⟩
end Go.Proofs.YtbcbleonpaemgaaDoor
