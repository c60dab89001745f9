/- The reference's Check returns checkF. No condition. -/
import Derived.Test.YtbcbleonpaemgaaDoorVRNeeds
import Derived.Test.YtbcbleonpaemgaaDoorVRComps
import Derived.Test.YtbcbleonpaemgaaDoorVRFirst
import Derived.Test.YtbcbleonpaemgaaDoorVCheck
namespace Go.Proofs.YtbcbleonpaemgaaDoor
open Go.RowKit
set_option maxRecDepth 100000 in
set_option maxHeartbeats 4000000 in
theorem rcheck_any (w : World) (A : Option Addr) (n c : Nat) (hn : n ≤ c) (hc : c ≤ maxLen) (L : Nat → Inst) (hL : InstAt w w.heap.size A n L) (A' : Option Addr) (m d : Nat) (hm : m ≤ d) (hd : d ≤ maxLen) (N : Nat → NeedS) (hN : NeedAt w w.heap.size A' m N) (x y : Int) (hr : checkF L n N m = (x, y)) :
    Calls Tryd.prog 25 #[.slice A n c, .slice A' m d] w fun e w' => e = .returned (.tuple #[.int .i64 x, .int .i64 y]) ∧ Below w.heap.size w w' := by
  obtain ⟨b1, h1⟩ : ∃ b, compsF L n = b := ⟨_, rfl⟩
  obtain ⟨b2, h2⟩ : ∃ b, rightF N m = b := ⟨_, rfl⟩
  rw [checkF, h1, h2] at hr
  have HR := hide hr
  have HL := hide hL
  have HN := hide hN
  have HF := hide rfirst_any
  have HHM := hide hm
  have HHD := hide hd
  have K1 := hide (rcomps_any w A n c hn hc L hL b1 h1)
  have K2 := hide fun W (h : NeedAt W W.heap.size A' m N) => rneeds_any W A' m d hm hd N h b2 h2
  have hd2 : m ≤ 9223372036854775807 := by unfold maxLen at hd; omega
  have HHN := hide hn
  have HHC := hide hc
  clear hr hL hN h1 h2 hn hc
  go_enter Tryd.func25, Tryd.ntmps25
  go_wp2_with fail
  refine (unhide K1).mono ?_
  rintro e w1 ⟨rfl, hb1⟩
  have B1 := hide hb1
  clear hb1
  cases b1
  · have hr := unhide HR
    simp only [↓reduceIte, Bool.false_eq_true] at hr
    injection hr with hx hy
    subst hx hy
    go_wp2_with fail
    go_ret2
    exact ⟨rfl, unhide B1⟩
  go_wp2_with fail
  refine (unhide K2 _ (((unhide HN).below (unhide B1)).more (unhide B1).size)).mono ?_
  rintro e w2 ⟨rfl, hb2⟩
  have B2 := hide ((unhide B1).trans (hb2.mono (unhide B1).size))
  clear hb2
  cases b2
  · have hr := unhide HR
    simp only [↓reduceIte, Bool.false_eq_true] at hr
    injection hr with hx hy
    subst hx hy
    go_wp2_with fail
    go_ret2
    exact ⟨rfl, unhide B2⟩
  have hr := unhide HR
  simp only [↓reduceIte] at hr
  injection hr with hx hy
  subst hy
  have HX := hide hx
  clear hx
  go_wp2_with fail
  refine (unhide HF _ A n c (unhide HHN) (unhide HHC) L (((unhide HL).below (unhide B2)).more (unhide B2).size) A' m d (unhide HHM) (unhide HHD) N (((unhide HN).below (unhide B2)).more (unhide B2).size) x (unhide HX)).mono ?_
  rintro e w3 ⟨rfl, hb3⟩
  have B3 := hide ((unhide B2).trans (hb3.mono (unhide B2).size))
  clear hb3
  go_wp2_with fail
  go_ret2
  exact ⟨rfl, unhide B3⟩
end Go.Proofs.YtbcbleonpaemgaaDoor
