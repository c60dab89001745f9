/- version.Compare returns cmp3; nothing that was there turns. No condition. -/
import Derived.Test.YtbcbleonpaemgaaDoorClass
import Derived.Test.YtbcbleonpaemgaaDoorHEnd
import Derived.Test.YtbcbleonpaemgaaDoorRow
import Derived.Test.YtbcbleonpaemgaaDoorHeld
import Derived.Test.YtbcbleonpaemgaaDoorProg
import Derived.IntWalk
namespace Go.Proofs.YtbcbleonpaemgaaDoor
open Go.RowKit
/-- A version. -/
structure Ver where
  a : Int
  b : Int
  c : Int
def Ver.c3 (v : Ver) : Array Value := #[.int .i64 v.a, .int .i64 v.b, .int .i64 v.c]
def cmpI (x y : Int) : Int := if x < y then -1 else if y < x then 1 else 0
def restC (x y : Ver) : Nat → Int
  | 0 => if cmpI x.a y.a = 0 then (if cmpI x.b y.b = 0 then cmpI x.c y.c else cmpI x.b y.b) else cmpI x.a y.a
  | 1 => if cmpI x.b y.b = 0 then cmpI x.c y.c else cmpI x.b y.b
  | 2 => cmpI x.c y.c
  | _ => 0
def cmp3 (x y : Ver) : Int := restC x y 0
theorem numbers_any (w : World) (a b c : Int) :
    Calls Tryd.prog 32 #[.agg #[.int .i64 a, .int .i64 b, .int .i64 c]] w fun e w' => e = .returned (.agg #[.int .i64 a, .int .i64 b, .int .i64 c]) ∧ Below w.heap.size w w' := by
  go_enter Tryd.func32, Tryd.ntmps32
  go_wp2_with fail
  exact bodyPost_ret (v := .agg #[.int .i64 a, .int .i64 b, .int .i64 c]) (res1 rfl _ (w.heap.size + 1) 66 _ _ rfl (Blk.new' (by simp)) Tryd.underlying66 rfl (by kernel_rfl)) rfl ⟨rfl, below2 _ _ _⟩
theorem isnan_any (w : World) (x : Int) :
    Calls Tryd.prog 52 #[.int .i64 x] w fun e w' => e = .returned (.bool false) ∧ w = w' := by
  have hx : (x != x) = false := by simp
  go_enter Tryd.func52, Tryd.ntmps52
  go_wp2_with fail
  go_ret
  exact ⟨rfl, rfl⟩
theorem cmpone_any (w : World) (x y : Int) (r : Int) (hr : cmpI x y = r) :
    Calls Tryd.prog 49 #[.int .i64 x, .int .i64 y] w fun e w' => e = .returned (.int .i64 r) ∧ w = w' := by
  have HI := hide isnan_any
  by_cases h1 : x < y
  · obtain rfl : r = -1 := by rw [← hr, cmpI, if_pos h1]
    clear hr
    go_enter Tryd.func49, Tryd.ntmps49
    go_wp2_with (refine (unhide HI _ _).mono ?_; rintro e w' ⟨rfl, rfl⟩)
    go_ret
    exact ⟨rfl, rfl⟩
  · by_cases h2 : y < x
    · obtain rfl : r = 1 := by rw [← hr, cmpI, if_neg h1, if_pos h2]
      clear hr
      go_enter Tryd.func49, Tryd.ntmps49
      go_wp2_with (refine (unhide HI _ _).mono ?_; rintro e w' ⟨rfl, rfl⟩)
      go_ret
      exact ⟨rfl, rfl⟩
    · obtain rfl : r = 0 := by rw [← hr, cmpI, if_neg h1, if_neg h2]
      clear hr
      go_enter Tryd.func49, Tryd.ntmps49
      go_wp2_with (refine (unhide HI _ _).mono ?_; rintro e w' ⟨rfl, rfl⟩)
      go_ret
      exact ⟨rfl, rfl⟩
theorem cmpI_lim (x y : Int) : -1 ≤ cmpI x y ∧ cmpI x y ≤ 1 := by
  unfold cmpI
  split
  · omega
  · split <;> omega
set_option maxHeartbeats 1000000 in
theorem compare_any (w : World) (x y : Ver) (r : Int) (hr : cmp3 x y = r) :
    Calls Tryd.prog 33 #[.agg x.c3, .agg y.c3] w fun e w' => e = .returned (.int .i64 r) ∧ Below w.heap.size w w' := by
  have hr0 : restC x y 0 = r := hr
  have HR := hide hr0
  clear hr hr0
  show Calls Tryd.prog 33 #[.agg #[.int .i64 x.a, .int .i64 x.b, .int .i64 x.c], .agg #[.int .i64 y.a, .int .i64 y.b, .int .i64 y.c]] w _
  obtain ⟨W2, hW2⟩ : ∃ W2, (w.alloc (.cells x.c3 66)).alloc (.cells y.c3 66) = W2 := ⟨_, rfl⟩
  have H1 : Hid (Blk W2 w.heap.size 66 x.c3) := hide (hW2 ▸ (Blk.new w _ _).alloc _)
  have H2 : Hid (Blk W2 (w.heap.size + 1) 66 y.c3) := hide (hW2 ▸ Blk.new' (by simp))
  have B0 : Hid (Below w.heap.size w W2) := hide (hW2 ▸ below2 _ _ _)
  have HW := hide hW2
  clear hW2
  go_enter Tryd.func33, Tryd.ntmps33
  go_wp2_with fail
  have hw2 := unhide HW
  simp only [Ver.c3] at hw2
  rw [hw2]
  clear hw2
  go_loopw [7] (fun i wr => ∃ k : Nat, k ≤ 3 ∧ i = .int .i64 k ∧ restC x y k = r ∧ Below W2.heap.size W2 wr) (fun i _ => 3 - (intOf i).toNat)
  case atStart => exact ⟨0, by omega, rfl, unhide HR, Below.refl _ _⟩
  case round =>
    obtain ⟨k, hk, rfl, hrk, hB⟩ := hrel
    have HBW := hide hB
    have HBT := hide ((unhide B0).trans (hB.mono (unhide B0).size))
    clear hB
    have HCM := hide cmpone_any
    by_cases hlt : k < 3
    · obtain ⟨p, q, hp, hq, hn, hz⟩ : ∃ p q : Int, x.c3[k]? = some (.int .i64 p) ∧ y.c3[k]? = some (.int .i64 q) ∧ (¬ cmpI p q = 0 → cmpI p q = r) ∧ (cmpI p q = 0 → restC x y (k + 1) = r) := by
        have h3 : k = 0 ∨ k = 1 ∨ k = 2 := by omega
        rcases h3 with rfl | rfl | rfl
        · exact ⟨x.a, y.a, rfl, rfl, fun h => by rw [← hrk, restC, if_neg h], fun h => by rw [← hrk, restC, if_pos h]; rfl⟩
        · exact ⟨x.b, y.b, rfl, rfl, fun h => by rw [← hrk, restC, if_neg h], fun h => by rw [← hrk, restC, if_pos h]; rfl⟩
        · exact ⟨x.c, y.c, rfl, rfl, fun h => hrk, fun h => by rw [← hrk]; exact h.symm⟩
      have c1 : wr.cell? ⟨w.heap.size, k, none⟩ = some (.int .i64 p) := (((unhide H1).below (unhide HBW) (unhide H1).lt).cell k).trans hp
      have c2 : wr.cell? ⟨w.heap.size + 1, k, none⟩ = some (.int .i64 q) := (((unhide H2).below (unhide HBW) (unhide H2).lt).cell k).trans hq
      obtain ⟨s, hs⟩ : ∃ s, cmpI p q = s := ⟨_, rfl⟩
      rw [hs] at hn hz
      have HS := hide hs
      have HN := hide hn
      have HZ := hide hz
      have h3 : k = 0 ∨ k = 1 ∨ k = 2 := by omega
      clear hs hn hz hrk hp hq hk hlt
      by_cases h0 : s = 0
      · have h1 : (s != 0) = false := by simpa using h0
        subst h0
        rcases h3 with rfl | rfl | rfl
        all_goals
          go_wp2_with fail
          go_quiet ((go_at_call 49; exact Calls.quiet_of_same (still_of (unhide HCM _ p q _ (unhide HS)))))
          go_wp2_with fail
          go_roundw
          case rel => exact ⟨_, by omega, by go_num, unhide HZ (by trivial), below_drewN (unhide HBW) _⟩
          case measure => simp [intOf]
      · have h1 : (s != 0) = true := by simpa using h0
        obtain rfl : s = r := unhide HN h0
        clear h0
        rcases h3 with rfl | rfl | rfl
        all_goals
          go_wp2_with fail
          go_quiet ((go_at_call 49; exact Calls.quiet_of_same (still_of (unhide HCM _ p q _ (unhide HS)))))
          go_wp2_with fail
          go_ret
          exact ⟨rfl, below_drewN (unhide HBT) _⟩
    · obtain rfl : k = 3 := by omega
      subst hrk
      simp only [restC]
      go_wp2_with fail
      go_ret
      exact ⟨rfl, unhide HBT⟩
end Go.Proofs.YtbcbleonpaemgaaDoor
