/- The reference's find returns findF. No condition. -/
import Derived.Test.YtbcbleonpaemgaaDoorVRefA
namespace Go.Proofs.YtbcbleonpaemgaaDoor
open Go.RowKit
set_option maxRecDepth 100000 in
set_option maxHeartbeats 2000000 in
theorem rfind_any (w : World) (A : Option Addr) (n c : Nat) (hn : n ≤ c) (hc : c ≤ maxLen) (L : Nat → Inst) (hL : InstAt w w.heap.size A n L) (name : List UInt8) (r : Ver × Bool) (hr : findF L n name = r) :
    Calls Tryd.prog 45 #[.slice A n c, .string ⟨name.toArray⟩] w fun e w' => e = .returned (.tuple #[.agg #[.int .i64 r.1.a, .int .i64 r.1.b, .int .i64 r.1.c], .bool r.2]) ∧ Below w.heap.size w w' := by
  have hr0 : findG L name (n - 0) 0 = r := hr
  have HR := hide hr0
  have HL := hide hL
  have hn2 : n ≤ 9223372036854775807 := by unfold maxLen at hc; omega
  clear hr hr0 hL
  have H0 := hide (Blk.new w 26 zeroV.c3)
  have B0 := hide ((Below.refl w.heap.size w).alloc (Nat.le_refl _) (.cells zeroV.c3 26))
  go_enter Tryd.func45, Tryd.ntmps45
  go_wp2_with fail
  go_loopw [6] (fun i wr => ∃ k : Nat, k ≤ n ∧ i = .int .i64 k ∧ findG L name (n - k) k = r ∧ Blk wr w.heap.size 26 zeroV.c3 ∧ Below w.heap.size w wr) (fun i _ => n - (intOf i).toNat)
  case atStart => exact ⟨0, by omega, rfl, unhide HR, unhide H0, unhide B0⟩
  case round =>
    obtain ⟨k, hk, rfl, hrk, hb, hB⟩ := hrel
    have HB := hide hb
    have HBW := hide hB
    clear hb hB
    by_cases hlt : k < n
    · rw [findG_step L name n k hlt] at hrk
      obtain ⟨gb, go, rfl, hgb, _, c0, c1, c2, c3⟩ := (unhide HL).below (unhide HBW) k hlt
      obtain ⟨⟨s, ⟨va, vb, vc⟩⟩, hs⟩ : ∃ x, L k = x := ⟨_, rfl⟩
      rw [hs] at hrk c0 c1 c2 c3
      dsimp only at hrk c0 c1 c2 c3
      have hlt2 : (k : Int) < (n : Int) := by omega
      have hw := (unhide HB).lt
      clear hs
      by_cases heq : s = name
      · subst heq
        rw [if_pos rfl] at hrk
        obtain rfl : r = (⟨va, vb, vc⟩, true) := hrk.symm
        clear hrk
        have HB2 := HB
        have HBW2 := HBW
        go_wp2_with (first
          | (refine wpList_store_blk rfl 26 (.tmp 4) (.tmp 24) rfl w.heap.size 26 _ #[.int .i64 va, .int .i64 vb, .int .i64 vc] rfl rfl (unhide HB2) rfl (by kernel_rfl) (by intro v hv; simp at hv; rcases hv with rfl | rfl | rfl <;> rfl) ?_
             intro we hbe hge
             have HE := hide hbe
             have BE := hide ((unhide HBW2).grown hge (unhide HBW2).size (fun g e => by injection e with e; omega))
             clear hbe hge)
          | fail)
        exact bodyPost_ret (v := .tuple #[.agg #[.int .i64 va, .int .i64 vb, .int .i64 vc], .bool true]) (res2 rfl _ w.heap.size 26 #[.int .i64 va, .int .i64 vb, .int .i64 vc] _ _ rfl rfl (unhide HE) Tryd.underlying26 rfl (by kernel_rfl)) rfl ⟨rfl, unhide BE⟩
      · rw [if_neg heq] at hrk
        have HRK := hide hrk
        have hne : (s == name) = false := by simpa using heq
        have HB2 := HB
        have HBW2 := HBW
        clear hrk heq
        go_wp2_with fail
        go_roundw
        case rel => exact ⟨k + 1, by omega, by go_num, unhide HRK, unhide HB2, unhide HBW2⟩
        case measure => simp [intOf]; omega
    · obtain rfl : k = n := by omega
      rw [Nat.sub_self] at hrk
      obtain rfl : r = (zeroV, false) := hrk.symm
      clear hrk
      go_wp2_with (first
        | (refine wpList_store_blk rfl 26 (.tmp 4) (.tmp 25) rfl w.heap.size 26 _ #[.int .i64 0, .int .i64 0, .int .i64 0] rfl rfl (unhide HB) rfl (by kernel_rfl) (by intro v hv; simp at hv; rcases hv with rfl | rfl | rfl <;> rfl) ?_
           intro we hbe hge
           have HE := hide hbe
           have BE := hide ((unhide HBW).grown hge (unhide HBW).size (fun g e => by injection e with e; omega))
           clear hbe hge)
        | fail)
      exact bodyPost_ret (v := .tuple #[.agg #[.int .i64 0, .int .i64 0, .int .i64 0], .bool false]) (res2 rfl _ w.heap.size 26 #[.int .i64 0, .int .i64 0, .int .i64 0] _ _ rfl rfl (unhide HE) Tryd.underlying26 rfl (by kernel_rfl)) rfl ⟨rfl, unhide BE⟩
end Go.Proofs.YtbcbleonpaemgaaDoor
