/- The law MicroQuotients, walked: it returns true. -/
import Derived.Test.YtcebjipekodmpaaDoorMSums
namespace Go.Proofs.YtcebjipekodmpaaDoor
open Go.RowKit
theorem pair_at (a b x y : Int) (k : Nat) (hk : k < 4) :
    ∃ p q : Int, (#[Value.int .i64 a, .int .i64 b, .int .i64 x, .int .i64 y, .int .i64 a, .int .i64 y, .int .i64 x, .int .i64 0] : Array Value)[k * 2]? = some (.int .i64 p) ∧ (#[Value.int .i64 a, .int .i64 b, .int .i64 x, .int .i64 y, .int .i64 a, .int .i64 y, .int .i64 x, .int .i64 0] : Array Value)[k * 2 + 1]? = some (.int .i64 q) := by
  have : k = 0 ∨ k = 1 ∨ k = 2 ∨ k = 3 := by omega
  rcases this with rfl | rfl | rfl | rfl <;> exact ⟨_, _, rfl, rfl⟩
set_option maxRecDepth 100000 in
set_option maxHeartbeats 4000000 in
theorem quot_walk (w : World) (a : Int) (_wa : (Lit.int .i64 a).wf = true) (b : Int) (_wb : (Lit.int .i64 b).wf = true) (A : Option Addr) (n c : Nat) (zs : List Int) (_hn : n ≤ c) (_hc : c ≤ maxLen) (hr : Reads w w.heap.size 1 A n (intV zs)) (htab : Lib.TabIs Tryd.prog w "internal/strconv.uint64pow10" .u64 Lib.pow10Tab) :
    Calls Tryd.prog 3 #[.int .i64 a, .int .i64 b, .slice A n c] w fun e w' => e = .returned (.bool true) ∧ Below w.heap.size w w' := by
  have HT := hide htab
  clear htab
  by_cases hl : n ≤ 600
  · have HR := hide hr
    have hd : decide (n ≤ 600) = true := by simpa using hl
    have HDC := Lib.hid hd
    clear hr hd
    go_enter Tryd.func3, Tryd.ntmps3
    go_wp2_with fail
    refine (light_at _ A n c true HDC.out).mono ?_; rintro e w' ⟨rfl, rfl⟩; go_wp2_with fail
    refine (roll_at _ A n c).mono ?_; rintro e w' ⟨rfl, rfl⟩; go_wp2_with fail
    have R0 := hide ((unhide HR).alloc (Nat.le_refl _) (.cells #[.slice A n c, .int .i64 0] 52))
    have B0 := hide ((Below.refl w.heap.size w).alloc (Nat.le_refl _) (.cells #[.slice A n c, .int .i64 0] 52))
    refine (micro_at _ w.heap.size w.heap.size A n c 0 zs (by omega) hl (Blk.new w _ _) (unhide R0) (Nat.le_refl _)).mono ?_
    rintro e w1 ⟨x, k1, x1, x2, hk1, rfl, hb1, hg1⟩
    have R1 := hide ((unhide R0).grown hg1 (by rw [size_alloc]; omega) (fun g' e => by injection e with e; omega))
    have D1 := hide hb1
    have B1 := hide ((unhide B0).grown hg1 (by rw [size_alloc]; omega) (fun g' e => by injection e with e; omega))
    clear hb1 hg1
    go_wp2_with fail
    refine (micro_at w1 w.heap.size w.heap.size A n c k1 zs hk1 hl (unhide D1) (unhide R1) (Nat.le_refl _)).mono ?_
    rintro e w2 ⟨y, k2, y1, y2, hk2, rfl, hb2, hg2⟩
    have B2 := hide ((unhide B1).grown hg2 (by have := (unhide D1).lt; omega) (fun g' e => by injection e with e; omega))
    clear hb2 hg2
    have hz2 : w.heap.size ≤ w2.heap.size := (unhide B2).size
    have H3 := hide (Blk.new w2 28 #[.int .i64 a, .int .i64 b, .int .i64 x, .int .i64 y, .int .i64 a, .int .i64 y, .int .i64 x, .int .i64 0])
    have B3 := hide ((unhide B2).alloc hz2 (.cells #[.int .i64 a, .int .i64 b, .int .i64 x, .int .i64 y, .int .i64 a, .int .i64 y, .int .i64 x, .int .i64 0] 28))
    go_wp2_with fail
    go_loopw [43] (fun i wr => ∃ k : Nat, k ≤ 4 ∧ i = .int .i64 k ∧ Blk wr w2.heap.size 28 #[.int .i64 a, .int .i64 b, .int .i64 x, .int .i64 y, .int .i64 a, .int .i64 y, .int .i64 x, .int .i64 0] ∧ Below w.heap.size w wr) (fun i _ => 4 - (intOf i).toNat)
    case atStart => exact ⟨0, by omega, rfl, unhide H3, unhide B3⟩
    case round =>
      obtain ⟨k, hk, rfl, hb, hB⟩ := hrel
      by_cases hlt : k < 4
      · obtain ⟨p, q, hp, hq⟩ := pair_at a b x y k hlt
        have c0 : wr.cell? ⟨w2.heap.size, k * 2, none⟩ = some (.int .i64 p) := (hb.cell _).trans hp
        have c1 : wr.cell? ⟨w2.heap.size, k * 2 + 1, none⟩ = some (.int .i64 q) := (hb.cell _).trans hq
        have HB := hide (hb.alloc (.cells #[.int .i64 p, .int .i64 q] 28))
        have HBW := hide (hB.alloc hB.size (.cells #[.int .i64 p, .int .i64 q] 28))
        clear hb hB hp hq
        go_wp2_with fail
        refine (div_at _ p q _ _ rfl rfl).mono ?_; rintro e w' ⟨rfl, rfl⟩; go_wp2_with fail
        refine (rdiv_at _ p q _ _ rfl rfl).mono ?_; rintro e w' ⟨rfl, rfl⟩; go_wp2_with fail
        refine (root_at _ p _ _ rfl rfl).mono ?_; rintro e w' ⟨rfl, rfl⟩; go_wp2_with fail
        refine (rroot_at _ p _ _ rfl rfl).mono ?_; rintro e w' ⟨rfl, rfl⟩; go_wp2_with fail
        go_roundw
        case rel => exact ⟨k + 1, by omega, by go_num, unhide HB, unhide HBW⟩
        case measure => simp [intOf]; omega
      · obtain rfl : k = 4 := by omega
        have HBW := hide hB
        clear hb hB
        go_wp2_with fail
        refine (awake_below w wr 0 (unhide HT) (unhide HBW)).mono ?_
        rintro e w3 ⟨rfl, hb⟩
        have HB := hide hb
        clear hb
        go_wp2_with fail
        go_ret
        exact ⟨rfl, unhide HB⟩
  · have HDC := Lib.hid (long_light n (by omega))
    clear hr
    go_enter Tryd.func3, Tryd.ntmps3
    go_wp2_with fail
    refine (light_at _ A n c false HDC.out).mono ?_; rintro e w' ⟨rfl, rfl⟩; go_wp2_with fail
    refine (awake_any _ (unhide HT)).mono ?_
    rintro e w3 ⟨rfl, hb⟩
    have HB := hide hb
    clear hb
    go_wp2_with fail
    go_ret
    exact ⟨rfl, unhide HB⟩
end Go.Proofs.YtcebjipekodmpaaDoor
