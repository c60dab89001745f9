/- The law MicroSums, walked: it returns true. -/
import Derived.Test.YtcebjipekodmpaaDoorMDice
import Derived.Test.YtcebjipekodmpaaDoorMRefRoot
import Derived.Lib.SmallJoins
namespace Go.Proofs.YtcebjipekodmpaaDoor
open Go.RowKit
theorem rclamp_at (w : World) (a x : Int) (h : clampF a = x) : Calls Tryd.prog 24 #[.int .i64 a] w fun e w' => e = .returned (.int .i64 x) ∧ w = w' := by subst h; exact ref_clamp w a
theorem radd_at (w : World) (a b x : Int) (h : addF a b = x) : Calls Tryd.prog 26 #[.int .i64 a, .int .i64 b] w fun e w' => e = .returned (.int .i64 x) ∧ w = w' := by subst h; exact ref_add w a b
theorem rsub_at (w : World) (a b x : Int) (h : subF a b = x) : Calls Tryd.prog 28 #[.int .i64 a, .int .i64 b] w fun e w' => e = .returned (.int .i64 x) ∧ w = w' := by subst h; exact ref_sub w a b
theorem rmul_at (w : World) (a b x : Int) (h : mulF a b = x) : Calls Tryd.prog 29 #[.int .i64 a, .int .i64 b] w fun e w' => e = .returned (.int .i64 x) ∧ w = w' := by subst h; exact ref_mul w a b
theorem rdiv_at (w : World) (a b x y : Int) (h : divF a b = x) (h2 : divE b = y) : Calls Tryd.prog 18 #[.int .i64 a, .int .i64 b] w fun e w' => e = .returned (.tuple #[.int .i64 x, .int .i64 y]) ∧ w = w' := by subst h; subst h2; exact ref_div w a b
theorem rroot_at (w : World) (a x y : Int) (h : rootF a = x) (h2 : rootE a = y) : Calls Tryd.prog 20 #[.int .i64 a] w fun e w' => e = .returned (.tuple #[.int .i64 x, .int .i64 y]) ∧ w = w' := by subst h; subst h2; exact ref_root w a
theorem gPow0 : Tryd.prog.globalNamed "internal/strconv.uint64pow10" = some 6 := by kernel_rfl
theorem tab_below {w w' : World} (h : Lib.TabIs Tryd.prog w "internal/strconv.uint64pow10" .u64 Lib.pow10Tab) (hb : Below w.heap.size w w') : Lib.TabIs Tryd.prog w' "internal/strconv.uint64pow10" .u64 Lib.pow10Tab :=
  Go.Joins.tab_stays gPow0 h hb (Nat.le_refl _)
theorem long_light (n : Nat) (h : 600 < n) : decide (n ≤ 600) = false := by simp; omega
theorem awake_below (w w' : World) (n : Nat) (htab : Lib.TabIs Tryd.prog w "internal/strconv.uint64pow10" .u64 Lib.pow10Tab) (hb : Below w.heap.size w w') :
    Calls Tryd.prog 14 #[] (w'.drewN n) fun e w2 => e = .returned (.bool true) ∧ Below w.heap.size w w2 :=
  (awake_drew w' n (tab_below htab hb)).mono fun _ _ h => ⟨h.1, hb.trans (h.2.mono hb.size)⟩
set_option maxRecDepth 100000 in
set_option maxHeartbeats 4000000 in
theorem sums_walk (w : World) (a : Int) (_wa : (Lit.int .i64 a).wf = true) (b : Int) (_wb : (Lit.int .i64 b).wf = true) (A : Option Addr) (n c : Nat) (zs : List Int) (_hn : n ≤ c) (_hc : c ≤ maxLen) (hr : Reads w w.heap.size 1 A n (intV zs)) (htab : Lib.TabIs Tryd.prog w "internal/strconv.uint64pow10" .u64 Lib.pow10Tab) :
    Calls Tryd.prog 6 #[.int .i64 a, .int .i64 b, .slice A n c] w fun e w' => e = .returned (.bool true) ∧ Below w.heap.size w w' := by
  have HT := hide htab
  clear htab
  by_cases hl : n ≤ 600
  · have HR := hide hr
    have hd : decide (n ≤ 600) = true := by simpa using hl
    have HDC := Lib.hid hd
    clear hr hd
    go_enter Tryd.func6, Tryd.ntmps6
    go_wp2_with fail
    refine (light_at _ A n c true HDC.out).mono ?_; rintro e w' ⟨rfl, rfl⟩; go_wp2_with fail
    refine (roll_at _ A n c).mono ?_; rintro e w' ⟨rfl, rfl⟩; go_wp2_with fail
    have R0 := hide ((unhide HR).alloc (Nat.le_refl _) (.cells #[.slice A n c, .int .i64 0] 52))
    have B0 := hide ((Below.refl w.heap.size w).alloc (Nat.le_refl _) (.cells #[.slice A n c, .int .i64 0] 52))
    refine (micro_at _ w.heap.size w.heap.size A n c 0 zs (by omega) hl (Blk.new w _ _) (unhide R0) (Nat.le_refl _)).mono ?_
    rintro e w1 ⟨x, k1, x1, x2, hk1, rfl, hb1, hg1⟩
    have R1 := hide ((unhide R0).grown hg1 (by rw [size_alloc]; omega) (fun g' e => by injection e with e; omega))
    have D1 := hide hb1
    have B1 := hide ((unhide B0).grown hg1 (by rw [size_alloc]; omega) (fun g' e => by injection e with e; omega))
    clear hb1 hg1
    go_wp2_with fail
    refine (micro_at w1 w.heap.size w.heap.size A n c k1 zs hk1 hl (unhide D1) (unhide R1) (Nat.le_refl _)).mono ?_
    rintro e w2 ⟨y, k2, y1, y2, hk2, rfl, hb2, hg2⟩
    have B2 := hide ((unhide B1).grown hg2 (by have := (unhide D1).lt; omega) (fun g' e => by injection e with e; omega))
    clear hb2 hg2
    go_wp2_with fail
    refine (clamp_at _ a _ rfl).mono ?_; rintro e w' ⟨rfl, rfl⟩; go_wp2_with fail
    refine (rclamp_at _ a _ rfl).mono ?_; rintro e w' ⟨rfl, rfl⟩; go_wp2_with fail
    refine (add_at _ a b _ rfl).mono ?_; rintro e w' ⟨rfl, rfl⟩; go_wp2_with fail
    refine (radd_at _ a b _ rfl).mono ?_; rintro e w' ⟨rfl, rfl⟩; go_wp2_with fail
    refine (sub_at _ a b _ rfl).mono ?_; rintro e w' ⟨rfl, rfl⟩; go_wp2_with fail
    refine (rsub_at _ a b _ rfl).mono ?_; rintro e w' ⟨rfl, rfl⟩; go_wp2_with fail
    refine (mul_at _ a b _ rfl).mono ?_; rintro e w' ⟨rfl, n1, rfl⟩; go_wp2_with fail
    refine (rmul_at _ a b _ rfl).mono ?_; rintro e w' ⟨rfl, rfl⟩; go_wp2_with fail
    refine (add_at _ x y _ rfl).mono ?_; rintro e w' ⟨rfl, rfl⟩; go_wp2_with fail
    refine (radd_at _ x y _ rfl).mono ?_; rintro e w' ⟨rfl, rfl⟩; go_wp2_with fail
    refine (sub_at _ x y _ rfl).mono ?_; rintro e w' ⟨rfl, rfl⟩; go_wp2_with fail
    refine (rsub_at _ x y _ rfl).mono ?_; rintro e w' ⟨rfl, rfl⟩; go_wp2_with fail
    refine (mul_at _ x y _ rfl).mono ?_; rintro e w' ⟨rfl, n2, rfl⟩; go_wp2_with fail
    refine (rmul_at _ x y _ rfl).mono ?_; rintro e w' ⟨rfl, rfl⟩; go_wp2_with fail
    refine (awake_below w w2 _ (unhide HT) (unhide B2)).mono ?_
    rintro e w3 ⟨rfl, hb⟩
    have HB := hide hb
    clear hb
    go_wp2_with fail
    go_ret
    exact ⟨rfl, unhide HB⟩
  · have HDC := Lib.hid (long_light n (by omega))
    clear hr
    go_enter Tryd.func6, Tryd.ntmps6
    go_wp2_with fail
    refine (light_at _ A n c false HDC.out).mono ?_; rintro e w' ⟨rfl, rfl⟩; go_wp2_with fail
    refine (awake_any _ (unhide HT)).mono ?_
    rintro e w3 ⟨rfl, hb⟩
    have HB := hide hb
    clear hb
    go_wp2_with fail
    go_ret
    exact ⟨rfl, unhide HB⟩
end Go.Proofs.YtcebjipekodmpaaDoor
