/- version.Valid returns validV, version.Name returns nameF. No condition. -/
import Derived.Test.YtbcbleonpaemgaaDoorVVer
import Derived.ChangeKeysEq
namespace Go.Proofs.YtbcbleonpaemgaaDoor
open Go.RowKit
section
variable {P : Program} {w : World}
theorem run_index_arr (t e : TypeId) (n : Nat) (cs : Array Value) (k : IntKind) (j : Nat) (v : Value) (i : TypeInfo) (h : P.underlying t = some (.array n e)) (he : P.plainKey e = true) (hi : P.info? e = some i) (hc : P.cellsOf e = 1) (hj : j < n) (hv : cs[j]? = some v) :
    (Instr.index t (.agg cs) (.int k (j : Int))).run P w = .ok v w := by
  have hn : (0 : Int) ≤ (j : Int) ∧ (j : Int) < (n : Int) := by omega
  have hp := run_part_plain w he hv
  simp only [Instr.index, run_underlying h, asIntOf, Sem.run_bind, Sem.run_pure, Result.andThen_ok]
  rw [if_pos hn]
  simp only [run_sizeOf w hi, hc, Sem.run_bind, Result.andThen_ok, Nat.mul_one, Int.toNat_natCast]
  exact hp
theorem wpList_index_arr {ops : Array Oper} {rest : List Oper} {op : Oper} {a : Act} {Q : Exit → Act → World → Prop} (hgd : op.guard = none) (t e : TypeId) (n : Nat) (x y : Operand) (ho : op.op = .index t x y)
    (cs : Array Value) (k : IntKind) (j : Nat) (v : Value) (i : TypeInfo) (hx : a.eval x = .agg cs) (hy : a.eval y = .int k (j : Int)) (h : P.underlying t = some (.array n e)) (he : P.plainKey e = true) (hi : P.info? e = some i) (hc : P.cellsOf e = 1) (hj : j < n) (hv : cs[j]? = some v)
    (hk : wpList P ops Q rest (a.put op.dst v) w) : wpList P ops Q (op :: rest) a w := by
  refine wpList_plain hgd fun _ hK => ?_
  unfold Oper.wp execOp
  simp only [ho, hx, hy, Sem.run_bind, Sem.run_pure, Result.andThen_ok, run_index_arr t e n cs k j v i h he hi hc hj hv]
  exact hK _ _ hk
end
def inN (x : Int) : Bool := decide (0 ≤ x) && decide (x ≤ 999)
def validR (v : Ver) : Nat → Bool
  | 0 => inN v.a && (inN v.b && inN v.c)
  | 1 => inN v.b && inN v.c
  | 2 => inN v.c
  | _ => true
def validV (v : Ver) : Bool := validR v 0
set_option maxRecDepth 100000 in
set_option maxHeartbeats 1000000 in
theorem val_any (w : World) (x : Ver) (r : Bool) (hr : validV x = r) :
    Calls Tryd.prog 14 #[.agg #[.int .i64 x.a, .int .i64 x.b, .int .i64 x.c]] w fun e w' => e = .returned (.bool r) ∧ Below w.heap.size w w' := by
  have hr0 : validR x 0 = r := hr
  have HR := hide hr0
  have HN := hide numbers_any
  clear hr hr0
  go_enter Tryd.func14, Tryd.ntmps14
  go_wp2_with fail
  refine (unhide HN _ _ _ _).mono ?_
  rintro e w1 ⟨rfl, hb1⟩
  have B1 := hide (((Below.refl w.heap.size w).alloc (Nat.le_refl _) _).trans (hb1.mono (by simp)))
  clear hb1
  go_wp2_with fail
  go_loop [7] (fun i => ∃ k : Nat, k ≤ 3 ∧ i = .int .i64 k ∧ validR x k = r) (fun i => 3 - (intOf i).toNat)
  case atStart => exact ⟨0, by omega, rfl, unhide HR⟩
  case round =>
    obtain ⟨k, hk, rfl, hrk⟩ := hrel
    by_cases hlt : k < 3
    · have h3 : k = 0 ∨ k = 1 ∨ k = 2 := by omega
      clear hlt hk
      obtain ⟨xa, xb, xc⟩ := x
      rcases h3 with rfl | rfl | rfl
      all_goals simp only [validR] at hrk
      · by_cases h1 : xa < 0
        · obtain rfl : false = r := by rw [← hrk]; simp [inN]; omega
          clear hrk
          go_wp2_with (refine wpList_index_arr rfl 66 3 3 _ _ rfl #[.int .i64 xa, .int .i64 xb, .int .i64 xc] .i64 0 (.int .i64 _) _ rfl rfl Tryd.underlying66 (by kernel_rfl) rfl (by kernel_rfl) (by omega) rfl ?_)
          go_ret
          exact ⟨rfl, unhide B1⟩
        · by_cases h2 : 999 < xa
          · obtain rfl : false = r := by rw [← hrk]; simp [inN]; omega
            clear hrk
            go_wp2_with (refine wpList_index_arr rfl 66 3 3 _ _ rfl #[.int .i64 xa, .int .i64 xb, .int .i64 xc] .i64 0 (.int .i64 _) _ rfl rfl Tryd.underlying66 (by kernel_rfl) rfl (by kernel_rfl) (by omega) rfl ?_)
            go_ret
            exact ⟨rfl, unhide B1⟩
          · have hrest : (inN xb && inN xc) = r := by rw [← hrk]; simp [inN, show 0 ≤ xa by omega, show xa ≤ 999 by omega]
            have HREST := hide hrest
            clear hrk hrest
            go_wp2_with (refine wpList_index_arr rfl 66 3 3 _ _ rfl #[.int .i64 xa, .int .i64 xb, .int .i64 xc] .i64 0 (.int .i64 _) _ rfl rfl Tryd.underlying66 (by kernel_rfl) rfl (by kernel_rfl) (by omega) rfl ?_)
            go_round
            case rel => exact ⟨1, by omega, by go_num, unhide HREST⟩
            case measure => simp [intOf]
      · by_cases h1 : xb < 0
        · obtain rfl : false = r := by rw [← hrk]; simp [inN]; omega
          clear hrk
          go_wp2_with (refine wpList_index_arr rfl 66 3 3 _ _ rfl #[.int .i64 xa, .int .i64 xb, .int .i64 xc] .i64 1 (.int .i64 _) _ rfl rfl Tryd.underlying66 (by kernel_rfl) rfl (by kernel_rfl) (by omega) rfl ?_)
          go_ret
          exact ⟨rfl, unhide B1⟩
        · by_cases h2 : 999 < xb
          · obtain rfl : false = r := by rw [← hrk]; simp [inN]; omega
            clear hrk
            go_wp2_with (refine wpList_index_arr rfl 66 3 3 _ _ rfl #[.int .i64 xa, .int .i64 xb, .int .i64 xc] .i64 1 (.int .i64 _) _ rfl rfl Tryd.underlying66 (by kernel_rfl) rfl (by kernel_rfl) (by omega) rfl ?_)
            go_ret
            exact ⟨rfl, unhide B1⟩
          · have hrest : inN xc = r := by rw [← hrk]; simp [inN, show 0 ≤ xb by omega, show xb ≤ 999 by omega]
            have HREST := hide hrest
            clear hrk hrest
            go_wp2_with (refine wpList_index_arr rfl 66 3 3 _ _ rfl #[.int .i64 xa, .int .i64 xb, .int .i64 xc] .i64 1 (.int .i64 _) _ rfl rfl Tryd.underlying66 (by kernel_rfl) rfl (by kernel_rfl) (by omega) rfl ?_)
            go_round
            case rel => exact ⟨2, by omega, by go_num, unhide HREST⟩
            case measure => simp [intOf]
      · by_cases h1 : xc < 0
        · obtain rfl : false = r := by rw [← hrk]; simp [inN]; omega
          clear hrk
          go_wp2_with (refine wpList_index_arr rfl 66 3 3 _ _ rfl #[.int .i64 xa, .int .i64 xb, .int .i64 xc] .i64 2 (.int .i64 _) _ rfl rfl Tryd.underlying66 (by kernel_rfl) rfl (by kernel_rfl) (by omega) rfl ?_)
          go_ret
          exact ⟨rfl, unhide B1⟩
        · by_cases h2 : 999 < xc
          · obtain rfl : false = r := by rw [← hrk]; simp [inN]; omega
            clear hrk
            go_wp2_with (refine wpList_index_arr rfl 66 3 3 _ _ rfl #[.int .i64 xa, .int .i64 xb, .int .i64 xc] .i64 2 (.int .i64 _) _ rfl rfl Tryd.underlying66 (by kernel_rfl) rfl (by kernel_rfl) (by omega) rfl ?_)
            go_ret
            exact ⟨rfl, unhide B1⟩
          · have hrest : true = r := by rw [← hrk]; simp [inN]; omega
            have HREST := hide hrest
            clear hrk hrest
            go_wp2_with (refine wpList_index_arr rfl 66 3 3 _ _ rfl #[.int .i64 xa, .int .i64 xb, .int .i64 xc] .i64 2 (.int .i64 _) _ rfl rfl Tryd.underlying66 (by kernel_rfl) rfl (by kernel_rfl) (by omega) rfl ?_)
            go_round
            case rel => exact ⟨3, by omega, by go_num, unhide HREST⟩
            case measure => simp [intOf]
    · obtain rfl : k = 3 := by omega
      obtain rfl : true = r := hrk
      go_wp2_with fail
      go_ret
      exact ⟨rfl, unhide B1⟩
end Go.Proofs.YtbcbleonpaemgaaDoor
