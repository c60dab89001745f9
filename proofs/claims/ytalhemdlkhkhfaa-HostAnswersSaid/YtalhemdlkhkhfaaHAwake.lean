/- The law's awake: true. -/
import Derived.Test.YtalhemdlkhkhfaaHStep
namespace Go.Proofs.Ytalhemdlkhkhfaa
open Go.RowKit
def HH.c (x : HH) : Array Value := #[.bool x.p, .bool x.r, .bool x.h, .bool x.s, .bool x.l, .int .i64 x.b]
theorem HH.one (x : HH) : ∀ v ∈ x.c.toList, v.oneCell' = true := by
  intro v hv
  simp [HH.c] at hv
  rcases hv with rfl | rfl | rfl | rfl | rfl | rfl <;> rfl
/-- A host that is switched on, after n ticks. -/
def traceH (n : Nat) : HH := if n = 0 then ⟨false, false, false, false, false, 0⟩ else ⟨true, decide (21 ≤ n), false, false, false, ((21 - n : Nat) : Int)⟩
theorem trace_valid (n : Nat) : validH (traceH n) = true := by
  unfold traceH
  split
  · rfl
  · by_cases h : 21 ≤ n
    · have e : 21 - n = 0 := by omega
      simp [validH, e]
    · simp [validH, h]
      omega
theorem trace_step (n : Nat) : stepH (traceH n) true false false = traceH (n + 1) := by
  unfold traceH
  by_cases h : n = 0
  · subst h
    rfl
  · rw [if_neg h, if_neg (by omega)]
    by_cases h2 : 21 ≤ n
    · have e : 21 - n = 0 := by omega
      have e2 : 21 - (n + 1) = 0 := by omega
      have h3 : 21 ≤ n + 1 := by omega
      simp [stepH, chain, offF, onF, bootF, stopF, e, e2, h2, h3]
    · have h3 : 0 < 21 - n := by omega
      have e : ((21 - (n + 1) : Nat) : Int) = ((21 - n : Nat) : Int) - 1 := by omega
      have h4 : decide (((21 - n : Nat) : Int) = 1) = decide (21 ≤ n + 1) := by
        congr 1
        apply propext
        omega
      simp only [stepH, chain, offF, onF, bootF, stopF, e]
      simp [h2, h3, h4]
theorem trace_kick (n : Nat) : kickR (traceH (n + 1)) = decide (20 ≤ n) := by
  simp [kickR, traceH]
theorem trace_good (n : Nat) : goodR (traceH (n + 1)) = true := by
  simp [goodR, traceH]
theorem trace_done (n : Nat) : doneR (traceH (n + 1)) false = false := by
  simp [doneR]
set_option maxRecDepth 100000 in
set_option maxHeartbeats 2000000 in
theorem awake_any (w : World) : Calls Try.prog 6 #[] w fun e w' => e = .returned (.bool true) ∧ Below w.heap.size w w' := by
  have hb0 := Blk.new w 23 (traceH 0).c
  have hB0 := (Below.refl w.heap.size w).alloc (Nat.le_refl _) (.cells (traceH 0).c 23)
  have H0 := hide hb0
  have B0 := hide hB0
  clear hb0 hB0
  go_enter Try.func6, Try.ntmps6
  go_wp2_with fail
  go_loopw [2] (fun i wr => ∃ n : Nat, n ≤ 21 ∧ i = .int .i64 n ∧ Blk wr w.heap.size 23 (traceH n).c ∧ Below w.heap.size w wr)
    (fun i _ => 21 - (intOf i).toNat)
  case atStart => exact ⟨0, by omega, rfl, unhide H0, unhide B0⟩
  case round =>
    obtain ⟨n, hn, rfl, hb, hB⟩ := hrel
    have H1 := hide hb
    have B1 := hide hB
    have hlt1 : w.heap.size < wr.heap.size := hb.lt
    have hrun : wr.cell? ⟨w.heap.size, 1, none⟩ = some (.bool (traceH n).r) := by rw [hb.cell]; rfl
    clear hb hB
    by_cases hlt : n ≤ 20
    · clear hrun
      go_wp2_with (first
        | (refine wpList_load_row rfl 23 _ rfl w.heap.size rfl 23 _ _ _ (unhide H1) Try.underlying23 rfl (by kernel_rfl) ?_)
        | fail)
      refine (step_ok wr (traceH n) (trace_valid n) true false false).mono ?_
      rintro e w1 ⟨rfl, hb1⟩
      rw [trace_step]
      obtain ⟨kk, hkk, hk2⟩ : ∃ kk : Bool, decide (20 ≤ n) = kk ∧ ((n : Int) == 20) = kk := by
        refine ⟨decide (20 ≤ n), rfl, ?_⟩
        by_cases h : n = 20
        · subst h; rfl
        · have h2 : ¬ 20 ≤ n := by omega
          have h3 : ¬ (n : Int) = 20 := by omega
          simp [h2, h3]
      have e1 : repV (traceH (n + 1)) false = .agg #[.bool true, .bool false, .bool kk] := by
        rw [repV, trace_good, trace_done, trace_kick, hkk]
      rw [e1]
      have H2 := hide ((unhide H1).below hb1 hlt1)
      have B2 := hide ((unhide B1).trans (hb1.mono (unhide B1).size))
      have hlt2 : w.heap.size < w1.heap.size := (unhide H2).lt
      clear hb1 e1 hkk
      obtain ⟨y, hy⟩ : ∃ y, traceH (n + 1) = y := ⟨_, rfl⟩
      rw [hy]
      have HY := Lib.hid hy
      obtain ⟨yp, yr, yh, ys, yl, yb⟩ := y
      simp only [HH.v]
      clear hy
      have H3 := hide (((unhide H2).alloc (.cells #[.bool yp, .bool yr, .bool yh, .bool ys, .bool yl, .int .i64 yb] 23)).alloc (.cells #[.bool true, .bool false, .bool kk] 35))
      have B3 := hide (((unhide B2).alloc (unhide B2).size (.cells #[.bool yp, .bool yr, .bool yh, .bool ys, .bool yl, .int .i64 yb] 23)).alloc (by rw [size_alloc]; have := (unhide B2).size; omega) (.cells #[.bool true, .bool false, .bool kk] 35))
      have R3 : Hid (Blk ((w1.alloc (.cells #[.bool yp, .bool yr, .bool yh, .bool ys, .bool yl, .int .i64 yb] 23)).alloc (.cells #[.bool true, .bool false, .bool kk] 35)) (w1.heap.size + 1) 35 #[.bool true, .bool false, .bool kk]) := hide (Blk.new' (by simp))
      go_wp2_with (first
        | (refine wpList_store_blk rfl 23 (.tmp 1) (.tmp 17) rfl w.heap.size 23 _ #[.bool yp, .bool yr, .bool yh, .bool ys, .bool yl, .int .i64 yb] rfl rfl (unhide H3) rfl (by kernel_rfl) (HH.one ⟨yp, yr, yh, ys, yl, yb⟩) ?_
           intro w4 hb4 hg4
           have H4 := hide hb4
           have B4 := hide ((unhide B3).grown hg4 (unhide B3).size (fun g e => by injection e; omega))
           have r4 := (unhide R3).grown hg4 (fun e => by injection e; omega)
           have c40 : w4.cell? ⟨w1.heap.size + 1, 0, none⟩ = some (.bool true) := (by rw [r4.cell]; rfl)
           have c42 : w4.cell? ⟨w1.heap.size + 1, 2, none⟩ = some (.bool kk) := (by rw [r4.cell]; rfl)
           clear hb4 hg4 r4)
        | fail)
      go_roundw
      case rel =>
        refine ⟨n + 1, by omega, by go_num, ?_, unhide B4⟩
        rw [HY.out]
        exact unhide H4
      case measure => simp [intOf]; omega
    · obtain rfl : n = 21 := by omega
      rw [show ((21 : Nat) : Int) = 21 from rfl]
      have e : (traceH 21).r = true := rfl
      rw [e] at hrun
      go_wp2_with fail
      go_ret
      exact ⟨rfl, unhide B1⟩
end Go.Proofs.Ytalhemdlkhkhfaa
