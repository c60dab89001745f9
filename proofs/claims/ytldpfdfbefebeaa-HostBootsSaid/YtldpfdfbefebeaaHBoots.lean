/- The law HostBoots, walked: it returns true; nothing that was there turns. -/
import Derived.Test.YtldpfdfbefebeaaHAwake
import Derived.Test.YtldpfdfbefebeaaHAct
namespace Go.Proofs.Ytldpfdfbefebeaa
open Go.RowKit
theorem trace_reset (n : Nat) (h : 1 ≤ n) : stepH (traceH n) true true false = traceH 1 := by
  unfold traceH
  rw [if_neg (by omega), if_neg (by omega)]
  simp [stepH, chain, offF, onF, bootF, stopF, beginF]
theorem trace_end (m : Nat) (h : 1 ≤ m) : traceH (m + 20) = ⟨true, true, false, false, false, 0⟩ := by
  unfold traceH
  rw [if_neg (by omega), decide_eq_true (show 21 ≤ m + 20 by omega), show 21 - (m + 20) = 0 by omega]
  rfl
set_option maxRecDepth 100000 in
set_option maxHeartbeats 4000000 in
theorem boots_any (w : World) (reset : Bool) (ac wa : Nat) (hac : ac < 256) (hwa : wa < 256) :
    Calls Try.prog 5 #[.bool reset, .int .u8 (ac : Int), .int .u8 (wa : Int)] w fun e w' => e = .returned (.bool true) ∧ Below w.heap.size w w' := by
  obtain ⟨wt, hwt⟩ : ∃ wt, wa % 40 = wt := ⟨_, rfl⟩
  have hwti : (wa : Int) % 40 = (wt : Int) := by omega
  have hwl : wt < 40 := by omega
  have HA := hide awake_any
  go_enter Try.func5, Try.ntmps5
  go_wp2_with fail
  refine (unhide HA _).mono ?_
  rintro e w1 ⟨rfl, hb1⟩
  have B1 := hide hb1
  clear hb1
  go_wp2_with fail
  refine (step_ok w1 (traceH 0) (trace_valid 0) true false false).mono ?_
  rintro e w2 ⟨rfl, hb2⟩
  have B2 := hide ((unhide B1).trans (hb2.mono (unhide B1).size))
  have hs2 : w.heap.size ≤ w2.heap.size := (unhide B2).size
  have e1 : Value.tuple #[(stepH (traceH 0) true false false).v, repV (stepH (traceH 0) true false false) false, .int .i64 0] = .tuple #[.agg #[.bool true, .bool false, .bool false, .bool false, .bool false, .int .i64 20], .agg #[.bool true, .bool false, .bool false], .int .i64 0] := rfl
  rw [e1]
  clear hb2 e1
  have H3 : Hid (Blk ((w2.alloc (.cells #[.bool true, .bool false, .bool false, .bool false, .bool false, .int .i64 20] 23)).alloc (.cells #[.bool true, .bool false, .bool false] 35)) w2.heap.size 23 (traceH 1).c) := hide ((Blk.new w2 _ _).alloc _)
  have B3 := hide (((unhide B2).alloc hs2 (.cells #[.bool true, .bool false, .bool false, .bool false, .bool false, .int .i64 20] 23)).alloc (by rw [size_alloc]; omega) (.cells #[.bool true, .bool false, .bool false] 35))
  go_wp2_with fail
  go_loopw [9, 10] (fun e i wr => e = .int .i64 0 ∧ ∃ n : Nat, n ≤ wt ∧ i = .int .i64 n ∧ Blk wr w2.heap.size 23 (traceH (1 + n)).c ∧ Below w.heap.size w wr)
    (fun _ i _ => wt - (intOf i).toNat)
  case atStart => exact ⟨rfl, 0, by omega, rfl, unhide H3, unhide B3⟩
  case round =>
    obtain ⟨rfl, n, hn, rfl, hb, hB⟩ := hrel
    have HL := hide hb
    have BL := hide hB
    clear hb hB
    by_cases hlt : n < wt
    · have hd : decide ((n : Int) < (wt : Int)) = true := by simp; omega
      have hd' : (n : Int) < (wt : Int) := by omega
      go_wp2_with (first
        | (refine wpList_load_row rfl 23 _ rfl w2.heap.size rfl 23 _ _ _ (unhide HL) Try.underlying23 rfl (by kernel_rfl) ?_)
        | fail)
      refine (step_ok wr (traceH (1 + n)) (trace_valid _) true false false).mono ?_
      rintro e w5 ⟨rfl, hb5⟩
      rw [trace_step]
      have HL5 := hide ((unhide HL).below hb5 (unhide HL).lt)
      have BL5 := hide ((unhide BL).trans (hb5.mono (unhide BL).size))
      clear hb5
      go_wp2_with (first
        | (refine wpList_store_blk rfl 23 (.tmp 7) (.tmp 42) rfl w2.heap.size 23 _ (traceH (1 + n + 1)).c rfl rfl (unhide HL5) rfl (by kernel_rfl) (HH.one _) ?_
           intro w6 hb6 hg6
           have HL6 := hide hb6
           have BL6 := hide ((unhide BL5).grown hg6 (unhide BL5).size (fun g e => by injection e; omega))
           clear hb6 hg6)
        | fail)
      go_roundw
      case rel => exact ⟨rfl, n + 1, by omega, by go_num, unhide HL6, unhide BL6⟩
      case measure => simp [intOf]; omega
    · obtain rfl : n = wt := by omega
      have hd : decide ((n : Int) < (n : Int)) = false := by simp
      cases reset
      ·
        have HM := HL
        have BM := BL
        go_wp2_with fail
        clear hwti hwt
        go_loopw [9, 11] (fun e i wr => e = .int .i64 0 ∧ ∃ j : Nat, j ≤ 20 ∧ i = .int .i64 j ∧ Blk wr w2.heap.size 23 (traceH ((1 + n) + j)).c ∧ Below w.heap.size w wr)
          (fun _ i _ => 20 - (intOf i).toNat)
        case atStart => exact ⟨rfl, 0, by omega, rfl, unhide HM, unhide BM⟩
        case round =>
          obtain ⟨rfl, j, hj, rfl, hb, hB⟩ := hrel
          have hrun : wr.cell? ⟨w2.heap.size, 1, none⟩ = some (.bool (traceH ((1 + n) + j)).r) := by rw [hb.cell]; rfl
          have hhung : wr.cell? ⟨w2.heap.size, 2, none⟩ = some (.bool (traceH ((1 + n) + j)).h) := by rw [hb.cell]; rfl
          have HJ := hide hb
          have BJ := hide hB
          clear hb hB
          by_cases hlt : j < 20
          · have hr0 : (traceH (1 + j)).r = false := by simp [traceH]; omega
            clear hrun
            clear hhung hr0
            go_wp2_with (first
              | (refine wpList_load_row rfl 23 _ rfl w2.heap.size rfl 23 _ _ _ (unhide HJ) Try.underlying23 rfl (by kernel_rfl) ?_)
              | fail)
            refine (step_ok wr (traceH ((1 + n) + j)) (trace_valid _) true false false).mono ?_
            rintro e w7 ⟨rfl, hb7⟩
            rw [trace_step]
            have HJ7 := hide ((unhide HJ).below hb7 (unhide HJ).lt)
            have BJ7 := hide ((unhide BJ).trans (hb7.mono (unhide BJ).size))
            clear hb7
            go_wp2_with (first
              | (refine wpList_store_blk rfl 23 (.tmp 7) (.tmp 74) rfl w2.heap.size 23 _ (traceH ((1 + n) + j + 1)).c rfl rfl (unhide HJ7) rfl (by kernel_rfl) (HH.one _) ?_
                 intro w8 hb8 hg8
                 have HJ8 := hide hb8
                 have BJ8 := hide ((unhide BJ7).grown hg8 (unhide BJ7).size (fun g e => by injection e; omega))
                 clear hb8 hg8)
              | fail)
            go_roundw
            case rel => exact ⟨rfl, j + 1, by omega, by go_num, unhide HJ8, unhide BJ8⟩
            case measure => simp [intOf]; omega
          · obtain rfl : j = 20 := by omega
            rw [show ((20 : Nat) : Int) = 20 from rfl]
            have hx : traceH ((1 + n) + 20) = ⟨true, true, false, false, false, 0⟩ := trace_end _ (by omega)
            rw [hx] at hrun hhung
            have hc := unhide HJ
            rw [hx] at hc
            have HC := hide hc
            clear hc hx HJ
            have hrun : wr.cell? ⟨w2.heap.size, 1, none⟩ = some (.bool true) := hrun
            have hhung : wr.cell? ⟨w2.heap.size, 2, none⟩ = some (.bool false) := hhung
            have hk5 : ac % 5 = 0 ∨ ac % 5 = 1 ∨ ac % 5 = 2 ∨ ac % 5 = 3 ∨ ac % 5 = 4 := by omega
            clear hlt
            rcases hk5 with hk | hk | hk | hk | hk
            · have hki : (ac : Int) % 5 = 0 := by omega
              go_wp2_with (first
                | (refine wpList_load_row rfl 23 _ rfl w2.heap.size rfl 23 _ _ _ (unhide HC) Try.underlying23 rfl (by kernel_rfl) ?_)
                | fail)
              refine (act_ok wr ⟨true, true, false, false, false, 0⟩ rfl 0 (by omega)).mono ?_
              rintro e w9 ⟨rfl, hb9⟩
              have e2 : Value.tuple #[(actH ⟨true, true, false, false, false, 0⟩ 0).v, .int .i64 0] = .tuple #[.agg #[.bool true, .bool true, .bool false, .bool false, .bool false, .int .i64 0], .int .i64 0] := rfl
              rw [e2]
              have HC9 := hide ((unhide HC).below hb9 (unhide HC).lt)
              have BC9 := hide ((unhide BJ).trans (hb9.mono (unhide BJ).size))
              clear hb9 e2 hrun hhung
              go_wp2_with (first
                | (refine wpList_store_blk rfl 23 (.tmp 7) (.tmp 95) rfl w2.heap.size 23 _ #[.bool true, .bool true, .bool false, .bool false, .bool false, .int .i64 0] rfl rfl (unhide HC9) rfl (by kernel_rfl) (HH.one ⟨true, true, false, false, false, 0⟩) ?_
                   intro w10 hb10 hg10
                   have HC10 := hide hb10
                   have BC10 := hide ((unhide BC9).grown hg10 (unhide BC9).size (fun g e => by injection e; omega))
                   clear hb10 hg10)
                | (refine wpList_load_row rfl 23 _ rfl w2.heap.size rfl 23 _ _ _ (unhide HC10) Try.underlying23 rfl (by kernel_rfl) ?_)
                | fail)
              refine (step_ok w10 ⟨true, true, false, false, false, 0⟩ rfl true false true).mono ?_
              rintro e w11 ⟨rfl, hb11⟩
              have e3 : Value.tuple #[(stepH ⟨true, true, false, false, false, 0⟩ true false true).v, repV (stepH ⟨true, true, false, false, false, 0⟩ true false true) true, .int .i64 0] = .tuple #[.agg #[.bool true, .bool false, .bool false, .bool false, .bool false, .int .i64 0], .agg #[.bool true, .bool true, .bool false], .int .i64 0] := rfl
              rw [e3]
              have BC11 := hide ((unhide BC10).trans (hb11.mono (unhide BC10).size))
              clear hb11 e3
              go_wp2_with fail
              go_ret
              exact ⟨rfl, ((unhide BC11).alloc (unhide BC11).size _).alloc (by rw [size_alloc]; have := (unhide BC11).size; omega) _⟩
            · have hki : (ac : Int) % 5 = 1 := by omega
              go_wp2_with (first
                | (refine wpList_load_row rfl 23 _ rfl w2.heap.size rfl 23 _ _ _ (unhide HC) Try.underlying23 rfl (by kernel_rfl) ?_)
                | fail)
              refine (act_ok wr ⟨true, true, false, false, false, 0⟩ rfl 1 (by omega)).mono ?_
              rintro e w9 ⟨rfl, hb9⟩
              have e2 : Value.tuple #[(actH ⟨true, true, false, false, false, 0⟩ 1).v, .int .i64 0] = .tuple #[.agg #[.bool true, .bool true, .bool true, .bool false, .bool false, .int .i64 0], .int .i64 0] := rfl
              rw [e2]
              have HC9 := hide ((unhide HC).below hb9 (unhide HC).lt)
              have BC9 := hide ((unhide BJ).trans (hb9.mono (unhide BJ).size))
              clear hb9 e2 hrun hhung
              go_wp2_with (first
                | (refine wpList_store_blk rfl 23 (.tmp 7) (.tmp 95) rfl w2.heap.size 23 _ #[.bool true, .bool true, .bool true, .bool false, .bool false, .int .i64 0] rfl rfl (unhide HC9) rfl (by kernel_rfl) (HH.one ⟨true, true, true, false, false, 0⟩) ?_
                   intro w10 hb10 hg10
                   have HC10 := hide hb10
                   have BC10 := hide ((unhide BC9).grown hg10 (unhide BC9).size (fun g e => by injection e; omega))
                   clear hb10 hg10)
                | (refine wpList_load_row rfl 23 _ rfl w2.heap.size rfl 23 _ _ _ (unhide HC10) Try.underlying23 rfl (by kernel_rfl) ?_)
                | fail)
              refine (step_ok w10 ⟨true, true, true, false, false, 0⟩ rfl true false true).mono ?_
              rintro e w11 ⟨rfl, hb11⟩
              have e3 : Value.tuple #[(stepH ⟨true, true, true, false, false, 0⟩ true false true).v, repV (stepH ⟨true, true, true, false, false, 0⟩ true false true) true, .int .i64 0] = .tuple #[.agg #[.bool true, .bool true, .bool true, .bool false, .bool false, .int .i64 0], .agg #[.bool true, .bool false, .bool false], .int .i64 0] := rfl
              rw [e3]
              have BC11 := hide ((unhide BC10).trans (hb11.mono (unhide BC10).size))
              clear hb11 e3
              go_wp2_with fail
              go_ret
              exact ⟨rfl, ((unhide BC11).alloc (unhide BC11).size _).alloc (by rw [size_alloc]; have := (unhide BC11).size; omega) _⟩
            · have hki : (ac : Int) % 5 = 2 := by omega
              go_wp2_with (first
                | (refine wpList_load_row rfl 23 _ rfl w2.heap.size rfl 23 _ _ _ (unhide HC) Try.underlying23 rfl (by kernel_rfl) ?_)
                | fail)
              refine (act_ok wr ⟨true, true, false, false, false, 0⟩ rfl 2 (by omega)).mono ?_
              rintro e w9 ⟨rfl, hb9⟩
              have e2 : Value.tuple #[(actH ⟨true, true, false, false, false, 0⟩ 2).v, .int .i64 0] = .tuple #[.agg #[.bool true, .bool true, .bool false, .bool false, .bool false, .int .i64 0], .int .i64 0] := rfl
              rw [e2]
              have HC9 := hide ((unhide HC).below hb9 (unhide HC).lt)
              have BC9 := hide ((unhide BJ).trans (hb9.mono (unhide BJ).size))
              clear hb9 e2 hrun hhung
              go_wp2_with (first
                | (refine wpList_store_blk rfl 23 (.tmp 7) (.tmp 95) rfl w2.heap.size 23 _ #[.bool true, .bool true, .bool false, .bool false, .bool false, .int .i64 0] rfl rfl (unhide HC9) rfl (by kernel_rfl) (HH.one ⟨true, true, false, false, false, 0⟩) ?_
                   intro w10 hb10 hg10
                   have HC10 := hide hb10
                   have BC10 := hide ((unhide BC9).grown hg10 (unhide BC9).size (fun g e => by injection e; omega))
                   clear hb10 hg10)
                | (refine wpList_load_row rfl 23 _ rfl w2.heap.size rfl 23 _ _ _ (unhide HC10) Try.underlying23 rfl (by kernel_rfl) ?_)
                | fail)
              refine (step_ok w10 ⟨true, true, false, false, false, 0⟩ rfl true false true).mono ?_
              rintro e w11 ⟨rfl, hb11⟩
              have e3 : Value.tuple #[(stepH ⟨true, true, false, false, false, 0⟩ true false true).v, repV (stepH ⟨true, true, false, false, false, 0⟩ true false true) true, .int .i64 0] = .tuple #[.agg #[.bool true, .bool false, .bool false, .bool false, .bool false, .int .i64 0], .agg #[.bool true, .bool true, .bool false], .int .i64 0] := rfl
              rw [e3]
              have BC11 := hide ((unhide BC10).trans (hb11.mono (unhide BC10).size))
              clear hb11 e3
              go_wp2_with fail
              go_ret
              exact ⟨rfl, ((unhide BC11).alloc (unhide BC11).size _).alloc (by rw [size_alloc]; have := (unhide BC11).size; omega) _⟩
            · have hki : (ac : Int) % 5 = 3 := by omega
              go_wp2_with (first
                | (refine wpList_load_row rfl 23 _ rfl w2.heap.size rfl 23 _ _ _ (unhide HC) Try.underlying23 rfl (by kernel_rfl) ?_)
                | fail)
              refine (act_ok wr ⟨true, true, false, false, false, 0⟩ rfl 3 (by omega)).mono ?_
              rintro e w9 ⟨rfl, hb9⟩
              have e2 : Value.tuple #[(actH ⟨true, true, false, false, false, 0⟩ 3).v, .int .i64 0] = .tuple #[.agg #[.bool true, .bool true, .bool false, .bool true, .bool false, .int .i64 0], .int .i64 0] := rfl
              rw [e2]
              have HC9 := hide ((unhide HC).below hb9 (unhide HC).lt)
              have BC9 := hide ((unhide BJ).trans (hb9.mono (unhide BJ).size))
              clear hb9 e2 hrun hhung
              go_wp2_with (first
                | (refine wpList_store_blk rfl 23 (.tmp 7) (.tmp 95) rfl w2.heap.size 23 _ #[.bool true, .bool true, .bool false, .bool true, .bool false, .int .i64 0] rfl rfl (unhide HC9) rfl (by kernel_rfl) (HH.one ⟨true, true, false, true, false, 0⟩) ?_
                   intro w10 hb10 hg10
                   have HC10 := hide hb10
                   have BC10 := hide ((unhide BC9).grown hg10 (unhide BC9).size (fun g e => by injection e; omega))
                   clear hb10 hg10)
                | (refine wpList_load_row rfl 23 _ rfl w2.heap.size rfl 23 _ _ _ (unhide HC10) Try.underlying23 rfl (by kernel_rfl) ?_)
                | fail)
              refine (step_ok w10 ⟨true, true, false, true, false, 0⟩ rfl true false true).mono ?_
              rintro e w11 ⟨rfl, hb11⟩
              have e3 : Value.tuple #[(stepH ⟨true, true, false, true, false, 0⟩ true false true).v, repV (stepH ⟨true, true, false, true, false, 0⟩ true false true) true, .int .i64 0] = .tuple #[.agg #[.bool true, .bool true, .bool false, .bool true, .bool false, .int .i64 0], .agg #[.bool true, .bool false, .bool true], .int .i64 0] := rfl
              rw [e3]
              have BC11 := hide ((unhide BC10).trans (hb11.mono (unhide BC10).size))
              clear hb11 e3
              go_wp2_with fail
              go_ret
              exact ⟨rfl, ((unhide BC11).alloc (unhide BC11).size _).alloc (by rw [size_alloc]; have := (unhide BC11).size; omega) _⟩
            · have hki : (ac : Int) % 5 = 4 := by omega
              go_wp2_with (first
                | (refine wpList_load_row rfl 23 _ rfl w2.heap.size rfl 23 _ _ _ (unhide HC) Try.underlying23 rfl (by kernel_rfl) ?_)
                | fail)
              refine (act_ok wr ⟨true, true, false, false, false, 0⟩ rfl 4 (by omega)).mono ?_
              rintro e w9 ⟨rfl, hb9⟩
              have e2 : Value.tuple #[(actH ⟨true, true, false, false, false, 0⟩ 4).v, .int .i64 0] = .tuple #[.agg #[.bool true, .bool true, .bool false, .bool false, .bool false, .int .i64 0], .int .i64 0] := rfl
              rw [e2]
              have HC9 := hide ((unhide HC).below hb9 (unhide HC).lt)
              have BC9 := hide ((unhide BJ).trans (hb9.mono (unhide BJ).size))
              clear hb9 e2 hrun hhung
              go_wp2_with (first
                | (refine wpList_store_blk rfl 23 (.tmp 7) (.tmp 95) rfl w2.heap.size 23 _ #[.bool true, .bool true, .bool false, .bool false, .bool false, .int .i64 0] rfl rfl (unhide HC9) rfl (by kernel_rfl) (HH.one ⟨true, true, false, false, false, 0⟩) ?_
                   intro w10 hb10 hg10
                   have HC10 := hide hb10
                   have BC10 := hide ((unhide BC9).grown hg10 (unhide BC9).size (fun g e => by injection e; omega))
                   clear hb10 hg10)
                | (refine wpList_load_row rfl 23 _ rfl w2.heap.size rfl 23 _ _ _ (unhide HC10) Try.underlying23 rfl (by kernel_rfl) ?_)
                | fail)
              refine (step_ok w10 ⟨true, true, false, false, false, 0⟩ rfl true false true).mono ?_
              rintro e w11 ⟨rfl, hb11⟩
              have e3 : Value.tuple #[(stepH ⟨true, true, false, false, false, 0⟩ true false true).v, repV (stepH ⟨true, true, false, false, false, 0⟩ true false true) true, .int .i64 0] = .tuple #[.agg #[.bool true, .bool false, .bool false, .bool false, .bool false, .int .i64 0], .agg #[.bool true, .bool true, .bool false], .int .i64 0] := rfl
              rw [e3]
              have BC11 := hide ((unhide BC10).trans (hb11.mono (unhide BC10).size))
              clear hb11 e3
              go_wp2_with fail
              go_ret
              exact ⟨rfl, ((unhide BC11).alloc (unhide BC11).size _).alloc (by rw [size_alloc]; have := (unhide BC11).size; omega) _⟩
      ·
        go_wp2_with (first
          | (refine wpList_load_row rfl 23 _ rfl w2.heap.size rfl 23 _ _ _ (unhide HL) Try.underlying23 rfl (by kernel_rfl) ?_)
          | fail)
        refine (step_ok wr (traceH (1 + n)) (trace_valid _) true true false).mono ?_
        rintro e w5 ⟨rfl, hb5⟩
        rw [trace_reset _ (by omega)]
        have HL5 := hide ((unhide HL).below hb5 (unhide HL).lt)
        have BL5 := hide ((unhide BL).trans (hb5.mono (unhide BL).size))
        clear hb5
        go_wp2_with (first
          | (refine wpList_store_blk rfl 23 (.tmp 7) (.tmp 54) rfl w2.heap.size 23 _ (traceH 1).c rfl rfl (unhide HL5) rfl (by kernel_rfl) (HH.one _) ?_
             intro w6 hb6 hg6
             have HM := hide hb6
             have BM := hide ((unhide BL5).grown hg6 (unhide BL5).size (fun g e => by injection e; omega))
             clear hb6 hg6)
          | fail)
        clear hwti hwt
        go_loopw [9, 11] (fun e i wr => e = .int .i64 0 ∧ ∃ j : Nat, j ≤ 20 ∧ i = .int .i64 j ∧ Blk wr w2.heap.size 23 (traceH (1 + j)).c ∧ Below w.heap.size w wr)
          (fun _ i _ => 20 - (intOf i).toNat)
        case atStart => exact ⟨rfl, 0, by omega, rfl, unhide HM, unhide BM⟩
        case round =>
          obtain ⟨rfl, j, hj, rfl, hb, hB⟩ := hrel
          have hrun : wr.cell? ⟨w2.heap.size, 1, none⟩ = some (.bool (traceH (1 + j)).r) := by rw [hb.cell]; rfl
          have hhung : wr.cell? ⟨w2.heap.size, 2, none⟩ = some (.bool (traceH (1 + j)).h) := by rw [hb.cell]; rfl
          have HJ := hide hb
          have BJ := hide hB
          clear hb hB
          by_cases hlt : j < 20
          · have hr0 : (traceH (1 + j)).r = false := by simp [traceH]; omega
            rw [hr0] at hrun
            clear hhung hr0
            go_wp2_with (first
              | (refine wpList_load_row rfl 23 _ rfl w2.heap.size rfl 23 _ _ _ (unhide HJ) Try.underlying23 rfl (by kernel_rfl) ?_)
              | fail)
            refine (step_ok wr (traceH (1 + j)) (trace_valid _) true false false).mono ?_
            rintro e w7 ⟨rfl, hb7⟩
            rw [trace_step]
            have HJ7 := hide ((unhide HJ).below hb7 (unhide HJ).lt)
            have BJ7 := hide ((unhide BJ).trans (hb7.mono (unhide BJ).size))
            clear hb7
            go_wp2_with (first
              | (refine wpList_store_blk rfl 23 (.tmp 7) (.tmp 74) rfl w2.heap.size 23 _ (traceH (1 + j + 1)).c rfl rfl (unhide HJ7) rfl (by kernel_rfl) (HH.one _) ?_
                 intro w8 hb8 hg8
                 have HJ8 := hide hb8
                 have BJ8 := hide ((unhide BJ7).grown hg8 (unhide BJ7).size (fun g e => by injection e; omega))
                 clear hb8 hg8)
              | fail)
            go_roundw
            case rel => exact ⟨rfl, j + 1, by omega, by go_num, unhide HJ8, unhide BJ8⟩
            case measure => simp [intOf]; omega
          · obtain rfl : j = 20 := by omega
            rw [show ((20 : Nat) : Int) = 20 from rfl]
            have hx : traceH (1 + 20) = ⟨true, true, false, false, false, 0⟩ := trace_end _ (by omega)
            rw [hx] at hrun hhung
            have hc := unhide HJ
            rw [hx] at hc
            have HC := hide hc
            clear hc hx HJ
            have hrun : wr.cell? ⟨w2.heap.size, 1, none⟩ = some (.bool true) := hrun
            have hhung : wr.cell? ⟨w2.heap.size, 2, none⟩ = some (.bool false) := hhung
            have hk5 : ac % 5 = 0 ∨ ac % 5 = 1 ∨ ac % 5 = 2 ∨ ac % 5 = 3 ∨ ac % 5 = 4 := by omega
            clear hlt
            rcases hk5 with hk | hk | hk | hk | hk
            · have hki : (ac : Int) % 5 = 0 := by omega
              go_wp2_with (first
                | (refine wpList_load_row rfl 23 _ rfl w2.heap.size rfl 23 _ _ _ (unhide HC) Try.underlying23 rfl (by kernel_rfl) ?_)
                | fail)
              refine (act_ok wr ⟨true, true, false, false, false, 0⟩ rfl 0 (by omega)).mono ?_
              rintro e w9 ⟨rfl, hb9⟩
              have e2 : Value.tuple #[(actH ⟨true, true, false, false, false, 0⟩ 0).v, .int .i64 0] = .tuple #[.agg #[.bool true, .bool true, .bool false, .bool false, .bool false, .int .i64 0], .int .i64 0] := rfl
              rw [e2]
              have HC9 := hide ((unhide HC).below hb9 (unhide HC).lt)
              have BC9 := hide ((unhide BJ).trans (hb9.mono (unhide BJ).size))
              clear hb9 e2 hrun hhung
              go_wp2_with (first
                | (refine wpList_store_blk rfl 23 (.tmp 7) (.tmp 95) rfl w2.heap.size 23 _ #[.bool true, .bool true, .bool false, .bool false, .bool false, .int .i64 0] rfl rfl (unhide HC9) rfl (by kernel_rfl) (HH.one ⟨true, true, false, false, false, 0⟩) ?_
                   intro w10 hb10 hg10
                   have HC10 := hide hb10
                   have BC10 := hide ((unhide BC9).grown hg10 (unhide BC9).size (fun g e => by injection e; omega))
                   clear hb10 hg10)
                | (refine wpList_load_row rfl 23 _ rfl w2.heap.size rfl 23 _ _ _ (unhide HC10) Try.underlying23 rfl (by kernel_rfl) ?_)
                | fail)
              refine (step_ok w10 ⟨true, true, false, false, false, 0⟩ rfl true false true).mono ?_
              rintro e w11 ⟨rfl, hb11⟩
              have e3 : Value.tuple #[(stepH ⟨true, true, false, false, false, 0⟩ true false true).v, repV (stepH ⟨true, true, false, false, false, 0⟩ true false true) true, .int .i64 0] = .tuple #[.agg #[.bool true, .bool false, .bool false, .bool false, .bool false, .int .i64 0], .agg #[.bool true, .bool true, .bool false], .int .i64 0] := rfl
              rw [e3]
              have BC11 := hide ((unhide BC10).trans (hb11.mono (unhide BC10).size))
              clear hb11 e3
              go_wp2_with fail
              go_ret
              exact ⟨rfl, ((unhide BC11).alloc (unhide BC11).size _).alloc (by rw [size_alloc]; have := (unhide BC11).size; omega) _⟩
            · have hki : (ac : Int) % 5 = 1 := by omega
              go_wp2_with (first
                | (refine wpList_load_row rfl 23 _ rfl w2.heap.size rfl 23 _ _ _ (unhide HC) Try.underlying23 rfl (by kernel_rfl) ?_)
                | fail)
              refine (act_ok wr ⟨true, true, false, false, false, 0⟩ rfl 1 (by omega)).mono ?_
              rintro e w9 ⟨rfl, hb9⟩
              have e2 : Value.tuple #[(actH ⟨true, true, false, false, false, 0⟩ 1).v, .int .i64 0] = .tuple #[.agg #[.bool true, .bool true, .bool true, .bool false, .bool false, .int .i64 0], .int .i64 0] := rfl
              rw [e2]
              have HC9 := hide ((unhide HC).below hb9 (unhide HC).lt)
              have BC9 := hide ((unhide BJ).trans (hb9.mono (unhide BJ).size))
              clear hb9 e2 hrun hhung
              go_wp2_with (first
                | (refine wpList_store_blk rfl 23 (.tmp 7) (.tmp 95) rfl w2.heap.size 23 _ #[.bool true, .bool true, .bool true, .bool false, .bool false, .int .i64 0] rfl rfl (unhide HC9) rfl (by kernel_rfl) (HH.one ⟨true, true, true, false, false, 0⟩) ?_
                   intro w10 hb10 hg10
                   have HC10 := hide hb10
                   have BC10 := hide ((unhide BC9).grown hg10 (unhide BC9).size (fun g e => by injection e; omega))
                   clear hb10 hg10)
                | (refine wpList_load_row rfl 23 _ rfl w2.heap.size rfl 23 _ _ _ (unhide HC10) Try.underlying23 rfl (by kernel_rfl) ?_)
                | fail)
              refine (step_ok w10 ⟨true, true, true, false, false, 0⟩ rfl true false true).mono ?_
              rintro e w11 ⟨rfl, hb11⟩
              have e3 : Value.tuple #[(stepH ⟨true, true, true, false, false, 0⟩ true false true).v, repV (stepH ⟨true, true, true, false, false, 0⟩ true false true) true, .int .i64 0] = .tuple #[.agg #[.bool true, .bool true, .bool true, .bool false, .bool false, .int .i64 0], .agg #[.bool true, .bool false, .bool false], .int .i64 0] := rfl
              rw [e3]
              have BC11 := hide ((unhide BC10).trans (hb11.mono (unhide BC10).size))
              clear hb11 e3
              go_wp2_with fail
              go_ret
              exact ⟨rfl, ((unhide BC11).alloc (unhide BC11).size _).alloc (by rw [size_alloc]; have := (unhide BC11).size; omega) _⟩
            · have hki : (ac : Int) % 5 = 2 := by omega
              go_wp2_with (first
                | (refine wpList_load_row rfl 23 _ rfl w2.heap.size rfl 23 _ _ _ (unhide HC) Try.underlying23 rfl (by kernel_rfl) ?_)
                | fail)
              refine (act_ok wr ⟨true, true, false, false, false, 0⟩ rfl 2 (by omega)).mono ?_
              rintro e w9 ⟨rfl, hb9⟩
              have e2 : Value.tuple #[(actH ⟨true, true, false, false, false, 0⟩ 2).v, .int .i64 0] = .tuple #[.agg #[.bool true, .bool true, .bool false, .bool false, .bool false, .int .i64 0], .int .i64 0] := rfl
              rw [e2]
              have HC9 := hide ((unhide HC).below hb9 (unhide HC).lt)
              have BC9 := hide ((unhide BJ).trans (hb9.mono (unhide BJ).size))
              clear hb9 e2 hrun hhung
              go_wp2_with (first
                | (refine wpList_store_blk rfl 23 (.tmp 7) (.tmp 95) rfl w2.heap.size 23 _ #[.bool true, .bool true, .bool false, .bool false, .bool false, .int .i64 0] rfl rfl (unhide HC9) rfl (by kernel_rfl) (HH.one ⟨true, true, false, false, false, 0⟩) ?_
                   intro w10 hb10 hg10
                   have HC10 := hide hb10
                   have BC10 := hide ((unhide BC9).grown hg10 (unhide BC9).size (fun g e => by injection e; omega))
                   clear hb10 hg10)
                | (refine wpList_load_row rfl 23 _ rfl w2.heap.size rfl 23 _ _ _ (unhide HC10) Try.underlying23 rfl (by kernel_rfl) ?_)
                | fail)
              refine (step_ok w10 ⟨true, true, false, false, false, 0⟩ rfl true false true).mono ?_
              rintro e w11 ⟨rfl, hb11⟩
              have e3 : Value.tuple #[(stepH ⟨true, true, false, false, false, 0⟩ true false true).v, repV (stepH ⟨true, true, false, false, false, 0⟩ true false true) true, .int .i64 0] = .tuple #[.agg #[.bool true, .bool false, .bool false, .bool false, .bool false, .int .i64 0], .agg #[.bool true, .bool true, .bool false], .int .i64 0] := rfl
              rw [e3]
              have BC11 := hide ((unhide BC10).trans (hb11.mono (unhide BC10).size))
              clear hb11 e3
              go_wp2_with fail
              go_ret
              exact ⟨rfl, ((unhide BC11).alloc (unhide BC11).size _).alloc (by rw [size_alloc]; have := (unhide BC11).size; omega) _⟩
            · have hki : (ac : Int) % 5 = 3 := by omega
              go_wp2_with (first
                | (refine wpList_load_row rfl 23 _ rfl w2.heap.size rfl 23 _ _ _ (unhide HC) Try.underlying23 rfl (by kernel_rfl) ?_)
                | fail)
              refine (act_ok wr ⟨true, true, false, false, false, 0⟩ rfl 3 (by omega)).mono ?_
              rintro e w9 ⟨rfl, hb9⟩
              have e2 : Value.tuple #[(actH ⟨true, true, false, false, false, 0⟩ 3).v, .int .i64 0] = .tuple #[.agg #[.bool true, .bool true, .bool false, .bool true, .bool false, .int .i64 0], .int .i64 0] := rfl
              rw [e2]
              have HC9 := hide ((unhide HC).below hb9 (unhide HC).lt)
              have BC9 := hide ((unhide BJ).trans (hb9.mono (unhide BJ).size))
              clear hb9 e2 hrun hhung
              go_wp2_with (first
                | (refine wpList_store_blk rfl 23 (.tmp 7) (.tmp 95) rfl w2.heap.size 23 _ #[.bool true, .bool true, .bool false, .bool true, .bool false, .int .i64 0] rfl rfl (unhide HC9) rfl (by kernel_rfl) (HH.one ⟨true, true, false, true, false, 0⟩) ?_
                   intro w10 hb10 hg10
                   have HC10 := hide hb10
                   have BC10 := hide ((unhide BC9).grown hg10 (unhide BC9).size (fun g e => by injection e; omega))
                   clear hb10 hg10)
                | (refine wpList_load_row rfl 23 _ rfl w2.heap.size rfl 23 _ _ _ (unhide HC10) Try.underlying23 rfl (by kernel_rfl) ?_)
                | fail)
              refine (step_ok w10 ⟨true, true, false, true, false, 0⟩ rfl true false true).mono ?_
              rintro e w11 ⟨rfl, hb11⟩
              have e3 : Value.tuple #[(stepH ⟨true, true, false, true, false, 0⟩ true false true).v, repV (stepH ⟨true, true, false, true, false, 0⟩ true false true) true, .int .i64 0] = .tuple #[.agg #[.bool true, .bool true, .bool false, .bool true, .bool false, .int .i64 0], .agg #[.bool true, .bool false, .bool true], .int .i64 0] := rfl
              rw [e3]
              have BC11 := hide ((unhide BC10).trans (hb11.mono (unhide BC10).size))
              clear hb11 e3
              go_wp2_with fail
              go_ret
              exact ⟨rfl, ((unhide BC11).alloc (unhide BC11).size _).alloc (by rw [size_alloc]; have := (unhide BC11).size; omega) _⟩
            · have hki : (ac : Int) % 5 = 4 := by omega
              go_wp2_with (first
                | (refine wpList_load_row rfl 23 _ rfl w2.heap.size rfl 23 _ _ _ (unhide HC) Try.underlying23 rfl (by kernel_rfl) ?_)
                | fail)
              refine (act_ok wr ⟨true, true, false, false, false, 0⟩ rfl 4 (by omega)).mono ?_
              rintro e w9 ⟨rfl, hb9⟩
              have e2 : Value.tuple #[(actH ⟨true, true, false, false, false, 0⟩ 4).v, .int .i64 0] = .tuple #[.agg #[.bool true, .bool true, .bool false, .bool false, .bool false, .int .i64 0], .int .i64 0] := rfl
              rw [e2]
              have HC9 := hide ((unhide HC).below hb9 (unhide HC).lt)
              have BC9 := hide ((unhide BJ).trans (hb9.mono (unhide BJ).size))
              clear hb9 e2 hrun hhung
              go_wp2_with (first
                | (refine wpList_store_blk rfl 23 (.tmp 7) (.tmp 95) rfl w2.heap.size 23 _ #[.bool true, .bool true, .bool false, .bool false, .bool false, .int .i64 0] rfl rfl (unhide HC9) rfl (by kernel_rfl) (HH.one ⟨true, true, false, false, false, 0⟩) ?_
                   intro w10 hb10 hg10
                   have HC10 := hide hb10
                   have BC10 := hide ((unhide BC9).grown hg10 (unhide BC9).size (fun g e => by injection e; omega))
                   clear hb10 hg10)
                | (refine wpList_load_row rfl 23 _ rfl w2.heap.size rfl 23 _ _ _ (unhide HC10) Try.underlying23 rfl (by kernel_rfl) ?_)
                | fail)
              refine (step_ok w10 ⟨true, true, false, false, false, 0⟩ rfl true false true).mono ?_
              rintro e w11 ⟨rfl, hb11⟩
              have e3 : Value.tuple #[(stepH ⟨true, true, false, false, false, 0⟩ true false true).v, repV (stepH ⟨true, true, false, false, false, 0⟩ true false true) true, .int .i64 0] = .tuple #[.agg #[.bool true, .bool false, .bool false, .bool false, .bool false, .int .i64 0], .agg #[.bool true, .bool true, .bool false], .int .i64 0] := rfl
              rw [e3]
              have BC11 := hide ((unhide BC10).trans (hb11.mono (unhide BC10).size))
              clear hb11 e3
              go_wp2_with fail
              go_ret
              exact ⟨rfl, ((unhide BC11).alloc (unhide BC11).size _).alloc (by rw [size_alloc]; have := (unhide BC11).size; omega) _⟩
theorem boots_walk (w : World) (reset : Bool) (a : Int) (ha : 0 ≤ a ∧ a ≤ 255) (b : Int) (hb : 0 ≤ b ∧ b ≤ 255) :
    Calls Try.prog 5 #[.bool reset, .int .u8 a, .int .u8 b] w fun e w' => e = .returned (.bool true) ∧ Below w.heap.size w w' := by
  obtain ⟨k, rfl⟩ := Int.eq_ofNat_of_zero_le ha.1
  obtain ⟨m, rfl⟩ := Int.eq_ofNat_of_zero_le hb.1
  exact boots_any w reset k m (by omega) (by omega)
end Go.Proofs.Ytldpfdfbefebeaa
