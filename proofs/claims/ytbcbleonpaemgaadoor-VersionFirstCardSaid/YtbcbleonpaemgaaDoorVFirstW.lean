/- The law VersionFirst, walked: it returns true. No condition. -/
import Derived.Test.YtbcbleonpaemgaaDoorVFirst
import Derived.Deep.CutRange
namespace Go.Proofs.YtbcbleonpaemgaaDoor
open Go.RowKit
set_option maxRecDepth 100000 in
set_option maxHeartbeats 16000000 in
theorem first_walk (w : World) (A0 : Option Addr) (n0 c0 : Nat) (bs : List UInt8) (hn0 : n0 ≤ c0) (hc0 : c0 ≤ maxLen) (hr0 : Reads w w.heap.size 1 A0 n0 (bsV bs)) :
    Calls Tryd.prog 6 #[.slice A0 n0 c0] w fun e w' => e = .returned (.bool true) ∧ Below w.heap.size w w' := by
  have HA := hide awake_any
  have HRD := hide hr0
  have HNEW := hide new_any
  have HIN := hide installed_any
  have HND := hide needs_any
  have HCK := hide check_any
  have HMT := hide met_any
  have HN0 := hide hn0
  have HC0 := hide hc0
  clear hr0 hn0 hc0
  go_enter Tryd.func6, Tryd.ntmps6
  go_wp2_with fail
  refine (unhide HA _).mono ?_
  rintro e w1 ⟨rfl, hb1⟩
  have B1 := hide hb1
  have RD1 := hide (((unhide HRD).below hb1).more hb1.size)
  clear hb1
  go_wp2_with fail
  refine (unhide HNEW _ A0 n0 c0 bs 160 (unhide RD1) (unhide HN0) (unhide HC0) (by omega)).mono ?_
  rintro e w2 ⟨rfl, hcod, hb2⟩
  have B2 := hide ((unhide B1).trans (hb2.mono (unhide B1).size))
  have COD := hide hcod
  have hgl : w1.heap.size < w2.heap.size := hcod.lt
  have hs1 : w.heap.size ≤ w1.heap.size := (unhide B1).size
  clear hcod hb2
  go_wp2_with fail
  refine (unhide HIN _ _ _ (unhide COD)).mono ?_
  rintro e w3 ⟨v, l, rfl, hl1, hl5, hln, hlv, hown, hc3, hg3⟩
  have C3 := hide hc3
  have OW3 := hide hown
  have G3 := hide hg3
  have LN := hide hln
  have LV := hide hlv
  clear hc3 hown hg3 hln hlv
  go_wp2_with fail
  refine (unhide HND _ _ _ 8 (by omega) (unhide C3)).mono ?_
  rintro e w4 ⟨v', l', rfl, hm8, hlo, hown', hc4, hg4⟩
  obtain ⟨A, A', c, d, rfl, rfl, hmade⟩ := Made.mk_ (unhide B2) hs1 hgl hl1 hl5 (unhide LN) (unhide LV) (unhide OW3) (unhide G3) hm8 hlo hown' hg4
  obtain ⟨n, hn⟩ : ∃ n, l.length = n := ⟨_, rfl⟩
  obtain ⟨m, hm⟩ : ∃ m, l'.length = m := ⟨_, rfl⟩
  obtain ⟨L, hL⟩ : ∃ L, instOf l = L := ⟨_, rfl⟩
  obtain ⟨N, hN⟩ : ∃ N, needOf l' = N := ⟨_, rfl⟩
  rw [hn, hm, hL, hN] at hmade
  rw [hn, hm]
  have MD := hide hmade
  have hm8' : m ≤ 8 := hmade.mm
  obtain ⟨⟨x, y⟩, hxy⟩ : ∃ q, checkF L n N m = q := ⟨_, rfl⟩
  have HXY := hide hxy
  clear hmade hL hN hn hm hown' hc4 hg4 hlo hm8 hl1 hl5 OW3 G3 LN LV hxy
  go_wp2_with fail
  refine (unhide HCK _ A n c (unhide MD).nc (unhide MD).cm L (unhide MD).inst A' m d (unhide MD).md (unhide MD).dm N (unhide MD).need x y (unhide HXY)).mono ?_
  rintro e w5 ⟨rfl, hb5⟩
  have B5 := hide ((unhide MD).below.trans (hb5.mono (unhide MD).below.size))
  have I5 := hide (((unhide MD).inst.below hb5).more hb5.size)
  have N5 := hide (((unhide MD).need.below hb5).more hb5.size)
  clear hb5
  by_cases hy : y = 0
  · have hyb : (y == 0) = true := by simpa using hy
    have hyb2 : (y != 0) = false := by simpa using hy
    have hsp : (x = -1 ∧ ∀ i, 0 ≤ i → i < 0 + m → metF L n (N i) = true) ∨ (∃ X : Nat, x = (X : Int) ∧ 0 ≤ X ∧ X < 0 + m ∧ metF L n (N X) = false ∧ ∀ i, 0 ≤ i → i < X → metF L n (N i) = true) := by
      have h := unhide HXY
      unfold checkF at h
      split at h
      · split at h
        · injection h with h1 h2
          have := firstG_spec L n N m 0
          rw [h1] at this
          exact this
        · injection h with h1 h2; omega
      · injection h with h1 h2; omega
    clear hy
    have BW := hide (Below.refl w5.heap.size w5)
    rcases hsp with ⟨rfl, hall⟩ | ⟨X, rfl, _, hXm, hX, hbef⟩
    · skip
      have HALL := hide hall
      clear hall
      go_wp2_with fail
      go_loopw [29] (fun i wr => ∃ k : Nat, k ≤ m ∧ i = .int .i64 k ∧ Below w5.heap.size w5 wr) (fun i _ => m - (intOf i).toNat)
      case atStart => exact ⟨0, by omega, rfl, unhide BW⟩
      case round =>
        obtain ⟨k, hk, rfl, hB⟩ := hrel
        have BB := hide hB
        clear hB
        have B6 := hide ((unhide B5).trans ((unhide BB).mono (unhide B5).size))
        by_cases hlt : k < m
        · obtain ⟨gb, go, rfl, hgb, hl1, hl2, k0, k1, k2, k3, k4, k5, k6, k7⟩ := (unhide N5).below (unhide BB) k hlt
          obtain ⟨⟨xc, ⟨fa, fb, fc⟩, xo, ⟨ta, tb, tc⟩⟩, hs⟩ : ∃ x, N k = x := ⟨_, rfl⟩
          rw [hs] at hl1 hl2 k0 k1 k2 k3 k4 k5 k6 k7
          dsimp only at hl1 hl2 k0 k1 k2 k3 k4 k5 k6 k7
          have HS := hide hs
          have hki : (k : Int) < (m : Int) := by omega
          have BX := hide ((unhide BB).alloc (unhide BB).size (.cells #[.string ⟨xc.toArray⟩, .int .i64 fa, .int .i64 fb, .int .i64 fc, .string ⟨xo.toArray⟩, .int .i64 ta, .int .i64 tb, .int .i64 tc] 50))
          have IX := hide (((unhide I5).below (unhide BX)).more (unhide BX).size)
          clear hs
          obtain ⟨b, hb⟩ : ∃ b, metF L n ⟨xc, ⟨fa, fb, fc⟩, xo, ⟨ta, tb, tc⟩⟩ = b := ⟨_, rfl⟩
          have HMB := hide hb
          clear hb
          go_wp2_with fail
          refine (unhide HMT _ A n c (unhide MD).nc (unhide MD).cm L (unhide IX) ⟨xc, ⟨fa, fb, fc⟩, xo, ⟨ta, tb, tc⟩⟩ hl1 hl2 b (unhide HMB)).mono ?_
          rintro e w7 ⟨rfl, hb7⟩
          have B7 := hide ((unhide BX).trans (hb7.mono (unhide BX).size))
          clear hb7 k0 k1 k2 k3 k4 k5 k6 k7
      
          obtain rfl : true = b := by rw [← unhide HMB, ← unhide HS]; exact (unhide HALL k (by omega) (by omega)).symm
          have hk1 : ((k : Int) == -1) = false := by first | (simp; done) | (simp; omega)
          go_wp2_with fail
          go_roundw
          case rel => exact ⟨k + 1, by omega, by go_num, unhide B7⟩
          case measure => simp [intOf]; omega
        · have hkf : ((k : Int) < (m : Int)) = False := by simp; omega
          clear hlt hk
          go_wp2_with fail
          go_ret
          exact ⟨by first | rfl | (simp; done) | (simp; omega), unhide B6⟩
    · skip
      have HBEF := hide hbef
      have HX := hide hX
      have hXm2 : (X : Int) < (m : Int) := by omega
      clear hbef hX
      go_wp2_with fail
      go_loopw [29] (fun i wr => ∃ k : Nat, k ≤ m ∧ i = .int .i64 k ∧ Below w5.heap.size w5 wr) (fun i _ => m - (intOf i).toNat)
      case atStart => exact ⟨0, by omega, rfl, unhide BW⟩
      case round =>
        obtain ⟨k, hk, rfl, hB⟩ := hrel
        have BB := hide hB
        clear hB
        have B6 := hide ((unhide B5).trans ((unhide BB).mono (unhide B5).size))
        by_cases hlt : k < m
        · obtain ⟨gb, go, rfl, hgb, hl1, hl2, k0, k1, k2, k3, k4, k5, k6, k7⟩ := (unhide N5).below (unhide BB) k hlt
          obtain ⟨⟨xc, ⟨fa, fb, fc⟩, xo, ⟨ta, tb, tc⟩⟩, hs⟩ : ∃ x, N k = x := ⟨_, rfl⟩
          rw [hs] at hl1 hl2 k0 k1 k2 k3 k4 k5 k6 k7
          dsimp only at hl1 hl2 k0 k1 k2 k3 k4 k5 k6 k7
          have HS := hide hs
          have hki : (k : Int) < (m : Int) := by omega
          have BX := hide ((unhide BB).alloc (unhide BB).size (.cells #[.string ⟨xc.toArray⟩, .int .i64 fa, .int .i64 fb, .int .i64 fc, .string ⟨xo.toArray⟩, .int .i64 ta, .int .i64 tb, .int .i64 tc] 50))
          have IX := hide (((unhide I5).below (unhide BX)).more (unhide BX).size)
          clear hs
          obtain ⟨b, hb⟩ : ∃ b, metF L n ⟨xc, ⟨fa, fb, fc⟩, xo, ⟨ta, tb, tc⟩⟩ = b := ⟨_, rfl⟩
          have HMB := hide hb
          clear hb
          go_wp2_with fail
          refine (unhide HMT _ A n c (unhide MD).nc (unhide MD).cm L (unhide IX) ⟨xc, ⟨fa, fb, fc⟩, xo, ⟨ta, tb, tc⟩⟩ hl1 hl2 b (unhide HMB)).mono ?_
          rintro e w7 ⟨rfl, hb7⟩
          have B7 := hide ((unhide BX).trans (hb7.mono (unhide BX).size))
          clear hb7 k0 k1 k2 k3 k4 k5 k6 k7
      
          by_cases c1 : k < X
          · obtain rfl : true = b := by rw [← unhide HMB, ← unhide HS]; exact (unhide HBEF k (by omega) c1).symm
            have e1 : decide (k < X) = true := by simpa using c1
            have e2 : (k == X) = false := by simp; omega
            have e3 : ((k : Int) == (X : Int)) = false := by simp; omega
            go_wp2_with fail
            go_roundw
            case rel => exact ⟨k + 1, by omega, by go_num, unhide B7⟩
            case measure => simp [intOf]; omega
          · by_cases c2 : k = X
            · obtain rfl : false = b := by rw [← unhide HMB, ← unhide HS, c2]; exact (unhide HX).symm
              have e1 : decide (k < X) = false := by simpa using c1
              have e2 : (k == X) = true := by simpa using c2
              have e3 : ((k : Int) == (X : Int)) = true := by simp; omega
              clear c2
              go_wp2_with fail
              go_roundw
              case rel => exact ⟨k + 1, by omega, by go_num, unhide B7⟩
              case measure => simp [intOf]; omega
            · have e1 : decide (k < X) = false := by simpa using c1
              have e2 : (k == X) = false := by simpa using c2
              have e3 : ((k : Int) == (X : Int)) = false := by simp; omega
              cases b
              all_goals
                go_wp2_with fail
                go_roundw
                case rel => exact ⟨k + 1, by omega, by go_num, unhide B7⟩
                case measure => simp [intOf]; omega
        · have hkf : ((k : Int) < (m : Int)) = False := by simp; omega
          clear hlt hk
          go_wp2_with fail
          go_ret
          exact ⟨by first | rfl | (simp; done) | (simp; omega), unhide B6⟩
  · have hyb : (y == 0) = false := by simpa using hy
    have hyb2 : (y != 0) = true := by simpa using hy
    go_wp2_with fail
    go_ret
    exact ⟨rfl, unhide B5⟩
end Go.Proofs.YtbcbleonpaemgaaDoor
