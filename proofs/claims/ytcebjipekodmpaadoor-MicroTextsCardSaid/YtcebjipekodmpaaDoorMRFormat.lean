/- The reference's Format returns what fmtL says. -/
import Derived.Test.YtcebjipekodmpaaDoorMRText
import Derived.Test.YtcebjipekodmpaaDoorMRet
namespace Go.Proofs.YtcebjipekodmpaaDoor
open Go.RowKit
theorem rdigits_at (w : World) (z : Int) (V : Nat) (hz : z = (V : Int)) (hV : V < 10000000) (D : List UInt8) (hD : Lib.decDigits V = D) :
    Calls Tryd.prog 50 #[.int .i64 z] w fun e w' => e = .returned (.string ⟨D.toArray⟩) ∧ w = w' := by
  subst hz
  exact rdigits_any w V hV D hD
set_option maxRecDepth 100000 in
set_option maxHeartbeats 4000000 in
theorem rformat_at (w : World) (v : Int) (l : List UInt8) (hl : fmtL v = l) :
    Calls Tryd.prog 35 #[.int .i64 v] w fun e w' => e = .returned (.string ⟨l.toArray⟩) ∧ w = w' := by
  have hlen := fmt_len v
  rw [hl] at hlen
  have hc1 : -1000000000000 ≤ clampF v := by unfold clampF; omega
  have hc2 : clampF v ≤ 1000000000000 := by unfold clampF; omega
  unfold fmtL at hl
  obtain ⟨x, hx⟩ : ∃ x, clampF v = x := ⟨_, rfl⟩
  rw [hx] at hl hc1 hc2
  have HX := hide hx
  clear hx
  obtain ⟨n, hn⟩ : ∃ n, x.natAbs = n := ⟨_, rfl⟩
  rw [hn, fmtU_rest] at hl
  obtain ⟨q, hq⟩ : ∃ q, n / 1000000 = q := ⟨_, rfl⟩
  obtain ⟨p, hp⟩ : ∃ p, n % 1000000 = p := ⟨_, rfl⟩
  rw [hq, hp] at hl
  have hqn : n = q * 1000000 + p := by omega
  have hql : q ≤ 1000000 := by omega
  have hpl : p < 1000000 := by omega
  obtain ⟨D, hD⟩ : ∃ D, Lib.decDigits q = D := ⟨_, rfl⟩
  have hDl := dd_len 6 q (by omega)
  rw [hD] at hDl hl
  have hzD := size_list D 7 hDl
  have HD := hide hD
  clear hD hq hp
  by_cases hneg : x < 0
  · by_cases hz : p = 0
    · have e1 : x = -((q : Int) * 1000000 + p) := by omega
      have hdv : ((q : Int) * 1000000 + p) / 1000000 = q := by omega
      have hmd : ((q : Int) * 1000000 + p) % 1000000 = p := by omega
      have hll : l = 45 :: (D) := by rw [← hl, if_pos (by omega), if_pos (by omega)]; simp
      have HL := hide hll
      have e2 : p = 0 := by omega
      subst e2
      clear hl hll hn hqn
      subst e1
      simp only [Int.natCast_zero, Int.add_zero] at hdv hmd HX
      clear hc1 hc2
      go_enter Tryd.func35, Tryd.ntmps35
      go_wp2_with fail
      refine (rclamp_at _ v _ (unhide HX)).mono ?_; rintro e w' ⟨rfl, rfl⟩; go_wp2_with fail
      refine (rdigits_at _ _ q (by omega) (by omega) D (unhide HD)).mono ?_; rintro e w' ⟨rfl, rfl⟩; go_wp2_with fail
      go_ret
      refine ⟨?_, rfl⟩
      rw [unhide HL]
      exact congrArg Ending.returned (congrArg Value.string (text_pre 45 D))
    · have e1 : x = -((q : Int) * 1000000 + p) := by omega
      have e3 : (0 : Int) < (p : Int) := by omega
      have e4 : decide ((p : Int) = 0) = false := by simp; omega
      have hdv : ((q : Int) * 1000000 + p) / 1000000 = q := by omega
      have hmd : ((q : Int) * 1000000 + p) % 1000000 = p := by omega
      have hll : l = 45 :: (D ++ 46 :: restR p) := by rw [← hl, if_pos (by omega), if_neg (by omega)]
      have HL := hide hll
      clear hl hll hn hqn
      subst e1
      clear hc1 hc2
      go_enter Tryd.func35, Tryd.ntmps35
      go_wp2_with fail
      refine (rclamp_at _ v _ (unhide HX)).mono ?_; rintro e w' ⟨rfl, rfl⟩; go_wp2_with fail
      refine (rdigits_at _ _ q (by omega) (by omega) D (unhide HD)).mono ?_; rintro e w' ⟨rfl, rfl⟩; go_wp2_with fail
      rw [hmd, show ((p : Int) == 0) = false from by simp; omega]
      clear e3 e4 hdv hmd HX
      go_loop [4, 5] (fun x y => ∃ (s : List UInt8) (p : Nat), x = .string ⟨s.toArray⟩ ∧ y = .int .i64 p ∧ p < 1000000 ∧ Hid (s ++ restR p = l)) (fun _ y => (restR (intOf y).toNat).length)
      case atStart => exact ⟨45 :: (D ++ [46]), p, congrArg Value.string (by rw [text_pre 45 D, text_post 46 (45 :: D)]; rfl), rfl, hpl, hide (by rw [unhide HL]; simp)⟩
      case round =>
        obtain ⟨s, p, rfl, rfl, hp, HS⟩ := hrel
        clear HL hpl
        by_cases h0 : p = 0
        · subst h0
          go_wp2_with fail
          go_ret
          refine ⟨?_, rfl⟩
          have := unhide HS
          rw [rest_zero, List.append_nil] at this
          rw [this]
          rfl
        · have e3 : (0 : Int) < (p : Int) := by omega
          have e4 : decide ((0 : Int) < (p : Int)) = true := by simpa using e3
          obtain ⟨c, hc⟩ : ∃ c, UInt8.ofNat (48 + 10 * p / 1000000) = c := ⟨_, rfl⟩
          have hstep := rest_step p hp h0
          rw [hc] at hstep
          have hdig : Lib.decDigits (10 * p / 1000000) = [c] := by rw [dd_small _ (by omega), hc]
          have hsl : s.length ≤ 20 := by
            have := congrArg List.length (unhide HS)
            rw [List.length_append] at this
            omega
          have hzs := size_list s 20 hsl
          have HG := hide hdig
          have HT := hide hstep
          clear hc hdig hstep
          go_wp2_with fail
          refine (rdigits_at _ _ (10 * p / 1000000) (by omega) (by omega) [c] (unhide HG)).mono ?_; rintro e w' ⟨rfl, rfl⟩; go_wp2_with fail
          go_round
          case rel => exact ⟨s ++ [c], 10 * p % 1000000, congrArg Value.string (text_post c s), by congr 1, by omega, hide (by have := unhide HS; rw [unhide HT] at this; rw [← this]; simp)⟩
          case measure =>
            simp only [intOf]
            rw [show (10 * (p : Int) % 1000000).toNat = 10 * p % 1000000 by omega, show ((p : Int)).toNat = p by omega, unhide HT]
            simp
  · by_cases hz : p = 0
    · have e1 : x = (q : Int) * 1000000 + p := by omega
      have hdv : ((q : Int) * 1000000 + p) / 1000000 = q := by omega
      have hmd : ((q : Int) * 1000000 + p) % 1000000 = p := by omega
      have hll : l = D := by rw [← hl, if_neg (by omega), if_pos (by omega)]; simp
      have HL := hide hll
      have e2 : p = 0 := by omega
      subst e2
      clear hl hll hn hqn
      subst e1
      simp only [Int.natCast_zero, Int.add_zero] at hdv hmd HX
      clear hc1 hc2
      go_enter Tryd.func35, Tryd.ntmps35
      go_wp2_with fail
      refine (rclamp_at _ v _ (unhide HX)).mono ?_; rintro e w' ⟨rfl, rfl⟩; go_wp2_with fail
      refine (rdigits_at _ _ q (by omega) (by omega) D (unhide HD)).mono ?_; rintro e w' ⟨rfl, rfl⟩; go_wp2_with fail
      go_ret
      refine ⟨?_, rfl⟩
      rw [unhide HL]
      exact congrArg Ending.returned (congrArg Value.string (text_nil D))
    · have e1 : x = (q : Int) * 1000000 + p := by omega
      have e3 : (0 : Int) < (p : Int) := by omega
      have e4 : decide ((p : Int) = 0) = false := by simp; omega
      have hdv : ((q : Int) * 1000000 + p) / 1000000 = q := by omega
      have hmd : ((q : Int) * 1000000 + p) % 1000000 = p := by omega
      have hll : l = D ++ 46 :: restR p := by rw [← hl, if_neg (by omega), if_neg (by omega)]
      have HL := hide hll
      clear hl hll hn hqn
      subst e1
      clear hc1 hc2
      go_enter Tryd.func35, Tryd.ntmps35
      go_wp2_with fail
      refine (rclamp_at _ v _ (unhide HX)).mono ?_; rintro e w' ⟨rfl, rfl⟩; go_wp2_with fail
      refine (rdigits_at _ _ q (by omega) (by omega) D (unhide HD)).mono ?_; rintro e w' ⟨rfl, rfl⟩; go_wp2_with fail
      rw [hmd, show ((p : Int) == 0) = false from by simp; omega]
      clear e3 e4 hdv hmd HX
      go_loop [4, 5] (fun x y => ∃ (s : List UInt8) (p : Nat), x = .string ⟨s.toArray⟩ ∧ y = .int .i64 p ∧ p < 1000000 ∧ Hid (s ++ restR p = l)) (fun _ y => (restR (intOf y).toNat).length)
      case atStart => exact ⟨D ++ [46], p, congrArg Value.string (by rw [text_nil, text_post 46 D]), rfl, hpl, hide (by rw [unhide HL]; simp)⟩
      case round =>
        obtain ⟨s, p, rfl, rfl, hp, HS⟩ := hrel
        clear HL hpl
        by_cases h0 : p = 0
        · subst h0
          go_wp2_with fail
          go_ret
          refine ⟨?_, rfl⟩
          have := unhide HS
          rw [rest_zero, List.append_nil] at this
          rw [this]
          rfl
        · have e3 : (0 : Int) < (p : Int) := by omega
          have e4 : decide ((0 : Int) < (p : Int)) = true := by simpa using e3
          obtain ⟨c, hc⟩ : ∃ c, UInt8.ofNat (48 + 10 * p / 1000000) = c := ⟨_, rfl⟩
          have hstep := rest_step p hp h0
          rw [hc] at hstep
          have hdig : Lib.decDigits (10 * p / 1000000) = [c] := by rw [dd_small _ (by omega), hc]
          have hsl : s.length ≤ 20 := by
            have := congrArg List.length (unhide HS)
            rw [List.length_append] at this
            omega
          have hzs := size_list s 20 hsl
          have HG := hide hdig
          have HT := hide hstep
          clear hc hdig hstep
          go_wp2_with fail
          refine (rdigits_at _ _ (10 * p / 1000000) (by omega) (by omega) [c] (unhide HG)).mono ?_; rintro e w' ⟨rfl, rfl⟩; go_wp2_with fail
          go_round
          case rel => exact ⟨s ++ [c], 10 * p % 1000000, congrArg Value.string (text_post c s), by congr 1, by omega, hide (by have := unhide HS; rw [unhide HT] at this; rw [← this]; simp)⟩
          case measure =>
            simp only [intOf]
            rw [show (10 * (p : Int) % 1000000).toNat = 10 * p % 1000000 by omega, show ((p : Int)).toNat = p by omega, unhide HT]
            simp
end Go.Proofs.YtcebjipekodmpaaDoor
