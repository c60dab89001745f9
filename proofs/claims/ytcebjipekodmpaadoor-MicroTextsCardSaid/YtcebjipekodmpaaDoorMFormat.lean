/- micro.Format returns what fmtL says. -/
import Derived.Test.YtcebjipekodmpaaDoorMDecim
namespace Go.Proofs.YtcebjipekodmpaaDoor
open Go.RowKit Go.Sort
def fmtU (n : Nat) : List UInt8 := Lib.decDigits (n / 1000000) ++ (if n % 1000000 = 0 then [] else 46 :: Lib.trimRightB ((Lib.decDigits (1000000 + n % 1000000)).drop 1) 48)
def fmtL (v : Int) : List UInt8 := if clampF v < 0 then 45 :: fmtU (clampF v).natAbs else fmtU (clampF v).natAbs
theorem fmtint_at (w : World) (htab : Lib.TabIs Tryd.prog w "internal/strconv.uint64pow10" .u64 Lib.pow10Tab) (z : Int) (u : Nat) (hz : z = (u : Int)) (hu : u ≤ 10000000) (D : List UInt8) (hD : Lib.decDigits u = D) :
    Calls Tryd.prog 48 #[.int .i64 z, .int .i64 10] w fun e w' => e = .returned (.string ⟨D.toArray⟩) ∧ Below w.heap.size w w' := by
  subst hz
  subst hD
  refine (Tryd.strconv_FormatInt_10 (u : Int) (by omega) (by omega) w htab).mono fun e w' h => ?_
  obtain ⟨rfl, k, os, rfl⟩ := h
  exact ⟨by rw [Lib.itoa_nonneg], (below_drewN (Below.refl _ _) k).trans (below_grow (w.drewN k) os)⟩
theorem trimr_at (w : World) (T : ByteArray) (l r : List UInt8) (hT : T = ⟨l.toArray⟩) (hl : l.length ≤ 1000) (hr : Lib.trimRightB l 48 = r) :
    Calls Tryd.prog 49 #[.string T, .string ⟨#[48]⟩] w fun e w' => e = .returned (.string ⟨r.toArray⟩) ∧ w = w' := by
  subst hT
  subst hr
  have h := Tryd.strings_TrimRight_one ⟨l.toArray⟩ 48 (by decide) w (by rw [size_mk]; omega)
  rw [toList_mk] at h
  exact h.mono fun _ _ h => ⟨h.1, h.2.symm⟩
theorem text_nil (l : List UInt8) : (⟨#[]⟩ : ByteArray) ++ ⟨l.toArray⟩ = ⟨l.toArray⟩ := by
  apply ByteArray.ext
  simp
theorem cut_six (P : List UInt8) : (⟨(49 :: P).toArray⟩ : ByteArray).extract 1 (P.length + 1) = ⟨P.toArray⟩ := by
  apply ByteArray.ext
  apply Array.ext'
  simp
theorem trimr_len (l : List UInt8) : (Lib.trimRightB l 48).length ≤ l.length := by
  unfold Lib.trimRightB
  have h := (List.dropWhile_suffix (· == (48 : UInt8)) (l := l.reverse)).length_le
  simpa using h
set_option maxRecDepth 100000 in
set_option maxHeartbeats 4000000 in
theorem format_at (w : World) (htab : Lib.TabIs Tryd.prog w "internal/strconv.uint64pow10" .u64 Lib.pow10Tab) (v : Int) (l : List UInt8) (hl : fmtL v = l) :
    Calls Tryd.prog 34 #[.int .i64 v] w fun e w' => e = .returned (.string ⟨l.toArray⟩) ∧ Below w.heap.size w w' := by
  have HT := hide htab
  clear htab
  have hc1 : -1000000000000 ≤ clampF v := by unfold clampF; omega
  have hc2 : clampF v ≤ 1000000000000 := by unfold clampF; omega
  unfold fmtL fmtU at hl
  obtain ⟨x, hx⟩ : ∃ x, clampF v = x := ⟨_, rfl⟩
  rw [hx] at hl hc1 hc2
  have HX := hide hx
  clear hx
  obtain ⟨n, hn⟩ : ∃ n, x.natAbs = n := ⟨_, rfl⟩
  rw [hn] at hl
  obtain ⟨q, hq⟩ : ∃ q, n / 1000000 = q := ⟨_, rfl⟩
  obtain ⟨p, hp⟩ : ∃ p, n % 1000000 = p := ⟨_, rfl⟩
  rw [hq, hp] at hl
  have hqn : n = q * 1000000 + p := by omega
  have hql : q ≤ 1000000 := by omega
  have hpl : p < 1000000 := by omega
  obtain ⟨D, hD⟩ : ∃ D, Lib.decDigits q = D := ⟨_, rfl⟩
  have hDl := dd_len 6 q (by omega)
  rw [hD] at hDl hl
  have hzD := size_list D 7 hDl
  obtain ⟨P, hP, hPl, hPa, hPv⟩ := six_of p hpl
  rw [hP] at hl
  rw [List.drop_one, List.tail_cons] at hl
  obtain ⟨R, hR⟩ : ∃ R, Lib.trimRightB P 48 = R := ⟨_, rfl⟩
  have hRl := trimr_len P
  rw [hR] at hl hRl
  have hzR := size_list R 6 (by omega)
  have hPl6 : P.length ≤ 6 := by omega
  have hRl6 : R.length ≤ 6 := by omega
  have HD := hide hD
  have HP := hide hP
  have HR := hide hR
  clear hD hP hR hPa hPv hRl hPl hq hp
  by_cases hneg : x < 0
  · by_cases hz : p = 0
    · have e1 : x = -((q : Int) * 1000000 + p) := by omega
      have hdv : ((q : Int) * 1000000 + p) / 1000000 = q := by omega
      have hmd : ((q : Int) * 1000000 + p) % 1000000 = p := by omega
      have hll : l = 45 :: (D) := by rw [← hl, if_pos (by omega), if_pos (by omega)]; simp
      have HL := hide hll
      have e2 : p = 0 := by omega
      subst e2
      clear hl hll hn hqn
      subst e1
      simp only [Int.natCast_zero, Int.add_zero] at hdv hmd HX
      clear hc1 hc2
      go_enter Tryd.func34, Tryd.ntmps34
      go_wp2_with fail
      refine (clamp_at _ v _ (unhide HX)).mono ?_; rintro e w' ⟨rfl, rfl⟩; go_wp2_with fail
      refine (fmtint_at _ (unhide HT) _ q (by omega) (by omega) D (unhide HD)).mono ?_
      rintro e w1 ⟨rfl, hb⟩
      have B1 := hide hb
      clear hb
      go_wp2_with fail
      go_ret
      refine ⟨?_, unhide B1⟩
      rw [unhide HL]
      rfl
    · have e1 : x = -((q : Int) * 1000000 + p) := by omega
      have e3 : (0 : Int) < (p : Int) := by omega
      have e4 : decide ((0 : Int) < (p : Int)) = true := by simpa using e3
      have hdv : ((q : Int) * 1000000 + p) / 1000000 = q := by omega
      have hmd : ((q : Int) * 1000000 + p) % 1000000 = p := by omega
      have hll : l = 45 :: (D ++ 46 :: R) := by rw [← hl, if_pos (by omega), if_neg (by omega)]
      have HL := hide hll
      clear hl hll hn hqn
      subst e1
      clear hc1 hc2
      go_enter Tryd.func34, Tryd.ntmps34
      go_wp2_with fail
      refine (clamp_at _ v _ (unhide HX)).mono ?_; rintro e w' ⟨rfl, rfl⟩; go_wp2_with fail
      refine (fmtint_at _ (unhide HT) _ q (by omega) (by omega) D (unhide HD)).mono ?_
      rintro e w1 ⟨rfl, hb⟩
      have B1 := hide hb
      clear hb
      go_wp2_with fail
      refine (fmtint_at _ (tab_below (unhide HT) (unhide B1)) _ (1000000 + p) (by omega) (by omega) (49 :: P) (unhide HP)).mono ?_
      rintro e w2 ⟨rfl, hb⟩
      have B2 := hide ((unhide B1).trans (hb.mono (unhide B1).size))
      clear hb
      go_wp2_with fail
      refine (trimr_at _ _ P R (cut_six P) (by omega) (unhide HR)).mono ?_; rintro e w' ⟨rfl, rfl⟩; go_wp2_with fail
      go_ret
      refine ⟨?_, unhide B2⟩
      rw [unhide HL]
      exact congrArg Ending.returned (congrArg Value.string (by rw [text_pre 46 R, app2 D (46 :: R), text_pre 45]))
  · by_cases hz : p = 0
    · have e1 : x = (q : Int) * 1000000 + p := by omega
      have hdv : ((q : Int) * 1000000 + p) / 1000000 = q := by omega
      have hmd : ((q : Int) * 1000000 + p) % 1000000 = p := by omega
      have hll : l = D := by rw [← hl, if_neg (by omega), if_pos (by omega)]; simp
      have HL := hide hll
      have e2 : p = 0 := by omega
      subst e2
      clear hl hll hn hqn
      subst e1
      simp only [Int.natCast_zero, Int.add_zero] at hdv hmd HX
      clear hc1 hc2
      go_enter Tryd.func34, Tryd.ntmps34
      go_wp2_with fail
      refine (clamp_at _ v _ (unhide HX)).mono ?_; rintro e w' ⟨rfl, rfl⟩; go_wp2_with fail
      refine (fmtint_at _ (unhide HT) _ q (by omega) (by omega) D (unhide HD)).mono ?_
      rintro e w1 ⟨rfl, hb⟩
      have B1 := hide hb
      clear hb
      go_wp2_with fail
      go_ret
      refine ⟨?_, unhide B1⟩
      rw [unhide HL]
      exact congrArg Ending.returned (congrArg Value.string (text_nil D))
    · have e1 : x = (q : Int) * 1000000 + p := by omega
      have e3 : (0 : Int) < (p : Int) := by omega
      have e4 : decide ((0 : Int) < (p : Int)) = true := by simpa using e3
      have hdv : ((q : Int) * 1000000 + p) / 1000000 = q := by omega
      have hmd : ((q : Int) * 1000000 + p) % 1000000 = p := by omega
      have hll : l = D ++ 46 :: R := by rw [← hl, if_neg (by omega), if_neg (by omega)]
      have HL := hide hll
      clear hl hll hn hqn
      subst e1
      clear hc1 hc2
      go_enter Tryd.func34, Tryd.ntmps34
      go_wp2_with fail
      refine (clamp_at _ v _ (unhide HX)).mono ?_; rintro e w' ⟨rfl, rfl⟩; go_wp2_with fail
      refine (fmtint_at _ (unhide HT) _ q (by omega) (by omega) D (unhide HD)).mono ?_
      rintro e w1 ⟨rfl, hb⟩
      have B1 := hide hb
      clear hb
      go_wp2_with fail
      refine (fmtint_at _ (tab_below (unhide HT) (unhide B1)) _ (1000000 + p) (by omega) (by omega) (49 :: P) (unhide HP)).mono ?_
      rintro e w2 ⟨rfl, hb⟩
      have B2 := hide ((unhide B1).trans (hb.mono (unhide B1).size))
      clear hb
      go_wp2_with fail
      refine (trimr_at _ _ P R (cut_six P) (by omega) (unhide HR)).mono ?_; rintro e w' ⟨rfl, rfl⟩; go_wp2_with fail
      go_ret
      refine ⟨?_, unhide B2⟩
      rw [unhide HL]
      exact congrArg Ending.returned (congrArg Value.string (by rw [text_pre 46 R, app2 D (46 :: R), text_nil]))
end Go.Proofs.YtcebjipekodmpaaDoor
