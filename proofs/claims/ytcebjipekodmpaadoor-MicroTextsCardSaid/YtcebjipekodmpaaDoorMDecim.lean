/- The law MicroDecimals, walked: it returns true. -/
import Derived.Test.YtcebjipekodmpaaDoorMDigits
import Derived.Test.YtcebjipekodmpaaDoorMShape
import Derived.Test.YtcebjipekodmpaaDoorMSums
namespace Go.Proofs.YtcebjipekodmpaaDoor
open Go.RowKit
theorem parse_at (w : World) (hsh : w.ShapedOpen Tryd.prog) (T : ByteArray) (l : List UInt8) (hT : T = ⟨l.toArray⟩) (hl : l.length ≤ 500) (x y : Int) (hx : parseF l = (x, y)) :
    Calls Tryd.prog 32 #[.string T] w fun e w' => e = .returned (.tuple #[.int .i64 x, .int .i64 y]) ∧ Below w.heap.size w w' := by
  subst hT
  have h := parse_any w hsh l hl
  rw [hx] at h
  exact h
theorem size_list (l : List UInt8) (n : Nat) (h : l.length ≤ n) : (⟨l.toArray⟩ : ByteArray).size ≤ n := by simpa [ByteArray.size] using h
theorem first_digit (D : List UInt8) (hD : D.all isD = true) (hne : D ≠ []) : ∃ c r, D = c :: r ∧ c ≠ 46 := by
  rcases D with _ | ⟨c, r⟩
  · exact absurd rfl hne
  · refine ⟨c, r, rfl, ?_⟩
    simp only [List.all_cons, Bool.and_eq_true] at hD
    have hb : 48 ≤ c.toNat ∧ c.toNat ≤ 57 := by simpa [isD] using hD.1
    intro e
    subst e
    have e2 : (46 : UInt8).toNat = 46 := rfl
    omega
theorem text_eq (D P l : List UInt8) (h : D ++ 46 :: P = l) : (⟨D.toArray⟩ : ByteArray) ++ ⟨#[46]⟩ ++ (⟨(49 :: P).toArray⟩ : ByteArray).extract 1 (P.length + 1) = ⟨l.toArray⟩ := by
  have e : (⟨(49 :: P).toArray⟩ : ByteArray).extract 1 (P.length + 1) = ⟨P.toArray⟩ := by
    apply ByteArray.ext
    apply Array.ext'
    simp
  rw [e, show (⟨#[46]⟩ : ByteArray) = ⟨[46].toArray⟩ from rfl, app3, ← h]
  simp
theorem text_pre (c : UInt8) (l : List UInt8) : (⟨#[c]⟩ : ByteArray) ++ ⟨l.toArray⟩ = ⟨(c :: l).toArray⟩ := by
  rw [show (⟨#[c]⟩ : ByteArray) = ⟨[c].toArray⟩ from rfl, app2]
  rfl
theorem text_post (c : UInt8) (l : List UInt8) : (⟨l.toArray⟩ : ByteArray) ++ ⟨#[c]⟩ = ⟨(l ++ [c]).toArray⟩ := by
  rw [show (⟨#[c]⟩ : ByteArray) = ⟨[c].toArray⟩ from rfl, app2]
set_option maxRecDepth 100000 in
set_option maxHeartbeats 4000000 in
theorem decimals_walk (w : World) (hsh : w.ShapedOpen Tryd.prog) (a : Int) (_wa : (Lit.int .i64 a).wf = true) (b : Int) (_wb : (Lit.int .i64 b).wf = true) (neg : Bool) (htab : Lib.TabIs Tryd.prog w "internal/strconv.uint64pow10" .u64 Lib.pow10Tab) :
    Calls Tryd.prog 12 #[.int .i64 a, .int .i64 b, .bool neg] w fun e w' => e = .returned (.bool true) ∧ Below w.heap.size w w' := by
  have HT := hide htab
  have HSH := hide hsh
  clear htab hsh
  obtain ⟨W, hW, hWm⟩ : ∃ W : Nat, W < 1000000 ∧ a % 1000000 = (W : Int) := ⟨(a % 1000000).toNat, by omega, by omega⟩
  obtain ⟨p, hp, hpm⟩ : ∃ p : Nat, p < 1000000 ∧ b % 1000000 = (p : Int) := ⟨(b % 1000000).toNat, by omega, by omega⟩
  obtain ⟨P, hP, hPl, hPa, hPv⟩ := six_of p hp
  obtain ⟨D, hD⟩ : ∃ D, Lib.decDigits W = D := ⟨_, rfl⟩
  have hDa := dd_all W
  have hDn := dd_ne W
  have hDl := dd_len 6 W (by omega)
  have hdec := parse_dec W p hW P hPl hPa hPv hp
  rw [hD] at hDa hDn hDl hdec
  obtain ⟨c, r, hcr, hc46⟩ := first_digit D hDa hDn
  obtain ⟨l, hl⟩ : ∃ l, D ++ 46 :: P = l := ⟨_, rfl⟩
  have hll : l.length ≤ 14 := by rw [← hl]; simp; omega
  have hlong := parse_long D (P ++ [48]) hDa hDn (by simp [hPl])
  have hlead : parseF (48 :: (D ++ 46 :: P)) = (0, 6) := parse_lead _ c (r ++ 46 :: P) (by rw [hcr]; rfl) hc46
  have hlead2 : parseF (48 :: 45 :: (D ++ 46 :: P)) = (0, 6) := parse_lead _ 45 (D ++ 46 :: P) rfl (by decide)
  rw [show D ++ 46 :: (P ++ [48]) = l ++ [48] by rw [← hl]; simp] at hlong
  rw [hl] at hlead hlead2 hdec
  have hzl := size_list l 14 hll
  have hz1 := size_list D 7 hDl
  have hz2 := size_list P 6 (by omega)
  have hPl6 : P.length ≤ 6 := by omega
  have hcast : ((W * 1000000 + p : Nat) : Int) = (W : Int) * 1000000 + (p : Int) := by omega
  rw [hcast] at hdec
  have hPP := hide hP
  have hDD := hide hD
  have HD1 := hide hdec.1
  have HD2 := hide hdec.2
  have HG1 := hide hlong.1
  have HG2 := hide hlong.2
  have HL1 := hide hlead
  have HL2 := hide hlead2
  have HWm := hide hWm
  have HPm := hide hpm
  have HPL := hide hPl
  have HLT := hide hl
  clear hl hP hD hdec hlong hlead hlead2 hcr hc46 hDa hDn hPa hPv hWm hpm hcast hPl
  cases neg
  · go_enter Tryd.func12, Tryd.ntmps12
    go_wp2_with fail
    refine (mod_any _ a 1000000 W (by omega) (by omega) (unhide HWm)).mono ?_; rintro e w' ⟨rfl, rfl⟩; go_wp2_with fail
    refine (mod_any _ b 1000000 p (by omega) (by omega) (unhide HPm)).mono ?_; rintro e w' ⟨rfl, rfl⟩; go_wp2_with fail
    refine (digits_any _ W (by omega) D (unhide hDD)).mono ?_; rintro e w' ⟨rfl, rfl⟩; go_wp2_with fail
    refine (digits_any _ (1000000 + p) (by omega) (49 :: P) (unhide hPP)).mono ?_; rintro e w' ⟨rfl, rfl⟩; go_wp2_with fail
    rw [text_eq D P l (unhide HLT)]
    refine (parse_at _ (unhide HSH) _ l rfl (by omega) _ _ (unhide HD1)).mono ?_
    rintro e w1 ⟨rfl, hb⟩
    have B1 := hide hb
    clear hb
    go_wp2_with fail
    refine (parse_at _ (shape_below (unhide HSH) (unhide B1)) _ (48 :: l) (text_pre 48 l) (by simp; omega) _ _ (unhide HL1)).mono ?_
    rintro e w2 ⟨rfl, hb⟩
    have B2 := hide ((unhide B1).trans (hb.mono (unhide B1).size))
    clear hb
    go_wp2_with fail
    refine (parse_at _ (shape_below (unhide HSH) (unhide B2)) _ (l ++ [48]) (text_post 48 l) (by simp; omega) _ _ (unhide HG1)).mono ?_
    rintro e w3 ⟨rfl, hb⟩
    have B3 := hide ((unhide B2).trans (hb.mono (unhide B2).size))
    clear hb
    go_wp2_with fail
    refine (awake_below w w3 0 (unhide HT) (unhide B3)).mono ?_
    rintro e w4 ⟨rfl, hb⟩
    have HB := hide hb
    clear hb
    go_wp2_with fail
    go_ret
    exact ⟨rfl, unhide HB⟩
  · go_enter Tryd.func12, Tryd.ntmps12
    go_wp2_with fail
    refine (mod_any _ a 1000000 W (by omega) (by omega) (unhide HWm)).mono ?_; rintro e w' ⟨rfl, rfl⟩; go_wp2_with fail
    refine (mod_any _ b 1000000 p (by omega) (by omega) (unhide HPm)).mono ?_; rintro e w' ⟨rfl, rfl⟩; go_wp2_with fail
    refine (digits_any _ W (by omega) D (unhide hDD)).mono ?_; rintro e w' ⟨rfl, rfl⟩; go_wp2_with fail
    refine (digits_any _ (1000000 + p) (by omega) (49 :: P) (unhide hPP)).mono ?_; rintro e w' ⟨rfl, rfl⟩; go_wp2_with fail
    rw [text_eq D P l (unhide HLT)]
    go_wp2_with fail
    refine (parse_at _ (unhide HSH) _ (45 :: l) (text_pre 45 l) (by simp; omega) _ _ (unhide HD2)).mono ?_
    rintro e w1 ⟨rfl, hb⟩
    have B1 := hide hb
    clear hb
    go_wp2_with fail
    refine (parse_at _ (shape_below (unhide HSH) (unhide B1)) _ (48 :: 45 :: l) (by rw [text_pre 45 l, text_pre 48]) (by simp; omega) _ _ (unhide HL2)).mono ?_
    rintro e w2 ⟨rfl, hb⟩
    have B2 := hide ((unhide B1).trans (hb.mono (unhide B1).size))
    clear hb
    go_wp2_with fail
    refine (parse_at _ (shape_below (unhide HSH) (unhide B2)) _ (45 :: (l ++ [48])) (by rw [text_pre 45 l, text_post 48]; rfl) (by simp; omega) _ _ (unhide HG2)).mono ?_
    rintro e w3 ⟨rfl, hb⟩
    have B3 := hide ((unhide B2).trans (hb.mono (unhide B2).size))
    clear hb
    go_wp2_with fail
    refine (awake_below w w3 0 (unhide HT) (unhide B3)).mono ?_
    rintro e w4 ⟨rfl, hb⟩
    have HB := hide hb
    clear hb
    go_wp2_with fail
    go_ret
    exact ⟨rfl, unhide HB⟩
end Go.Proofs.YtcebjipekodmpaaDoor
