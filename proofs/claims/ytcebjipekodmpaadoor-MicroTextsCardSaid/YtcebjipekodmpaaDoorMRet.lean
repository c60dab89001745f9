/- The law MicroReturns, walked: it returns true. -/
import Derived.Test.YtcebjipekodmpaaDoorMText
namespace Go.Proofs.YtcebjipekodmpaaDoor
open Go.RowKit
theorem cat4 (a b c d l : List UInt8) (h : a ++ b ++ c ++ d = l) : (⟨a.toArray⟩ : ByteArray) ++ ⟨b.toArray⟩ ++ ⟨c.toArray⟩ ++ ⟨d.toArray⟩ = ⟨l.toArray⟩ := by
  rw [app2 a b, app2 (a ++ b) c, app2 (a ++ b ++ c) d, h]
theorem fmt_len (v : Int) : (fmtL v).length ≤ 20 := by
  have hc := clamp_lim v
  have h : ∀ n : Nat, n ≤ 1000000000000 → (fmtU n).length ≤ 19 := by
    intro n hn
    have h1 := dd_len 6 (n / 1000000) (by omega)
    have h2 := dd_len 6 (1000000 + n % 1000000) (by omega)
    have h3 := trimr_len ((Lib.decDigits (1000000 + n % 1000000)).drop 1)
    rw [List.length_drop] at h3
    unfold fmtU
    split
    · simp
      omega
    · simp only [List.length_append, List.length_cons]
      omega
  have h1 := h (clampF v).natAbs (by omega)
  unfold fmtL
  split
  · rw [List.length_cons]
    omega
  · omega
set_option maxRecDepth 100000 in
set_option maxHeartbeats 4000000 in
theorem returns_walk (w : World) (hsh : w.ShapedOpen Tryd.prog) (v : Int) (_wv : (Lit.int .i64 v).wf = true) (A : Option Addr) (n c : Nat) (zs : List Int) (_hn : n ≤ c) (_hc : c ≤ maxLen) (hr : Reads w w.heap.size 1 A n (intV zs)) (htab : Lib.TabIs Tryd.prog w "internal/strconv.uint64pow10" .u64 Lib.pow10Tab) :
    Calls Tryd.prog 11 #[.int .i64 v, .slice A n c] w fun e w' => e = .returned (.bool true) ∧ Below w.heap.size w w' := by
  have HT := hide htab
  have HSH := hide hsh
  clear htab hsh
  by_cases hl : n ≤ 600
  · have HR := hide hr
    have hd : decide (n ≤ 600) = true := by simpa using hl
    have HDC := Lib.hid hd
    clear hr hd
    go_enter Tryd.func11, Tryd.ntmps11
    go_wp2_with fail
    refine (light_at _ A n c true HDC.out).mono ?_; rintro e w' ⟨rfl, rfl⟩; go_wp2_with fail
    refine (roll_at _ A n c).mono ?_; rintro e w' ⟨rfl, rfl⟩; go_wp2_with fail
    obtain ⟨W0, hW0⟩ : ∃ W0, w.alloc (.cells #[.slice A n c, .int .i64 0] 52) = W0 := ⟨_, rfl⟩
    have R0 : Hid (Reads W0 w.heap.size 1 A n (intV zs)) := hide (hW0 ▸ (unhide HR).alloc (Nat.le_refl _) (.cells #[.slice A n c, .int .i64 0] 52))
    have B0 : Hid (Below w.heap.size w W0) := hide (hW0 ▸ (Below.refl w.heap.size w).alloc (Nat.le_refl _) (.cells #[.slice A n c, .int .i64 0] 52))
    have D0 : Hid (Blk W0 w.heap.size 52 #[.slice A n c, .int .i64 ((0 : Nat) : Int)]) := hide (hW0 ▸ Blk.new w _ _)
    rw [hW0]
    clear hW0 HR
    refine (next_at W0 w.heap.size w.heap.size A n c 0 zs 2 (by omega) (by omega) (by omega) hl (unhide D0) (unhide R0) (Nat.le_refl _)).mono ?_
    rintro e W1 ⟨j1, k1, hj1, hk1, rfl, hb, hg⟩
    have R1 := hide ((unhide R0).grown hg (by have := (unhide D0).lt; omega) (fun g' e => by injection e with e; omega))
    have B1 := hide ((unhide B0).grown hg (by have := (unhide D0).lt; omega) (fun g' e => by injection e with e; omega))
    have D1 := hide hb
    clear hb hg
    go_wp2_with fail
    refine (text_at W1 w.heap.size w.heap.size A n c k1 zs _ [45, 48] rfl (by simp) (by simp) j1 (by omega) hk1 hl (unhide D1) (unhide R1) (Nat.le_refl _)).mono ?_
    rintro e W2 ⟨t1, k2, ht1, hk2, rfl, hb, hg⟩
    have R2 := hide ((unhide R1).grown hg (by have := (unhide D1).lt; omega) (fun g' e => by injection e with e; omega))
    have B2 := hide ((unhide B1).grown hg (by have := (unhide D1).lt; omega) (fun g' e => by injection e with e; omega))
    have D2 := hide hb
    clear hb hg
    have hz1 := size_list t1 10 (by omega)
    have hy1 : t1.length ≤ 10 := by omega
    go_wp2_with fail
    refine (next_at W2 w.heap.size w.heap.size A n c k2 zs 9 (by omega) (by omega) hk2 hl (unhide D2) (unhide R2) (Nat.le_refl _)).mono ?_
    rintro e W3 ⟨j2, k3, hj2, hk3, rfl, hb, hg⟩
    have R3 := hide ((unhide R2).grown hg (by have := (unhide D2).lt; omega) (fun g' e => by injection e with e; omega))
    have B3 := hide ((unhide B2).grown hg (by have := (unhide D2).lt; omega) (fun g' e => by injection e with e; omega))
    have D3 := hide hb
    clear hb hg
    go_wp2_with fail
    refine (text_at W3 w.heap.size w.heap.size A n c k3 zs _ [48, 48, 49, 57] rfl (by simp) (by simp) j2 (by omega) hk3 hl (unhide D3) (unhide R3) (Nat.le_refl _)).mono ?_
    rintro e W4 ⟨t2, k4, ht2, hk4, rfl, hb, hg⟩
    have R4 := hide ((unhide R3).grown hg (by have := (unhide D3).lt; omega) (fun g' e => by injection e with e; omega))
    have B4 := hide ((unhide B3).grown hg (by have := (unhide D3).lt; omega) (fun g' e => by injection e with e; omega))
    have D4 := hide hb
    clear hb hg
    have hz2 := size_list t2 10 (by omega)
    have hy2 : t2.length ≤ 10 := by omega
    go_wp2_with fail
    refine (next_at W4 w.heap.size w.heap.size A n c k4 zs 2 (by omega) (by omega) hk4 hl (unhide D4) (unhide R4) (Nat.le_refl _)).mono ?_
    rintro e W5 ⟨j3, k5, hj3, hk5, rfl, hb, hg⟩
    have R5 := hide ((unhide R4).grown hg (by have := (unhide D4).lt; omega) (fun g' e => by injection e with e; omega))
    have B5 := hide ((unhide B4).grown hg (by have := (unhide D4).lt; omega) (fun g' e => by injection e with e; omega))
    have D5 := hide hb
    clear hb hg
    go_wp2_with fail
    refine (text_at W5 w.heap.size w.heap.size A n c k5 zs _ [46] rfl (by simp) (by simp) j3 (by omega) hk5 hl (unhide D5) (unhide R5) (Nat.le_refl _)).mono ?_
    rintro e W6 ⟨t3, k6, ht3, hk6, rfl, hb, hg⟩
    have R6 := hide ((unhide R5).grown hg (by have := (unhide D5).lt; omega) (fun g' e => by injection e with e; omega))
    have B6 := hide ((unhide B5).grown hg (by have := (unhide D5).lt; omega) (fun g' e => by injection e with e; omega))
    have D6 := hide hb
    clear hb hg
    have hz3 := size_list t3 10 (by omega)
    have hy3 : t3.length ≤ 10 := by omega
    go_wp2_with fail
    refine (next_at W6 w.heap.size w.heap.size A n c k6 zs 8 (by omega) (by omega) hk6 hl (unhide D6) (unhide R6) (Nat.le_refl _)).mono ?_
    rintro e W7 ⟨j4, k7, hj4, hk7, rfl, hb, hg⟩
    have R7 := hide ((unhide R6).grown hg (by have := (unhide D6).lt; omega) (fun g' e => by injection e with e; omega))
    have B7 := hide ((unhide B6).grown hg (by have := (unhide D6).lt; omega) (fun g' e => by injection e with e; omega))
    have D7 := hide hb
    clear hb hg
    go_wp2_with fail
    refine (text_at W7 w.heap.size w.heap.size A n c k7 zs _ [48, 53] rfl (by simp) (by simp) j4 (by omega) hk7 hl (unhide D7) (unhide R7) (Nat.le_refl _)).mono ?_
    rintro e W8 ⟨t4, k8, ht4, hk8, rfl, hb, hg⟩
    have R8 := hide ((unhide R7).grown hg (by have := (unhide D7).lt; omega) (fun g' e => by injection e with e; omega))
    have B8 := hide ((unhide B7).grown hg (by have := (unhide D7).lt; omega) (fun g' e => by injection e with e; omega))
    have D8 := hide hb
    clear hb hg
    have hz4 := size_list t4 10 (by omega)
    have hy4 : t4.length ≤ 10 := by omega
    go_wp2_with fail
    obtain ⟨l, hcat⟩ : ∃ l, t1 ++ t2 ++ t3 ++ t4 = l := ⟨_, rfl⟩
    have hll : l.length ≤ 30 := by rw [← hcat]; simp; omega
    rw [cat4 t1 t2 t3 t4 l hcat]
    clear hcat
    obtain ⟨⟨pn, pe⟩, hp⟩ : ∃ r, parseF l = r := ⟨_, rfl⟩
    have hshort : pe = 0 → (fmtL pn).length ≤ l.length := fun h => fmt_short l pn (by rw [hp, h])
    have HS := hide hshort
    have HP := hide hp
    have hzl := size_list l 30 hll
    clear hp hshort
    refine (parse_at W8 (shape_below (unhide HSH) (unhide B8)) _ l rfl (by omega) _ _ (unhide HP)).mono ?_
    rintro e w9 ⟨rfl, hb⟩
    have B9 := hide ((unhide B8).trans (hb.mono (unhide B8).size))
    clear hb
    go_wp2_with fail
    obtain ⟨lv, hlv⟩ : ∃ lv, fmtL v = lv := ⟨_, rfl⟩
    obtain ⟨cv, hcv⟩ : ∃ cv, clampF v = cv := ⟨_, rfl⟩
    have hpf := parse_fmt v
    have hlv20 := fmt_len v
    rw [hlv, hcv] at hpf
    rw [hlv] at hlv20
    have HLV := hide hlv
    have HCV := hide hcv
    have HPF := hide hpf
    clear hlv hcv hpf
    refine (format_at _ (tab_below (unhide HT) (unhide B9)) v lv (unhide HLV)).mono ?_
    rintro e w10 ⟨rfl, hb⟩
    have B10 := hide ((unhide B9).trans (hb.mono (unhide B9).size))
    clear hb
    go_wp2_with fail
    refine (parse_at _ (shape_below (unhide HSH) (unhide B10)) _ lv rfl (by omega) _ _ (unhide HPF)).mono ?_
    rintro e w11 ⟨rfl, hb⟩
    have B11 := hide ((unhide B10).trans (hb.mono (unhide B10).size))
    clear hb
    by_cases hpe : pe = 0
    · have hsh2 := unhide HS hpe
      obtain ⟨lp, hlp⟩ : ∃ lp, fmtL pn = lp := ⟨_, rfl⟩
      rw [hlp] at hsh2
      have HLP := hide hlp
      clear hlp
      subst hpe
      go_wp2_with fail
      refine (clamp_at _ v _ (unhide HCV)).mono ?_; rintro e w' ⟨rfl, rfl⟩; go_wp2_with fail
      refine (format_at _ (tab_below (unhide HT) (unhide B11)) pn lp (unhide HLP)).mono ?_
      rintro e w12 ⟨rfl, hb⟩
      have B12 := hide ((unhide B11).trans (hb.mono (unhide B11).size))
      clear hb
      go_wp2_with fail
      refine (awake_below w w12 0 (unhide HT) (unhide B12)).mono ?_
      rintro e w13 ⟨rfl, hb⟩
      have HB := hide hb
      clear hb
      go_wp2_with fail
      go_ret
      exact ⟨rfl, unhide HB⟩
    · have hpe2 : decide (pe = 0) = false := by simpa using hpe
      go_wp2_with fail
      refine (clamp_at _ v _ (unhide HCV)).mono ?_; rintro e w' ⟨rfl, rfl⟩; go_wp2_with fail
      refine (awake_below w w11 0 (unhide HT) (unhide B11)).mono ?_
      rintro e w13 ⟨rfl, hb⟩
      have HB := hide hb
      clear hb
      go_wp2_with fail
      go_ret
      exact ⟨rfl, unhide HB⟩
  · have HDC := Lib.hid (long_light n (by omega))
    clear hr
    go_enter Tryd.func11, Tryd.ntmps11
    go_wp2_with fail
    refine (light_at _ A n c false HDC.out).mono ?_; rintro e w' ⟨rfl, rfl⟩; go_wp2_with fail
    refine (awake_any _ (unhide HT)).mono ?_
    rintro e w3 ⟨rfl, hb⟩
    have HB := hide hb
    clear hb
    go_wp2_with fail
    go_ret
    exact ⟨rfl, unhide HB⟩
end Go.Proofs.YtcebjipekodmpaaDoor
