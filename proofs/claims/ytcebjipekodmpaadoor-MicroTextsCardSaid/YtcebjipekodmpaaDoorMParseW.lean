/- micro.Parse returns what parseF says. -/
import Derived.Test.YtcebjipekodmpaaDoorMParse
namespace Go.Proofs.YtcebjipekodmpaaDoor
open Go.RowKit Go.Sort
theorem app2 (a b : List UInt8) : (⟨a.toArray⟩ : ByteArray) ++ ⟨b.toArray⟩ = ⟨(a ++ b).toArray⟩ := by
  apply ByteArray.ext
  simp
theorem app3 (a b c : List UInt8) : (⟨a.toArray⟩ : ByteArray) ++ ⟨b.toArray⟩ ++ ⟨c.toArray⟩ = ⟨(a ++ b ++ c).toArray⟩ := by
  rw [app2, app2]
theorem body_len (l : List UInt8) : (bodyL l).length ≤ l.length := by
  unfold bodyL Lib.trimPrefix
  split
  · simp
  · exact Nat.le_refl _
theorem numB_ne (l : List UInt8) (n : Nat) (h : numB l n = true) : ∃ c r, l = c :: r := by
  rcases l with _ | ⟨c, r⟩
  · simp [numB] at h
  · exact ⟨c, r, rfl⟩
theorem numB_all (l : List UInt8) (n : Nat) (h : numB l n = true) : l.all isD = true ∧ l.length ≤ n := by
  simp only [numB, Bool.and_eq_true, decide_eq_true_eq] at h
  exact ⟨h.2.2, h.2.1⟩
theorem zeros_all (n : Nat) : (zerosL n).all isD = true := by
  simp [zerosL, isD]
set_option maxRecDepth 100000 in
set_option maxHeartbeats 2000000 in
theorem parse_any (w : World) (hsh : w.ShapedOpen Tryd.prog) (l : List UInt8) (hl : l.length ≤ 500) :
    Calls Tryd.prog 32 #[.string ⟨l.toArray⟩] w fun e w' => e = .returned (.tuple #[.int .i64 (parseF l).1, .int .i64 (parseF l).2]) ∧ Below w.heap.size w w' := by
  obtain ⟨t, HT, htl⟩ : ∃ t, Hid (Lib.trimPrefix l [45] = t) ∧ t.length ≤ 1000 := ⟨_, hide rfl, by have := body_len l; unfold bodyL at this; omega⟩
  obtain ⟨ng, HN⟩ : ∃ b, Hid (Lib.hasPrefix l [45] = b) := ⟨_, hide rfl⟩
  obtain ⟨wh, pt, po, HC⟩ : ∃ wh pt po, Hid (Lib.cut t [46] = (wh, pt, po)) := ⟨_, _, _, hide rfl⟩
  obtain ⟨hwl, hpl, hpo⟩ := cut_len t wh pt po (unhide HC)
  have hpf : parseF l = if okB wh pt po = true then (if 1000000000000 < valF wh pt then (0, 2) else (if ng = true then -(valF wh pt : Int) else valF wh pt, 0)) else (0, 6) := by
    unfold parseF bodyL negB
    rw [unhide HT, unhide HC, unhide HN]
  obtain ⟨pv, hpv⟩ : ∃ pv, parseF l = pv := ⟨_, rfl⟩
  rw [hpv] at hpf ⊢
  clear hpv
  have HPF := Lib.hid hpf
  clear hpf
  cases hw : numB wh 7
  · have HW := hide hw
    have HF : Hid (pv = (0, 6)) := hide (by rw [HPF.out, if_neg (by simp [okB, hw])])
    clear hw
    rw [unhide HF]
    go_enter Tryd.func32, Tryd.ntmps32
    go_wp2_with fail
    refine (cutprefix_at w l t ng (unhide HT) (unhide HN)).mono ?_; rintro e w' ⟨rfl, rfl⟩; go_wp2_with fail
    refine (cut_at w hsh t wh pt po htl (unhide HC)).mono ?_; rintro e w' ⟨rfl, nd, rfl⟩
    have B0 := hide (below_drewN (Below.refl w.heap.size w) nd)
    go_wp2_with fail
    refine (number_any (w.drewN nd) wh 7 (by omega) (by omega) false (unhide HW)).mono ?_
    rintro e w1 ⟨rfl, hb1⟩
    have B1 := hide ((unhide B0).trans hb1)
    clear hb1
    go_wp2_with fail
    go_ret2
    exact ⟨rfl, unhide B1⟩
  · have HW := hide hw
    obtain ⟨c, r, rfl⟩ := numB_ne wh 7 hw
    obtain ⟨hwa, hw7⟩ := numB_all _ _ hw
    have hr6 : r.length ≤ 6 := by simpa using hw7
    by_cases hz : 1 < (c :: r).length ∧ c = 48
    · obtain ⟨hz1, rfl⟩ := hz
      have HF : Hid (pv = (0, 6)) := hide (by rw [HPF.out, if_neg (by unfold okB; rw [hw, show decide (1 < (48 :: r).length) = true from by simpa using hz1]; simp)])
      rw [unhide HF]
      have hz2 : 1 < r.length + 1 := hz1
      clear hw hwa
      go_enter Tryd.func32, Tryd.ntmps32
      go_wp2_with fail
      refine (cutprefix_at w l t ng (unhide HT) (unhide HN)).mono ?_; rintro e w' ⟨rfl, rfl⟩; go_wp2_with fail
      refine (cut_at w hsh t (48 :: r) pt po htl (unhide HC)).mono ?_; rintro e w' ⟨rfl, nd, rfl⟩
      have B0 := hide (below_drewN (Below.refl w.heap.size w) nd)
      go_wp2_with fail
      refine (number_any (w.drewN nd) (48 :: r) 7 (by omega) (by omega) true (unhide HW)).mono ?_
      rintro e w1 ⟨rfl, hb1⟩
      have B1 := hide ((unhide B0).trans hb1)
      clear hb1
      go_wp2_with fail
      go_ret2
      exact ⟨rfl, unhide B1⟩
    · have hzb : (!(decide (1 < (c :: r).length) && decide ((c :: r).head? = some 48))) = true := by
        by_cases h1 : 1 < (c :: r).length
        · have h2 : c ≠ 48 := fun h => hz ⟨h1, h⟩
          simp [h2]
        · simp only [h1]; simp
      cases po
      · obtain rfl := hpo rfl
        obtain ⟨v, HV0, HG⟩ : ∃ v : Nat, Hid (valF (c :: r) [] = v) ∧ Hid (decV 0 ((c :: r) ++ [] ++ zerosL (6 - ([] : List UInt8).length)) = v) := ⟨_, hide rfl, hide rfl⟩
        have HV : Hid (Lib.parseIntB 64 ((c :: r) ++ [] ++ zerosL 6) = .ok (v : Int)) := hide (by
          rw [← unhide HG]
          refine parse_ok _ ?_ (by simp) (by simp [zerosL]; simp at hw7; omega)
          simp only [List.all_append, hwa, zeros_all]; rfl)
        have hok : okB (c :: r) [] false = true := by unfold okB; rw [hw, hzb]; rfl
        have HG1 : Hid (1000000000000 < v → pv = (0, 2)) := hide (fun h => by rw [HPF.out, if_pos hok, unhide HV0, if_pos h])
        have HG2 : Hid (¬ 1000000000000 < v → pv = (if ng = true then -(v : Int) else v, 0)) := hide (fun h => by rw [HPF.out, if_pos hok, unhide HV0, if_neg h])
        clear HPF hok hzb HV0 HG hw hwa
        have hlead : ¬ 1 < r.length + 1 ∨ (1 < r.length + 1 ∧ ((c.toNat : Int) == 48) = false) := by
          by_cases h1 : 1 < r.length + 1
          · exact .inr ⟨h1, by rw [beq_eq_false_iff_ne]; intro h; exact hz ⟨h1, UInt8.toNat_inj.1 (by show c.toNat = 48; omega)⟩⟩
          · exact .inl h1
        have hz3 : 1 < r.length + 1 → ¬ c.toNat = 48 := fun h1 h => hz ⟨h1, UInt8.toNat_inj.1 h⟩
        clear hz
        rcases hlead with hz1 | ⟨hz1, hz2⟩
        · clear hz3
          go_enter Tryd.func32, Tryd.ntmps32
          go_wp2_with fail
          refine (cutprefix_at w l t ng (unhide HT) (unhide HN)).mono ?_; rintro e w' ⟨rfl, rfl⟩; go_wp2_with fail
          refine (cut_at w hsh t (c :: r) [] false htl (unhide HC)).mono ?_; rintro e w' ⟨rfl, nd, rfl⟩
          have B0 := hide (below_drewN (Below.refl w.heap.size w) nd)
          go_wp2_with fail
          refine (number_any (w.drewN nd) (c :: r) 7 (by omega) (by omega) true (unhide HW)).mono ?_
          rintro e w1 ⟨rfl, hb1⟩
          have B1 := hide ((unhide B0).trans hb1)
          clear hb1
          go_wp2_with fail
          have hzl : (zerosL 6).length ≤ 6 := by simp [zerosL]
          refine (repeat_at w1 6 (by omega)).mono ?_
          rintro e w3 ⟨rfl, hb3⟩
          have B3 := hide ((unhide B1).trans (hb3.mono (unhide B1).size))
          clear hb3
          go_wp2_with fail
          rw [app3]
          refine (parseint_at w3 _ (v : Int) (by simp only [List.length_append, List.length_replicate, zerosL]; simp at *; omega) (unhide HV)).mono ?_
          rintro e w4 ⟨rfl, hb4⟩
          have B4 := hide ((unhide B3).trans (hb4.mono (unhide B3).size))
          clear hb4
          by_cases hbig : 1000000000000 < v
          · have hg : decide ((1000000000000 : Int) < (v : Int)) = true := by simp; omega
            have HF := Lib.hid (unhide HG1 hbig)
            clear hbig
            go_wp2_with fail
            go_ret2
            rw [HF.out]
            exact ⟨rfl, unhide B4⟩
          · have hg : decide ((1000000000000 : Int) < (v : Int)) = false := by simp; omega
            have HF := Lib.hid (unhide HG2 hbig)
            have hvb : (v : Int) ≤ 1000000000000 := by omega
            clear hbig
            cases ng
            · go_wp2_with fail
              go_ret2
              rw [HF.out]
              exact ⟨rfl, unhide B4⟩
            · go_wp2_with fail
              go_ret2
              rw [HF.out]
              exact ⟨rfl, unhide B4⟩
        · have hz4 := hz3 hz1
          have hz5 : (c.toNat == 48) = false := by simpa using hz4
          have hz6 : ((⟨(c :: r).toArray⟩ : ByteArray)[0]'(by rw [size_mk]; simp)) = c := rfl
          have hz7 : ¬ (c.toNat : Int) = 48 := by omega
          clear hz3
          go_enter Tryd.func32, Tryd.ntmps32
          go_wp2_with fail
          refine (cutprefix_at w l t ng (unhide HT) (unhide HN)).mono ?_; rintro e w' ⟨rfl, rfl⟩; go_wp2_with fail
          refine (cut_at w hsh t (c :: r) [] false htl (unhide HC)).mono ?_; rintro e w' ⟨rfl, nd, rfl⟩
          have B0 := hide (below_drewN (Below.refl w.heap.size w) nd)
          go_wp2_with fail
          refine (number_any (w.drewN nd) (c :: r) 7 (by omega) (by omega) true (unhide HW)).mono ?_
          rintro e w1 ⟨rfl, hb1⟩
          have B1 := hide ((unhide B0).trans hb1)
          clear hb1
          go_wp2_with fail
          have hzl : (zerosL 6).length ≤ 6 := by simp [zerosL]
          refine (repeat_at w1 6 (by omega)).mono ?_
          rintro e w3 ⟨rfl, hb3⟩
          have B3 := hide ((unhide B1).trans (hb3.mono (unhide B1).size))
          clear hb3
          go_wp2_with fail
          rw [app3]
          refine (parseint_at w3 _ (v : Int) (by simp only [List.length_append, List.length_replicate, zerosL]; simp at *; omega) (unhide HV)).mono ?_
          rintro e w4 ⟨rfl, hb4⟩
          have B4 := hide ((unhide B3).trans (hb4.mono (unhide B3).size))
          clear hb4
          by_cases hbig : 1000000000000 < v
          · have hg : decide ((1000000000000 : Int) < (v : Int)) = true := by simp; omega
            have HF := Lib.hid (unhide HG1 hbig)
            clear hbig
            go_wp2_with fail
            go_ret2
            rw [HF.out]
            exact ⟨rfl, unhide B4⟩
          · have hg : decide ((1000000000000 : Int) < (v : Int)) = false := by simp; omega
            have HF := Lib.hid (unhide HG2 hbig)
            have hvb : (v : Int) ≤ 1000000000000 := by omega
            clear hbig
            cases ng
            · go_wp2_with fail
              go_ret2
              rw [HF.out]
              exact ⟨rfl, unhide B4⟩
            · go_wp2_with fail
              go_ret2
              rw [HF.out]
              exact ⟨rfl, unhide B4⟩
      · cases hp : numB pt 6
        · have HP := hide hp
          have HF : Hid (pv = (0, 6)) := hide (by rw [HPF.out, if_neg (by unfold okB; rw [hw, hzb, hp]; simp)])
          rw [unhide HF]
          clear HPF hzb hw hwa hp
          have hlead : ¬ 1 < r.length + 1 ∨ (1 < r.length + 1 ∧ ((c.toNat : Int) == 48) = false) := by
            by_cases h1 : 1 < r.length + 1
            · exact .inr ⟨h1, by rw [beq_eq_false_iff_ne]; intro h; exact hz ⟨h1, UInt8.toNat_inj.1 (by show c.toNat = 48; omega)⟩⟩
            · exact .inl h1
          have hz3 : 1 < r.length + 1 → ¬ c.toNat = 48 := fun h1 h => hz ⟨h1, UInt8.toNat_inj.1 h⟩
          clear hz
          rcases hlead with hz1 | ⟨hz1, hz2⟩
          · clear hz3
            go_enter Tryd.func32, Tryd.ntmps32
            go_wp2_with fail
            refine (cutprefix_at w l t ng (unhide HT) (unhide HN)).mono ?_; rintro e w' ⟨rfl, rfl⟩; go_wp2_with fail
            refine (cut_at w hsh t (c :: r) pt true htl (unhide HC)).mono ?_; rintro e w' ⟨rfl, nd, rfl⟩
            have B0 := hide (below_drewN (Below.refl w.heap.size w) nd)
            go_wp2_with fail
            refine (number_any (w.drewN nd) (c :: r) 7 (by omega) (by omega) true (unhide HW)).mono ?_
            rintro e w1 ⟨rfl, hb1⟩
            have B1 := hide ((unhide B0).trans hb1)
            clear hb1
            go_wp2_with fail
            refine (number_any w1 pt 6 (by omega) (by omega) false (unhide HP)).mono ?_
            rintro e w2 ⟨rfl, hb2⟩
            have B2 := hide ((unhide B1).trans (hb2.mono (unhide B1).size))
            clear hb2
            go_wp2_with fail
            go_ret2
            exact ⟨rfl, unhide B2⟩
          · have hz4 := hz3 hz1
            have hz5 : (c.toNat == 48) = false := by simpa using hz4
            have hz6 : ((⟨(c :: r).toArray⟩ : ByteArray)[0]'(by rw [size_mk]; simp)) = c := rfl
            have hz7 : ¬ (c.toNat : Int) = 48 := by omega
            clear hz3
            go_enter Tryd.func32, Tryd.ntmps32
            go_wp2_with fail
            refine (cutprefix_at w l t ng (unhide HT) (unhide HN)).mono ?_; rintro e w' ⟨rfl, rfl⟩; go_wp2_with fail
            refine (cut_at w hsh t (c :: r) pt true htl (unhide HC)).mono ?_; rintro e w' ⟨rfl, nd, rfl⟩
            have B0 := hide (below_drewN (Below.refl w.heap.size w) nd)
            go_wp2_with fail
            refine (number_any (w.drewN nd) (c :: r) 7 (by omega) (by omega) true (unhide HW)).mono ?_
            rintro e w1 ⟨rfl, hb1⟩
            have B1 := hide ((unhide B0).trans hb1)
            clear hb1
            go_wp2_with fail
            refine (number_any w1 pt 6 (by omega) (by omega) false (unhide HP)).mono ?_
            rintro e w2 ⟨rfl, hb2⟩
            have B2 := hide ((unhide B1).trans (hb2.mono (unhide B1).size))
            clear hb2
            go_wp2_with fail
            go_ret2
            exact ⟨rfl, unhide B2⟩
        · have HP := hide hp
          obtain ⟨hpa, hp6⟩ := numB_all _ _ hp
          obtain ⟨v, HV0, HG⟩ : ∃ v : Nat, Hid (valF (c :: r) pt = v) ∧ Hid (decV 0 ((c :: r) ++ pt ++ zerosL (6 - pt.length)) = v) := ⟨_, hide rfl, hide rfl⟩
          have HV : Hid (Lib.parseIntB 64 ((c :: r) ++ pt ++ zerosL (6 - pt.length)) = .ok (v : Int)) := hide (by
            rw [← unhide HG]
            refine parse_ok _ ?_ (by simp) (by simp [zerosL]; simp at hw7; omega)
            simp only [List.all_append, hwa, hpa, zeros_all]; rfl)
          have hok : okB (c :: r) pt true = true := by unfold okB; rw [hw, hzb, hp]; rfl
          have HG1 : Hid (1000000000000 < v → pv = (0, 2)) := hide (fun h => by rw [HPF.out, if_pos hok, unhide HV0, if_pos h])
          have HG2 : Hid (¬ 1000000000000 < v → pv = (if ng = true then -(v : Int) else v, 0)) := hide (fun h => by rw [HPF.out, if_pos hok, unhide HV0, if_neg h])
          have e6 : (6 : Int) - (pt.length : Int) = ((6 - pt.length : Nat) : Int) := by omega
          clear HPF hok hzb HV0 HG hw hwa hp hpa
          have hlead : ¬ 1 < r.length + 1 ∨ (1 < r.length + 1 ∧ ((c.toNat : Int) == 48) = false) := by
            by_cases h1 : 1 < r.length + 1
            · exact .inr ⟨h1, by rw [beq_eq_false_iff_ne]; intro h; exact hz ⟨h1, UInt8.toNat_inj.1 (by show c.toNat = 48; omega)⟩⟩
            · exact .inl h1
          have hz3 : 1 < r.length + 1 → ¬ c.toNat = 48 := fun h1 h => hz ⟨h1, UInt8.toNat_inj.1 h⟩
          clear hz
          rcases hlead with hz1 | ⟨hz1, hz2⟩
          · clear hz3
            go_enter Tryd.func32, Tryd.ntmps32
            go_wp2_with fail
            refine (cutprefix_at w l t ng (unhide HT) (unhide HN)).mono ?_; rintro e w' ⟨rfl, rfl⟩; go_wp2_with fail
            refine (cut_at w hsh t (c :: r) pt true htl (unhide HC)).mono ?_; rintro e w' ⟨rfl, nd, rfl⟩
            have B0 := hide (below_drewN (Below.refl w.heap.size w) nd)
            go_wp2_with fail
            refine (number_any (w.drewN nd) (c :: r) 7 (by omega) (by omega) true (unhide HW)).mono ?_
            rintro e w1 ⟨rfl, hb1⟩
            have B1 := hide ((unhide B0).trans hb1)
            clear hb1
            go_wp2_with fail
            refine (number_any w1 pt 6 (by omega) (by omega) true (unhide HP)).mono ?_
            rintro e w2 ⟨rfl, hb2⟩
            have B2 := hide ((unhide B1).trans (hb2.mono (unhide B1).size))
            clear hb2
            go_wp2_with fail
            have hzl : (zerosL (6 - pt.length)).length ≤ 6 := by simp [zerosL]
            refine (repeat_at w2 (6 - pt.length) (by omega)).mono ?_
            rintro e w3 ⟨rfl, hb3⟩
            have B3 := hide ((unhide B2).trans (hb3.mono (unhide B2).size))
            clear hb3
            go_wp2_with fail
            rw [app3]
            refine (parseint_at w3 _ (v : Int) (by simp only [List.length_append, List.length_replicate, zerosL]; simp at *; omega) (unhide HV)).mono ?_
            rintro e w4 ⟨rfl, hb4⟩
            have B4 := hide ((unhide B3).trans (hb4.mono (unhide B3).size))
            clear hb4
            by_cases hbig : 1000000000000 < v
            · have hg : decide ((1000000000000 : Int) < (v : Int)) = true := by simp; omega
              have HF := Lib.hid (unhide HG1 hbig)
              clear hbig
              go_wp2_with fail
              go_ret2
              rw [HF.out]
              exact ⟨rfl, unhide B4⟩
            · have hg : decide ((1000000000000 : Int) < (v : Int)) = false := by simp; omega
              have HF := Lib.hid (unhide HG2 hbig)
              have hvb : (v : Int) ≤ 1000000000000 := by omega
              clear hbig
              cases ng
              · go_wp2_with fail
                go_ret2
                rw [HF.out]
                exact ⟨rfl, unhide B4⟩
              · go_wp2_with fail
                go_ret2
                rw [HF.out]
                exact ⟨rfl, unhide B4⟩
          · have hz4 := hz3 hz1
            have hz5 : (c.toNat == 48) = false := by simpa using hz4
            have hz6 : ((⟨(c :: r).toArray⟩ : ByteArray)[0]'(by rw [size_mk]; simp)) = c := rfl
            have hz7 : ¬ (c.toNat : Int) = 48 := by omega
            clear hz3
            go_enter Tryd.func32, Tryd.ntmps32
            go_wp2_with fail
            refine (cutprefix_at w l t ng (unhide HT) (unhide HN)).mono ?_; rintro e w' ⟨rfl, rfl⟩; go_wp2_with fail
            refine (cut_at w hsh t (c :: r) pt true htl (unhide HC)).mono ?_; rintro e w' ⟨rfl, nd, rfl⟩
            have B0 := hide (below_drewN (Below.refl w.heap.size w) nd)
            go_wp2_with fail
            refine (number_any (w.drewN nd) (c :: r) 7 (by omega) (by omega) true (unhide HW)).mono ?_
            rintro e w1 ⟨rfl, hb1⟩
            have B1 := hide ((unhide B0).trans hb1)
            clear hb1
            go_wp2_with fail
            refine (number_any w1 pt 6 (by omega) (by omega) true (unhide HP)).mono ?_
            rintro e w2 ⟨rfl, hb2⟩
            have B2 := hide ((unhide B1).trans (hb2.mono (unhide B1).size))
            clear hb2
            go_wp2_with fail
            have hzl : (zerosL (6 - pt.length)).length ≤ 6 := by simp [zerosL]
            refine (repeat_at w2 (6 - pt.length) (by omega)).mono ?_
            rintro e w3 ⟨rfl, hb3⟩
            have B3 := hide ((unhide B2).trans (hb3.mono (unhide B2).size))
            clear hb3
            go_wp2_with fail
            rw [app3]
            refine (parseint_at w3 _ (v : Int) (by simp only [List.length_append, List.length_replicate, zerosL]; simp at *; omega) (unhide HV)).mono ?_
            rintro e w4 ⟨rfl, hb4⟩
            have B4 := hide ((unhide B3).trans (hb4.mono (unhide B3).size))
            clear hb4
            by_cases hbig : 1000000000000 < v
            · have hg : decide ((1000000000000 : Int) < (v : Int)) = true := by simp; omega
              have HF := Lib.hid (unhide HG1 hbig)
              clear hbig
              go_wp2_with fail
              go_ret2
              rw [HF.out]
              exact ⟨rfl, unhide B4⟩
            · have hg : decide ((1000000000000 : Int) < (v : Int)) = false := by simp; omega
              have HF := Lib.hid (unhide HG2 hbig)
              have hvb : (v : Int) ≤ 1000000000000 := by omega
              clear hbig
              cases ng
              · go_wp2_with fail
                go_ret2
                rw [HF.out]
                exact ⟨rfl, unhide B4⟩
              · go_wp2_with fail
                go_ret2
                rw [HF.out]
                exact ⟨rfl, unhide B4⟩
end Go.Proofs.YtcebjipekodmpaaDoor
