/- The reference's Parse returns what parseF says (printed by wip/gen_rparse.py). -/
import Derived.Test.YtcebjipekodmpaaDoorMRPStep
namespace Go.Proofs.YtcebjipekodmpaaDoor
open Go.RowKit
theorem out_big (ng : Bool) (V : Nat) (x y : Int) (h : outF ng V = (x, y)) (hV : 1000000000000 < V) : x = 0 ∧ y = 2 := by
  unfold outF at h
  rw [if_pos hV] at h
  injection h with h1 h2
  exact ⟨h1.symm, h2.symm⟩
theorem out_fit (ng : Bool) (V : Nat) (x y : Int) (h : outF ng V = (x, y)) (hV : ¬ 1000000000000 < V) : x = (if ng = true then -(V : Int) else V) ∧ y = 0 := by
  unfold outF at h
  rw [if_neg hV] at h
  injection h with h1 h2
  exact ⟨h1.symm, h2.symm⟩
theorem pair_eq {x y a b : Int} (h : (x, y) = (a, b)) : x = a ∧ y = b := by
  injection h with h1 h2
  exact ⟨h1, h2⟩
theorem ret2i {a b c : Int} (h : a = b) : Ending.returned (.tuple #[.int .i64 a, .int .i64 c]) = .returned (.tuple #[.int .i64 b, .int .i64 c]) := by rw [h]
/-- Behind the point: j digits read at p, the number so far, the last unit. -/
def PartRel (vi i : Nat) (r : List UInt8) (j p V U : Nat) : Prop := p = i + 1 + j ∧ j ≤ r.length ∧ (r.take j).all isD = true ∧ V = vi * 1000000 + decV 0 (r.take j) * 10 ^ (6 - j) ∧ U = 10 ^ (6 - j)
theorem part_start (vi i : Nat) (r : List UInt8) : PartRel vi i r 0 (i + 1) (vi * 1000000) 1000000 := ⟨rfl, Nat.zero_le _, rfl, by rw [List.take_zero, decV_nil]; omega, rfl⟩
theorem part_bd {vi i : Nat} {r : List UInt8} {j p V U : Nat} (h : PartRel vi i r j p V U) (hr : r.length ≤ 6) (hv : vi < 10000000) : p ≤ i + 1 + j ∧ i + 1 + j ≤ p ∧ j ≤ r.length ∧ V ≤ 20000000000000 ∧ 1 ≤ U ∧ U ≤ 1000000 := by
  obtain ⟨h1, h2, h3, h4, h5⟩ := h
  have hd := decV_lt _ h3
  rw [List.length_take, Nat.min_eq_left h2] at hd
  have hj : j = 0 ∨ j = 1 ∨ j = 2 ∨ j = 3 ∨ j = 4 ∨ j = 5 ∨ j = 6 := by omega
  generalize decV 0 (r.take j) = d at hd h4
  rcases hj with rfl | rfl | rfl | rfl | rfl | rfl | rfl <;> simp at hd h4 h5 <;> omega
theorem part_more {vi i : Nat} {r : List UInt8} {j p V U : Nat} (h : PartRel vi i r j p V U) (hr : r.length ≤ 6) (c : UInt8) (hc : r[j]? = some c) (hcd : isD c = true) : PartRel vi i r (j + 1) (p + 1) (V + U / 10 * (c.toNat - 48)) (U / 10) := by
  obtain ⟨h1, h2, h3, h4, h5⟩ := h
  obtain ⟨hj, hg⟩ := List.getElem?_eq_some_iff.1 hc
  have ht : r.take (j + 1) = r.take j ++ [c] := by rw [List.take_add_one, hc]; rfl
  obtain ⟨s1, s2⟩ := part_step j (decV 0 (r.take j)) (c.toNat - 48) (vi * 1000000) V (by omega) h4
  refine ⟨by omega, by omega, ?_, ?_, ?_⟩
  · rw [ht, List.all_append, h3, List.all_cons, hcd]; rfl
  · rw [dec_step r j c hc, h5, s2]; exact s1
  · rw [h5, s2]
theorem part_end {vi i : Nat} {r : List UInt8} {j p V U : Nat} (h : PartRel vi i r j p V U) (hr : r.length ≤ 6) (h1 : 1 ≤ r.length) (hj : r.length ≤ j) : numB r 6 = true ∧ V = vi * 1000000 + decV 0 r * 10 ^ (6 - r.length) := by
  obtain ⟨_, h2, h3, h4, _⟩ := h
  obtain rfl : j = r.length := by omega
  rw [List.take_length] at h3 h4
  exact ⟨by simp only [numB, Bool.and_eq_true, decide_eq_true_eq]; exact ⟨h1, hr, h3⟩, h4⟩
theorem part_bad {r : List UInt8} (j : Nat) (c : UInt8) (hc : r[j]? = some c) (hcd : isD c = false) : ¬ numB r 6 = true := by
  intro h
  have ha := (numB_all _ _ h).1
  rw [List.all_eq_true] at ha
  have := ha c (List.mem_of_getElem? hc)
  rw [hcd] at this
  cases this
theorem c46 {c : UInt8} (h : (c.toNat : Int) = 46) : c = 46 := by
  apply UInt8.toNat_inj.1
  rw [show (46 : UInt8).toNat = 46 from rfl]
  omega
theorem num_len {r : List UInt8} (h : r.length < 1 ∨ 6 < r.length) : ¬ numB r 6 = true := by
  intro hn
  simp only [numB, Bool.and_eq_true, decide_eq_true_eq] at hn
  omega
theorem at_dot (b D r : List UInt8) (c : UInt8) (hb : b = D ++ c :: r) (j : Nat) : b[D.length + 1 + j]? = r[j]? := by
  rw [hb, List.getElem?_append_right (by omega), show D.length + 1 + j - D.length = j + 1 by omega, List.getElem?_cons_succ]
theorem tail_of (b D : List UInt8) (hD : b.takeWhile isD = D) : (b.length ≤ D.length ∧ b = D) ∨ ∃ c r, Hid (b = D ++ c :: r) ∧ isD c = false ∧ b[D.length]? = some c ∧ b.length ≤ D.length + 1 + r.length ∧ D.length + 1 + r.length ≤ b.length := by
  rcases end_at b D hD with h | ⟨c, r, h1, h2, h3⟩
  · exact Or.inl ⟨by rw [h]; exact Nat.le_refl _, h⟩
  · have : b.length = D.length + 1 + r.length := by rw [h1]; simp; omega
    exact Or.inr ⟨c, r, hide h1, h2, h3, by omega, by omega⟩
set_option maxRecDepth 100000 in
set_option maxHeartbeats 4000000 in
theorem rparse_neg (w : World) (b : List UInt8) (hl : b.length ≤ 500) (x y : Int) (hx : parseF (45 :: b) = (x, y)) :
    Calls Tryd.prog 33 #[.string ⟨(45 :: b).toArray⟩] w fun e w' => e = .returned (.tuple #[.int .i64 x, .int .i64 y]) ∧ w = w' := by
  obtain ⟨D, hD⟩ : ∃ D, b.takeWhile isD = D := ⟨_, rfl⟩
  have hDb := tw_len b D hD
  have hbody : bodyL (45 :: b) = b := (body_minus b).1
  have hng : negB (45 :: b) = true := (body_minus b).2
  have hbad : (D.length = 0 ∨ 7 < D.length ∨ (1 < D.length ∧ D.head? = some 48)) → x = 0 ∧ y = 6 := fun h => pair_eq (hx.symm.trans (bad_digits (45 :: b) D (by rw [hbody]; exact hD) h))
  have hz : (⟨(45 :: b).toArray⟩ : ByteArray).size ≤ 501 := size_list (45 :: b) 501 (by first | omega | (simp; omega))
  obtain ⟨m, hm⟩ : ∃ m, min 8 D.length = m := ⟨_, rfl⟩
  have hmb : m ≤ b.length := by omega
  have hm8 : m ≤ 8 := by omega
  have HX := hide hx
  have HD := hide hD
  have HB := hide hbody
  have HN := hide hng
  have HM := hide hm
  have HBAD := hide hbad
  clear hx hbody hng hm hbad
  have h0 : ((⟨(45 :: b).toArray⟩ : ByteArray)[0]'(by simp [ByteArray.size])).toNat = 45 := rfl
  clear hD
  go_enter Tryd.func33, Tryd.ntmps33
  go_wp2_with fail
  clear h0
  go_loop [4, 7] (fun x y => ∃ i : Nat, x = .int .i64 ((1 + i : Nat) : Int) ∧ y = .int .i64 (decV 0 (b.take i) : Int) ∧ i ≤ m) (fun x _ => 10 - (intOf x).toNat)
  case atStart => exact ⟨0, rfl, rfl, by omega⟩
  case round =>
    obtain ⟨i, rfl, rfl, him⟩ := hrel
    have hiD : i ≤ D.length := by have := unhide HM; omega
    have hv := dec_bound b D (unhide HD) i hiD
    have hv8 : 10 ^ i ≤ 10 ^ 8 := Nat.pow_le_pow_right (by omega) (by omega)
    have hv9 : decV 0 (b.take i) < 100000000 := by omega
    clear hv hv8
    by_cases hlt : i < m
    · obtain ⟨c, hc, hcd⟩ := dig_at b D (unhide HD) i (by have := unhide HM; omega)
      have hst := dec_step b i c hc
      obtain ⟨hk2, hk3⟩ := isD_nat hcd
      have hib : i < b.length := by omega
      have hk1 : ((⟨(45 :: b).toArray⟩ : ByteArray)[1 + i]'(by simp [ByteArray.size]; omega)).toNat = c.toNat := congrArg UInt8.toNat (get_neg b i c hc _)
      generalize c.toNat = k at hst hk1 hk2 hk3
      generalize decV 0 (b.take i) = vi at hst hv9
      have HST := hide hst
      clear hst hc hcd
      go_wp2_with fail
      refine ⟨⟨i + 1, (by first | exact congrArg (Value.int .i64) (by omega) | omega), (by first | exact congrArg (Value.int .i64) (by rw [unhide HST]; omega) | (rw [unhide HST]; omega)), by omega⟩, by simp [intOf]; omega⟩
    · obtain rfl : i = m := by omega
      by_cases hD8 : 7 < D.length
      · obtain ⟨rfl, rfl⟩ := unhide HBAD (Or.inr (Or.inl hD8))
        obtain rfl : i = 8 := by have := unhide HM; omega
        generalize decV 0 (b.take 8) = vi at hv9
        go_wp2_with fail
        all_goals (go_ret2; exact ⟨rfl, rfl⟩)
      · have hiD2 : i = D.length := by have := unhide HM; omega
        have hvv : decV 0 (b.take i) = decV 0 D := by rw [tw_take b D (unhide HD) i hiD, hiD2, List.take_length]
        have hv7 : decV 0 (b.take i) < 10000000 := by have h1 := dec_bound b D (unhide HD) i hiD; have h2 : 10 ^ i ≤ 10 ^ 7 := Nat.pow_le_pow_right (by omega) (by omega); omega
        have htail := tail_of b D (unhide HD)
        rw [← hiD2] at htail
        generalize decV 0 (b.take i) = vi at hvv hv7 hv9 ⊢
        have HVV := hide hvv
        have HI := hide hiD2
        clear hvv hiD2 hlt
        have hi7 : i ≤ 7 := by have := unhide HI; omega
        have hi7b : ¬ 7 < i := by omega
        have hib2 : i ≤ b.length := by have := unhide HI; omega
        clear hv9 hm8 hmb hDb hD8 hiD him
        by_cases hi0 : i = 0
        · obtain ⟨rfl, rfl⟩ := unhide HBAD (Or.inl (by have := unhide HI; omega))
          subst hi0
          rcases htail with ⟨hl1, hbD⟩ | ⟨c, r, hbr, hcd, hci, hl1, hl2⟩
          · clear hbD
            go_wp2_with fail
            all_goals (go_ret2; exact ⟨rfl, rfl⟩)
          · have hcb := isD_not hcd
            have hkc : ((⟨(45 :: b).toArray⟩ : ByteArray)[1]'(by simp [ByteArray.size]; omega)).toNat = c.toNat := congrArg UInt8.toNat (get_neg b 0 c hci _)
            have hc8 : c.toNat < 256 := UInt8.toNat_lt c
            generalize c.toNat = kc at hcb hkc hc8
            clear hci hbr
            rcases hcb with hcb | hcb
            all_goals
              go_wp2_with fail
              all_goals (go_ret2; exact ⟨rfl, rfl⟩)
        have hi1 : 1 ≤ i := by omega
        clear hi0
        have hb0 : ((1 + (i : Int) - 1) == 0) = false := by simp; omega
        obtain ⟨c0, hc0, hcd0⟩ := dig_at b D (unhide HD) 0 (by have := unhide HI; omega)
        have hh0 := head_of b D (unhide HD) c0 (by have := unhide HI; omega) hc0
        have hib : 1 ≤ b.length := by omega
        have hk0 : ((⟨(45 :: b).toArray⟩ : ByteArray)[1]'(by simp [ByteArray.size]; omega)).toNat = c0.toNat := congrArg UInt8.toNat (get_neg b 0 c0 hc0 _)
        obtain ⟨hk2, hk3⟩ := isD_nat hcd0
        have hz48 : c0.toNat = 48 ↔ D.head? = some 48 := ⟨fun h => by rw [hh0, show c0 = 48 from UInt8.toNat_inj.1 h], fun h => by rw [hh0] at h; injection h with h; rw [h]; rfl⟩
        clear hh0 hcd0 hc0
        have HZ := hide hz48
        clear hz48
        generalize c0.toNat = k0 at HZ hk0 hk2 hk3
        by_cases hzz : 1 < i ∧ k0 = 48
        · obtain ⟨hz1, rfl⟩ := hzz
          obtain ⟨rfl, rfl⟩ := unhide HBAD (Or.inr (Or.inr ⟨by have := unhide HI; omega, (unhide HZ).1 rfl⟩))
          rcases htail with ⟨hl1, hbD⟩ | ⟨c, r, hbr, hcd, hci, hl1, hl2⟩
          · clear hbD
            go_wp2_with fail
            all_goals (go_ret2; exact ⟨rfl, rfl⟩)
          · have hcb := isD_not hcd
            have hkc : ((⟨(45 :: b).toArray⟩ : ByteArray)[1 + i]'(by simp [ByteArray.size]; omega)).toNat = c.toNat := congrArg UInt8.toNat (get_neg b i c hci _)
            have hc8 : c.toNat < 256 := UInt8.toNat_lt c
            generalize c.toNat = kc at hcb hkc hc8
            clear hci hbr hcd
            rcases hcb with hcb | hcb
            all_goals
              go_wp2_with fail
              all_goals (go_ret2; exact ⟨rfl, rfl⟩)
        have hzn : ¬ (1 < D.length ∧ D.head? = some 48) := fun h => hzz ⟨by have := unhide HI; omega, (unhide HZ).2 h.2⟩
        have HZN := hide hzn
        clear hzn
        have hhead : i < 2 ∨ (1 < i ∧ k0 ≠ 48) := by omega
        clear hzz
        have hhead2 : i < 2 ∨ (1 < i ∧ ((k0 : Int) == 48) = false) := hhead.imp id (fun h => ⟨h.1, by simp; omega⟩)
        clear hhead
        rcases hhead2 with hhead | ⟨hhead, hk48⟩
        all_goals
          rcases htail with ⟨hl1, hbD⟩ | ⟨c, r, hbr, hcd, hci, hl1, hl2⟩
          · have hgood := good_whole (45 :: b) D (by rw [unhide HB]; exact hbD) (tw_all b D (unhide HD)) (by have := unhide HI; omega) (by have := unhide HI; omega) (unhide HZN)
            rw [unhide HN, unhide HX, ← unhide HVV] at hgood
            have HO := hide hgood.symm
            clear hgood hbD
            by_cases hbig : 1000000000000 < vi * 1000000
            · obtain ⟨rfl, rfl⟩ := out_big _ _ _ _ (unhide HO) hbig
              have hbi : (1000000000000 : Int) < (vi : Int) * 1000000 := by omega
              go_wp2_with fail
              all_goals (go_ret2; exact ⟨rfl, rfl⟩)
            · obtain ⟨hxv, rfl⟩ := out_fit _ _ _ _ (unhide HO) hbig
              have hbi : (vi : Int) * 1000000 ≤ 1000000000000 := by omega
              have HXV := hide hxv
              clear hxv
              go_wp2_with fail
              all_goals (go_ret2; exact ⟨ret2i (by have := unhide HXV; simp at this ⊢; omega), rfl⟩)
          · by_cases hc46 : c = 46
            · subst hc46
              have hkc : ((⟨(45 :: b).toArray⟩ : ByteArray)[1 + i]'(by simp [ByteArray.size]; omega)).toNat = 46 := congrArg UInt8.toNat (get_neg b i 46 hci _)
              have hdot := dot_part (45 :: b) D r (by rw [unhide HB]; exact unhide hbr) (tw_all b D (unhide HD)) (by have := unhide HI; omega) (by have := unhide HI; omega) (unhide HZN)
              rw [unhide HN, unhide HX, ← unhide HVV] at hdot
              have HDOT := hide hdot
              clear hdot hcd hci
              by_cases hq : r.length < 1 ∨ 6 < r.length
              · have h6 := unhide HDOT
                rw [if_neg (num_len hq)] at h6
                obtain ⟨rfl, rfl⟩ := pair_eq h6
                clear h6
                rcases hq with hq | hq
                all_goals
                  go_wp2_with fail
                  all_goals (go_ret2; exact ⟨rfl, rfl⟩)
              · have hq1 : 1 ≤ r.length := by omega
                have hq6 : r.length ≤ 6 := by omega
                clear hq
                go_wp2_with fail
                go_loop [4, 7, 9] (fun x y z => ∃ j p V U : Nat, x = .int .i64 ((1 + p : Nat) : Int) ∧ y = .int .i64 (V : Int) ∧ z = .int .i64 (U : Int) ∧ PartRel vi i r j p V U) (fun x _ _ => b.length + 2 - (intOf x).toNat)
                case atStart => exact ⟨0, i + 1, vi * 1000000, 1000000, (by first | exact congrArg (Value.int .i64) (by omega) | omega), (by first | exact congrArg (Value.int .i64) (by omega) | omega), rfl, part_start vi i r⟩
                case round =>
                  obtain ⟨j, p, V, U, rfl, rfl, rfl, hrl⟩ := hrel
                  obtain ⟨hp1, hp2, hjr, hV, hU1, hU2⟩ := part_bd hrl hq6 hv7
                  have HRL := hide hrl
                  clear hrl hkc
                  by_cases hj : j < r.length
                  · obtain ⟨c, hc⟩ : ∃ c, r[j]? = some c := ⟨_, List.getElem?_eq_getElem hj⟩
                    have hbc : b[p]? = some c := by have h := at_dot b D r 46 (unhide hbr) j; rw [← unhide HI, show i + 1 + j = p by omega] at h; rw [h]; exact hc
                    have hk : ((⟨(45 :: b).toArray⟩ : ByteArray)[1 + p]'(by simp [ByteArray.size]; omega)).toNat = c.toNat := congrArg UInt8.toNat (get_neg b p c hbc _)
                    have hc8 : c.toNat < 256 := UInt8.toNat_lt c
                    cases hcd : isD c
                    · have h6 := unhide HDOT
                      rw [if_neg (part_bad j c hc hcd)] at h6
                      obtain ⟨rfl, rfl⟩ := pair_eq h6
                      have hcb := isD_not hcd
                      generalize c.toNat = k at hcb hk hc8
                      clear h6 hcd hc hbc
                      rcases hcb with hcb | hcb
                      all_goals
                        go_wp2_with fail
                        all_goals (go_ret2; exact ⟨rfl, rfl⟩)
                    · obtain ⟨hk2, hk3⟩ := isD_nat hcd
                      have hmore := part_more (unhide HRL) hq6 c hc hcd
                      obtain ⟨hp1b, hp2b, hjrb, hVb, hU1b, hU2b⟩ := part_bd hmore hq6 hv7
                      obtain ⟨U2, hU⟩ : ∃ U2, U / 10 = U2 := ⟨_, rfl⟩
                      rw [hU] at hmore hVb hU1b hU2b
                      obtain ⟨Q, hQ⟩ : ∃ Q, U2 * (c.toNat - 48) = Q := ⟨_, rfl⟩
                      rw [hQ] at hmore hVb
                      have HM2 := hide hmore
                      generalize c.toNat = k at hk hk2 hk3 hc8 hQ
                      have hUi : (U : Int) / 10 = (U2 : Int) := by omega
                      have hQi : (U2 : Int) * ((k : Int) - 48) = (Q : Int) := by rw [← hQ, Int.natCast_mul, Int.natCast_sub hk2]; rfl
                      clear hmore hcd hc hbc hU hQ
                      go_wp2_with fail
                      refine ⟨⟨j + 1, p + 1, V + Q, U2, (by first | exact congrArg (Value.int .i64) (by omega) | omega), (by first | exact congrArg (Value.int .i64) (by omega) | omega), rfl, unhide HM2⟩, by simp [intOf]; omega⟩
                  · obtain ⟨hnum, hVe⟩ := part_end (unhide HRL) hq6 hq1 (by omega)
                    have ho := unhide HDOT
                    rw [if_pos hnum, ← hVe] at ho
                    have HO := hide ho.symm
                    clear ho hVe hnum
                    by_cases hbig : 1000000000000 < V
                    · obtain ⟨rfl, rfl⟩ := out_big _ _ _ _ (unhide HO) hbig
                      have hbi : (1000000000000 : Int) < (V : Int) := by omega
                      go_wp2_with fail
                      all_goals (go_ret2; exact ⟨rfl, rfl⟩)
                    · obtain ⟨hxv, rfl⟩ := out_fit _ _ _ _ (unhide HO) hbig
                      have hbi : (V : Int) ≤ 1000000000000 := by omega
                      have HXV := hide hxv
                      clear hxv
                      go_wp2_with fail
                      all_goals (go_ret2; exact ⟨ret2i (by have := unhide HXV; simp at this ⊢; omega), rfl⟩)
            · obtain ⟨rfl, rfl⟩ := pair_eq ((unhide HX).symm.trans (bad_next (45 :: b) D c r (by rw [unhide HB]; exact unhide hbr) (tw_all b D (unhide HD)) hcd hc46))
              have hcb := isD_not hcd
              have hkc : ((⟨(45 :: b).toArray⟩ : ByteArray)[1 + i]'(by simp [ByteArray.size]; omega)).toNat = c.toNat := congrArg UInt8.toNat (get_neg b i c hci _)
              have hc8 : c.toNat < 256 := UInt8.toNat_lt c
              have hn46 : ((c.toNat : Int) == 46) = false := by simp; exact fun h => hc46 (c46 h)
              have hn46b : ((c.toNat : Int) != 46) = true := by simp; exact fun h => hc46 (c46 h)
              generalize c.toNat = kc at hcb hkc hc8 hn46 hn46b
              clear hci hcd hc46
              rcases hcb with hcb | hcb
              all_goals
                go_wp2_with fail
                all_goals (go_ret2; exact ⟨rfl, rfl⟩)
set_option maxRecDepth 100000 in
set_option maxHeartbeats 4000000 in
theorem rparse_pos (w : World) (b : List UInt8) (hl : b.length ≤ 500) (h45 : b.head? ≠ some 45) (x y : Int) (hx : parseF b = (x, y)) :
    Calls Tryd.prog 33 #[.string ⟨b.toArray⟩] w fun e w' => e = .returned (.tuple #[.int .i64 x, .int .i64 y]) ∧ w = w' := by
  obtain ⟨D, hD⟩ : ∃ D, b.takeWhile isD = D := ⟨_, rfl⟩
  have hDb := tw_len b D hD
  have hbody : bodyL b = b := (body_plain b h45).1
  have hng : negB b = false := (body_plain b h45).2
  have hbad : (D.length = 0 ∨ 7 < D.length ∨ (1 < D.length ∧ D.head? = some 48)) → x = 0 ∧ y = 6 := fun h => pair_eq (hx.symm.trans (bad_digits b D (by rw [hbody]; exact hD) h))
  have hz : (⟨b.toArray⟩ : ByteArray).size ≤ 501 := size_list b 501 (by first | omega | (simp; omega))
  obtain ⟨m, hm⟩ : ∃ m, min 8 D.length = m := ⟨_, rfl⟩
  have hmb : m ≤ b.length := by omega
  have hm8 : m ≤ 8 := by omega
  have HX := hide hx
  have HD := hide hD
  have HB := hide hbody
  have HN := hide hng
  have HM := hide hm
  have HBAD := hide hbad
  clear hx hbody hng hm hbad
  by_cases hb0 : b.length = 0
  · obtain rfl : b = [] := List.length_eq_zero_iff.1 hb0
    obtain ⟨rfl, rfl⟩ := unhide HBAD (Or.inl (by rw [← unhide HD]; rfl))
    clear hz hD hDb hmb
    go_enter Tryd.func33, Tryd.ntmps33
    go_wp2_with fail
    go_loop [4, 7] (fun x y => x = .int .i64 0 ∧ y = .int .i64 0) (fun _ _ => 0)
    case atStart => exact ⟨rfl, rfl⟩
    case round =>
      obtain ⟨rfl, rfl⟩ := hrel
      go_wp2_with fail
      go_ret2
      exact ⟨rfl, rfl⟩
  have hb1 : 1 ≤ b.length := by omega
  have h0 : ∃ k : Nat, ((⟨b.toArray⟩ : ByteArray)[0]'(by rw [size_mk]; omega)).toNat = k ∧ k ≠ 45 ∧ k < 256 := by
    refine ⟨_, rfl, ?_, UInt8.toNat_lt _⟩
    rcases b with _ | ⟨c, r⟩
    · simp at hb1
    · intro e
      have : c.toNat = 45 := e
      exact h45 (by rw [show c = 45 from UInt8.toNat_inj.1 this]; rfl)
  obtain ⟨k0, h0, hk0, hk1⟩ := h0
  clear hD
  go_enter Tryd.func33, Tryd.ntmps33
  go_wp2_with fail
  clear h0
  go_loop [4, 7] (fun x y => ∃ i : Nat, x = .int .i64 (i : Int) ∧ y = .int .i64 (decV 0 (b.take i) : Int) ∧ i ≤ m) (fun x _ => 10 - (intOf x).toNat)
  case atStart => exact ⟨0, rfl, rfl, by omega⟩
  case round =>
    obtain ⟨i, rfl, rfl, him⟩ := hrel
    have hiD : i ≤ D.length := by have := unhide HM; omega
    have hv := dec_bound b D (unhide HD) i hiD
    have hv8 : 10 ^ i ≤ 10 ^ 8 := Nat.pow_le_pow_right (by omega) (by omega)
    have hv9 : decV 0 (b.take i) < 100000000 := by omega
    clear hv hv8
    by_cases hlt : i < m
    · obtain ⟨c, hc, hcd⟩ := dig_at b D (unhide HD) i (by have := unhide HM; omega)
      have hst := dec_step b i c hc
      obtain ⟨hk2, hk3⟩ := isD_nat hcd
      have hib : i < b.length := by omega
      have hk1 : ((⟨b.toArray⟩ : ByteArray)[i]'(by simp [ByteArray.size]; omega)).toNat = c.toNat := congrArg UInt8.toNat (get_pos b i c hc _)
      generalize c.toNat = k at hst hk1 hk2 hk3
      generalize decV 0 (b.take i) = vi at hst hv9
      have HST := hide hst
      clear hst hc hcd
      go_wp2_with fail
      refine ⟨⟨i + 1, (by first | exact congrArg (Value.int .i64) (by omega) | omega), (by first | exact congrArg (Value.int .i64) (by rw [unhide HST]; omega) | (rw [unhide HST]; omega)), by omega⟩, by simp [intOf]; omega⟩
    · obtain rfl : i = m := by omega
      by_cases hD8 : 7 < D.length
      · obtain ⟨rfl, rfl⟩ := unhide HBAD (Or.inr (Or.inl hD8))
        obtain rfl : i = 8 := by have := unhide HM; omega
        generalize decV 0 (b.take 8) = vi at hv9
        go_wp2_with fail
        all_goals (go_ret2; exact ⟨rfl, rfl⟩)
      · have hiD2 : i = D.length := by have := unhide HM; omega
        have hvv : decV 0 (b.take i) = decV 0 D := by rw [tw_take b D (unhide HD) i hiD, hiD2, List.take_length]
        have hv7 : decV 0 (b.take i) < 10000000 := by have h1 := dec_bound b D (unhide HD) i hiD; have h2 : 10 ^ i ≤ 10 ^ 7 := Nat.pow_le_pow_right (by omega) (by omega); omega
        have htail := tail_of b D (unhide HD)
        rw [← hiD2] at htail
        generalize decV 0 (b.take i) = vi at hvv hv7 hv9 ⊢
        have HVV := hide hvv
        have HI := hide hiD2
        clear hvv hiD2 hlt
        have hi7 : i ≤ 7 := by have := unhide HI; omega
        have hi7b : ¬ 7 < i := by omega
        have hib2 : i ≤ b.length := by have := unhide HI; omega
        clear hv9 hm8 hmb hDb hD8 hiD him
        by_cases hi0 : i = 0
        · obtain ⟨rfl, rfl⟩ := unhide HBAD (Or.inl (by have := unhide HI; omega))
          subst hi0
          rcases htail with ⟨hl1, hbD⟩ | ⟨c, r, hbr, hcd, hci, hl1, hl2⟩
          · omega
          · have hcb := isD_not hcd
            have hkc : ((⟨b.toArray⟩ : ByteArray)[0]'(by simp [ByteArray.size]; omega)).toNat = c.toNat := congrArg UInt8.toNat (get_pos b 0 c hci _)
            have hc8 : c.toNat < 256 := UInt8.toNat_lt c
            generalize c.toNat = kc at hcb hkc hc8
            clear hci hbr
            rcases hcb with hcb | hcb
            all_goals
              go_wp2_with fail
              all_goals (go_ret2; exact ⟨rfl, rfl⟩)
        have hi1 : 1 ≤ i := by omega
        clear hi0
        have hb0 : ((i : Int) == 0) = false := by simp; omega
        obtain ⟨c0, hc0, hcd0⟩ := dig_at b D (unhide HD) 0 (by have := unhide HI; omega)
        have hh0 := head_of b D (unhide HD) c0 (by have := unhide HI; omega) hc0
        have hib : 1 ≤ b.length := by omega
        have hk0 : ((⟨b.toArray⟩ : ByteArray)[0]'(by simp [ByteArray.size]; omega)).toNat = c0.toNat := congrArg UInt8.toNat (get_pos b 0 c0 hc0 _)
        obtain ⟨hk2, hk3⟩ := isD_nat hcd0
        have hz48 : c0.toNat = 48 ↔ D.head? = some 48 := ⟨fun h => by rw [hh0, show c0 = 48 from UInt8.toNat_inj.1 h], fun h => by rw [hh0] at h; injection h with h; rw [h]; rfl⟩
        clear hh0 hcd0 hc0
        have HZ := hide hz48
        clear hz48
        generalize c0.toNat = k0 at HZ hk0 hk2 hk3
        by_cases hzz : 1 < i ∧ k0 = 48
        · obtain ⟨hz1, rfl⟩ := hzz
          obtain ⟨rfl, rfl⟩ := unhide HBAD (Or.inr (Or.inr ⟨by have := unhide HI; omega, (unhide HZ).1 rfl⟩))
          rcases htail with ⟨hl1, hbD⟩ | ⟨c, r, hbr, hcd, hci, hl1, hl2⟩
          · clear hbD
            go_wp2_with fail
            all_goals (go_ret2; exact ⟨rfl, rfl⟩)
          · have hcb := isD_not hcd
            have hkc : ((⟨b.toArray⟩ : ByteArray)[i]'(by simp [ByteArray.size]; omega)).toNat = c.toNat := congrArg UInt8.toNat (get_pos b i c hci _)
            have hc8 : c.toNat < 256 := UInt8.toNat_lt c
            generalize c.toNat = kc at hcb hkc hc8
            clear hci hbr hcd
            rcases hcb with hcb | hcb
            all_goals
              go_wp2_with fail
              all_goals (go_ret2; exact ⟨rfl, rfl⟩)
        have hzn : ¬ (1 < D.length ∧ D.head? = some 48) := fun h => hzz ⟨by have := unhide HI; omega, (unhide HZ).2 h.2⟩
        have HZN := hide hzn
        clear hzn
        have hhead : i < 2 ∨ (1 < i ∧ k0 ≠ 48) := by omega
        clear hzz
        have hhead2 : i < 2 ∨ (1 < i ∧ ((k0 : Int) == 48) = false) := hhead.imp id (fun h => ⟨h.1, by simp; omega⟩)
        clear hhead
        rcases hhead2 with hhead | ⟨hhead, hk48⟩
        all_goals
          rcases htail with ⟨hl1, hbD⟩ | ⟨c, r, hbr, hcd, hci, hl1, hl2⟩
          · have hgood := good_whole b D (by rw [unhide HB]; exact hbD) (tw_all b D (unhide HD)) (by have := unhide HI; omega) (by have := unhide HI; omega) (unhide HZN)
            rw [unhide HN, unhide HX, ← unhide HVV] at hgood
            have HO := hide hgood.symm
            clear hgood hbD
            by_cases hbig : 1000000000000 < vi * 1000000
            · obtain ⟨rfl, rfl⟩ := out_big _ _ _ _ (unhide HO) hbig
              have hbi : (1000000000000 : Int) < (vi : Int) * 1000000 := by omega
              go_wp2_with fail
              all_goals (go_ret2; exact ⟨rfl, rfl⟩)
            · obtain ⟨hxv, rfl⟩ := out_fit _ _ _ _ (unhide HO) hbig
              have hbi : (vi : Int) * 1000000 ≤ 1000000000000 := by omega
              have HXV := hide hxv
              clear hxv
              go_wp2_with fail
              all_goals (go_ret2; exact ⟨ret2i (by have := unhide HXV; simp at this ⊢; omega), rfl⟩)
          · by_cases hc46 : c = 46
            · subst hc46
              have hkc : ((⟨b.toArray⟩ : ByteArray)[i]'(by simp [ByteArray.size]; omega)).toNat = 46 := congrArg UInt8.toNat (get_pos b i 46 hci _)
              have hdot := dot_part b D r (by rw [unhide HB]; exact unhide hbr) (tw_all b D (unhide HD)) (by have := unhide HI; omega) (by have := unhide HI; omega) (unhide HZN)
              rw [unhide HN, unhide HX, ← unhide HVV] at hdot
              have HDOT := hide hdot
              clear hdot hcd hci
              by_cases hq : r.length < 1 ∨ 6 < r.length
              · have h6 := unhide HDOT
                rw [if_neg (num_len hq)] at h6
                obtain ⟨rfl, rfl⟩ := pair_eq h6
                clear h6
                rcases hq with hq | hq
                all_goals
                  go_wp2_with fail
                  all_goals (go_ret2; exact ⟨rfl, rfl⟩)
              · have hq1 : 1 ≤ r.length := by omega
                have hq6 : r.length ≤ 6 := by omega
                clear hq
                go_wp2_with fail
                go_loop [4, 7, 9] (fun x y z => ∃ j p V U : Nat, x = .int .i64 ((p : Nat) : Int) ∧ y = .int .i64 (V : Int) ∧ z = .int .i64 (U : Int) ∧ PartRel vi i r j p V U) (fun x _ _ => b.length + 2 - (intOf x).toNat)
                case atStart => exact ⟨0, i + 1, vi * 1000000, 1000000, (by first | exact congrArg (Value.int .i64) (by omega) | omega), (by first | exact congrArg (Value.int .i64) (by omega) | omega), rfl, part_start vi i r⟩
                case round =>
                  obtain ⟨j, p, V, U, rfl, rfl, rfl, hrl⟩ := hrel
                  obtain ⟨hp1, hp2, hjr, hV, hU1, hU2⟩ := part_bd hrl hq6 hv7
                  have HRL := hide hrl
                  clear hrl hkc
                  by_cases hj : j < r.length
                  · obtain ⟨c, hc⟩ : ∃ c, r[j]? = some c := ⟨_, List.getElem?_eq_getElem hj⟩
                    have hbc : b[p]? = some c := by have h := at_dot b D r 46 (unhide hbr) j; rw [← unhide HI, show i + 1 + j = p by omega] at h; rw [h]; exact hc
                    have hk : ((⟨b.toArray⟩ : ByteArray)[p]'(by simp [ByteArray.size]; omega)).toNat = c.toNat := congrArg UInt8.toNat (get_pos b p c hbc _)
                    have hc8 : c.toNat < 256 := UInt8.toNat_lt c
                    cases hcd : isD c
                    · have h6 := unhide HDOT
                      rw [if_neg (part_bad j c hc hcd)] at h6
                      obtain ⟨rfl, rfl⟩ := pair_eq h6
                      have hcb := isD_not hcd
                      generalize c.toNat = k at hcb hk hc8
                      clear h6 hcd hc hbc
                      rcases hcb with hcb | hcb
                      all_goals
                        go_wp2_with fail
                        all_goals (go_ret2; exact ⟨rfl, rfl⟩)
                    · obtain ⟨hk2, hk3⟩ := isD_nat hcd
                      have hmore := part_more (unhide HRL) hq6 c hc hcd
                      obtain ⟨hp1b, hp2b, hjrb, hVb, hU1b, hU2b⟩ := part_bd hmore hq6 hv7
                      obtain ⟨U2, hU⟩ : ∃ U2, U / 10 = U2 := ⟨_, rfl⟩
                      rw [hU] at hmore hVb hU1b hU2b
                      obtain ⟨Q, hQ⟩ : ∃ Q, U2 * (c.toNat - 48) = Q := ⟨_, rfl⟩
                      rw [hQ] at hmore hVb
                      have HM2 := hide hmore
                      generalize c.toNat = k at hk hk2 hk3 hc8 hQ
                      have hUi : (U : Int) / 10 = (U2 : Int) := by omega
                      have hQi : (U2 : Int) * ((k : Int) - 48) = (Q : Int) := by rw [← hQ, Int.natCast_mul, Int.natCast_sub hk2]; rfl
                      clear hmore hcd hc hbc hU hQ
                      go_wp2_with fail
                      refine ⟨⟨j + 1, p + 1, V + Q, U2, (by first | exact congrArg (Value.int .i64) (by omega) | omega), (by first | exact congrArg (Value.int .i64) (by omega) | omega), rfl, unhide HM2⟩, by simp [intOf]; omega⟩
                  · obtain ⟨hnum, hVe⟩ := part_end (unhide HRL) hq6 hq1 (by omega)
                    have ho := unhide HDOT
                    rw [if_pos hnum, ← hVe] at ho
                    have HO := hide ho.symm
                    clear ho hVe hnum
                    by_cases hbig : 1000000000000 < V
                    · obtain ⟨rfl, rfl⟩ := out_big _ _ _ _ (unhide HO) hbig
                      have hbi : (1000000000000 : Int) < (V : Int) := by omega
                      go_wp2_with fail
                      all_goals (go_ret2; exact ⟨rfl, rfl⟩)
                    · obtain ⟨hxv, rfl⟩ := out_fit _ _ _ _ (unhide HO) hbig
                      have hbi : (V : Int) ≤ 1000000000000 := by omega
                      have HXV := hide hxv
                      clear hxv
                      go_wp2_with fail
                      all_goals (go_ret2; exact ⟨ret2i (by have := unhide HXV; simp at this ⊢; omega), rfl⟩)
            · obtain ⟨rfl, rfl⟩ := pair_eq ((unhide HX).symm.trans (bad_next b D c r (by rw [unhide HB]; exact unhide hbr) (tw_all b D (unhide HD)) hcd hc46))
              have hcb := isD_not hcd
              have hkc : ((⟨b.toArray⟩ : ByteArray)[i]'(by simp [ByteArray.size]; omega)).toNat = c.toNat := congrArg UInt8.toNat (get_pos b i c hci _)
              have hc8 : c.toNat < 256 := UInt8.toNat_lt c
              have hn46 : ((c.toNat : Int) == 46) = false := by simp; exact fun h => hc46 (c46 h)
              have hn46b : ((c.toNat : Int) != 46) = true := by simp; exact fun h => hc46 (c46 h)
              generalize c.toNat = kc at hcb hkc hc8 hn46 hn46b
              clear hci hcd hc46
              rcases hcb with hcb | hcb
              all_goals
                go_wp2_with fail
                all_goals (go_ret2; exact ⟨rfl, rfl⟩)
theorem rparse_at (w : World) (T : ByteArray) (l : List UInt8) (hT : T = ⟨l.toArray⟩) (hl : l.length ≤ 500) (x y : Int) (hx : parseF l = (x, y)) :
    Calls Tryd.prog 33 #[.string T] w fun e w' => e = .returned (.tuple #[.int .i64 x, .int .i64 y]) ∧ w = w' := by
  subst hT
  by_cases h : l.head? = some 45
  · rcases l with _ | ⟨c, b⟩
    · cases h
    · obtain rfl : c = 45 := by injection h
      exact rparse_neg w b (by simp at hl; omega) x y hx
  · exact rparse_pos w l hl h x y hx
end Go.Proofs.YtcebjipekodmpaaDoor
