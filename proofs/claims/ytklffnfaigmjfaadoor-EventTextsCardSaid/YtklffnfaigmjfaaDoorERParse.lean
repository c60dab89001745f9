/- The reference's Parse of an event's text returns what parseE says (printed by wip/gen_erparse.py). No condition. -/
import Derived.Test.YtklffnfaigmjfaaDoorERParts
import Derived.Test.YtklffnfaigmjfaaDoorEValid
import Derived.Test.YtklffnfaigmjfaaDoorHHeld
import Derived.Test.YtklffnfaigmjfaaDoorClass
import Derived.Deep.CutRange
namespace Go.Proofs.YtklffnfaigmjfaaDoor
open Go.RowKit
theorem splitD_sum (c : UInt8) : ∀ l : List UInt8, ((splitD c l).map List.length).sum + (splitD c l).length = l.length + 1
  | [] => by simp [splitD]
  | b :: l => by
    have ih := splitD_sum c l
    unfold splitD
    split
    · simp; omega
    · rcases h : splitD c l with _ | ⟨p, ps⟩
      · exact absurd h (splitD_ne c l)
      · rw [h] at ih
        simp at ih ⊢
        omega
theorem okU_len {l : List UInt8} (h : okU l = true) : l.length ≤ 10 := by
  simp only [okU, Bool.and_eq_true, decide_eq_true_eq] at h
  exact h.2.1
theorem form_long {l : List UInt8} (h : 100 < l.length) : formB (splitD 32 l) = false := by
  cases hf : formB (splitD 32 l) with
  | false => rfl
  | true =>
    simp only [formB, Bool.and_eq_true, decide_eq_true_eq] at hf
    obtain ⟨h9, hg, hs, hx, hw⟩ := hf
    have hsum := splitD_sum 32 l
    have k := goodK_mono _ 6 hg
    have k0 := okU_len (k 0 (by omega))
    have k1 := okU_len (k 1 (by omega))
    have k2 := okU_len (k 2 (by omega))
    have k3 := okU_len (k 3 (by omega))
    have k4 := okU_len (k 4 (by omega))
    have k5 := okU_len (k 5 (by omega))
    have k6 : (partK (splitD 32 l) 6).length ≤ 1 := by
      simp only [sigB, Bool.or_eq_true, decide_eq_true_eq] at hs
      rcases hs with e | e <;> rw [e] <;> decide
    have k7 : (partK (splitD 32 l) 7).length = 6 := by
      simp only [hexF, Bool.and_eq_true, decide_eq_true_eq] at hx
      exact hx.1
    have k8 : (partK (splitD 32 l) 8).length ≤ 9 := by
      simp only [wrdB, Bool.or_eq_true, decide_eq_true_eq] at hw
      rcases hw with e | e | e <;> rw [e] <;> decide
    rcases hp : splitD 32 l with _ | ⟨p0, _ | ⟨p1, _ | ⟨p2, _ | ⟨p3, _ | ⟨p4, _ | ⟨p5, _ | ⟨p6, _ | ⟨p7, _ | ⟨p8, _ | ⟨p9, t⟩⟩⟩⟩⟩⟩⟩⟩⟩⟩
    all_goals rw [hp] at h9 hsum k0 k1 k2 k3 k4 k5 k6 k7 k8
    all_goals simp [partK] at h9 hsum k0 k1 k2 k3 k4 k5 k6 k7 k8
    omega
def EPost (w : World) (X : Ev) (f : Int) (e : Ending) (w' : World) : Prop := e = .returned (.tuple #[.agg X.c, .int .i64 f]) ∧ Below w.heap.size w w'
theorem one_ev (e : Ev) : ∀ u ∈ e.c.toList, u.oneCell' = true := by
  intro u hu
  simp [Ev.c] at hu
  rcases hu with rfl | rfl | rfl | rfl | rfl | rfl | rfl | rfl | rfl | rfl <;> rfl
def u64s (xs : List Nat) : Array Value := (xs.map fun (n : Nat) => Value.int .u64 (n : Int)).toArray
def mostCs : Array Value := #[.int .u64 65535, .int .u64 4294967295, .int .u64 65535, .int .u64 255, .int .u64 255, .int .u64 255]
theorem most_at (k : Nat) (hk : k < 6) : mostCs[k]? = some (.int .u64 (maxN k : Int)) := by
  rcases (show k = 0 ∨ k = 1 ∨ k = 2 ∨ k = 3 ∨ k = 4 ∨ k = 5 by omega) with rfl | rfl | rfl | rfl | rfl | rfl <;> rfl
/-- The blocks that the reference's Parse has made. -/
structure RS (w W : World) (r g qm qv : Nat) (cur : Array Value) (xs : List Nat) : Prop where
  R : Blk W r 26 #[.int .u16 0, .int .u32 0, .int .u16 0, .int .u8 0, .int .u8 0, .int .u8 0, .bool false, .int .u8 0, .int .u8 0, .int .u8 0]
  N : Blk W (r + 1) 26 #[.int .u16 0, .int .u32 0, .int .u16 0, .int .u8 0, .int .u8 0, .int .u8 0, .bool false, .int .u8 0, .int .u8 0, .int .u8 0]
  P : Blk W g 9 cur
  M : Blk W qm 87 mostCs
  V : Blk W qv 87 (u64s xs)
  B : Below r w W
theorem RS.set_ {w W : World} {r g qm qv : Nat} {cur : Array Value} {xs : List Nat} (h : RS w W r g qm qv cur xs) (h1 : r + 1 < g) (h2 : g < qm) (h3 : qm < qv) (k n : Nat) (hs : w.heap.size = r) : RS w (W.setCell ⟨qv, k, none⟩ (.int .u64 (n : Int))) r g qm qv cur (xs.set k n) := by
  have gs : W.grownBy (W.setCell ⟨qv, k, none⟩ (.int .u64 (n : Int))) (some qv) := only_setCell (World.grownBy.refl W _) (.inl rfl) _
  refine ⟨h.R.grown gs (by intro e; injection e with e; omega), h.N.grown gs (by intro e; injection e with e; omega), h.P.grown gs (by intro e; injection e with e; omega), h.M.grown gs (by intro e; injection e with e; omega), ?_, h.B.grown gs (by have := h.B.size; omega) (fun j e => by injection e with e; omega)⟩
  have := h.V.set_ k (.int .u64 (n : Int))
  have e : (u64s xs).setIfInBounds k (.int .u64 (n : Int)) = u64s (xs.set k n) := by simp [u64s, List.map_set]
  rwa [e] at this
theorem RS.below {w W W' : World} {r g qm qv : Nat} {cur : Array Value} {xs : List Nat} (h : RS w W r g qm qv cur xs) (hb : Below W.heap.size W W') (hr : r ≤ W.heap.size) : RS w W' r g qm qv cur xs :=
  ⟨h.R.below hb h.R.lt, h.N.below hb h.N.lt, h.P.below hb h.P.lt, h.M.below hb h.M.lt, h.V.below hb h.V.lt, h.B.trans (hb.mono hr)⟩
theorem RS.far {w W W' : World} {r g qm qv q : Nat} {cur : Array Value} {xs : List Nat} (h : RS w W r g qm qv cur xs) (hg : W.grownBy W' (some q)) (h1 : r + 1 < g) (h2 : g < qm) (h3 : qm < qv) (h4 : qv < q) : RS w W' r g qm qv cur xs :=
  ⟨h.R.grown hg (by intro e; injection e with e; omega), h.N.grown hg (by intro e; injection e with e; omega), h.P.grown hg (by intro e; injection e with e; omega), h.M.grown hg (by intro e; injection e with e; omega), h.V.grown hg (by intro e; injection e with e; omega), h.B.grown hg (by have := h.R.lt; omega) (fun j e => by injection e with e; omega)⟩
/-- The bytes of data that have been read. -/
def HexAt (b0 b1 b2 b3 b4 b5 : UInt8) (i d0 d1 d2 : Nat) : Prop :=
  (1 ≤ i → isH b0 = true ∧ isH b1 = true ∧ d0 = 16 * hxN b0 + hxN b1) ∧ (2 ≤ i → isH b2 = true ∧ isH b3 = true ∧ d1 = 16 * hxN b2 + hxN b3) ∧ (3 ≤ i → isH b4 = true ∧ isH b5 = true ∧ d2 = 16 * hxN b4 + hxN b5)
theorem hx_case {b : UInt8} {z : Int} (h : hxI b.toNat = z) : (z < 0 ∧ isH b = false) ∨ ((∃ h : Nat, z = (h : Int) ∧ h < 16 ∧ hxN b = h) ∧ isH b = true) := by
  subst h
  unfold hxI
  split
  · right
    refine ⟨⟨b.toNat - 48, by omega, by omega, by rw [hxN, if_pos (by omega)]⟩, ?_⟩
    rename_i h
    simp [isH, h]
  · split
    · right
      refine ⟨⟨b.toNat - 87, by omega, by omega, by rw [hxN, if_neg (by omega)]⟩, ?_⟩
      rename_i h
      simp [isH, h]
    · left
      rename_i h1 h2
      exact ⟨by omega, by simp only [isH, h1, h2, decide_false, Bool.or_self]⟩
theorem row_own {w : World} {base : Nat} {v : Value} {ps : List (List UInt8)} (h1 : 1 ≤ ps.length) (h : w.ownsRow base 9 1 v ps.length (ps.map strV)) :
    ∃ g c cur, v = .slice (some ⟨g, 0, none⟩) ps.length c ∧ base ≤ g ∧ ps.length ≤ c ∧ c ≤ maxLen ∧ Blk w g 9 cur ∧ ∀ j, j < ps.length → cur[j]? = some (strV (partK ps j)) := by
  rcases h.2 with ⟨_, h0⟩ | ⟨g, c, cur, rfl, hb, hg, hnc, hcm, hsz, hx⟩
  · omega
  · refine ⟨g, c, cur, rfl, hb, hnc, hcm, hg, fun j hj => ?_⟩
    have h2 : (cur.toList.take (ps.length * 1))[j]? = (ps.map strV)[j]? := by rw [hx]
    rw [List.getElem?_take_of_lt (by omega)] at h2
    rw [← Array.getElem?_toList, h2, List.getElem?_map, List.getElem?_eq_getElem hj]
    simp [partK, hj]
set_option maxRecDepth 100000 in
set_option maxHeartbeats 8000000 in
theorem rparse_long (w : World) (l : List UInt8) (hl : l.length ≤ maxLen) (h : 100 < l.length) : Calls Tryd.prog 36 #[.string ⟨l.toArray⟩] w (EPost w zeroEv 6) := by
  unfold maxLen at hl
  have hz := size_list l _ hl
  have h1 : ((100 : Int) < (l.length : Int)) = True := by simp; omega
  have B1 := hide (((Below.refl w.heap.size w).alloc (Nat.le_refl _) (.cells #[.int .u16 0, .int .u32 0, .int .u16 0, .int .u8 0, .int .u8 0, .int .u8 0, .bool false, .int .u8 0, .int .u8 0, .int .u8 0] 26)).alloc (by simp) (.cells #[.int .u16 0, .int .u32 0, .int .u16 0, .int .u8 0, .int .u8 0, .int .u8 0, .bool false, .int .u8 0, .int .u8 0, .int .u8 0] 26))
  clear h
  go_enter Tryd.func36, Tryd.ntmps36
  go_wp2_with fail
  exact bodyPost_ret (v := .tuple #[.agg zeroEv.c, .int .i64 6]) (res2 rfl _ w.heap.size 26 zeroEv.c _ _ rfl rfl ((Blk.new w _ _).alloc _) Tryd.underlying26 rfl (by kernel_rfl)) rfl ⟨rfl, unhide B1⟩
set_option maxRecDepth 100000 in
set_option maxHeartbeats 16000000 in
theorem rparse_short (w : World) (l : List UInt8) (hl : l.length ≤ 100) (X : Ev) (x : Int) (hv : parseE l = (X, x)) : Calls Tryd.prog 36 #[.string ⟨l.toArray⟩] w (EPost w X x) := by
  have hz := size_list l _ hl
  have h1 : ((100 : Int) < (l.length : Int)) = False := by simp; omega
  have CPT := hide parts_any
  have CNU := hide rnum_any
  have CHX := hide rhex_any
  have HL : Hid (l.length ≤ 1000) := hide (by omega)
  obtain ⟨ps, hps⟩ : ∃ ps, splitD 32 l = ps := ⟨_, rfl⟩
  have hne : 1 ≤ ps.length := by
    rcases h : ps with _ | _
    · rw [h] at hps; exact absurd hps (splitD_ne 32 l)
    · simp
  have hpl : ps.length ≤ 101 := by rw [← hps]; have := splitD_count 32 l; omega
  have hpm : ∀ p ∈ ps, p.length ≤ 100 := fun p hp => by rw [← hps] at hp; have := splitD_len 32 l p hp; omega
  have HPM := hide hpm
  have hv2 : parseP ps = (X, x) := by rw [← hps]; exact hv
  have HV := hide hv2
  have HPS := hide hps
  obtain ⟨r, hr⟩ : ∃ r, w.heap.size = r := ⟨_, rfl⟩
  have HR := hide hr
  obtain ⟨W1, hW1⟩ : ∃ W1, (w.alloc (.cells #[.int .u16 0, .int .u32 0, .int .u16 0, .int .u8 0, .int .u8 0, .int .u8 0, .bool false, .int .u8 0, .int .u8 0, .int .u8 0] 26)).alloc (.cells #[.int .u16 0, .int .u32 0, .int .u16 0, .int .u8 0, .int .u8 0, .int .u8 0, .bool false, .int .u8 0, .int .u8 0, .int .u8 0] 26) = W1 := ⟨_, rfl⟩
  have R1 : Hid (Blk W1 r 26 #[.int .u16 0, .int .u32 0, .int .u16 0, .int .u8 0, .int .u8 0, .int .u8 0, .bool false, .int .u8 0, .int .u8 0, .int .u8 0]) := hide (hr ▸ hW1 ▸ (Blk.new w _ _).alloc _)
  have N1 : Hid (Blk W1 (r + 1) 26 #[.int .u16 0, .int .u32 0, .int .u16 0, .int .u8 0, .int .u8 0, .int .u8 0, .bool false, .int .u8 0, .int .u8 0, .int .u8 0]) := hide (hW1 ▸ Blk.new' (by rw [size_alloc, hr]))
  have B1 : Hid (Below r w W1) := hide (hW1 ▸ hr ▸ ((Below.refl w.heap.size w).alloc (Nat.le_refl _) _).alloc (by simp) _)
  have HW1 := hide hW1
  clear hl hpm hv hv2 hps hr hW1
  go_enter Tryd.func36, Tryd.ntmps36
  go_wp2_with fail
  rw [unhide HW1]
  simp only [unhide HR]
  refine (unhide CPT _ l (unhide HL)).mono ?_
  rintro e w2 ⟨v, rfl, hown, hb2⟩
  rw [unhide HPS] at hown
  obtain ⟨g, cp, cur, rfl, hgb, hnc, hcm, hcur, hat⟩ := row_own hne hown
  have R2 := (unhide R1).below hb2 (unhide R1).lt
  have N2 := (unhide N1).below hb2 (unhide N1).lt
  have hg1 : r + 1 < g := by have := (unhide N1).lt; omega
  have B2 : Below r w w2 := (unhide B1).trans (hb2.mono (by have := (unhide B1).size; have := (unhide R1).lt; omega))
  have RR := hide R2
  have NN := hide N2
  have PP := hide hcur
  have BB := hide B2
  have HAT := hide hat
  have hgl : g < w2.heap.size := hcur.lt
  have hrl : r + 1 < w2.heap.size := N2.lt
  unfold maxLen at hcm
  clear hb2 hown R2 hat hgb
  by_cases h9 : ps.length = 9
  rotate_left
  · have h9' : ((ps.length : Int) != 9) = true := by simp; omega
    have hb := parse_bad (form_len h9)
    rw [unhide HV] at hb
    injection hb with hX hx
    subst hX hx
    have n0 : w2.cell? ⟨r + 1, 0, none⟩ = some (.int .u16 0) := (unhide NN).cell 0
    have n1 : w2.cell? ⟨r + 1, 1, none⟩ = some (.int .u32 0) := (unhide NN).cell 1
    have n2 : w2.cell? ⟨r + 1, 2, none⟩ = some (.int .u16 0) := (unhide NN).cell 2
    have n3 : w2.cell? ⟨r + 1, 3, none⟩ = some (.int .u8 0) := (unhide NN).cell 3
    have n4 : w2.cell? ⟨r + 1, 4, none⟩ = some (.int .u8 0) := (unhide NN).cell 4
    have n5 : w2.cell? ⟨r + 1, 5, none⟩ = some (.int .u8 0) := (unhide NN).cell 5
    have n6 : w2.cell? ⟨r + 1, 6, none⟩ = some (.bool false) := (unhide NN).cell 6
    have n7 : w2.cell? ⟨r + 1, 7, none⟩ = some (.int .u8 0) := (unhide NN).cell 7
    have n8 : w2.cell? ⟨r + 1, 8, none⟩ = some (.int .u8 0) := (unhide NN).cell 8
    have n9 : w2.cell? ⟨r + 1, 9, none⟩ = some (.int .u8 0) := (unhide NN).cell 9
    clear hcur hcm hnc
    go_wp2_with (refine wpList_store_blk rfl 26 (.tmp 2) (.tmp 63) rfl r 26 _ #[.int .u16 0, .int .u32 0, .int .u16 0, .int .u8 0, .int .u8 0, .int .u8 0, .bool false, .int .u8 0, .int .u8 0, .int .u8 0] rfl rfl (unhide RR) rfl (by kernel_rfl) (one_ev zeroEv) ?_
                 intro w9 hb9 hg9
                 have Z9 := hide hb9
                 have B9 := hide ((unhide BB).grown hg9 (by have := (unhide RR).lt; have := (unhide BB).size; omega) (fun j e => by injection e with e; omega))
                 clear hb9 hg9)
    exact bodyPost_ret (v := .tuple #[.agg zeroEv.c, .int .i64 6]) (res2 rfl _ r 26 zeroEv.c _ _ rfl rfl (unhide Z9) Tryd.underlying26 rfl (by kernel_rfl)) rfl ⟨rfl, by rw [unhide HR]; exact unhide B9⟩
  have h9' : ((ps.length : Int) != 9) = false := by simp; omega
  have h9i : (ps.length : Int) = 9 := by omega
  obtain ⟨p6, e6⟩ : ∃ p, partK ps 6 = p := ⟨_, rfl⟩
  obtain ⟨p7, e7⟩ : ∃ p, partK ps 7 = p := ⟨_, rfl⟩
  obtain ⟨p8, e8⟩ : ∃ p, partK ps 8 = p := ⟨_, rfl⟩
  have c6 : w2.cell? ⟨g, 6, none⟩ = some (.string ⟨p6.toArray⟩) := by rw [(unhide PP).cell, (unhide HAT) 6 (by omega), e6]; rfl
  have c7 : w2.cell? ⟨g, 7, none⟩ = some (.string ⟨p7.toArray⟩) := by rw [(unhide PP).cell, (unhide HAT) 7 (by omega), e7]; rfl
  have c8 : w2.cell? ⟨g, 8, none⟩ = some (.string ⟨p8.toArray⟩) := by rw [(unhide PP).cell, (unhide HAT) 8 (by omega), e8]; rfl
  have E6 := hide e6
  have E7 := hide e7
  have E8 := hide e8
  clear e6 e7 e8 hcur N2 B2
  obtain ⟨okb, hokb⟩ : ∃ b, (sigB p6 && (decide (p7.length = 6) && wrdB p8)) = b := ⟨_, rfl⟩
  have HOK := hide hokb
  have l7 : p7.length ≤ 100 := by
    have h := unhide HPM p7 (by rw [← unhide E7]; simp [partK, h9])
    exact h
  have l7z := size_list p7 _ l7
  clear hokb
  go_upto_region 5 with fail
  go_cut [62] from 23 to 62 (fun c wx => c = .bool (!okb) ∧ wx = w2)
  case first =>
    have hokb := unhide HOK
    by_cases hs0 : p6 = [43]
    · subst hs0
      by_cases hl6 : p7.length = 6
      rotate_left
      · obtain rfl : false = okb := by rw [← hokb]; simp [hl6]
        have hb6 : ((p7.length : Int) != 6) = true := by simp; omega
        go_wp2_with fail
        go_meet
        exact ⟨rfl, rfl⟩
      have hb6 : ((p7.length : Int) != 6) = false := by simp; omega
      have hl6i : (p7.length : Int) = 6 := by omega
      by_cases hw0 : p8 = [116, 104, 114, 101, 115, 104, 111, 108, 100]
      · subst hw0
        obtain rfl : true = okb := by rw [← hokb, hl6]; rfl
        go_wp2_with fail
        go_meet
        exact ⟨rfl, rfl⟩
      have hv0 : (p8 == [116, 104, 114, 101, 115, 104, 111, 108, 100]) = false := by simpa using hw0
      by_cases hw1 : p8 = [115, 116, 97, 116, 101]
      · subst hw1
        obtain rfl : true = okb := by rw [← hokb, hl6]; rfl
        go_wp2_with fail
        go_meet
        exact ⟨rfl, rfl⟩
      have hv1 : (p8 == [115, 116, 97, 116, 101]) = false := by simpa using hw1
      by_cases hw2 : p8 = [111, 116, 104, 101, 114]
      · subst hw2
        obtain rfl : true = okb := by rw [← hokb, hl6]; rfl
        go_wp2_with fail
        go_meet
        exact ⟨rfl, rfl⟩
      have hv2 : (p8 == [111, 116, 104, 101, 114]) = false := by simpa using hw2
      obtain rfl : false = okb := by rw [← hokb]; simp [wrdB, wordL, hw0, hw1, hw2]
      go_wp2_with fail
      go_meet
      exact ⟨rfl, rfl⟩
    have ht0 : (p6 == [43]) = false := by simpa using hs0
    by_cases hs1 : p6 = [45]
    · subst hs1
      by_cases hl6 : p7.length = 6
      rotate_left
      · obtain rfl : false = okb := by rw [← hokb]; simp [hl6]
        have hb6 : ((p7.length : Int) != 6) = true := by simp; omega
        go_wp2_with fail
        go_meet
        exact ⟨rfl, rfl⟩
      have hb6 : ((p7.length : Int) != 6) = false := by simp; omega
      have hl6i : (p7.length : Int) = 6 := by omega
      by_cases hw0 : p8 = [116, 104, 114, 101, 115, 104, 111, 108, 100]
      · subst hw0
        obtain rfl : true = okb := by rw [← hokb, hl6]; rfl
        go_wp2_with fail
        go_meet
        exact ⟨rfl, rfl⟩
      have hv0 : (p8 == [116, 104, 114, 101, 115, 104, 111, 108, 100]) = false := by simpa using hw0
      by_cases hw1 : p8 = [115, 116, 97, 116, 101]
      · subst hw1
        obtain rfl : true = okb := by rw [← hokb, hl6]; rfl
        go_wp2_with fail
        go_meet
        exact ⟨rfl, rfl⟩
      have hv1 : (p8 == [115, 116, 97, 116, 101]) = false := by simpa using hw1
      by_cases hw2 : p8 = [111, 116, 104, 101, 114]
      · subst hw2
        obtain rfl : true = okb := by rw [← hokb, hl6]; rfl
        go_wp2_with fail
        go_meet
        exact ⟨rfl, rfl⟩
      have hv2 : (p8 == [111, 116, 104, 101, 114]) = false := by simpa using hw2
      obtain rfl : false = okb := by rw [← hokb]; simp [wrdB, wordL, hw0, hw1, hw2]
      go_wp2_with fail
      go_meet
      exact ⟨rfl, rfl⟩
    have ht1 : (p6 == [45]) = false := by simpa using hs1
    obtain rfl : false = okb := by rw [← hokb]; simp [sigB, hs0, hs1]
    go_wp2_with fail
    go_meet
    exact ⟨rfl, rfl⟩
  case rest =>
    obtain ⟨rfl, rfl⟩ := hcut
    cases okb
    · have hf : formB ps = false := by
        have h := unhide HOK
        simp only [Bool.and_eq_false_iff] at h
        rcases h with h | h | h
        · exact form_sig (by rw [unhide E6]; exact h)
        · exact form_hex (by rw [unhide E7, hexF]; simp at h; simp [h])
        · exact form_wrd (by rw [unhide E8]; exact h)
      have hb := parse_bad (hf)
      rw [unhide HV] at hb
      injection hb with hX hx
      subst hX hx
      have n0 : wc.cell? ⟨r + 1, 0, none⟩ = some (.int .u16 0) := (unhide NN).cell 0
      have n1 : wc.cell? ⟨r + 1, 1, none⟩ = some (.int .u32 0) := (unhide NN).cell 1
      have n2 : wc.cell? ⟨r + 1, 2, none⟩ = some (.int .u16 0) := (unhide NN).cell 2
      have n3 : wc.cell? ⟨r + 1, 3, none⟩ = some (.int .u8 0) := (unhide NN).cell 3
      have n4 : wc.cell? ⟨r + 1, 4, none⟩ = some (.int .u8 0) := (unhide NN).cell 4
      have n5 : wc.cell? ⟨r + 1, 5, none⟩ = some (.int .u8 0) := (unhide NN).cell 5
      have n6 : wc.cell? ⟨r + 1, 6, none⟩ = some (.bool false) := (unhide NN).cell 6
      have n7 : wc.cell? ⟨r + 1, 7, none⟩ = some (.int .u8 0) := (unhide NN).cell 7
      have n8 : wc.cell? ⟨r + 1, 8, none⟩ = some (.int .u8 0) := (unhide NN).cell 8
      have n9 : wc.cell? ⟨r + 1, 9, none⟩ = some (.int .u8 0) := (unhide NN).cell 9
      clear c6 c7 c8 l7z
      go_wp2_with (refine wpList_store_blk rfl 26 (.tmp 2) (.tmp 63) rfl r 26 _ #[.int .u16 0, .int .u32 0, .int .u16 0, .int .u8 0, .int .u8 0, .int .u8 0, .bool false, .int .u8 0, .int .u8 0, .int .u8 0] rfl rfl (unhide RR) rfl (by kernel_rfl) (one_ev zeroEv) ?_
                   intro w9 hb9 hg9
                   have Z9 := hide hb9
                   have B9 := hide ((unhide BB).grown hg9 (by have := (unhide RR).lt; have := (unhide BB).size; omega) (fun j e => by injection e with e; omega))
                   clear hb9 hg9)
      exact bodyPost_ret (v := .tuple #[.agg zeroEv.c, .int .i64 6]) (res2 rfl _ r 26 zeroEv.c _ _ rfl rfl (unhide Z9) Tryd.underlying26 rfl (by kernel_rfl)) rfl ⟨rfl, by rw [unhide HR]; exact unhide B9⟩
    have hok := unhide HOK
    simp only [Bool.and_eq_true, decide_eq_true_eq] at hok
    obtain ⟨ok6, ok7, ok8⟩ := hok
    have hl6 := ok7
    have O6 := hide ok6
    have O8 := hide ok8
    clear ok6 ok8 ok7 c6 c7 c8
    obtain ⟨qm, hqm⟩ : ∃ q, wc.heap.size = q := ⟨_, rfl⟩
    have hqm1 : g < qm := hqm ▸ (unhide PP).lt
    obtain ⟨W3, hW3⟩ : ∃ W3, (wc.alloc (.cells mostCs 87)).alloc (.cells #[.int .u64 0, .int .u64 0, .int .u64 0, .int .u64 0, .int .u64 0, .int .u64 0] 87) = W3 := ⟨_, rfl⟩
    have S3 : Hid (RS w W3 r g qm (qm + 1) cur [0, 0, 0, 0, 0, 0]) := hide (by
      have hb : Below wc.heap.size wc W3 := hW3 ▸ (((Below.refl wc.heap.size wc).alloc (Nat.le_refl _) _).alloc (by simp) _)
      refine ⟨(unhide RR).below hb (unhide RR).lt, (unhide NN).below hb (unhide NN).lt, (unhide PP).below hb (unhide PP).lt, hqm ▸ hW3 ▸ (Blk.new wc _ _).alloc _, hW3 ▸ Blk.new' (by rw [size_alloc, hqm]), (unhide BB).trans (hb.mono (by have := (unhide RR).lt; omega))⟩)
    have HW3 := hide hW3
    have HQM := hide hqm
    obtain ⟨qv, hqv⟩ : ∃ q, qm + 1 = q := ⟨_, rfl⟩
    rw [hqv] at S3
    have HQV := hide hqv
    have hqv1 : qm < qv := by omega
    clear hW3 hqm hqv BB PP RR NN hrl hgl
    simp only [Bool.not_true]
    go_upto_region 11 with fail
    have hw3 := unhide HW3
    simp only [mostCs] at hw3
    rw [hw3]
    simp only [unhide HQM, unhide HQV]
    clear hw3 HW3
    go_loopw [8, 9] (fun h i wr => ∃ (k : Nat) (hb : Bool) (xs : List Nat), k ≤ 6 ∧ h = .bool hb ∧ i = .int .i64 k ∧ xs.length = 6 ∧ goodK ps k = true ∧ highK ps k = hb ∧ (∀ j, j < k → xs[j]? = some (decV 0 (partK ps j))) ∧ RS w wr r g qm qv cur xs) (fun _ i _ => 6 - (intOf i).toNat)
    case atStart => exact ⟨0, false, [0, 0, 0, 0, 0, 0], by omega, rfl, rfl, rfl, rfl, rfl, by omega, unhide S3⟩
    case round =>
      obtain ⟨k, hb, xs, hk, rfl, rfl, hxl, hgk, hhk, hxs, hS⟩ := hrel
      have SS := hide hS
      have GK := hide hgk
      have HK := hide hhk
      have HX := hide hxs
      have R5 : Hid (Blk wr r 26 #[.int .u16 0, .int .u32 0, .int .u16 0, .int .u8 0, .int .u8 0, .int .u8 0, .bool false, .int .u8 0, .int .u8 0, .int .u8 0]) := hide hS.R
      have N5 : Hid (Blk wr (r + 1) 26 #[.int .u16 0, .int .u32 0, .int .u16 0, .int .u8 0, .int .u8 0, .int .u8 0, .bool false, .int .u8 0, .int .u8 0, .int .u8 0]) := hide hS.N
      have B5 := hide hS.B
      clear hgk hhk hxs
      by_cases hlt : k < 6
      · obtain ⟨pk, hpk⟩ : ∃ p, partK ps k = p := ⟨_, rfl⟩
        have hlt2 : (k : Int) < 6 := by omega
        have ck : wr.cell? ⟨g, k, none⟩ = some (.string ⟨pk.toArray⟩) := by rw [hS.P.cell, (unhide HAT) k (by omega), hpk]; rfl
        have hgl : g < wr.heap.size := hS.P.lt
        have hql : qv < wr.heap.size := hS.V.lt
        have lk : pk.length ≤ maxLen := by
          have h := unhide HPM pk (by rw [← hpk]; simp [partK, show k < ps.length by omega])
          unfold maxLen; omega
        obtain ⟨b, hbk⟩ : ∃ b, okU pk = b := ⟨_, rfl⟩
        obtain ⟨n, hn⟩ : ∃ n, (if b = true then decV 0 pk else 0) = n := ⟨_, rfl⟩
        have HBK := hide hbk
        have HN := hide hn
        have HPK := hide hpk
        have LK := hide lk
        clear hS hbk hn hpk lk hk
        go_wp2_with fail
        refine (unhide CNU _ pk (unhide LK) b (unhide HBK) n (unhide HN)).mono ?_
        rintro e w5 ⟨rfl, rfl⟩
        cases b
        · have hf : formB ps = false := form_num (k := k + 1) (by omega) (by rw [goodK, unhide HPK, unhide HBK]; simp)
          have hb := parse_bad (hf)
          rw [unhide HV] at hb
          injection hb with hX hx
          subst hX hx
          have n0 : wr.cell? ⟨r + 1, 0, none⟩ = some (.int .u16 0) := (unhide N5).cell 0
          have n1 : wr.cell? ⟨r + 1, 1, none⟩ = some (.int .u32 0) := (unhide N5).cell 1
          have n2 : wr.cell? ⟨r + 1, 2, none⟩ = some (.int .u16 0) := (unhide N5).cell 2
          have n3 : wr.cell? ⟨r + 1, 3, none⟩ = some (.int .u8 0) := (unhide N5).cell 3
          have n4 : wr.cell? ⟨r + 1, 4, none⟩ = some (.int .u8 0) := (unhide N5).cell 4
          have n5 : wr.cell? ⟨r + 1, 5, none⟩ = some (.int .u8 0) := (unhide N5).cell 5
          have n6 : wr.cell? ⟨r + 1, 6, none⟩ = some (.bool false) := (unhide N5).cell 6
          have n7 : wr.cell? ⟨r + 1, 7, none⟩ = some (.int .u8 0) := (unhide N5).cell 7
          have n8 : wr.cell? ⟨r + 1, 8, none⟩ = some (.int .u8 0) := (unhide N5).cell 8
          have n9 : wr.cell? ⟨r + 1, 9, none⟩ = some (.int .u8 0) := (unhide N5).cell 9
          clear ck
          go_wp2_with (refine wpList_store_blk rfl 26 (.tmp 2) (.tmp 79) rfl r 26 _ #[.int .u16 0, .int .u32 0, .int .u16 0, .int .u8 0, .int .u8 0, .int .u8 0, .bool false, .int .u8 0, .int .u8 0, .int .u8 0] rfl rfl (unhide R5) rfl (by kernel_rfl) (one_ev zeroEv) ?_
                       intro w9 hb9 hg9
                       have Z9 := hide hb9
                       have B9 := hide ((unhide B5).grown hg9 (by have := (unhide R5).lt; have := (unhide B5).size; omega) (fun j e => by injection e with e; omega))
                       clear hb9 hg9)
          exact bodyPost_ret (v := .tuple #[.agg zeroEv.c, .int .i64 6]) (res2 rfl _ r 26 zeroEv.c _ _ rfl rfl (unhide Z9) Tryd.underlying26 rfl (by kernel_rfl)) rfl ⟨rfl, by rw [unhide HR]; exact unhide B9⟩
        · have hnv : decV 0 pk = n := by simpa using unhide HN
          have hgk1 : goodK ps (k + 1) = true := by rw [goodK, unhide GK, unhide HPK, unhide HBK]; rfl
          have hxv : ∃ xv, xs[k]? = some xv := ⟨xs[k]'(by omega), List.getElem?_eq_getElem (by omega)⟩
          obtain ⟨xv, hxv⟩ := hxv
          have q1 : wr.cell? ⟨qv, k, none⟩ = some (.int .u64 (xv : Int)) := by rw [(unhide SS).V.cell]; simp [u64s, hxv]
          have f1 : wr.frozen? ⟨qv, k, none⟩ = false := (unhide SS).V.frozen k
          have S6 := (unhide SS).set_ hg1 hqm1 hqv1 k n (unhide HR)
          obtain ⟨mk, hmk⟩ : ∃ m, maxN k = m := ⟨_, rfl⟩
          have cm : (wr.setCell ⟨qv, k, none⟩ (.int .u64 (n : Int))).cell? ⟨qm, k, none⟩ = some (.int .u64 (mk : Int)) := by rw [S6.M.cell, most_at k hlt, hmk]
          have hml : qm < wr.heap.size := (unhide SS).M.lt
          have hnx : ∀ j, j < k + 1 → (xs.set k n)[j]? = some (decV 0 (partK ps j)) := by
            intro j hj
            by_cases hjk : j = k
            · subst hjk
              rw [List.getElem?_set_self (by omega), unhide HPK, hnv]
            · rw [List.getElem?_set_ne (by omega), unhide HX j (by omega)]
          have SX := hide S6
          have GX := hide hgk1
          have NX := hide hnx
          have hhigh : highK ps (k + 1) = (hb || decide (mk < n)) := by rw [highK, unhide HK, hmk, unhide HPK, hnv]
          have HH := hide hhigh
          clear S6 hgk1 hnx hhigh hnv hxv ck hmk
          cases hb
          · by_cases hov : mk < n
            · have hov' : ((mk : Int) < (n : Int)) = True := by simp; omega
              go_wp2_with fail
              go_roundw
              case rel => exact ⟨k + 1, true, xs.set k n, by omega, rfl, by go_num, by simp [hxl], unhide GX, by rw [unhide HH]; simp [hov], unhide NX, unhide SX⟩
              case measure => simp [intOf]; omega
            · have hov' : ((mk : Int) < (n : Int)) = False := by simp; omega
              go_wp2_with fail
              go_roundw
              case rel => exact ⟨k + 1, false, xs.set k n, by omega, rfl, by go_num, by simp [hxl], unhide GX, by rw [unhide HH]; simp [hov], unhide NX, unhide SX⟩
              case measure => simp [intOf]; omega
          · go_wp2_with fail
            go_roundw
            case rel => exact ⟨k + 1, true, xs.set k n, by omega, rfl, by go_num, by simp [hxl], unhide GX, by rw [unhide HH]; simp, unhide NX, unhide SX⟩
            case measure => simp [intOf]; omega
      · have hk6 : k = 6 := by omega
        have hkf : ((k : Int) < 6) = False := by simp; omega
        have GK6 : Hid (goodK ps 6 = true) := hide (by rw [← hk6]; exact unhide GK)
        have HK6 : Hid (highK ps 6 = hb) := hide (by rw [← hk6]; exact unhide HK)
        obtain ⟨x0, x1, x2, x3, x4, x5, rfl⟩ : ∃ x0 x1 x2 x3 x4 x5, xs = [x0, x1, x2, x3, x4, x5] := by
          rcases xs with _ | ⟨x0, _ | ⟨x1, _ | ⟨x2, _ | ⟨x3, _ | ⟨x4, _ | ⟨x5, _ | ⟨x6, t⟩⟩⟩⟩⟩⟩⟩
          all_goals try (simp at hxl; done)
          exact ⟨x0, x1, x2, x3, x4, x5, rfl⟩
        have v0 : x0 = decV 0 (partK ps 0) := Option.some.inj ((unhide HX) 0 (by omega))
        have v1 : x1 = decV 0 (partK ps 1) := Option.some.inj ((unhide HX) 1 (by omega))
        have v2 : x2 = decV 0 (partK ps 2) := Option.some.inj ((unhide HX) 2 (by omega))
        have v3 : x3 = decV 0 (partK ps 3) := Option.some.inj ((unhide HX) 3 (by omega))
        have v4 : x4 = decV 0 (partK ps 4) := Option.some.inj ((unhide HX) 4 (by omega))
        have v5 : x5 = decV 0 (partK ps 5) := Option.some.inj ((unhide HX) 5 (by omega))
        have VV := hide (⟨v0, v1, v2, v3, v4, v5⟩ : x0 = decV 0 (partK ps 0) ∧ x1 = decV 0 (partK ps 1) ∧ x2 = decV 0 (partK ps 2) ∧ x3 = decV 0 (partK ps 3) ∧ x4 = decV 0 (partK ps 4) ∧ x5 = decV 0 (partK ps 5))
        clear v0 v1 v2 v3 v4 v5 hlt hk hk6 hxl GK HK HX
        have c6 : wr.cell? ⟨g, 6, none⟩ = some (.string ⟨p6.toArray⟩) := by rw [hS.P.cell, (unhide HAT) 6 (by omega), unhide E6]; rfl
        have hgl : g < wr.heap.size := hS.P.lt
        have hrl : r + 1 < wr.heap.size := hS.N.lt
        have hqvl : qv < wr.heap.size := hS.V.lt
        obtain ⟨ds, hds⟩ : ∃ b, (p6 == [45]) = b := ⟨_, rfl⟩
        have HDS := hide hds
        go_upto_region 20 with fail
        obtain ⟨qe, hqe⟩ : ∃ q, wr.heap.size = q := ⟨_, rfl⟩
        have hqe1 : qv < qe := hqe ▸ hqvl
        obtain ⟨W8, hW8⟩ : ∃ W8, wr.alloc (.cells #[.int .u16 0, .int .u32 0, .int .u16 0, .int .u8 0, .int .u8 0, .int .u8 0, .bool ds, .int .u8 0, .int .u8 0, .int .u8 0] 26) = W8 := ⟨_, rfl⟩
        have E8b : Hid (Blk W8 qe 26 #[.int .u16 0, .int .u32 0, .int .u16 0, .int .u8 0, .int .u8 0, .int .u8 0, .bool ds, .int .u8 ((0 : Nat) : Int), .int .u8 ((0 : Nat) : Int), .int .u8 ((0 : Nat) : Int)]) := hide (hqe ▸ hW8 ▸ Blk.new wr _ _)
        have S8 : Hid (RS w W8 r g qm qv cur [x0, x1, x2, x3, x4, x5]) := hide (hW8 ▸ hS.below ((Below.refl wr.heap.size wr).alloc (Nat.le_refl _) _) (by have := hS.R.lt; omega))
        rw [hW8, hqe]
        obtain ⟨b0, b1, b2, b3, b4, b5, rfl⟩ : ∃ b0 b1 b2 b3 b4 b5, p7 = [b0, b1, b2, b3, b4, b5] := by
          rcases p7 with _ | ⟨x0, _ | ⟨x1, _ | ⟨x2, _ | ⟨x3, _ | ⟨x4, _ | ⟨x5, _ | ⟨x6, t⟩⟩⟩⟩⟩⟩⟩
          all_goals try (simp at hl6; done)
          exact ⟨x0, x1, x2, x3, x4, x5, rfl⟩
        clear hS SS R5 N5 B5 S3 hqvl hrl hgl c6 hW8 hqe l7 l7z hds
        go_loopw [13] (fun j W => ∃ i d0 d1 d2 : Nat, i ≤ 3 ∧ j = .int .i64 i ∧ HexAt b0 b1 b2 b3 b4 b5 i d0 d1 d2 ∧ Blk W qe 26 #[.int .u16 0, .int .u32 0, .int .u16 0, .int .u8 0, .int .u8 0, .int .u8 0, .bool ds, .int .u8 (d0 : Int), .int .u8 (d1 : Int), .int .u8 (d2 : Int)] ∧ RS w W r g qm qv cur [x0, x1, x2, x3, x4, x5]) (fun j _ => 3 - (intOf j).toNat)
        case atStart => exact ⟨0, 0, 0, 0, by omega, rfl, ⟨by omega, by omega, by omega⟩, unhide E8b, unhide S8⟩
        case round =>
          obtain ⟨i, d0, d1, d2, hi, rfl, hat, hE, hS⟩ := hrel
          have EE := hide hE
          have SS := hide hS
          have HA := hide hat
          have RR : Hid (Blk wr r 26 #[.int .u16 0, .int .u32 0, .int .u16 0, .int .u8 0, .int .u8 0, .int .u8 0, .bool false, .int .u8 0, .int .u8 0, .int .u8 0]) := hide hS.R
          have NN : Hid (Blk wr (r + 1) 26 #[.int .u16 0, .int .u32 0, .int .u16 0, .int .u8 0, .int .u8 0, .int .u8 0, .bool false, .int .u8 0, .int .u8 0, .int .u8 0]) := hide hS.N
          have BB := hide hS.B
          have c7 : wr.cell? ⟨g, 7, none⟩ = some (.string ⟨[b0, b1, b2, b3, b4, b5].toArray⟩) := by rw [hS.P.cell, (unhide HAT) 7 (by omega), unhide E7]; rfl
          have hgl : g < wr.heap.size := hS.P.lt
          have hqel : qe < wr.heap.size := hE.lt
          clear hS hat
          rcases (show i = 0 ∨ i = 1 ∨ i = 2 ∨ i = 3 by omega) with rfl | rfl | rfl | rfl
          · have lh : b0.toNat < 256 := UInt8.toNat_lt _
            have ll : b1.toNat < 256 := UInt8.toNat_lt _
            obtain ⟨rh, hrh⟩ : ∃ z, hxI b0.toNat = z := ⟨_, rfl⟩
            obtain ⟨rl, hrl⟩ : ∃ z, hxI b1.toNat = z := ⟨_, rfl⟩
            have CH := hide fun W => unhide CHX W b0.toNat lh rh hrh
            have CL := hide fun W => unhide CHX W b1.toNat ll rl hrl
            have hcase : (rh < 0 ∧ isH b0 = false) ∨ ((∃ h : Nat, rh = (h : Int) ∧ h < 16 ∧ hxN b0 = h) ∧ isH b0 = true) := hx_case hrh
            have lcase : (rl < 0 ∧ isH b1 = false) ∨ ((∃ h : Nat, rl = (h : Int) ∧ h < 16 ∧ hxN b1 = h) ∧ isH b1 = true) := hx_case hrl
            have HC := hide hcase
            have LC := hide lcase
            clear hrh hrl hcase lcase hE
            go_wp2_with fail
            refine (unhide CH _).mono ?_
            rintro e w5 ⟨rfl, rfl⟩
            go_wp2_with fail
            refine (unhide CL _).mono ?_
            rintro e w5 ⟨rfl, rfl⟩
            rcases unhide HC with ⟨hneg, hno⟩ | ⟨⟨h, rfl, hh16, hhv⟩, hyes⟩
            · have hng : (rh < 0) = True := by simpa using hneg
              have hf : formB ps = false := form_hex (by rw [unhide E7]; simp [hexF, hno])
              clear hneg hno CH CL HC LC
              have hb := parse_bad (hf)
              rw [unhide HV] at hb
              injection hb with hX hx
              subst hX hx
              have n0 : wr.cell? ⟨r + 1, 0, none⟩ = some (.int .u16 0) := (unhide NN).cell 0
              have n1 : wr.cell? ⟨r + 1, 1, none⟩ = some (.int .u32 0) := (unhide NN).cell 1
              have n2 : wr.cell? ⟨r + 1, 2, none⟩ = some (.int .u16 0) := (unhide NN).cell 2
              have n3 : wr.cell? ⟨r + 1, 3, none⟩ = some (.int .u8 0) := (unhide NN).cell 3
              have n4 : wr.cell? ⟨r + 1, 4, none⟩ = some (.int .u8 0) := (unhide NN).cell 4
              have n5 : wr.cell? ⟨r + 1, 5, none⟩ = some (.int .u8 0) := (unhide NN).cell 5
              have n6 : wr.cell? ⟨r + 1, 6, none⟩ = some (.bool false) := (unhide NN).cell 6
              have n7 : wr.cell? ⟨r + 1, 7, none⟩ = some (.int .u8 0) := (unhide NN).cell 7
              have n8 : wr.cell? ⟨r + 1, 8, none⟩ = some (.int .u8 0) := (unhide NN).cell 8
              have n9 : wr.cell? ⟨r + 1, 9, none⟩ = some (.int .u8 0) := (unhide NN).cell 9
              clear c7
              go_wp2_with (refine wpList_store_blk rfl 26 (.tmp 2) (.tmp 121) rfl r 26 _ #[.int .u16 0, .int .u32 0, .int .u16 0, .int .u8 0, .int .u8 0, .int .u8 0, .bool false, .int .u8 0, .int .u8 0, .int .u8 0] rfl rfl (unhide RR) rfl (by kernel_rfl) (one_ev zeroEv) ?_
                           intro w9 hb9 hg9
                           have Z9 := hide hb9
                           have B9 := hide ((unhide BB).grown hg9 (by have := (unhide RR).lt; have := (unhide BB).size; omega) (fun j e => by injection e with e; omega))
                           clear hb9 hg9)
              exact bodyPost_ret (v := .tuple #[.agg zeroEv.c, .int .i64 6]) (res2 rfl _ r 26 zeroEv.c _ _ rfl rfl (unhide Z9) Tryd.underlying26 rfl (by kernel_rfl)) rfl ⟨rfl, by rw [unhide HR]; exact unhide B9⟩
            rcases unhide LC with ⟨hneg, hno⟩ | ⟨⟨m, rfl, hm16, hmv⟩, hyes2⟩
            · have hng0 : (((h : Nat) : Int) < 0) = False := by simp
              have hng : (rl < 0) = True := by simpa using hneg
              have hf : formB ps = false := form_hex (by rw [unhide E7]; simp [hexF, hno])
              clear hneg hno hhv CH CL HC LC
              have hb := parse_bad (hf)
              rw [unhide HV] at hb
              injection hb with hX hx
              subst hX hx
              have n0 : wr.cell? ⟨r + 1, 0, none⟩ = some (.int .u16 0) := (unhide NN).cell 0
              have n1 : wr.cell? ⟨r + 1, 1, none⟩ = some (.int .u32 0) := (unhide NN).cell 1
              have n2 : wr.cell? ⟨r + 1, 2, none⟩ = some (.int .u16 0) := (unhide NN).cell 2
              have n3 : wr.cell? ⟨r + 1, 3, none⟩ = some (.int .u8 0) := (unhide NN).cell 3
              have n4 : wr.cell? ⟨r + 1, 4, none⟩ = some (.int .u8 0) := (unhide NN).cell 4
              have n5 : wr.cell? ⟨r + 1, 5, none⟩ = some (.int .u8 0) := (unhide NN).cell 5
              have n6 : wr.cell? ⟨r + 1, 6, none⟩ = some (.bool false) := (unhide NN).cell 6
              have n7 : wr.cell? ⟨r + 1, 7, none⟩ = some (.int .u8 0) := (unhide NN).cell 7
              have n8 : wr.cell? ⟨r + 1, 8, none⟩ = some (.int .u8 0) := (unhide NN).cell 8
              have n9 : wr.cell? ⟨r + 1, 9, none⟩ = some (.int .u8 0) := (unhide NN).cell 9
              clear c7
              go_wp2_with (refine wpList_store_blk rfl 26 (.tmp 2) (.tmp 121) rfl r 26 _ #[.int .u16 0, .int .u32 0, .int .u16 0, .int .u8 0, .int .u8 0, .int .u8 0, .bool false, .int .u8 0, .int .u8 0, .int .u8 0] rfl rfl (unhide RR) rfl (by kernel_rfl) (one_ev zeroEv) ?_
                           intro w9 hb9 hg9
                           have Z9 := hide hb9
                           have B9 := hide ((unhide BB).grown hg9 (by have := (unhide RR).lt; have := (unhide BB).size; omega) (fun j e => by injection e with e; omega))
                           clear hb9 hg9)
              exact bodyPost_ret (v := .tuple #[.agg zeroEv.c, .int .i64 6]) (res2 rfl _ r 26 zeroEv.c _ _ rfl rfl (unhide Z9) Tryd.underlying26 rfl (by kernel_rfl)) rfl ⟨rfl, by rw [unhide HR]; exact unhide B9⟩
            have hng0 : (((h : Nat) : Int) < 0) = False := by simp
            have hng1 : (((m : Nat) : Int) < 0) = False := by simp
            have hq := unhide EE
            have q1 : wr.cell? ⟨qe, 7, none⟩ = some (.int .u8 (d0 : Int)) := hq.cell 7
            have f1 : wr.frozen? ⟨qe, 7, none⟩ = false := hq.frozen 7
            have F5 : Hid (∀ z : Int, z = ((16 * h + m : Nat) : Int) → Blk (wr.setCell ⟨qe, 7, none⟩ (.int .u8 z)) qe 26 #[.int .u16 0, .int .u32 0, .int .u16 0, .int .u8 0, .int .u8 0, .int .u8 0, .bool ds, .int .u8 ((16 * h + m : Nat) : Int), .int .u8 (d1 : Int), .int .u8 (d2 : Int)] ∧ RS w (wr.setCell ⟨qe, 7, none⟩ (.int .u8 z)) r g qm qv cur [x0, x1, x2, x3, x4, x5]) := hide (fun z hz => by
              subst hz
              have gs : wr.grownBy (wr.setCell ⟨qe, 7, none⟩ (.int .u8 ((16 * h + m : Nat) : Int))) (some qe) := only_setCell (World.grownBy.refl wr _) (.inl rfl) _
              exact ⟨hq.set_ 7 _, (unhide SS).far gs hg1 hqm1 hqv1 hqe1⟩)
            have HX5 : Hid (HexAt b0 b1 b2 b3 b4 b5 1 (16 * h + m) d1 d2) := hide ⟨fun _ => ⟨hyes, hyes2, by rw [hhv, hmv]⟩, by omega, by omega⟩
            have hw8 : IntKind.u8.wrap (16 * (h : Int) + (m : Int)) = 16 * (h : Int) + (m : Int) := IntWalk.u8_in _ (by omega)
            clear hhv hmv hyes hyes2 hq HC LC CH CL c7
            go_wp2_with fail
            go_roundw
            case rel =>
              refine ⟨1, 16 * h + m, d1, d2, by omega, by go_num, unhide HX5, ?_⟩
              exact unhide F5 _ (by omega)
            case measure => simp [intOf]
          · have lh : b2.toNat < 256 := UInt8.toNat_lt _
            have ll : b3.toNat < 256 := UInt8.toNat_lt _
            obtain ⟨rh, hrh⟩ : ∃ z, hxI b2.toNat = z := ⟨_, rfl⟩
            obtain ⟨rl, hrl⟩ : ∃ z, hxI b3.toNat = z := ⟨_, rfl⟩
            have CH := hide fun W => unhide CHX W b2.toNat lh rh hrh
            have CL := hide fun W => unhide CHX W b3.toNat ll rl hrl
            have hcase : (rh < 0 ∧ isH b2 = false) ∨ ((∃ h : Nat, rh = (h : Int) ∧ h < 16 ∧ hxN b2 = h) ∧ isH b2 = true) := hx_case hrh
            have lcase : (rl < 0 ∧ isH b3 = false) ∨ ((∃ h : Nat, rl = (h : Int) ∧ h < 16 ∧ hxN b3 = h) ∧ isH b3 = true) := hx_case hrl
            have HC := hide hcase
            have LC := hide lcase
            clear hrh hrl hcase lcase hE
            go_wp2_with fail
            refine (unhide CH _).mono ?_
            rintro e w5 ⟨rfl, rfl⟩
            go_wp2_with fail
            refine (unhide CL _).mono ?_
            rintro e w5 ⟨rfl, rfl⟩
            rcases unhide HC with ⟨hneg, hno⟩ | ⟨⟨h, rfl, hh16, hhv⟩, hyes⟩
            · have hng : (rh < 0) = True := by simpa using hneg
              have hf : formB ps = false := form_hex (by rw [unhide E7]; simp [hexF, hno])
              clear hneg hno CH CL HC LC
              have hb := parse_bad (hf)
              rw [unhide HV] at hb
              injection hb with hX hx
              subst hX hx
              have n0 : wr.cell? ⟨r + 1, 0, none⟩ = some (.int .u16 0) := (unhide NN).cell 0
              have n1 : wr.cell? ⟨r + 1, 1, none⟩ = some (.int .u32 0) := (unhide NN).cell 1
              have n2 : wr.cell? ⟨r + 1, 2, none⟩ = some (.int .u16 0) := (unhide NN).cell 2
              have n3 : wr.cell? ⟨r + 1, 3, none⟩ = some (.int .u8 0) := (unhide NN).cell 3
              have n4 : wr.cell? ⟨r + 1, 4, none⟩ = some (.int .u8 0) := (unhide NN).cell 4
              have n5 : wr.cell? ⟨r + 1, 5, none⟩ = some (.int .u8 0) := (unhide NN).cell 5
              have n6 : wr.cell? ⟨r + 1, 6, none⟩ = some (.bool false) := (unhide NN).cell 6
              have n7 : wr.cell? ⟨r + 1, 7, none⟩ = some (.int .u8 0) := (unhide NN).cell 7
              have n8 : wr.cell? ⟨r + 1, 8, none⟩ = some (.int .u8 0) := (unhide NN).cell 8
              have n9 : wr.cell? ⟨r + 1, 9, none⟩ = some (.int .u8 0) := (unhide NN).cell 9
              clear c7
              go_wp2_with (refine wpList_store_blk rfl 26 (.tmp 2) (.tmp 121) rfl r 26 _ #[.int .u16 0, .int .u32 0, .int .u16 0, .int .u8 0, .int .u8 0, .int .u8 0, .bool false, .int .u8 0, .int .u8 0, .int .u8 0] rfl rfl (unhide RR) rfl (by kernel_rfl) (one_ev zeroEv) ?_
                           intro w9 hb9 hg9
                           have Z9 := hide hb9
                           have B9 := hide ((unhide BB).grown hg9 (by have := (unhide RR).lt; have := (unhide BB).size; omega) (fun j e => by injection e with e; omega))
                           clear hb9 hg9)
              exact bodyPost_ret (v := .tuple #[.agg zeroEv.c, .int .i64 6]) (res2 rfl _ r 26 zeroEv.c _ _ rfl rfl (unhide Z9) Tryd.underlying26 rfl (by kernel_rfl)) rfl ⟨rfl, by rw [unhide HR]; exact unhide B9⟩
            rcases unhide LC with ⟨hneg, hno⟩ | ⟨⟨m, rfl, hm16, hmv⟩, hyes2⟩
            · have hng0 : (((h : Nat) : Int) < 0) = False := by simp
              have hng : (rl < 0) = True := by simpa using hneg
              have hf : formB ps = false := form_hex (by rw [unhide E7]; simp [hexF, hno])
              clear hneg hno hhv CH CL HC LC
              have hb := parse_bad (hf)
              rw [unhide HV] at hb
              injection hb with hX hx
              subst hX hx
              have n0 : wr.cell? ⟨r + 1, 0, none⟩ = some (.int .u16 0) := (unhide NN).cell 0
              have n1 : wr.cell? ⟨r + 1, 1, none⟩ = some (.int .u32 0) := (unhide NN).cell 1
              have n2 : wr.cell? ⟨r + 1, 2, none⟩ = some (.int .u16 0) := (unhide NN).cell 2
              have n3 : wr.cell? ⟨r + 1, 3, none⟩ = some (.int .u8 0) := (unhide NN).cell 3
              have n4 : wr.cell? ⟨r + 1, 4, none⟩ = some (.int .u8 0) := (unhide NN).cell 4
              have n5 : wr.cell? ⟨r + 1, 5, none⟩ = some (.int .u8 0) := (unhide NN).cell 5
              have n6 : wr.cell? ⟨r + 1, 6, none⟩ = some (.bool false) := (unhide NN).cell 6
              have n7 : wr.cell? ⟨r + 1, 7, none⟩ = some (.int .u8 0) := (unhide NN).cell 7
              have n8 : wr.cell? ⟨r + 1, 8, none⟩ = some (.int .u8 0) := (unhide NN).cell 8
              have n9 : wr.cell? ⟨r + 1, 9, none⟩ = some (.int .u8 0) := (unhide NN).cell 9
              clear c7
              go_wp2_with (refine wpList_store_blk rfl 26 (.tmp 2) (.tmp 121) rfl r 26 _ #[.int .u16 0, .int .u32 0, .int .u16 0, .int .u8 0, .int .u8 0, .int .u8 0, .bool false, .int .u8 0, .int .u8 0, .int .u8 0] rfl rfl (unhide RR) rfl (by kernel_rfl) (one_ev zeroEv) ?_
                           intro w9 hb9 hg9
                           have Z9 := hide hb9
                           have B9 := hide ((unhide BB).grown hg9 (by have := (unhide RR).lt; have := (unhide BB).size; omega) (fun j e => by injection e with e; omega))
                           clear hb9 hg9)
              exact bodyPost_ret (v := .tuple #[.agg zeroEv.c, .int .i64 6]) (res2 rfl _ r 26 zeroEv.c _ _ rfl rfl (unhide Z9) Tryd.underlying26 rfl (by kernel_rfl)) rfl ⟨rfl, by rw [unhide HR]; exact unhide B9⟩
            have hng0 : (((h : Nat) : Int) < 0) = False := by simp
            have hng1 : (((m : Nat) : Int) < 0) = False := by simp
            have hq := unhide EE
            have q1 : wr.cell? ⟨qe, 8, none⟩ = some (.int .u8 (d1 : Int)) := hq.cell 8
            have f1 : wr.frozen? ⟨qe, 8, none⟩ = false := hq.frozen 8
            have F5 : Hid (∀ z : Int, z = ((16 * h + m : Nat) : Int) → Blk (wr.setCell ⟨qe, 8, none⟩ (.int .u8 z)) qe 26 #[.int .u16 0, .int .u32 0, .int .u16 0, .int .u8 0, .int .u8 0, .int .u8 0, .bool ds, .int .u8 (d0 : Int), .int .u8 ((16 * h + m : Nat) : Int), .int .u8 (d2 : Int)] ∧ RS w (wr.setCell ⟨qe, 8, none⟩ (.int .u8 z)) r g qm qv cur [x0, x1, x2, x3, x4, x5]) := hide (fun z hz => by
              subst hz
              have gs : wr.grownBy (wr.setCell ⟨qe, 8, none⟩ (.int .u8 ((16 * h + m : Nat) : Int))) (some qe) := only_setCell (World.grownBy.refl wr _) (.inl rfl) _
              exact ⟨hq.set_ 8 _, (unhide SS).far gs hg1 hqm1 hqv1 hqe1⟩)
            have HX5 : Hid (HexAt b0 b1 b2 b3 b4 b5 2 d0 (16 * h + m) d2) := hide ⟨(unhide HA).1 ∘ (fun _ => by omega), fun _ => ⟨hyes, hyes2, by rw [hhv, hmv]⟩, by omega⟩
            have hw8 : IntKind.u8.wrap (16 * (h : Int) + (m : Int)) = 16 * (h : Int) + (m : Int) := IntWalk.u8_in _ (by omega)
            clear hhv hmv hyes hyes2 hq HC LC CH CL c7
            go_wp2_with fail
            go_roundw
            case rel =>
              refine ⟨2, d0, 16 * h + m, d2, by omega, by go_num, unhide HX5, ?_⟩
              exact unhide F5 _ (by omega)
            case measure => simp [intOf]
          · have lh : b4.toNat < 256 := UInt8.toNat_lt _
            have ll : b5.toNat < 256 := UInt8.toNat_lt _
            obtain ⟨rh, hrh⟩ : ∃ z, hxI b4.toNat = z := ⟨_, rfl⟩
            obtain ⟨rl, hrl⟩ : ∃ z, hxI b5.toNat = z := ⟨_, rfl⟩
            have CH := hide fun W => unhide CHX W b4.toNat lh rh hrh
            have CL := hide fun W => unhide CHX W b5.toNat ll rl hrl
            have hcase : (rh < 0 ∧ isH b4 = false) ∨ ((∃ h : Nat, rh = (h : Int) ∧ h < 16 ∧ hxN b4 = h) ∧ isH b4 = true) := hx_case hrh
            have lcase : (rl < 0 ∧ isH b5 = false) ∨ ((∃ h : Nat, rl = (h : Int) ∧ h < 16 ∧ hxN b5 = h) ∧ isH b5 = true) := hx_case hrl
            have HC := hide hcase
            have LC := hide lcase
            clear hrh hrl hcase lcase hE
            go_wp2_with fail
            refine (unhide CH _).mono ?_
            rintro e w5 ⟨rfl, rfl⟩
            go_wp2_with fail
            refine (unhide CL _).mono ?_
            rintro e w5 ⟨rfl, rfl⟩
            rcases unhide HC with ⟨hneg, hno⟩ | ⟨⟨h, rfl, hh16, hhv⟩, hyes⟩
            · have hng : (rh < 0) = True := by simpa using hneg
              have hf : formB ps = false := form_hex (by rw [unhide E7]; simp [hexF, hno])
              clear hneg hno CH CL HC LC
              have hb := parse_bad (hf)
              rw [unhide HV] at hb
              injection hb with hX hx
              subst hX hx
              have n0 : wr.cell? ⟨r + 1, 0, none⟩ = some (.int .u16 0) := (unhide NN).cell 0
              have n1 : wr.cell? ⟨r + 1, 1, none⟩ = some (.int .u32 0) := (unhide NN).cell 1
              have n2 : wr.cell? ⟨r + 1, 2, none⟩ = some (.int .u16 0) := (unhide NN).cell 2
              have n3 : wr.cell? ⟨r + 1, 3, none⟩ = some (.int .u8 0) := (unhide NN).cell 3
              have n4 : wr.cell? ⟨r + 1, 4, none⟩ = some (.int .u8 0) := (unhide NN).cell 4
              have n5 : wr.cell? ⟨r + 1, 5, none⟩ = some (.int .u8 0) := (unhide NN).cell 5
              have n6 : wr.cell? ⟨r + 1, 6, none⟩ = some (.bool false) := (unhide NN).cell 6
              have n7 : wr.cell? ⟨r + 1, 7, none⟩ = some (.int .u8 0) := (unhide NN).cell 7
              have n8 : wr.cell? ⟨r + 1, 8, none⟩ = some (.int .u8 0) := (unhide NN).cell 8
              have n9 : wr.cell? ⟨r + 1, 9, none⟩ = some (.int .u8 0) := (unhide NN).cell 9
              clear c7
              go_wp2_with (refine wpList_store_blk rfl 26 (.tmp 2) (.tmp 121) rfl r 26 _ #[.int .u16 0, .int .u32 0, .int .u16 0, .int .u8 0, .int .u8 0, .int .u8 0, .bool false, .int .u8 0, .int .u8 0, .int .u8 0] rfl rfl (unhide RR) rfl (by kernel_rfl) (one_ev zeroEv) ?_
                           intro w9 hb9 hg9
                           have Z9 := hide hb9
                           have B9 := hide ((unhide BB).grown hg9 (by have := (unhide RR).lt; have := (unhide BB).size; omega) (fun j e => by injection e with e; omega))
                           clear hb9 hg9)
              exact bodyPost_ret (v := .tuple #[.agg zeroEv.c, .int .i64 6]) (res2 rfl _ r 26 zeroEv.c _ _ rfl rfl (unhide Z9) Tryd.underlying26 rfl (by kernel_rfl)) rfl ⟨rfl, by rw [unhide HR]; exact unhide B9⟩
            rcases unhide LC with ⟨hneg, hno⟩ | ⟨⟨m, rfl, hm16, hmv⟩, hyes2⟩
            · have hng0 : (((h : Nat) : Int) < 0) = False := by simp
              have hng : (rl < 0) = True := by simpa using hneg
              have hf : formB ps = false := form_hex (by rw [unhide E7]; simp [hexF, hno])
              clear hneg hno hhv CH CL HC LC
              have hb := parse_bad (hf)
              rw [unhide HV] at hb
              injection hb with hX hx
              subst hX hx
              have n0 : wr.cell? ⟨r + 1, 0, none⟩ = some (.int .u16 0) := (unhide NN).cell 0
              have n1 : wr.cell? ⟨r + 1, 1, none⟩ = some (.int .u32 0) := (unhide NN).cell 1
              have n2 : wr.cell? ⟨r + 1, 2, none⟩ = some (.int .u16 0) := (unhide NN).cell 2
              have n3 : wr.cell? ⟨r + 1, 3, none⟩ = some (.int .u8 0) := (unhide NN).cell 3
              have n4 : wr.cell? ⟨r + 1, 4, none⟩ = some (.int .u8 0) := (unhide NN).cell 4
              have n5 : wr.cell? ⟨r + 1, 5, none⟩ = some (.int .u8 0) := (unhide NN).cell 5
              have n6 : wr.cell? ⟨r + 1, 6, none⟩ = some (.bool false) := (unhide NN).cell 6
              have n7 : wr.cell? ⟨r + 1, 7, none⟩ = some (.int .u8 0) := (unhide NN).cell 7
              have n8 : wr.cell? ⟨r + 1, 8, none⟩ = some (.int .u8 0) := (unhide NN).cell 8
              have n9 : wr.cell? ⟨r + 1, 9, none⟩ = some (.int .u8 0) := (unhide NN).cell 9
              clear c7
              go_wp2_with (refine wpList_store_blk rfl 26 (.tmp 2) (.tmp 121) rfl r 26 _ #[.int .u16 0, .int .u32 0, .int .u16 0, .int .u8 0, .int .u8 0, .int .u8 0, .bool false, .int .u8 0, .int .u8 0, .int .u8 0] rfl rfl (unhide RR) rfl (by kernel_rfl) (one_ev zeroEv) ?_
                           intro w9 hb9 hg9
                           have Z9 := hide hb9
                           have B9 := hide ((unhide BB).grown hg9 (by have := (unhide RR).lt; have := (unhide BB).size; omega) (fun j e => by injection e with e; omega))
                           clear hb9 hg9)
              exact bodyPost_ret (v := .tuple #[.agg zeroEv.c, .int .i64 6]) (res2 rfl _ r 26 zeroEv.c _ _ rfl rfl (unhide Z9) Tryd.underlying26 rfl (by kernel_rfl)) rfl ⟨rfl, by rw [unhide HR]; exact unhide B9⟩
            have hng0 : (((h : Nat) : Int) < 0) = False := by simp
            have hng1 : (((m : Nat) : Int) < 0) = False := by simp
            have hq := unhide EE
            have q1 : wr.cell? ⟨qe, 9, none⟩ = some (.int .u8 (d2 : Int)) := hq.cell 9
            have f1 : wr.frozen? ⟨qe, 9, none⟩ = false := hq.frozen 9
            have F5 : Hid (∀ z : Int, z = ((16 * h + m : Nat) : Int) → Blk (wr.setCell ⟨qe, 9, none⟩ (.int .u8 z)) qe 26 #[.int .u16 0, .int .u32 0, .int .u16 0, .int .u8 0, .int .u8 0, .int .u8 0, .bool ds, .int .u8 (d0 : Int), .int .u8 (d1 : Int), .int .u8 ((16 * h + m : Nat) : Int)] ∧ RS w (wr.setCell ⟨qe, 9, none⟩ (.int .u8 z)) r g qm qv cur [x0, x1, x2, x3, x4, x5]) := hide (fun z hz => by
              subst hz
              have gs : wr.grownBy (wr.setCell ⟨qe, 9, none⟩ (.int .u8 ((16 * h + m : Nat) : Int))) (some qe) := only_setCell (World.grownBy.refl wr _) (.inl rfl) _
              exact ⟨hq.set_ 9 _, (unhide SS).far gs hg1 hqm1 hqv1 hqe1⟩)
            have HX5 : Hid (HexAt b0 b1 b2 b3 b4 b5 3 d0 d1 (16 * h + m)) := hide ⟨(unhide HA).1 ∘ (fun _ => by omega), (unhide HA).2.1 ∘ (fun _ => by omega), fun _ => ⟨hyes, hyes2, by rw [hhv, hmv]⟩⟩
            have hw8 : IntKind.u8.wrap (16 * (h : Int) + (m : Int)) = 16 * (h : Int) + (m : Int) := IntWalk.u8_in _ (by omega)
            clear hhv hmv hyes hyes2 hq HC LC CH CL c7
            go_wp2_with fail
            go_roundw
            case rel =>
              refine ⟨3, d0, d1, 16 * h + m, by omega, by go_num, unhide HX5, ?_⟩
              exact unhide F5 _ (by omega)
            case measure => simp [intOf]
          · have hif : (((3 : Nat) : Int) < 3) = False := by simp
            have hha := unhide HA
            have g0 := hha.1 (by omega)
            have g1 := hha.2.1 (by omega)
            have g2 := hha.2.2 (by omega)
            have hhex : hexF (partK ps 7) = true := by rw [unhide E7]; simp [hexF, g0.1, g0.2.1, g1.1, g1.2.1, g2.1, g2.2.1]
            have hform : formB ps = true := form_all h9 (unhide GK6) (by rw [unhide E6]; exact unhide O6) hhex (by rw [unhide E8]; exact unhide O8)
            have HFORM := hide hform
            have hev : evOf ps = ⟨x0, x1, x2, x3, x4, x5, ds, d0, d1, d2⟩ := by
              have vv := unhide VV
              unfold evOf
              rw [← vv.1, ← vv.2.1, ← vv.2.2.1, ← vv.2.2.2.1, ← vv.2.2.2.2.1, ← vv.2.2.2.2.2, unhide E7, unhide E6, g0.2.2, g1.2.2, g2.2.2]
              have hd := unhide HDS
              have e : decide (p6 = [45]) = (p6 == [45]) := by rw [Bool.eq_iff_iff]; simp
              rw [← hd, e]
              rfl
            have HEV := hide hev
            clear hha g0 g1 g2 hhex hform hev c7
            cases hb
            rotate_left
            · have hb := parse_high (unhide HFORM) (unhide HK6)
              rw [unhide HV] at hb
              injection hb with hX hx
              subst hX hx
              have n0 : wr.cell? ⟨r + 1, 0, none⟩ = some (.int .u16 0) := (unhide NN).cell 0
              have n1 : wr.cell? ⟨r + 1, 1, none⟩ = some (.int .u32 0) := (unhide NN).cell 1
              have n2 : wr.cell? ⟨r + 1, 2, none⟩ = some (.int .u16 0) := (unhide NN).cell 2
              have n3 : wr.cell? ⟨r + 1, 3, none⟩ = some (.int .u8 0) := (unhide NN).cell 3
              have n4 : wr.cell? ⟨r + 1, 4, none⟩ = some (.int .u8 0) := (unhide NN).cell 4
              have n5 : wr.cell? ⟨r + 1, 5, none⟩ = some (.int .u8 0) := (unhide NN).cell 5
              have n6 : wr.cell? ⟨r + 1, 6, none⟩ = some (.bool false) := (unhide NN).cell 6
              have n7 : wr.cell? ⟨r + 1, 7, none⟩ = some (.int .u8 0) := (unhide NN).cell 7
              have n8 : wr.cell? ⟨r + 1, 8, none⟩ = some (.int .u8 0) := (unhide NN).cell 8
              have n9 : wr.cell? ⟨r + 1, 9, none⟩ = some (.int .u8 0) := (unhide NN).cell 9
              clear hE
              go_wp2_with (refine wpList_store_blk rfl 26 (.tmp 2) (.tmp 131) rfl r 26 _ #[.int .u16 0, .int .u32 0, .int .u16 0, .int .u8 0, .int .u8 0, .int .u8 0, .bool false, .int .u8 0, .int .u8 0, .int .u8 0] rfl rfl (unhide RR) rfl (by kernel_rfl) (one_ev zeroEv) ?_
                           intro w9 hb9 hg9
                           have Z9 := hide hb9
                           have B9 := hide ((unhide BB).grown hg9 (by have := (unhide RR).lt; have := (unhide BB).size; omega) (fun j e => by injection e with e; omega))
                           clear hb9 hg9)
              exact bodyPost_ret (v := .tuple #[.agg zeroEv.c, .int .i64 2]) (res2 rfl _ r 26 zeroEv.c _ _ rfl rfl (unhide Z9) Tryd.underlying26 rfl (by kernel_rfl)) rfl ⟨rfl, by rw [unhide HR]; exact unhide B9⟩
            have hlt := fun i hi => high_lt (unhide HK6) i hi
            have vv := unhide VV
            have u0 : x0 ≤ 65535 := by rw [vv.1]; exact hlt 0 (by omega)
            have u1 : x1 ≤ 4294967295 := by rw [vv.2.1]; exact hlt 1 (by omega)
            have u2 : x2 ≤ 65535 := by rw [vv.2.2.1]; exact hlt 2 (by omega)
            have u3' : x3 ≤ 255 := by rw [vv.2.2.2.1]; exact hlt 3 (by omega)
            have u4 : x4 ≤ 255 := by rw [vv.2.2.2.2.1]; exact hlt 4 (by omega)
            have u5' : x5 ≤ 255 := by rw [vv.2.2.2.2.2]; exact hlt 5 (by omega)
            clear hlt vv hE
            have t1 : wr.cell? ⟨qv, 0, none⟩ = some (.int .u64 (x0 : Int)) := by rw [(unhide SS).V.cell]; rfl
            have q1 : wr.cell? ⟨qe, 0, none⟩ = some (.int .u16 0) := (unhide EE).cell 0
            have f1 : wr.frozen? ⟨qe, 0, none⟩ = false := (unhide EE).frozen 0
            have b1l : qe < wr.heap.size := (unhide EE).lt
            have b2l : qv < wr.heap.size := (unhide SS).V.lt
            have hwk : IntKind.u16.wrap (x0 : Int) = (x0 : Int) := IntWalk.u16_in _ (by omega)
            go_upto_region 30 with fail
            obtain ⟨X0w, hX0w⟩ : ∃ W, wr.setCell ⟨qe, 0, none⟩ (.int .u16 (x0 : Int)) = W := ⟨_, rfl⟩
            have gs : wr.grownBy X0w (some qe) := hX0w ▸ only_setCell (World.grownBy.refl wr _) (.inl rfl) _
            have E0b : Hid (Blk X0w qe 26 #[.int .u16 (x0 : Int), .int .u32 0, .int .u16 0, .int .u8 0, .int .u8 0, .int .u8 0, .bool ds, .int .u8 (d0 : Int), .int .u8 (d1 : Int), .int .u8 (d2 : Int)]) := hide (hX0w ▸ (unhide EE).set_ 0 _)
            have S0b : Hid (RS w X0w r g qm qv cur [x0, x1, x2, x3, x4, x5]) := hide ((unhide SS).far gs hg1 hqm1 hqv1 hqe1)
            rw [hX0w]
            clear t1 q1 f1 b1l b2l hwk gs hX0w
            have t1 : X0w.cell? ⟨qv, 1, none⟩ = some (.int .u64 (x1 : Int)) := by rw [(unhide S0b).V.cell]; rfl
            have q1 : X0w.cell? ⟨qe, 1, none⟩ = some (.int .u32 0) := (unhide E0b).cell 1
            have f1 : X0w.frozen? ⟨qe, 1, none⟩ = false := (unhide E0b).frozen 1
            have b1l : qe < X0w.heap.size := (unhide E0b).lt
            have b2l : qv < X0w.heap.size := (unhide S0b).V.lt
            have hwk : IntKind.u32.wrap (x1 : Int) = (x1 : Int) := IntWalk.u32_in _ (by omega)
            go_upto_region 31 with fail
            obtain ⟨X1w, hX1w⟩ : ∃ W, X0w.setCell ⟨qe, 1, none⟩ (.int .u32 (x1 : Int)) = W := ⟨_, rfl⟩
            have gs : X0w.grownBy X1w (some qe) := hX1w ▸ only_setCell (World.grownBy.refl X0w _) (.inl rfl) _
            have E1b : Hid (Blk X1w qe 26 #[.int .u16 (x0 : Int), .int .u32 (x1 : Int), .int .u16 0, .int .u8 0, .int .u8 0, .int .u8 0, .bool ds, .int .u8 (d0 : Int), .int .u8 (d1 : Int), .int .u8 (d2 : Int)]) := hide (hX1w ▸ (unhide E0b).set_ 1 _)
            have S1b : Hid (RS w X1w r g qm qv cur [x0, x1, x2, x3, x4, x5]) := hide ((unhide S0b).far gs hg1 hqm1 hqv1 hqe1)
            rw [hX1w]
            clear t1 q1 f1 b1l b2l hwk gs hX1w
            have t1 : X1w.cell? ⟨qv, 2, none⟩ = some (.int .u64 (x2 : Int)) := by rw [(unhide S1b).V.cell]; rfl
            have q1 : X1w.cell? ⟨qe, 2, none⟩ = some (.int .u16 0) := (unhide E1b).cell 2
            have f1 : X1w.frozen? ⟨qe, 2, none⟩ = false := (unhide E1b).frozen 2
            have b1l : qe < X1w.heap.size := (unhide E1b).lt
            have b2l : qv < X1w.heap.size := (unhide S1b).V.lt
            have hwk : IntKind.u16.wrap (x2 : Int) = (x2 : Int) := IntWalk.u16_in _ (by omega)
            go_upto_region 32 with fail
            obtain ⟨X2w, hX2w⟩ : ∃ W, X1w.setCell ⟨qe, 2, none⟩ (.int .u16 (x2 : Int)) = W := ⟨_, rfl⟩
            have gs : X1w.grownBy X2w (some qe) := hX2w ▸ only_setCell (World.grownBy.refl X1w _) (.inl rfl) _
            have E2b : Hid (Blk X2w qe 26 #[.int .u16 (x0 : Int), .int .u32 (x1 : Int), .int .u16 (x2 : Int), .int .u8 0, .int .u8 0, .int .u8 0, .bool ds, .int .u8 (d0 : Int), .int .u8 (d1 : Int), .int .u8 (d2 : Int)]) := hide (hX2w ▸ (unhide E1b).set_ 2 _)
            have S2b : Hid (RS w X2w r g qm qv cur [x0, x1, x2, x3, x4, x5]) := hide ((unhide S1b).far gs hg1 hqm1 hqv1 hqe1)
            rw [hX2w]
            clear t1 q1 f1 b1l b2l hwk gs hX2w
            have t1 : X2w.cell? ⟨qv, 3, none⟩ = some (.int .u64 (x3 : Int)) := by rw [(unhide S2b).V.cell]; rfl
            have q1 : X2w.cell? ⟨qe, 3, none⟩ = some (.int .u8 0) := (unhide E2b).cell 3
            have f1 : X2w.frozen? ⟨qe, 3, none⟩ = false := (unhide E2b).frozen 3
            have b1l : qe < X2w.heap.size := (unhide E2b).lt
            have b2l : qv < X2w.heap.size := (unhide S2b).V.lt
            have hwk : IntKind.u8.wrap (x3 : Int) = (x3 : Int) := IntWalk.u8_in _ (by omega)
            go_upto_region 33 with fail
            obtain ⟨X3w, hX3w⟩ : ∃ W, X2w.setCell ⟨qe, 3, none⟩ (.int .u8 (x3 : Int)) = W := ⟨_, rfl⟩
            have gs : X2w.grownBy X3w (some qe) := hX3w ▸ only_setCell (World.grownBy.refl X2w _) (.inl rfl) _
            have E3b : Hid (Blk X3w qe 26 #[.int .u16 (x0 : Int), .int .u32 (x1 : Int), .int .u16 (x2 : Int), .int .u8 (x3 : Int), .int .u8 0, .int .u8 0, .bool ds, .int .u8 (d0 : Int), .int .u8 (d1 : Int), .int .u8 (d2 : Int)]) := hide (hX3w ▸ (unhide E2b).set_ 3 _)
            have S3b : Hid (RS w X3w r g qm qv cur [x0, x1, x2, x3, x4, x5]) := hide ((unhide S2b).far gs hg1 hqm1 hqv1 hqe1)
            rw [hX3w]
            clear t1 q1 f1 b1l b2l hwk gs hX3w
            have t1 : X3w.cell? ⟨qv, 4, none⟩ = some (.int .u64 (x4 : Int)) := by rw [(unhide S3b).V.cell]; rfl
            have q1 : X3w.cell? ⟨qe, 4, none⟩ = some (.int .u8 0) := (unhide E3b).cell 4
            have f1 : X3w.frozen? ⟨qe, 4, none⟩ = false := (unhide E3b).frozen 4
            have b1l : qe < X3w.heap.size := (unhide E3b).lt
            have b2l : qv < X3w.heap.size := (unhide S3b).V.lt
            have hwk : IntKind.u8.wrap (x4 : Int) = (x4 : Int) := IntWalk.u8_in _ (by omega)
            go_upto_region 34 with fail
            obtain ⟨X4w, hX4w⟩ : ∃ W, X3w.setCell ⟨qe, 4, none⟩ (.int .u8 (x4 : Int)) = W := ⟨_, rfl⟩
            have gs : X3w.grownBy X4w (some qe) := hX4w ▸ only_setCell (World.grownBy.refl X3w _) (.inl rfl) _
            have E4b : Hid (Blk X4w qe 26 #[.int .u16 (x0 : Int), .int .u32 (x1 : Int), .int .u16 (x2 : Int), .int .u8 (x3 : Int), .int .u8 (x4 : Int), .int .u8 0, .bool ds, .int .u8 (d0 : Int), .int .u8 (d1 : Int), .int .u8 (d2 : Int)]) := hide (hX4w ▸ (unhide E3b).set_ 4 _)
            have S4b : Hid (RS w X4w r g qm qv cur [x0, x1, x2, x3, x4, x5]) := hide ((unhide S3b).far gs hg1 hqm1 hqv1 hqe1)
            rw [hX4w]
            clear t1 q1 f1 b1l b2l hwk gs hX4w
            have t1 : X4w.cell? ⟨qv, 5, none⟩ = some (.int .u64 (x5 : Int)) := by rw [(unhide S4b).V.cell]; rfl
            have q1 : X4w.cell? ⟨qe, 5, none⟩ = some (.int .u8 0) := (unhide E4b).cell 5
            have f1 : X4w.frozen? ⟨qe, 5, none⟩ = false := (unhide E4b).frozen 5
            have b1l : qe < X4w.heap.size := (unhide E4b).lt
            have b2l : qv < X4w.heap.size := (unhide S4b).V.lt
            have hwk : IntKind.u8.wrap (x5 : Int) = (x5 : Int) := IntWalk.u8_in _ (by omega)
            go_upto_region 35 with fail
            obtain ⟨X5w, hX5w⟩ : ∃ W, X4w.setCell ⟨qe, 5, none⟩ (.int .u8 (x5 : Int)) = W := ⟨_, rfl⟩
            have gs : X4w.grownBy X5w (some qe) := hX5w ▸ only_setCell (World.grownBy.refl X4w _) (.inl rfl) _
            have E5b : Hid (Blk X5w qe 26 #[.int .u16 (x0 : Int), .int .u32 (x1 : Int), .int .u16 (x2 : Int), .int .u8 (x3 : Int), .int .u8 (x4 : Int), .int .u8 (x5 : Int), .bool ds, .int .u8 (d0 : Int), .int .u8 (d1 : Int), .int .u8 (d2 : Int)]) := hide (hX5w ▸ (unhide E4b).set_ 5 _)
            have S5b : Hid (RS w X5w r g qm qv cur [x0, x1, x2, x3, x4, x5]) := hide ((unhide S4b).far gs hg1 hqm1 hqv1 hqe1)
            rw [hX5w]
            clear t1 q1 f1 b1l b2l hwk gs hX5w
            obtain ⟨wl, hwl⟩ : ∃ l, wordL (x5 : Int) = l := ⟨_, rfl⟩
            have HWL := hide hwl
            have hin : Nonempty (InClass (fun W => Below X5w.heap.size X5w W)) := ⟨⟨_, Below.refl _ _⟩⟩
            have K1 : Hid (∀ x' : InClass (fun W => Below X5w.heap.size X5w W), Calls Tryd.prog 46 #[.int .u8 (x5 : Int)] x'.val fun e w'' => e = .returned (.string ⟨wl.toArray⟩) ∧ ∃ y' : InClass (fun W => Below X5w.heap.size X5w W), w'' = y'.val) := hide fun x' => (rword_any x'.val (x5 : Int) wl hwl).mono fun e w'' h => ⟨h.1, x', h.2.symm⟩
            have G0 : Hid (∀ x' : InClass (fun W => Below X5w.heap.size X5w W), x'.val.cell? ⟨g, 8, none⟩ = some (.string ⟨p8.toArray⟩)) := hide fun x' => by rw [(((unhide S5b).P).below x'.ok (unhide S5b).P.lt).cell, (unhide HAT) 8 (by omega), unhide E8]; rfl
            have G1 : Hid (∀ x' : InClass (fun W => Below X5w.heap.size X5w W), x'.val.cell? ⟨qe, 5, none⟩ = some (.int .u8 (x5 : Int))) := hide fun x' => ((unhide E5b).below x'.ok (unhide E5b).lt).cell 5
            have hS0 := hide ((Below.refl X5w.heap.size X5w).drew)
            obtain ⟨eqb, heq⟩ : ∃ b, (p8 == wl) = b := ⟨_, rfl⟩
            have HEQ := hide heq
            clear hwl
            refine wp_region_class (fun W => Below X5w.heap.size X5w W) (by kernel_rfl) (by kernel_rfl) (unhide hS0) ?_
            have g0 := unhide G0
            have g1 := unhide G1
            repeat (go_big_quiet_step ((go_at_call 46; exact (unhide K1) _)))
            refine wpQuiet_nil ?_
            intro _ hw'
            obtain ⟨x13, hw''⟩ := hw'
            subst hw''
            have E9 := hide ((unhide E5b).below x13.ok (unhide E5b).lt)
            have S9 := hide ((unhide S5b).below x13.ok (by have := (unhide S5b).R.lt; omega))
            clear g0 g1 G0 G1 K1
            obtain ⟨W9, hW9⟩ : ∃ W9, x13.val = W9 := ⟨_, rfl⟩
            rw [hW9] at E9 S9 ⊢
            clear hW9 hin hS0 heq
            have R9 : Hid (Blk W9 r 26 #[.int .u16 0, .int .u32 0, .int .u16 0, .int .u8 0, .int .u8 0, .int .u8 0, .bool false, .int .u8 0, .int .u8 0, .int .u8 0]) := hide (unhide S9).R
            have N9 : Hid (Blk W9 (r + 1) 26 #[.int .u16 0, .int .u32 0, .int .u16 0, .int .u8 0, .int .u8 0, .int .u8 0, .bool false, .int .u8 0, .int .u8 0, .int .u8 0]) := hide (unhide S9).N
            have B9' := hide (unhide S9).B
            cases eqb
            · have hne8 : wordL (evOf ps).ty ≠ partK ps 8 := by
                rw [unhide HEV, unhide E8]
                show wordL (x5 : Int) ≠ p8
                rw [unhide HWL]
                intro h
                have := unhide HEQ
                rw [h] at this
                simp at this
              have hb := parse_word (unhide HFORM) (unhide HK6) hne8
              rw [unhide HV] at hb
              injection hb with hX hx
              subst hX hx
              have n0 : W9.cell? ⟨r + 1, 0, none⟩ = some (.int .u16 0) := (unhide N9).cell 0
              have n1 : W9.cell? ⟨r + 1, 1, none⟩ = some (.int .u32 0) := (unhide N9).cell 1
              have n2 : W9.cell? ⟨r + 1, 2, none⟩ = some (.int .u16 0) := (unhide N9).cell 2
              have n3 : W9.cell? ⟨r + 1, 3, none⟩ = some (.int .u8 0) := (unhide N9).cell 3
              have n4 : W9.cell? ⟨r + 1, 4, none⟩ = some (.int .u8 0) := (unhide N9).cell 4
              have n5 : W9.cell? ⟨r + 1, 5, none⟩ = some (.int .u8 0) := (unhide N9).cell 5
              have n6 : W9.cell? ⟨r + 1, 6, none⟩ = some (.bool false) := (unhide N9).cell 6
              have n7 : W9.cell? ⟨r + 1, 7, none⟩ = some (.int .u8 0) := (unhide N9).cell 7
              have n8 : W9.cell? ⟨r + 1, 8, none⟩ = some (.int .u8 0) := (unhide N9).cell 8
              have n9 : W9.cell? ⟨r + 1, 9, none⟩ = some (.int .u8 0) := (unhide N9).cell 9
              go_wp2_with (refine wpList_store_blk rfl 26 (.tmp 2) (.tmp 163) rfl r 26 _ #[.int .u16 0, .int .u32 0, .int .u16 0, .int .u8 0, .int .u8 0, .int .u8 0, .bool false, .int .u8 0, .int .u8 0, .int .u8 0] rfl rfl (unhide R9) rfl (by kernel_rfl) (one_ev zeroEv) ?_
                           intro w9 hb9 hg9
                           have Z9 := hide hb9
                           have B9 := hide ((unhide B9').grown hg9 (by have := (unhide R9).lt; have := (unhide B9').size; omega) (fun j e => by injection e with e; omega))
                           clear hb9 hg9)
              exact bodyPost_ret (v := .tuple #[.agg zeroEv.c, .int .i64 6]) (res2 rfl _ r 26 zeroEv.c _ _ rfl rfl (unhide Z9) Tryd.underlying26 rfl (by kernel_rfl)) rfl ⟨rfl, by rw [unhide HR]; exact unhide B9⟩
            have heq8 : wordL (evOf ps).ty = partK ps 8 := by
              rw [unhide HEV, unhide E8]
              show wordL (x5 : Int) = p8
              rw [unhide HWL]
              have h : p8 = wl := by simpa using unhide HEQ
              exact h.symm
            have HEQ8 := hide heq8
            obtain ⟨vb, hvb⟩ : ∃ b, validE ⟨x0, x1, x2, x3, x4, x5, ds, d0, d1, d2⟩ = b := ⟨_, rfl⟩
            have CV := hide fun W => rvalid_any W ⟨x0, x1, x2, x3, x4, x5, ds, d0, d1, d2⟩ vb hvb
            simp only [Ev.c] at CV
            have HVB := hide hvb
            clear heq8 hvb
            have m0 : W9.cell? ⟨qe, 0, none⟩ = some (.int .u16 (x0 : Int)) := (unhide E9).cell 0
            have m1 : W9.cell? ⟨qe, 1, none⟩ = some (.int .u32 (x1 : Int)) := (unhide E9).cell 1
            have m2 : W9.cell? ⟨qe, 2, none⟩ = some (.int .u16 (x2 : Int)) := (unhide E9).cell 2
            have m3 : W9.cell? ⟨qe, 3, none⟩ = some (.int .u8 (x3 : Int)) := (unhide E9).cell 3
            have m4 : W9.cell? ⟨qe, 4, none⟩ = some (.int .u8 (x4 : Int)) := (unhide E9).cell 4
            have m5 : W9.cell? ⟨qe, 5, none⟩ = some (.int .u8 (x5 : Int)) := (unhide E9).cell 5
            have m6 : W9.cell? ⟨qe, 6, none⟩ = some (.bool ds) := (unhide E9).cell 6
            have m7 : W9.cell? ⟨qe, 7, none⟩ = some (.int .u8 (d0 : Int)) := (unhide E9).cell 7
            have m8 : W9.cell? ⟨qe, 8, none⟩ = some (.int .u8 (d1 : Int)) := (unhide E9).cell 8
            have m9 : W9.cell? ⟨qe, 9, none⟩ = some (.int .u8 (d2 : Int)) := (unhide E9).cell 9
            have hqel9 : qe < W9.heap.size := (unhide E9).lt
            go_wp2_with fail
            refine (unhide CV _).mono ?_
            rintro e w10 ⟨rfl, hw10⟩
            obtain ⟨W10, hW10⟩ : ∃ W, W9.alloc (.cells #[.int .u16 (x0 : Int), .int .u32 (x1 : Int), .int .u16 (x2 : Int), .int .u8 (x3 : Int), .int .u8 (x4 : Int), .int .u8 (x5 : Int), .bool ds, .int .u8 (d0 : Int), .int .u8 (d1 : Int), .int .u8 (d2 : Int)] 26) = W := ⟨_, rfl⟩
            rw [hW10] at hw10
            subst hw10
            have hbb : Below W9.heap.size W9 w10 := hW10 ▸ (Below.refl W9.heap.size W9).alloc (Nat.le_refl _) _
            have E10 := hide ((unhide E9).below hbb (unhide E9).lt)
            have S10 := (unhide S9).below hbb (by have := (unhide S9).R.lt; omega)
            have R10 : Hid (Blk w10 r 26 #[.int .u16 0, .int .u32 0, .int .u16 0, .int .u8 0, .int .u8 0, .int .u8 0, .bool false, .int .u8 0, .int .u8 0, .int .u8 0]) := hide S10.R
            have N10 : Hid (Blk w10 (r + 1) 26 #[.int .u16 0, .int .u32 0, .int .u16 0, .int .u8 0, .int .u8 0, .int .u8 0, .bool false, .int .u8 0, .int .u8 0, .int .u8 0]) := hide S10.N
            have B10 := hide S10.B
            clear hbb S10 hW10 hqel9 m0 m1 m2 m3 m4 m5 m6 m7 m8 m9
            cases vb
            · have hb := parse_inv (unhide HFORM) (unhide HK6) (unhide HEQ8) (by rw [unhide HEV]; exact unhide HVB)
              rw [unhide HV] at hb
              injection hb with hX hx
              subst hX hx
              have n0 : w10.cell? ⟨r + 1, 0, none⟩ = some (.int .u16 0) := (unhide N10).cell 0
              have n1 : w10.cell? ⟨r + 1, 1, none⟩ = some (.int .u32 0) := (unhide N10).cell 1
              have n2 : w10.cell? ⟨r + 1, 2, none⟩ = some (.int .u16 0) := (unhide N10).cell 2
              have n3 : w10.cell? ⟨r + 1, 3, none⟩ = some (.int .u8 0) := (unhide N10).cell 3
              have n4 : w10.cell? ⟨r + 1, 4, none⟩ = some (.int .u8 0) := (unhide N10).cell 4
              have n5 : w10.cell? ⟨r + 1, 5, none⟩ = some (.int .u8 0) := (unhide N10).cell 5
              have n6 : w10.cell? ⟨r + 1, 6, none⟩ = some (.bool false) := (unhide N10).cell 6
              have n7 : w10.cell? ⟨r + 1, 7, none⟩ = some (.int .u8 0) := (unhide N10).cell 7
              have n8 : w10.cell? ⟨r + 1, 8, none⟩ = some (.int .u8 0) := (unhide N10).cell 8
              have n9 : w10.cell? ⟨r + 1, 9, none⟩ = some (.int .u8 0) := (unhide N10).cell 9
              go_wp2_with (refine wpList_store_blk rfl 26 (.tmp 2) (.tmp 167) rfl r 26 _ #[.int .u16 0, .int .u32 0, .int .u16 0, .int .u8 0, .int .u8 0, .int .u8 0, .bool false, .int .u8 0, .int .u8 0, .int .u8 0] rfl rfl (unhide R10) rfl (by kernel_rfl) (one_ev zeroEv) ?_
                           intro w9 hb9 hg9
                           have Z9 := hide hb9
                           have B9 := hide ((unhide B10).grown hg9 (by have := (unhide R10).lt; have := (unhide B10).size; omega) (fun j e => by injection e with e; omega))
                           clear hb9 hg9)
              exact bodyPost_ret (v := .tuple #[.agg zeroEv.c, .int .i64 1]) (res2 rfl _ r 26 zeroEv.c _ _ rfl rfl (unhide Z9) Tryd.underlying26 rfl (by kernel_rfl)) rfl ⟨rfl, by rw [unhide HR]; exact unhide B9⟩
            have hb := parse_good (unhide HFORM) (unhide HK6) (unhide HEQ8) (by rw [unhide HEV]; exact unhide HVB)
            rw [unhide HV, unhide HEV] at hb
            injection hb with hX hx
            subst hX hx
            have m0 : w10.cell? ⟨qe, 0, none⟩ = some (.int .u16 (x0 : Int)) := (unhide E10).cell 0
            have m1 : w10.cell? ⟨qe, 1, none⟩ = some (.int .u32 (x1 : Int)) := (unhide E10).cell 1
            have m2 : w10.cell? ⟨qe, 2, none⟩ = some (.int .u16 (x2 : Int)) := (unhide E10).cell 2
            have m3 : w10.cell? ⟨qe, 3, none⟩ = some (.int .u8 (x3 : Int)) := (unhide E10).cell 3
            have m4 : w10.cell? ⟨qe, 4, none⟩ = some (.int .u8 (x4 : Int)) := (unhide E10).cell 4
            have m5 : w10.cell? ⟨qe, 5, none⟩ = some (.int .u8 (x5 : Int)) := (unhide E10).cell 5
            have m6 : w10.cell? ⟨qe, 6, none⟩ = some (.bool ds) := (unhide E10).cell 6
            have m7 : w10.cell? ⟨qe, 7, none⟩ = some (.int .u8 (d0 : Int)) := (unhide E10).cell 7
            have m8 : w10.cell? ⟨qe, 8, none⟩ = some (.int .u8 (d1 : Int)) := (unhide E10).cell 8
            have m9 : w10.cell? ⟨qe, 9, none⟩ = some (.int .u8 (d2 : Int)) := (unhide E10).cell 9
            have hqel10 : qe < w10.heap.size := (unhide E10).lt
            go_wp2_with (refine wpList_store_blk rfl 26 (.tmp 2) (.tmp 168) rfl r 26 _ #[.int .u16 (x0 : Int), .int .u32 (x1 : Int), .int .u16 (x2 : Int), .int .u8 (x3 : Int), .int .u8 (x4 : Int), .int .u8 (x5 : Int), .bool ds, .int .u8 (d0 : Int), .int .u8 (d1 : Int), .int .u8 (d2 : Int)] rfl rfl (unhide R10) rfl (by kernel_rfl) (one_ev (Ev.mk x0 x1 x2 x3 x4 x5 ds d0 d1 d2)) ?_
                         intro w9 hb9 hg9
                         have Z9 := hide hb9
                         have B9 := hide ((unhide B10).grown hg9 (by have := (unhide R10).lt; have := (unhide B10).size; omega) (fun j e => by injection e with e; omega))
                         clear hb9 hg9)
            exact bodyPost_ret (v := .tuple #[.agg (Ev.mk x0 x1 x2 x3 x4 x5 ds d0 d1 d2).c, .int .i64 0]) (res2 rfl _ r 26 (Ev.mk x0 x1 x2 x3 x4 x5 ds d0 d1 d2).c _ _ rfl rfl (unhide Z9) Tryd.underlying26 rfl (by kernel_rfl)) rfl ⟨rfl, by rw [unhide HR]; exact unhide B9⟩
theorem rparse_any (w : World) (l : List UInt8) (hl : l.length ≤ maxLen) (X : Ev) (x : Int) (hv : parseE l = (X, x)) : Calls Tryd.prog 36 #[.string ⟨l.toArray⟩] w (EPost w X x) := by
  by_cases h : 100 < l.length
  · rw [parseE, parse_bad (form_long h)] at hv
    injection hv with h1 h2
    subst h1 h2
    exact rparse_long w l hl h
  · exact rparse_short w l (by omega) X x hv
end Go.Proofs.YtklffnfaigmjfaaDoor
