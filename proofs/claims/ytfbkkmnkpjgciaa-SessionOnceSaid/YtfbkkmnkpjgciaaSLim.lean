/- account.Find and account.Limit (printed by wip/gen_slim.py). -/
import Derived.Test.YtfbkkmnkpjgciaaSAccV
namespace Go.Proofs.Ytfbkkmnkpjgciaa
open Go.RowKit
def findA {α : Type} (p : α → Bool) : List α → Nat → Int
  | [], _ => -1
  | x :: r, k => if p x = true then (k : Int) else findA p r (k + 1)
theorem findA_drop {α : Type} {p : α → Bool} {L : List α} {k : Nat} {x : α} (h : L[k]? = some x) : findA p (L.drop k) k = if p x = true then (k : Int) else findA p (L.drop (k + 1)) (k + 1) := by
  have hk := (List.getElem?_eq_some_iff.1 h).1
  have e := (List.getElem?_eq_some_iff.1 h).2
  rw [List.drop_eq_getElem_cons hk, e]
  rfl
theorem findA_spec {α : Type} (p : α → Bool) : ∀ (L : List α) (k : Nat), (findA p L k = -1 ∧ ∀ x ∈ L, p x = false) ∨ ∃ i x, findA p L k = ((k + i : Nat) : Int) ∧ L[i]? = some x ∧ p x = true
  | [], _ => .inl ⟨rfl, fun x hx => by cases hx⟩
  | y :: r, k => by
    cases h : p y with
    | true => exact .inr ⟨0, y, by simp [findA, h], rfl, h⟩
    | false =>
      rcases findA_spec p r (k + 1) with ⟨e, ha⟩ | ⟨i, x, e, hx, hp⟩
      · refine .inl ⟨by simp [findA, h, e], fun x hx => ?_⟩
        rcases List.mem_cons.1 hx with rfl | hx
        · exact h
        · exact ha x hx
      · exact .inr ⟨i + 1, x, by simp only [findA, h]; rw [if_neg (by simp), e]; congr 1; omega, by simpa using hx, hp⟩
theorem min_if (a b : Int) : (if b < a then b else a) = min a b := by split <;> omega
def nameP (s : List UInt8) (x : Usr) : Bool := x.name == s
def chanP (n : Int) (x : Chn) : Bool := x.number == n
set_option maxRecDepth 100000 in
theorem ufind1_sx (w : World) (x : Usr) (hx : x.Ok) (b : Nat) (s : List UInt8) (hb : b < w.heap.size) (hc : w.cell? ⟨b, 0, none⟩ = some (.string ⟨s.toArray⟩)) :
    Calls Try.prog 46 #[.agg x.cs.toArray, .pointer (some ⟨b, 0, none⟩)] w fun e w' => e = .returned (.bool (nameP s x)) ∧ Below w.heap.size w w' := by
  have hat := (Usr.blk hx (Blk.new w 39 x.cs.toArray))
  have c0 := hat.name
  have hc2 : (w.alloc (.cells x.cs.toArray 39)).cell? ⟨b, 0, none⟩ = some (.string ⟨s.toArray⟩) := by rw [World.cell?_alloc_lt _ _ _ hb]; exact hc
  have HB := hide ((Below.refl w.heap.size w).alloc (Nat.le_refl _) (.cells x.cs.toArray 39))
  unfold nameP
  by_cases he : x.name = s
  · subst he
    clear hat hc hb hx
    go_enter Try.func46, Try.ntmps46
    go_wp2_with fail
    go_ret
    exact ⟨by simp, unhide HB⟩
  · have hne : (x.name == s) = false := by simpa using he
    clear hat hc hb hx he
    go_enter Try.func46, Try.ntmps46
    go_wp2_with fail
    go_ret
    exact ⟨by rw [hne]; first | rfl | (simp; done), unhide HB⟩
set_option maxRecDepth 100000 in
theorem cfind1_sx (w : World) (x : Chn) (b : Nat) (n : Int) (hb : b < w.heap.size) (hc : w.cell? ⟨b, 0, none⟩ = some (.int .i64 n)) :
    Calls Try.prog 41 #[.agg x.cs.toArray, .pointer (some ⟨b, 0, none⟩)] w fun e w' => e = .returned (.bool (chanP n x)) ∧ Below w.heap.size w w' := by
  have c0 : (w.alloc (.cells x.cs.toArray 42)).cell? ⟨w.heap.size, 0, none⟩ = some (.int .i64 x.number) := (Blk.new w 42 x.cs.toArray).cell 0
  have hc2 : (w.alloc (.cells x.cs.toArray 42)).cell? ⟨b, 0, none⟩ = some (.int .i64 n) := by rw [World.cell?_alloc_lt _ _ _ hb]; exact hc
  have HB := hide ((Below.refl w.heap.size w).alloc (Nat.le_refl _) (.cells x.cs.toArray 42))
  obtain ⟨t, ht⟩ : ∃ t, (x.number == n) = t := ⟨_, rfl⟩
  have HT : Hid (chanP n x = t) := hide ht
  clear hc hb
  go_enter Try.func41, Try.ntmps41
  go_wp2_with fail
  go_ret
  exact ⟨by rw [unhide HT, ← ht]; first | rfl | (simp; done), unhide HB⟩
set_option maxRecDepth 100000 in
set_option maxHeartbeats 4000000 in
theorem idxusr_sx (w : World) (A : Option Addr) (n c : Nat) (L : List Usr) (h : UsrL w w.heap.size A n L) (hnm : n ≤ maxLen) (b : Nat) (s : List UInt8) (hb : b < w.heap.size) (hc : w.cell? ⟨b, 0, none⟩ = some (.string ⟨s.toArray⟩)) :
    Calls Try.prog 45 #[.slice A n c, .func (.func 46) #[] #[.pointer (some ⟨b, 0, none⟩)]] w fun e w' => e = .returned (.int .i64 (findA (nameP s) L 0)) ∧ Below w.heap.size w w' := by
  unfold maxLen at hnm
  have HS := hide h
  have HC := hide hc
  have HR : Hid (findA (nameP s) (L.drop 0) 0 = findA (nameP s) L 0) := hide rfl
  obtain ⟨r, hr⟩ : ∃ r, findA (nameP s) L 0 = r := ⟨_, rfl⟩
  rw [hr] at HR ⊢
  clear h hc hr
  go_enter Try.func45, Try.ntmps45
  go_wp2_with fail
  go_loopw [8] (fun i wr => ∃ k : Nat, k ≤ n ∧ i = .int .i64 k ∧ Hid (findA (nameP s) (L.drop k) k = r) ∧ Below w.heap.size w wr) (fun i _ => n - (intOf i).toNat)
  case atStart => exact ⟨0, by omega, rfl, HR, Below.refl _ _⟩
  case round =>
    obtain ⟨k, hk, rfl, hrk, hB⟩ := hrel
    have HB := hide hB
    clear hB
    by_cases hlt : k < n
    · obtain ⟨g, oo, x, rfl, hg, hx, hxo, _, hrg⟩ := ((unhide HS).below (unhide HB)).at_ (by omega) hlt
      have hv := findA_drop (p := nameP s) hx
      have HRK := hide (hv.symm.trans (unhide hrk))
      have HX := hide hxo
      have HRG := hide hrg
      have hlt2 : (k : Int) < (n : Int) := by omega
      have HCW := hide (((unhide HB).cell (p := ⟨b, 0, none⟩) hb).trans (unhide HC))
      have hbw : b < wr.heap.size := Nat.lt_of_lt_of_le hb (unhide HB).size
      have HRK0 : Hid (nameP s x = true → r = (k : Int)) := hide (fun e => by have := unhide HRK; rw [if_pos e] at this; exact this.symm)
      have HRK1 : Hid (nameP s x = false → findA (nameP s) (L.drop (k + 1)) (k + 1) = r) := hide (fun e => by have := unhide HRK; rwa [if_neg (by rw [e]; simp)] at this)
      clear hrk hx hxo hrg hv HRK
      obtain ⟨t, ht⟩ : ∃ t, nameP s x = t := ⟨_, rfl⟩
      go_wp2_with (first
        | (refine wpList_load_mid rfl 39 (.tmp 14) rfl g (oo + k * 19) rfl _ _ (unhide HRG) Try.underlying39 rfl (usr_info (unhide HX)) ?_)
        | fail)
      refine (ufind1_sx wr x (unhide HX) b s hbw (unhide HCW)).mono ?_
      rw [ht]
      rintro e w2 ⟨rfl, hb2⟩
      have B2 := hide ((unhide HB).trans (hb2.mono (unhide HB).size))
      clear hb2
      cases t with
      | true =>
        have hrr := unhide HRK0 ht
        clear ht
        go_wp2_with fail
        go_ret
        exact ⟨by rw [hrr]; rfl, unhide B2⟩
      | false =>
        have hrr := hide (unhide HRK1 ht)
        clear ht
        go_wp2_with fail
        go_roundw
        case rel => exact ⟨k + 1, by omega, by go_num, hrr, unhide B2⟩
        case measure => simp [intOf]; omega
    · obtain rfl : k = n := by omega
      have hdr : L.drop k = [] := List.drop_of_length_le (by have := (unhide HS).len (by omega); omega)
      have h0 := unhide hrk
      rw [hdr] at h0
      obtain rfl : (-1 : Int) = r := h0
      clear hrk hdr
      go_wp2_with fail
      go_ret
      exact ⟨rfl, unhide HB⟩
set_option maxRecDepth 100000 in
set_option maxHeartbeats 4000000 in
theorem idxchn_sx (w : World) (A : Option Addr) (n c : Nat) (L : List Chn) (h : ChnL w w.heap.size A n L) (hnm : n ≤ maxLen) (b : Nat) (ch : Int) (hb : b < w.heap.size) (hc : w.cell? ⟨b, 0, none⟩ = some (.int .i64 ch)) :
    Calls Try.prog 40 #[.slice A n c, .func (.func 41) #[] #[.pointer (some ⟨b, 0, none⟩)]] w fun e w' => e = .returned (.int .i64 (findA (chanP ch) L 0)) ∧ Below w.heap.size w w' := by
  unfold maxLen at hnm
  have HS := hide h
  have HC := hide hc
  have HR : Hid (findA (chanP ch) (L.drop 0) 0 = findA (chanP ch) L 0) := hide rfl
  obtain ⟨r, hr⟩ : ∃ r, findA (chanP ch) L 0 = r := ⟨_, rfl⟩
  rw [hr] at HR ⊢
  clear h hc hr
  go_enter Try.func40, Try.ntmps40
  go_wp2_with fail
  go_loopw [8] (fun i wr => ∃ k : Nat, k ≤ n ∧ i = .int .i64 k ∧ Hid (findA (chanP ch) (L.drop k) k = r) ∧ Below w.heap.size w wr) (fun i _ => n - (intOf i).toNat)
  case atStart => exact ⟨0, by omega, rfl, HR, Below.refl _ _⟩
  case round =>
    obtain ⟨k, hk, rfl, hrk, hB⟩ := hrel
    have HB := hide hB
    clear hB
    by_cases hlt : k < n
    · obtain ⟨g, oo, x, rfl, hg, hx, hxo, _, hrg⟩ := ((unhide HS).below (unhide HB)).at_ (by omega) hlt
      have hv := findA_drop (p := chanP ch) hx
      have HRK := hide (hv.symm.trans (unhide hrk))
      have HX := hide hxo
      have HRG := hide hrg
      have hlt2 : (k : Int) < (n : Int) := by omega
      have HCW := hide (((unhide HB).cell (p := ⟨b, 0, none⟩) hb).trans (unhide HC))
      have hbw : b < wr.heap.size := Nat.lt_of_lt_of_le hb (unhide HB).size
      have HRK0 : Hid (chanP ch x = true → r = (k : Int)) := hide (fun e => by have := unhide HRK; rw [if_pos e] at this; exact this.symm)
      have HRK1 : Hid (chanP ch x = false → findA (chanP ch) (L.drop (k + 1)) (k + 1) = r) := hide (fun e => by have := unhide HRK; rwa [if_neg (by rw [e]; simp)] at this)
      clear hrk hx hxo hrg hv HRK
      obtain ⟨t, ht⟩ : ∃ t, chanP ch x = t := ⟨_, rfl⟩
      go_wp2_with (first
        | (refine wpList_load_mid rfl 42 (.tmp 14) rfl g (oo + k * 2) rfl _ _ (unhide HRG) Try.underlying42 rfl (chn_info x) ?_)
        | fail)
      refine (cfind1_sx wr x b ch hbw (unhide HCW)).mono ?_
      rw [ht]
      rintro e w2 ⟨rfl, hb2⟩
      have B2 := hide ((unhide HB).trans (hb2.mono (unhide HB).size))
      clear hb2
      cases t with
      | true =>
        have hrr := unhide HRK0 ht
        clear ht
        go_wp2_with fail
        go_ret
        exact ⟨by rw [hrr]; rfl, unhide B2⟩
      | false =>
        have hrr := hide (unhide HRK1 ht)
        clear ht
        go_wp2_with fail
        go_roundw
        case rel => exact ⟨k + 1, by omega, by go_num, hrr, unhide B2⟩
        case measure => simp [intOf]; omega
    · obtain rfl : k = n := by omega
      have hdr : L.drop k = [] := List.drop_of_length_le (by have := (unhide HS).len (by omega); omega)
      have h0 := unhide hrk
      rw [hdr] at h0
      obtain rfl : (-1 : Int) = r := h0
      clear hrk hdr
      go_wp2_with fail
      go_ret
      exact ⟨rfl, unhide HB⟩
set_option maxRecDepth 100000 in
theorem ufind_sx (w : World) (AU : Option Addr) (nU cU : Nat) (y : Value) (U : List Usr) (hU : UsrL w w.heap.size AU nU U) (hnm : nU ≤ maxLen) (s : List UInt8) :
    Calls Try.prog 29 #[.agg #[.slice AU nU cU, y], .string ⟨s.toArray⟩] w fun e w' => e = .returned (.int .i64 (findA (nameP s) U 0)) ∧ Below w.heap.size w w' := by
  have HB := hide (below2 w (.cells #[.slice AU nU cU, y] 45) (.cells #[.string ⟨s.toArray⟩] 9))
  have HS := hide ((hU.below (unhide HB)).more (unhide HB).size)
  have hcw : ((w.alloc (.cells #[.slice AU nU cU, y] 45)).alloc (.cells #[.string ⟨s.toArray⟩] 9)).cell? ⟨w.heap.size + 1, 0, none⟩ = some (.string ⟨s.toArray⟩) := (Blk.new' (g := w.heap.size + 1) (by simp)).cell 0
  have HC := hide hcw
  clear hU hcw
  go_enter Try.func29, Try.ntmps29
  go_wp2_with fail
  refine (idxusr_sx _ AU nU cU U (unhide HS) hnm (w.heap.size + 1) s (by simp) (unhide HC)).mono ?_
  rintro e w2 ⟨rfl, hb2⟩
  have B2 := hide ((unhide HB).trans (hb2.mono (unhide HB).size))
  clear hb2
  go_wp2_with fail
  go_ret
  exact ⟨rfl, unhide B2⟩
/-- the greatest level of a user over a channel, and the error -/
def limF (U : List Usr) (C : List Chn) (s : List UInt8) (ch : Int) : Int × Int :=
  if accV U C ≠ 0 then (0, accV U C) else
    match U.find? (nameP s), C.find? (chanP ch) with
    | some u, some c => if u.on = false then (0, 43) else (min u.limit c.limit, 0)
    | _, _ => (0, 8)
theorem findA_find {α : Type} (p : α → Bool) : ∀ (L : List α) (k : Nat), (findA p L k = -1 ∧ L.find? p = none) ∨ ∃ i x, findA p L k = ((k + i : Nat) : Int) ∧ L[i]? = some x ∧ L.find? p = some x
  | [], _ => .inl ⟨rfl, rfl⟩
  | y :: r, k => by
    cases h : p y with
    | true => exact .inr ⟨0, y, by simp [findA, h], rfl, by simp [h]⟩
    | false =>
      rcases findA_find p r (k + 1) with ⟨e, ha⟩ | ⟨i, x, e, hx, hp⟩
      · exact .inl ⟨by simp [findA, h, e], by simp [h, ha]⟩
      · exact .inr ⟨i + 1, x, by simp only [findA, h]; rw [if_neg (by simp), e]; congr 1; omega, by simpa using hx, by simp [h, hp]⟩
set_option maxRecDepth 100000 in
set_option maxHeartbeats 8000000 in
theorem limit_sx (w : World) (AU : Option Addr) (nU cU : Nat) (AC : Option Addr) (nC cC : Nat) (U : List Usr) (C : List Chn) (hU : UsrL w w.heap.size AU nU U) (hC : ChnL w w.heap.size AC nC C) (hnU : nU ≤ maxLen) (hnC : nC ≤ maxLen) (s : List UInt8) (ch : Int) (l e : Int) (hr : limF U C s ch = (l, e)) :
    Calls Try.prog 26 #[.agg #[.slice AU nU cU, .slice AC nC cC], .string ⟨s.toArray⟩, .int .i64 ch] w fun z w' => z = .returned (.tuple #[.int .i64 l, .int .i64 e]) ∧ Below w.heap.size w w' := by
  have HU0 := hide hU
  have HC0 := hide hC
  have HR := hide hr
  have K0 := hide ((Blk.new w 45 #[.slice AU nU cU, .slice AC nC cC]).alloc (.cells #[.int .i64 ch] 3))
  have K1 : Hid (Blk ((w.alloc (.cells #[.slice AU nU cU, .slice AC nC cC] 45)).alloc (.cells #[.int .i64 ch] 3)) (w.heap.size + 1) 3 #[.int .i64 ch]) := hide (Blk.new' (by simp))
  have B0 := hide (below2 w (.cells #[.slice AU nU cU, .slice AC nC cC] 45) (.cells #[.int .i64 ch] 3))
  have HU := hide ((hU.below (unhide B0)).more (unhide B0).size)
  have HC := hide ((hC.below (unhide B0)).more (unhide B0).size)
  obtain ⟨v, hv⟩ : ∃ v, accV U C = v := ⟨_, rfl⟩
  have HV := hide hv
  have hbU := hU.len (by omega)
  clear hU hC hr hv
  go_enter Try.func26, Try.ntmps26
  go_wp2_with (first
    | (refine wpList_load_row rfl 45 _ rfl w.heap.size rfl 45 _ _ _ (unhide K0) Try.underlying45 rfl (by kernel_rfl) ?_)
    | fail)
  refine (accv_sx _ AU nU cU AC nC cC U C (unhide HU) (unhide HC) hnU hnC v (unhide HV)).mono ?_
  rintro z w2 ⟨rfl, hb2⟩
  have K2 := hide ((unhide K0).below hb2 (unhide K0).lt)
  have C2 := hide ((unhide K1).below hb2 (unhide K1).lt)
  have B2 := hide ((unhide B0).trans (hb2.mono (unhide B0).size))
  have HU2 := hide ((unhide HU0).below (unhide B2))
  have HC2 := hide ((unhide HC0).below (unhide B2))
  clear hb2
  by_cases hv0 : v = 0
  case neg =>
    have h := unhide HR
    unfold limF at h
    rw [unhide HV, if_pos hv0] at h
    injection h with h1 h2
    subst h1 h2
    have hvb : (v != 0) = true := by simpa using hv0
    clear hv0
    go_wp2_with fail
    go_ret2
    exact ⟨rfl, unhide B2⟩
  have hvb : (v != 0) = false := by simpa using hv0
  have HV0 := hide hv0
  clear hv0
  go_wp2_with (first
    | (refine wpList_load_row rfl 45 _ rfl w.heap.size rfl 45 _ _ _ (unhide K2) Try.underlying45 rfl (by kernel_rfl) ?_)
    | fail)
  refine (ufind_sx w2 AU nU cU _ U ((unhide HU2).more (unhide B2).size) hnU s).mono ?_
  rintro z w3 ⟨rfl, hb3⟩
  have K3 := hide ((unhide K2).below hb3 (unhide K2).lt)
  have C3 := hide ((unhide C2).below hb3 (unhide C2).lt)
  have B3 := hide ((unhide B2).trans (hb3.mono (unhide B2).size))
  have HU3 := hide ((unhide HU0).below (unhide B3))
  have HC3 := hide ((unhide HC0).below (unhide B3))
  clear hb3
  obtain ⟨i, hi⟩ : ∃ i, findA (nameP s) U 0 = i := ⟨_, rfl⟩
  rw [hi]
  have HI := hide hi
  have d1 : w3.cell? ⟨w.heap.size, 1, none⟩ = some (.slice AC nC cC) := (unhide K3).cell 1
  clear hi
  go_wp2_with fail
  refine (idxchn_sx w3 AC nC cC C ((unhide HC3).more (unhide B3).size) hnC (w.heap.size + 1) ch (unhide C3).lt ((unhide C3).cell 0)).mono ?_
  rintro z w4 ⟨rfl, hb4⟩
  have K4 := hide ((unhide K3).below hb4 (unhide K3).lt)
  have B4 := hide ((unhide B3).trans (hb4.mono (unhide B3).size))
  have HU4 := hide ((unhide HU0).below (unhide B4))
  have HC4 := hide ((unhide HC0).below (unhide B4))
  clear hb4 d1
  obtain ⟨k, hk⟩ : ∃ k, findA (chanP ch) C 0 = k := ⟨_, rfl⟩
  rw [hk]
  have HKK := hide hk
  clear hk
  have hlim : (l, e) = (match U.find? (nameP s), C.find? (chanP ch) with
    | some u, some c => if u.on = false then (0, 43) else (min u.limit c.limit, 0)
    | _, _ => (0, 8)) := by have h := unhide HR; unfold limF at h; rw [unhide HV, unhide HV0] at h; exact h.symm
  have HLIM := hide hlim
  clear hlim
  rcases findA_find (nameP s) U 0 with ⟨e1, f1⟩ | ⟨iu, u, e1, hu, f1⟩
  · obtain rfl : i = -1 := by rw [← unhide HI, e1]
    have h := unhide HLIM
    rw [f1] at h
    injection h with h1 h2
    subst h1 h2
    clear e1 f1
    go_wp2_with fail
    go_ret2
    exact ⟨rfl, unhide B4⟩
  obtain rfl : i = (iu : Int) := by rw [← unhide HI, e1, Nat.zero_add]
  have hiu := (List.getElem?_eq_some_iff.1 hu).1
  have hi0 : ((iu : Int) < 0) = False := by simp
  have hi0b : (0 : Int) ≤ (iu : Int) := by omega
  have hil : (iu : Int) < (nU : Int) := by omega
  rcases findA_find (chanP ch) C 0 with ⟨e2, f2⟩ | ⟨ic, x, e2, hx, f2⟩
  · obtain rfl : k = -1 := by rw [← unhide HKK, e2]
    have h := unhide HLIM
    rw [f1, f2] at h
    injection h with h1 h2
    subst h1 h2
    clear e1 f1 e2 f2 hu
    go_wp2_with fail
    go_ret2
    exact ⟨rfl, unhide B4⟩
  obtain rfl : k = (ic : Int) := by rw [← unhide HKK, e2, Nat.zero_add]
  have hic := (List.getElem?_eq_some_iff.1 hx).1
  have hcl := (unhide HC4).len (by omega)
  have hk0 : ((ic : Int) < 0) = False := by simp
  have hk0b : (0 : Int) ≤ (ic : Int) := by omega
  have hkl : (ic : Int) < (nC : Int) := by omega
  obtain ⟨g, oo, u', hA, hg, hu', huo, _, hru⟩ := (unhide HU4).at_ (k := iu) (by omega) (by omega)
  obtain ⟨g', oo', x', hA', hg', hx', _, _, hrx⟩ := (unhide HC4).at_ (k := ic) (by omega) (by omega)
  obtain rfl : u = u' := Option.some.inj (hu.symm.trans hu')
  obtain rfl : x = x' := Option.some.inj (hx.symm.trans hx')
  have cu17 := (Usr.range huo hru).on
  have cu18 := (Usr.range huo hru).limit
  have cx1 : w4.cell? ⟨g', oo' + ic * 2 + 1, none⟩ = some (.int .i64 x.limit) := hrx 1 _ rfl
  have d0 : w4.cell? ⟨w.heap.size, 0, none⟩ = some (.slice AU nU cU) := (unhide K4).cell 0
  have d1 : w4.cell? ⟨w.heap.size, 1, none⟩ = some (.slice AC nC cC) := (unhide K4).cell 1
  have hgw : g < w4.heap.size := Nat.lt_of_lt_of_le hg (unhide B4).size
  have hgw' : g' < w4.heap.size := Nat.lt_of_lt_of_le hg' (unhide B4).size
  have h := unhide HLIM
  rw [f1, f2] at h
  dsimp only at h
  have HH := hide h
  subst hA hA'
  have hbU2 := hbU
  clear h e1 f1 e2 f2 hu hx hu' hx' hru hrx huo hbU hcl
  obtain ⟨t, ht⟩ : ∃ t, u.on = t := ⟨_, rfl⟩
  rw [ht] at cu17
  have HT := hide ht
  clear ht
  cases t with
  | false =>
    have h := unhide HH
    rw [if_pos (unhide HT)] at h
    injection h with h1 h2
    subst h1 h2
    go_wp2_with fail
    go_ret2
    exact ⟨rfl, unhide B4⟩
  | true =>
    have h := unhide HH
    rw [if_neg (by rw [unhide HT]; simp)] at h
    injection h with h1 h2
    subst h1 h2
    have CU := hide (fun W (hW : Below w4.heap.size w4 W) => (hW.cell (p := ⟨g, oo + iu * 19 + 18, none⟩) hgw).trans cu18)
    have CX := hide (fun W (hW : Below w4.heap.size w4 W) => (hW.cell (p := ⟨g', oo' + ic * 2 + 1, none⟩) hgw').trans cx1)
    have CD0 := hide (fun W (hW : Below w4.heap.size w4 W) => (hW.cell (p := ⟨w.heap.size, 0, none⟩) (unhide K4).lt).trans d0)
    have CD1 := hide (fun W (hW : Below w4.heap.size w4 W) => (hW.cell (p := ⟨w.heap.size, 1, none⟩) (unhide K4).lt).trans d1)
    go_upto_region 10 with fail
    clear cu17 cu18 cx1 d0 d1
    have hS0 : Below w4.heap.size w4 w4.drew := (Below.refl _ _).drew
    refine wp_region_noPanic (wp_region_held_drew (S := fun wz => Below w4.heap.size w4 wz) (by kernel_rfl) hS0 (fun _ => ?_))
    refine th_take (i := 0) (v := ?_) rfl (by kernel_rfl) (by kernel_rfl) (by kernel_rfl) (Or.inl ⟨by rfl, fun wz hSw => ?_⟩) hS0 ?_
    rotate_left
    · go_simp
      with_reducible rfl
    simp only [Act.put, List.setIfInBounds_toArray, List.set_cons_zero, List.set_cons_succ]
    refine th_take (i := 1) (v := .slice (some ⟨g, oo, none⟩) nU cU) rfl (by kernel_rfl) (by kernel_rfl) (by kernel_rfl) (Or.inl ⟨by rfl, fun wz hSw => ?_⟩) hS0 ?_
    · have hq := unhide CD0 wz hSw
      go_simp
    simp only [Act.put, List.setIfInBounds_toArray, List.set_cons_zero, List.set_cons_succ]
    refine th_take (i := 2) (v := ?_) rfl (by kernel_rfl) (by kernel_rfl) (by kernel_rfl) (Or.inl ⟨by rfl, fun wz hSw => ?_⟩) hS0 ?_
    rotate_left
    · go_simp
      with_reducible rfl
    simp only [Act.put, List.setIfInBounds_toArray, List.set_cons_zero, List.set_cons_succ]
    refine th_take (i := 3) (v := ?_) rfl (by kernel_rfl) (by kernel_rfl) (by kernel_rfl) (Or.inl ⟨by rfl, fun wz hSw => ?_⟩) hS0 ?_
    rotate_left
    · go_simp
      with_reducible rfl
    simp only [Act.put, List.setIfInBounds_toArray, List.set_cons_zero, List.set_cons_succ]
    refine th_take (i := 4) (v := ?_) rfl (by kernel_rfl) (by kernel_rfl) (by kernel_rfl) (Or.inl ⟨by rfl, fun wz hSw => ?_⟩) hS0 ?_
    rotate_left
    · go_simp
      with_reducible rfl
    simp only [Act.put, List.setIfInBounds_toArray, List.set_cons_zero, List.set_cons_succ]
    refine th_take (i := 5) (v := .int .i64 u.limit) rfl (by kernel_rfl) (by kernel_rfl) (by kernel_rfl) (Or.inl ⟨by rfl, fun wz hSw => ?_⟩) hS0 ?_
    · have hq := unhide CU wz hSw
      go_simp
    simp only [Act.put, List.setIfInBounds_toArray, List.set_cons_zero, List.set_cons_succ]
    refine th_take (i := 6) (v := ?_) rfl (by kernel_rfl) (by kernel_rfl) (by kernel_rfl) (Or.inl ⟨by rfl, fun wz hSw => ?_⟩) hS0 ?_
    rotate_left
    · go_simp
      with_reducible rfl
    simp only [Act.put, List.setIfInBounds_toArray, List.set_cons_zero, List.set_cons_succ]
    refine th_take (i := 7) (v := .slice (some ⟨g', oo', none⟩) nC cC) rfl (by kernel_rfl) (by kernel_rfl) (by kernel_rfl) (Or.inl ⟨by rfl, fun wz hSw => ?_⟩) hS0 ?_
    · have hq := unhide CD1 wz hSw
      go_simp
    simp only [Act.put, List.setIfInBounds_toArray, List.set_cons_zero, List.set_cons_succ]
    refine th_take (i := 8) (v := ?_) rfl (by kernel_rfl) (by kernel_rfl) (by kernel_rfl) (Or.inl ⟨by rfl, fun wz hSw => ?_⟩) hS0 ?_
    rotate_left
    · go_simp
      with_reducible rfl
    simp only [Act.put, List.setIfInBounds_toArray, List.set_cons_zero, List.set_cons_succ]
    refine th_take (i := 9) (v := ?_) rfl (by kernel_rfl) (by kernel_rfl) (by kernel_rfl) (Or.inl ⟨by rfl, fun wz hSw => ?_⟩) hS0 ?_
    rotate_left
    · go_simp
      with_reducible rfl
    simp only [Act.put, List.setIfInBounds_toArray, List.set_cons_zero, List.set_cons_succ]
    refine th_take (i := 10) (v := ?_) rfl (by kernel_rfl) (by kernel_rfl) (by kernel_rfl) (Or.inl ⟨by rfl, fun wz hSw => ?_⟩) hS0 ?_
    rotate_left
    · go_simp
      with_reducible rfl
    simp only [Act.put, List.setIfInBounds_toArray, List.set_cons_zero, List.set_cons_succ]
    refine th_take (i := 11) (v := .int .i64 x.limit) rfl (by kernel_rfl) (by kernel_rfl) (by kernel_rfl) (Or.inl ⟨by rfl, fun wz hSw => ?_⟩) hS0 ?_
    · have hq := unhide CX wz hSw
      go_simp
    simp only [Act.put, List.setIfInBounds_toArray, List.set_cons_zero, List.set_cons_succ]
    refine th_take (i := 12) (v := .int .i64 (min u.limit x.limit)) rfl (by kernel_rfl) (by kernel_rfl) (by kernel_rfl) (Or.inl ⟨by rfl, fun wz hSw => ?_⟩) hS0 ?_
    · have hmin := min_if u.limit x.limit
      go_simp
    simp only [Act.put, List.setIfInBounds_toArray, List.set_cons_zero, List.set_cons_succ]
    refine th_take (i := 13) (v := ?_) rfl (by kernel_rfl) (by kernel_rfl) (by kernel_rfl) (Or.inl ⟨by rfl, fun wz hSw => ?_⟩) hS0 ?_
    rotate_left
    · go_simp
      with_reducible rfl
    simp only [Act.put, List.setIfInBounds_toArray, List.set_cons_zero, List.set_cons_succ]
    refine th_take (i := 14) (v := ?_) rfl (by kernel_rfl) (by kernel_rfl) (by kernel_rfl) (Or.inl ⟨by rfl, fun wz hSw => ?_⟩) hS0 ?_
    rotate_left
    · go_simp
      with_reducible rfl
    simp only [Act.put, List.setIfInBounds_toArray, List.set_cons_zero, List.set_cons_succ]
    refine wpAnyH_done (by kernel_rfl) (NoPanic.normal ?_) _
    have B5 := hide (unhide B4).drew
    clear hS0
    go_wp2_with fail
    go_ret2
    exact ⟨rfl, unhide B5⟩
end Go.Proofs.Ytfbkkmnkpjgciaa
