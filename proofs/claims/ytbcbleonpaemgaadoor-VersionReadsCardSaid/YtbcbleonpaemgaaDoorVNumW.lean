/- version.number returns what okN says. No condition but the table of powers. -/
import Derived.Test.YtbcbleonpaemgaaDoorVParseP
import Derived.Test.YtbcbleonpaemgaaDoorVFormat
import Derived.Test.YtbcbleonpaemgaaDoorVName
namespace Go.Proofs.YtbcbleonpaemgaaDoor
open Go.RowKit
theorem okN_big {l : List UInt8} (h : 3 < l.length) : okN l = false := by simp [okN]; intros; omega
theorem okN_zero {l : List UInt8} (h0 : 1 < l.length) (h : l[0].toNat = 48) : okN l = false := by
  rcases l with _ | ⟨c, r⟩
  · simp at h0
  · have : c = 48 := UInt8.toNat_inj.1 h
    subst this
    simp at h0
    simp [okN, h0]
theorem okN_head {l : List UInt8} (h1 : 1 ≤ l.length) (h3 : l.length ≤ 3) (h : ¬ (1 < l.length ∧ l[0].toNat = 48)) : okN l = l.all isD := by
  rcases l with _ | ⟨c, r⟩
  · simp at h1
  · have h4 : ¬ (1 < (c :: r).length ∧ (c :: r).head? = some 48) := by
      rintro ⟨ha, hb⟩
      simp at hb
      exact h ⟨ha, by subst hb; rfl⟩
    have h5 : (!(decide (1 < (c :: r).length) && decide ((c :: r).head? = some 48))) = true := by
      cases hh : (decide (1 < (c :: r).length) && decide ((c :: r).head? = some 48)) with
      | false => rfl
      | true =>
        rw [Bool.and_eq_true, decide_eq_true_eq, decide_eq_true_eq] at hh
        exact absurd hh h4
    unfold okN
    rw [h5]
    simp only [h1, h3, decide_true, Bool.true_and]
theorem take_all_step {l : List UInt8} {k : Nat} (hk : k < l.length) (h : (l.take k).all isD = true) (hd : isD l[k] = true) : (l.take (k + 1)).all isD = true := by
  rw [← List.take_append_getElem hk, List.all_append, h]
  simp [hd]
theorem not_all {l : List UInt8} {k : Nat} (hk : k < l.length) (hd : isD l[k] = false) : l.all isD = false := by
  cases h : l.all isD
  · rfl
  · have := List.all_eq_true.1 h l[k] (List.getElem_mem hk)
    rw [hd] at this
    cases this
theorem dec_step {l : List UInt8} {k : Nat} (hk : k < l.length) : decV 0 (l.take (k + 1)) = decV 0 (l.take k) * 10 + (l[k].toNat - 48) := by
  rw [← List.take_append_getElem hk, decV_app]
  rfl
theorem dec_small {l : List UInt8} {k j : Nat} (h : (l.take k).all isD = true) (hk : k ≤ j) : decV 0 (l.take k) < 10 ^ j := by
  have := decV_lt _ h
  have hl : (l.take k).length ≤ j := by simp; omega
  exact Nat.lt_of_lt_of_le this (Nat.pow_le_pow_right (by omega) hl)
theorem dd999 : Lib.decDigits 999 = [57, 57, 57] := by simp [Lib.decDigits]
set_option maxRecDepth 100000 in
set_option maxHeartbeats 4000000 in
theorem vnum_any (w : World) (hP : Pow10At w) (l : List UInt8) (hl : l.length ≤ maxLen) (b : Bool) (hb : okN l = b) (n : Nat) (hn : (if b = true then decV 0 l else 0) = n) :
    Calls Tryd.prog 47 #[.string ⟨l.toArray⟩] w fun e w' => e = .returned (.tuple #[.int .i64 (n : Int), .bool b]) ∧ Below w.heap.size w w' := by
  unfold maxLen at hl
  have B0 := hide (Below.refl w.heap.size w)
  by_cases h0 : l.length < 1
  · obtain rfl : l = [] := List.length_eq_zero_iff.1 (by omega)
    obtain rfl : false = b := hb
    obtain rfl : 0 = n := by simpa using hn
    clear hl h0 hn
    go_enter Tryd.func47, Tryd.ntmps47
    go_wp2_with fail
    go_ret2
    exact ⟨rfl, unhide B0⟩
  have hz := size_list l _ hl
  have h1 : ((l.length : Int) < 1) = False := by simp; omega
  have ITOA := hide (itoa_full w hP 999 (by omega) _ dd999)
  by_cases h3 : 3 < l.length
  · obtain rfl : false = b := by rw [← hb, okN_big h3]
    obtain rfl : 0 = n := by simpa using hn
    have h4 : ((3 : Int) < (l.length : Int)) = True := by simp; omega
    clear hn hb h0
    go_enter Tryd.func47, Tryd.ntmps47
    go_wp2_with (go_at_call 30; refine (unhide ITOA).mono ?_; rintro e w1 ⟨rfl, hb1⟩; have B1 := hide hb1; clear hb1)
    go_ret2
    exact ⟨rfl, unhide B1⟩
  have h4 : ((3 : Int) < (l.length : Int)) = False := by simp; omega
  have h1l : 1 ≤ l.length := by omega
  have h3l : l.length ≤ 3 := by omega
  have hn0 : ((⟨l.toArray⟩ : ByteArray)[0]'(by simp [ByteArray.size]; omega)).toNat = l[0].toNat := rfl
  by_cases hlz : 1 < l.length ∧ l[0].toNat = 48
  · obtain rfl : false = b := by rw [← hb, okN_zero hlz.1 hlz.2]
    obtain rfl : 0 = n := by simpa using hn
    have h5 : ((1 : Int) < (l.length : Int)) = True := by simp; omega
    rw [hlz.2] at hn0
    clear hn hb hlz
    go_enter Tryd.func47, Tryd.ntmps47
    go_wp2_with (go_at_call 30; refine (unhide ITOA).mono ?_; rintro e w1 ⟨rfl, hb1⟩; have B1 := hide hb1; clear hb1)
    go_ret2
    exact ⟨rfl, unhide B1⟩
  have hall := okN_head h1l h3l hlz
  rw [hb] at hall
  have HALL := hide hall
  have HN := hide hn
  have B1' := B0
  have hlz' : ¬ 1 < l.length ∨ l[0].toNat ≠ 48 := by
    by_cases h : 1 < l.length
    · exact .inr fun e => hlz ⟨h, e⟩
    · exact .inl h
  generalize l[0].toNat = n0 at hn0 hlz'
  clear hall hn hb hlz
  have main : ∀ q1 : Bool, decide ((1 : Int) < (l.length : Int)) = q1 → (q1 = false ∨ ((n0 : Int) == 48) = false) → Calls Tryd.prog 47 #[.string ⟨l.toArray⟩] w fun e w' => e = .returned (.tuple #[.int .i64 (n : Int), .bool b]) ∧ Below w.heap.size w w' := by
    intro q1 hq1 hq2
    clear hlz'
    rcases q1 with _ | _
    rotate_left
    · have hq3 : ((n0 : Int) == 48) = false := by rcases hq2 with h | h; cases h; exact h
      have hq4 : ((1 : Int) < (l.length : Int)) = True := by simpa using hq1
      have HQ := hide hq3
      have HQ' := hide hq4
      clear hq1 hq2
      have hq3 := unhide HQ
      have hq4 := unhide HQ'
      go_enter Tryd.func47, Tryd.ntmps47
      go_wp2_with (go_at_call 30; refine (unhide ITOA).mono ?_; rintro e w1 ⟨rfl, hb1⟩; have B1 := hide hb1; clear hb1)
      clear hq3 hq4 hn0
      go_loopw [4, 5] (fun x y wr => ∃ k m : Nat, k ≤ l.length ∧ x = .int .i64 m ∧ y = .int .i64 k ∧ decV 0 (l.take k) = m ∧ (l.take k).all isD = true ∧ wr = w1) (fun _ y _ => l.length - (intOf y).toNat)
      case atStart => exact ⟨0, 0, by omega, rfl, rfl, by simp [decV], by simp, rfl⟩
      case round =>
        obtain ⟨k, m, hk, rfl, rfl, hm, ha, rfl⟩ := hrel
        by_cases hlt : k < l.length
        · have hlti : ((k : Int) < (l.length : Int)) = True := by simp; omega
          have hnk : ((⟨l.toArray⟩ : ByteArray)[k]'(by simpa [ByteArray.size] using hlt)).toNat = l[k].toNat := rfl
          have hm99 : m < 100 := by rw [← hm]; exact dec_small (j := 2) ha (by omega)
          have hst := dec_step hlt
          rw [hm] at hst
          by_cases hd : isD l[k] = true
          · have htk := take_all_step hlt ha hd
            have hdb : 48 ≤ l[k].toNat ∧ l[k].toNat ≤ 57 := by simpa [isD] using hd
            have HT := hide htk
            have HS := hide hst
            clear htk hst hd ha hm
            generalize l[k].toNat = c at hnk hdb HS
            obtain ⟨hc1, hc2⟩ := hdb
            obtain ⟨d, rfl⟩ : ∃ d, c = 48 + d := ⟨c - 48, by omega⟩
            have hd9 : d ≤ 9 := by omega
            have hsub : ((48 + d : Nat) : Int) - 48 = (d : Int) := by omega
            have hw8 : IntKind.u8.wrap (((48 + d : Nat) : Int) - 48) = (d : Int) := by rw [hsub]; exact IntWalk.u8_in _ (by omega)
            have hlt48 : (((48 + d : Nat) : Int) < 48) = False := by simp; omega
            have hgt57 : ((57 : Int) < ((48 + d : Nat) : Int)) = False := by simp; omega
            clear hc1 hc2
            go_wp2_with fail
            go_roundw
            case rel => exact ⟨k + 1, m * 10 + d, by omega, by go_num, by go_num, by rw [unhide HS]; omega, unhide HT, by trivial⟩
            case measure => simp [intOf]; omega
          · have hd' : isD l[k] = false := by simpa using hd
            obtain rfl : false = b := by rw [unhide HALL, not_all hlt hd']
            obtain rfl : 0 = n := by simpa using unhide HN
            have hdb : l[k].toNat < 48 ∨ 57 < l[k].toNat := by simp [isD] at hd'; omega
            clear hst hd hd' ha hm
            generalize l[k].toNat = c at hnk hdb
            rcases hdb with hc | hc
            · have h48 : ((c : Int) < 48) = True := by simp; omega
              go_wp2_with fail
              go_ret2
              exact ⟨rfl, unhide B1⟩
            · have h48 : ((c : Int) < 48) = False := by simp; omega
              have h57 : ((57 : Int) < (c : Int)) = True := by simp; omega
              go_wp2_with fail
              go_ret2
              exact ⟨rfl, unhide B1⟩
        · obtain rfl : k = l.length := by omega
          have hm99 : m < 1000 := by rw [← hm]; exact dec_small (j := 3) ha (by omega)
          rw [List.take_length] at hm ha
          obtain rfl : true = b := by rw [unhide HALL, ha]
          obtain rfl : m = n := by rw [← hm]; simpa using unhide HN
          have hle : ((m : Int) ≤ 999) = True := by simp; omega
          have hkk : ((l.length : Int) < (l.length : Int)) = False := by simp
          clear hm ha hlt hk
          go_wp2_with fail
          go_ret2
          exact ⟨rfl, unhide B1⟩
    · have hq4 : ((1 : Int) < (l.length : Int)) = False := by simpa using hq1
      have HQ' := hide hq4
      clear hq1 hq2
      have hq4 := unhide HQ'
      go_enter Tryd.func47, Tryd.ntmps47
      go_wp2_with (go_at_call 30; refine (unhide ITOA).mono ?_; rintro e w1 ⟨rfl, hb1⟩; have B1 := hide hb1; clear hb1)
      clear hq4 hn0
      go_loopw [4, 5] (fun x y wr => ∃ k m : Nat, k ≤ l.length ∧ x = .int .i64 m ∧ y = .int .i64 k ∧ decV 0 (l.take k) = m ∧ (l.take k).all isD = true ∧ wr = w1) (fun _ y _ => l.length - (intOf y).toNat)
      case atStart => exact ⟨0, 0, by omega, rfl, rfl, by simp [decV], by simp, rfl⟩
      case round =>
        obtain ⟨k, m, hk, rfl, rfl, hm, ha, rfl⟩ := hrel
        by_cases hlt : k < l.length
        · have hlti : ((k : Int) < (l.length : Int)) = True := by simp; omega
          have hnk : ((⟨l.toArray⟩ : ByteArray)[k]'(by simpa [ByteArray.size] using hlt)).toNat = l[k].toNat := rfl
          have hm99 : m < 100 := by rw [← hm]; exact dec_small (j := 2) ha (by omega)
          have hst := dec_step hlt
          rw [hm] at hst
          by_cases hd : isD l[k] = true
          · have htk := take_all_step hlt ha hd
            have hdb : 48 ≤ l[k].toNat ∧ l[k].toNat ≤ 57 := by simpa [isD] using hd
            have HT := hide htk
            have HS := hide hst
            clear htk hst hd ha hm
            generalize l[k].toNat = c at hnk hdb HS
            obtain ⟨hc1, hc2⟩ := hdb
            obtain ⟨d, rfl⟩ : ∃ d, c = 48 + d := ⟨c - 48, by omega⟩
            have hd9 : d ≤ 9 := by omega
            have hsub : ((48 + d : Nat) : Int) - 48 = (d : Int) := by omega
            have hw8 : IntKind.u8.wrap (((48 + d : Nat) : Int) - 48) = (d : Int) := by rw [hsub]; exact IntWalk.u8_in _ (by omega)
            have hlt48 : (((48 + d : Nat) : Int) < 48) = False := by simp; omega
            have hgt57 : ((57 : Int) < ((48 + d : Nat) : Int)) = False := by simp; omega
            clear hc1 hc2
            go_wp2_with fail
            go_roundw
            case rel => exact ⟨k + 1, m * 10 + d, by omega, by go_num, by go_num, by rw [unhide HS]; omega, unhide HT, by trivial⟩
            case measure => simp [intOf]; omega
          · have hd' : isD l[k] = false := by simpa using hd
            obtain rfl : false = b := by rw [unhide HALL, not_all hlt hd']
            obtain rfl : 0 = n := by simpa using unhide HN
            have hdb : l[k].toNat < 48 ∨ 57 < l[k].toNat := by simp [isD] at hd'; omega
            clear hst hd hd' ha hm
            generalize l[k].toNat = c at hnk hdb
            rcases hdb with hc | hc
            · have h48 : ((c : Int) < 48) = True := by simp; omega
              go_wp2_with fail
              go_ret2
              exact ⟨rfl, unhide B1⟩
            · have h48 : ((c : Int) < 48) = False := by simp; omega
              have h57 : ((57 : Int) < (c : Int)) = True := by simp; omega
              go_wp2_with fail
              go_ret2
              exact ⟨rfl, unhide B1⟩
        · obtain rfl : k = l.length := by omega
          have hm99 : m < 1000 := by rw [← hm]; exact dec_small (j := 3) ha (by omega)
          rw [List.take_length] at hm ha
          obtain rfl : true = b := by rw [unhide HALL, ha]
          obtain rfl : m = n := by rw [← hm]; simpa using unhide HN
          have hle : ((m : Int) ≤ 999) = True := by simp; omega
          have hkk : ((l.length : Int) < (l.length : Int)) = False := by simp
          clear hm ha hlt hk
          go_wp2_with fail
          go_ret2
          exact ⟨rfl, unhide B1⟩
  exact main _ rfl (by rcases hlz' with h | h; left; simp; omega; right; simp; omega)
end Go.Proofs.YtbcbleonpaemgaaDoor
