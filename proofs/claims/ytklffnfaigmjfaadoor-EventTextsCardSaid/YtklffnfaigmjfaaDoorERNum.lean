/- The reference's number and hex of an event's text return what okU and hxI say. No condition. -/
import Derived.Test.YtklffnfaigmjfaaDoorEParseP
import Derived.Test.YtklffnfaigmjfaaDoorDOf
import Derived.Test.YtklffnfaigmjfaaDoorEMake
namespace Go.Proofs.YtklffnfaigmjfaaDoor
open Go.RowKit
theorem size_list (l : List UInt8) (n : Nat) (h : l.length ≤ n) : (⟨l.toArray⟩ : ByteArray).size ≤ n := by simpa [ByteArray.size] using h
theorem okU_big {l : List UInt8} (h : 10 < l.length) : okU l = false := by simp [okU]; intros; omega
theorem okU_zero {l : List UInt8} (h0 : 1 < l.length) (h : l[0].toNat = 48) : okU l = false := by
  rcases l with _ | ⟨c, r⟩
  · simp at h0
  · have : c = 48 := UInt8.toNat_inj.1 h
    subst this
    simp at h0
    simp [okU, h0]
theorem okU_head {l : List UInt8} (h1 : 1 ≤ l.length) (h3 : l.length ≤ 10) (h : ¬ (1 < l.length ∧ l[0].toNat = 48)) : okU l = l.all isD := by
  rcases l with _ | ⟨c, r⟩
  · simp at h1
  · have h4 : ¬ (1 < (c :: r).length ∧ (c :: r).head? = some 48) := by
      rintro ⟨ha, hb⟩
      simp at hb
      exact h ⟨ha, by subst hb; rfl⟩
    have h5 : (!(decide (1 < (c :: r).length) && decide ((c :: r).head? = some 48))) = true := by
      cases hh : (decide (1 < (c :: r).length) && decide ((c :: r).head? = some 48)) with
      | false => rfl
      | true =>
        rw [Bool.and_eq_true, decide_eq_true_eq, decide_eq_true_eq] at hh
        exact absurd hh h4
    unfold okU
    rw [h5]
    simp only [h1, h3, decide_true, Bool.true_and]
def hxI (c : Nat) : Int := if 48 ≤ c ∧ c ≤ 57 then (c : Int) - 48 else if 97 ≤ c ∧ c ≤ 102 then (c : Int) - 87 else -1
set_option maxRecDepth 100000 in
theorem rhex_any (w : World) (c : Nat) (hc : c < 256) (r : Int) (hr : hxI c = r) :
    Calls Tryd.prog 53 #[.int .u8 (c : Int)] w fun e w' => e = .returned (.int .i64 r) ∧ w = w' := by
  have hcl : c < 48 ∨ (48 ≤ c ∧ c ≤ 57) ∨ (57 < c ∧ c < 97) ∨ (97 ≤ c ∧ c ≤ 102) ∨ 102 < c := by omega
  rcases hcl with h | ⟨h1, h2⟩ | ⟨h1, h2⟩ | ⟨h1, h2⟩ | h
  · obtain rfl : -1 = r := by rw [← hr, hxI, if_neg (by omega), if_neg (by omega)]
    have e1 : ((48 : Int) ≤ (c : Int)) = False := by simp; omega
    have e2 : ((97 : Int) ≤ (c : Int)) = False := by simp; omega
    clear hr
    go_enter Tryd.func53, Tryd.ntmps53
    go_wp2_with fail
    go_ret
    exact ⟨rfl, rfl⟩
  · obtain ⟨d, rfl⟩ : ∃ d, c = 48 + d := ⟨c - 48, by omega⟩
    obtain rfl : (d : Int) = r := by rw [← hr, hxI, if_pos (by omega)]; omega
    have hw8 : IntKind.u8.wrap (((48 + d : Nat) : Int) - 48) = (d : Int) := by rw [show ((48 + d : Nat) : Int) - 48 = (d : Int) by omega]; exact IntWalk.u8_in _ (by omega)
    have e1 : ((48 : Int) ≤ ((48 + d : Nat) : Int)) = True := by simp; omega
    have e2 : (((48 + d : Nat) : Int) ≤ 57) = True := by simp; omega
    clear hr
    go_enter Tryd.func53, Tryd.ntmps53
    go_wp2_with fail
    go_ret
    exact ⟨show Ending.returned (.int .i64 (48 + (d : Int) - 48)) = .returned (.int .i64 (d : Int)) from ret_int (by omega), rfl⟩
  · obtain rfl : -1 = r := by rw [← hr, hxI, if_neg (by omega), if_neg (by omega)]
    have e1 : ((48 : Int) ≤ (c : Int)) = True := by simp; omega
    have e3 : ((c : Int) ≤ 57) = False := by simp; omega
    have e2 : ((97 : Int) ≤ (c : Int)) = False := by simp; omega
    clear hr
    go_enter Tryd.func53, Tryd.ntmps53
    go_wp2_with fail
    go_ret
    exact ⟨rfl, rfl⟩
  · obtain ⟨d, rfl⟩ : ∃ d, c = 97 + d := ⟨c - 97, by omega⟩
    obtain rfl : (d : Int) + 10 = r := by rw [← hr, hxI, if_neg (by omega), if_pos (by omega)]; omega
    have hw8 : IntKind.u8.wrap (((97 + d : Nat) : Int) - 97) = (d : Int) := by rw [show ((97 + d : Nat) : Int) - 97 = (d : Int) by omega]; exact IntWalk.u8_in _ (by omega)
    have e1 : ((48 : Int) ≤ ((97 + d : Nat) : Int)) = True := by simp; omega
    have e2 : (((97 + d : Nat) : Int) ≤ 57) = False := by simp; omega
    have e3 : ((97 : Int) ≤ ((97 + d : Nat) : Int)) = True := by simp; omega
    have e4 : (((97 + d : Nat) : Int) ≤ 102) = True := by simp; omega
    clear hr
    go_enter Tryd.func53, Tryd.ntmps53
    go_wp2_with fail
    go_ret
    exact ⟨show Ending.returned (.int .i64 (97 + (d : Int) - 97 + 10)) = .returned (.int .i64 ((d : Int) + 10)) from ret_int (by omega), rfl⟩
  · obtain rfl : -1 = r := by rw [← hr, hxI, if_neg (by omega), if_neg (by omega)]
    have e1 : ((48 : Int) ≤ (c : Int)) = True := by simp; omega
    have e3 : ((c : Int) ≤ 57) = False := by simp; omega
    have e2 : ((97 : Int) ≤ (c : Int)) = True := by simp; omega
    have e4 : ((c : Int) ≤ 102) = False := by simp; omega
    clear hr
    go_enter Tryd.func53, Tryd.ntmps53
    go_wp2_with fail
    go_ret
    exact ⟨rfl, rfl⟩
set_option maxRecDepth 100000 in
set_option maxHeartbeats 4000000 in
theorem rnum_any (w : World) (l : List UInt8) (hl : l.length ≤ maxLen) (b : Bool) (hb : okU l = b) (n : Nat) (hn : (if b = true then decV 0 l else 0) = n) :
    Calls Tryd.prog 52 #[.string ⟨l.toArray⟩] w fun e w' => e = .returned (.tuple #[.int .u64 (n : Int), .bool b]) ∧ w = w' := by
  unfold maxLen at hl
  by_cases h0 : l.length < 1
  · obtain rfl : l = [] := List.length_eq_zero_iff.1 (by omega)
    obtain rfl : false = b := hb
    obtain rfl : 0 = n := by simpa using hn
    clear hl h0 hn
    go_enter Tryd.func52, Tryd.ntmps52
    go_wp2_with fail
    go_ret2
    exact ⟨rfl, rfl⟩
  have hz := size_list l _ hl
  have h1 : ((l.length : Int) == 0) = false := beq_eq_false_iff_ne.2 (by omega)
  by_cases h3 : 10 < l.length
  · obtain rfl : false = b := by rw [← hb, okU_big h3]
    obtain rfl : 0 = n := by simpa using hn
    have h4 : ((10 : Int) < (l.length : Int)) = True := by simp; omega
    clear hn hb h0
    go_enter Tryd.func52, Tryd.ntmps52
    go_wp2_with fail
    go_ret2
    exact ⟨rfl, rfl⟩
  have h4 : ((10 : Int) < (l.length : Int)) = False := by simp; omega
  have h1l : 1 ≤ l.length := by omega
  have h3l : l.length ≤ 10 := by omega
  have hn0 : ((⟨l.toArray⟩ : ByteArray)[0]'(by simp [ByteArray.size]; omega)).toNat = l[0].toNat := rfl
  by_cases hlz : 1 < l.length ∧ l[0].toNat = 48
  · obtain rfl : false = b := by rw [← hb, okU_zero hlz.1 hlz.2]
    obtain rfl : 0 = n := by simpa using hn
    have h5 : ((1 : Int) < (l.length : Int)) = True := by simp; omega
    rw [hlz.2] at hn0
    clear hn hb hlz
    go_enter Tryd.func52, Tryd.ntmps52
    go_wp2_with fail
    go_ret2
    exact ⟨rfl, rfl⟩
  have hall := okU_head h1l h3l hlz
  rw [hb] at hall
  have HALL := hide hall
  have HN := hide hn
  have hlz' : ¬ 1 < l.length ∨ l[0].toNat ≠ 48 := by
    by_cases h : 1 < l.length
    · exact .inr fun e => hlz ⟨h, e⟩
    · exact .inl h
  generalize l[0].toNat = n0 at hn0 hlz'
  clear hall hn hb hlz
  have main : ∀ q1 : Bool, decide ((1 : Int) < (l.length : Int)) = q1 → (q1 = false ∨ ((n0 : Int) == 48) = false) → Calls Tryd.prog 52 #[.string ⟨l.toArray⟩] w fun e w' => e = .returned (.tuple #[.int .u64 (n : Int), .bool b]) ∧ w = w' := by
    intro q1 hq1 hq2
    clear hlz'
    rcases q1 with _ | _
    rotate_left
    · have hq3 : ((n0 : Int) == 48) = false := by rcases hq2 with h | h; cases h; exact h
      have hq4 : ((1 : Int) < (l.length : Int)) = True := by simpa using hq1
      clear hq1 hq2
      go_enter Tryd.func52, Tryd.ntmps52
      go_wp2_with fail
      clear hq3 hq4 hn0
      go_loop [4, 5] (fun x y => ∃ k m : Nat, k ≤ l.length ∧ x = .int .u64 m ∧ y = .int .i64 k ∧ decV 0 (l.take k) = m ∧ (l.take k).all isD = true) (fun _ y => l.length - (intOf y).toNat)
      case atStart => exact ⟨0, 0, by omega, rfl, rfl, by simp [decV], by simp⟩
      case round =>
        obtain ⟨k, m, hk, rfl, rfl, hm, ha⟩ := hrel
        by_cases hlt : k < l.length
        · have hlti : ((k : Int) < (l.length : Int)) = True := by simp; omega
          have hnk : ((⟨l.toArray⟩ : ByteArray)[k]'(by simpa [ByteArray.size] using hlt)).toNat = l[k].toNat := rfl
          have hm99 : m < 1000000000 := by rw [← hm]; exact dec_small (j := 9) ha (by omega)
          have hst := dec_step hlt
          rw [hm] at hst
          by_cases hd : isD l[k] = true
          · have htk := take_all_step hlt ha hd
            have hdb : 48 ≤ l[k].toNat ∧ l[k].toNat ≤ 57 := by simpa [isD] using hd
            have HT := hide htk
            have HS := hide hst
            clear htk hst hd ha hm
            generalize l[k].toNat = c at hnk hdb HS
            obtain ⟨hc1, hc2⟩ := hdb
            obtain ⟨d, rfl⟩ : ∃ d, c = 48 + d := ⟨c - 48, by omega⟩
            have hd9 : d ≤ 9 := by omega
            have hsub : ((48 + d : Nat) : Int) - 48 = (d : Int) := by omega
            have hw8 : IntKind.u8.wrap (((48 + d : Nat) : Int) - 48) = (d : Int) := by rw [hsub]; exact IntWalk.u8_in _ (by omega)
            have hlt48 : (((48 + d : Nat) : Int) < 48) = False := by simp; omega
            have hgt57 : ((57 : Int) < ((48 + d : Nat) : Int)) = False := by simp; omega
            clear hc1 hc2
            go_wp2_with fail
            go_round
            case rel => exact ⟨k + 1, m * 10 + d, by omega, by first | go_num | (congr 1; omega), by go_num, by rw [unhide HS]; omega, unhide HT⟩
            case measure => simp [intOf]; omega
          · have hd' : isD l[k] = false := by simpa using hd
            obtain rfl : false = b := by rw [unhide HALL, not_all hlt hd']
            obtain rfl : 0 = n := by simpa using unhide HN
            have hdb : l[k].toNat < 48 ∨ 57 < l[k].toNat := by simp [isD] at hd'; omega
            clear hst hd hd' ha hm
            generalize l[k].toNat = c at hnk hdb
            rcases hdb with hc | hc
            · have h48 : ((c : Int) < 48) = True := by simp; omega
              go_wp2_with fail
              go_ret2
              exact ⟨rfl, rfl⟩
            · have h48 : ((c : Int) < 48) = False := by simp; omega
              have h57 : ((57 : Int) < (c : Int)) = True := by simp; omega
              go_wp2_with fail
              go_ret2
              exact ⟨rfl, rfl⟩
        · obtain rfl : k = l.length := by omega
          rw [List.take_length] at hm ha
          obtain rfl : true = b := by rw [unhide HALL, ha]
          obtain rfl : m = n := by rw [← hm]; simpa using unhide HN
          have hkk : ((l.length : Int) < (l.length : Int)) = False := by simp
          clear hm ha hlt hk
          go_wp2_with fail
          go_ret2
          exact ⟨rfl, rfl⟩
    · have hq4 : ((1 : Int) < (l.length : Int)) = False := by simpa using hq1
      clear hq1 hq2
      go_enter Tryd.func52, Tryd.ntmps52
      go_wp2_with fail
      clear hq4 hn0
      go_loop [4, 5] (fun x y => ∃ k m : Nat, k ≤ l.length ∧ x = .int .u64 m ∧ y = .int .i64 k ∧ decV 0 (l.take k) = m ∧ (l.take k).all isD = true) (fun _ y => l.length - (intOf y).toNat)
      case atStart => exact ⟨0, 0, by omega, rfl, rfl, by simp [decV], by simp⟩
      case round =>
        obtain ⟨k, m, hk, rfl, rfl, hm, ha⟩ := hrel
        by_cases hlt : k < l.length
        · have hlti : ((k : Int) < (l.length : Int)) = True := by simp; omega
          have hnk : ((⟨l.toArray⟩ : ByteArray)[k]'(by simpa [ByteArray.size] using hlt)).toNat = l[k].toNat := rfl
          have hm99 : m < 1000000000 := by rw [← hm]; exact dec_small (j := 9) ha (by omega)
          have hst := dec_step hlt
          rw [hm] at hst
          by_cases hd : isD l[k] = true
          · have htk := take_all_step hlt ha hd
            have hdb : 48 ≤ l[k].toNat ∧ l[k].toNat ≤ 57 := by simpa [isD] using hd
            have HT := hide htk
            have HS := hide hst
            clear htk hst hd ha hm
            generalize l[k].toNat = c at hnk hdb HS
            obtain ⟨hc1, hc2⟩ := hdb
            obtain ⟨d, rfl⟩ : ∃ d, c = 48 + d := ⟨c - 48, by omega⟩
            have hd9 : d ≤ 9 := by omega
            have hsub : ((48 + d : Nat) : Int) - 48 = (d : Int) := by omega
            have hw8 : IntKind.u8.wrap (((48 + d : Nat) : Int) - 48) = (d : Int) := by rw [hsub]; exact IntWalk.u8_in _ (by omega)
            have hlt48 : (((48 + d : Nat) : Int) < 48) = False := by simp; omega
            have hgt57 : ((57 : Int) < ((48 + d : Nat) : Int)) = False := by simp; omega
            clear hc1 hc2
            go_wp2_with fail
            go_round
            case rel => exact ⟨k + 1, m * 10 + d, by omega, by first | go_num | (congr 1; omega), by go_num, by rw [unhide HS]; omega, unhide HT⟩
            case measure => simp [intOf]; omega
          · have hd' : isD l[k] = false := by simpa using hd
            obtain rfl : false = b := by rw [unhide HALL, not_all hlt hd']
            obtain rfl : 0 = n := by simpa using unhide HN
            have hdb : l[k].toNat < 48 ∨ 57 < l[k].toNat := by simp [isD] at hd'; omega
            clear hst hd hd' ha hm
            generalize l[k].toNat = c at hnk hdb
            rcases hdb with hc | hc
            · have h48 : ((c : Int) < 48) = True := by simp; omega
              go_wp2_with fail
              go_ret2
              exact ⟨rfl, rfl⟩
            · have h48 : ((c : Int) < 48) = False := by simp; omega
              have h57 : ((57 : Int) < (c : Int)) = True := by simp; omega
              go_wp2_with fail
              go_ret2
              exact ⟨rfl, rfl⟩
        · obtain rfl : k = l.length := by omega
          rw [List.take_length] at hm ha
          obtain rfl : true = b := by rw [unhide HALL, ha]
          obtain rfl : m = n := by rw [← hm]; simpa using unhide HN
          have hkk : ((l.length : Int) < (l.length : Int)) = False := by simp
          clear hm ha hlt hk
          go_wp2_with fail
          go_ret2
          exact ⟨rfl, rfl⟩
  exact main _ rfl (by rcases hlz' with h | h; left; simp; omega; right; simp; omega)
end Go.Proofs.YtklffnfaigmjfaaDoor
