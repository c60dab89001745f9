/- Printed by wip/gen_s35.py from XVName: the same without the reference of chapter 33. -/
import Derived.Test.YtfbkkmnkpjgciaaLe
import Derived.Test.YtfbkkmnkpjgciaaProg
namespace Go.Proofs.Ytfbkkmnkpjgciaa
open Go.RowKit
def okAt (i : Nat) (c : UInt8) : Bool := decide (97 ≤ c.toNat ∧ c.toNat ≤ 122) || (decide (i ≠ 0) && decide ((48 ≤ c.toNat ∧ c.toNat ≤ 57) ∨ c.toNat = 45))
def nameFrom : List UInt8 → Nat → Bool
  | [], _ => true
  | c :: r, i => okAt i c && nameFrom r (i + 1)
def nameF (l : List UInt8) : Bool := decide (1 ≤ l.length) && (decide (l.length ≤ 16) && nameFrom l 0)
theorem size_list (l : List UInt8) (n : Nat) (h : l.length ≤ n) : (⟨l.toArray⟩ : ByteArray).size ≤ n := by simpa [ByteArray.size] using h
theorem nameFrom_step (l : List UInt8) (k : Nat) (h : k < l.length) : nameFrom (l.drop k) k = (okAt k l[k] && nameFrom (l.drop (k + 1)) (k + 1)) := by
  rw [List.drop_eq_getElem_cons h]; rfl
set_option maxRecDepth 100000 in
set_option maxHeartbeats 2000000 in
theorem name_any (w : World) (l : List UInt8) (hl : l.length ≤ maxLen) (r : Bool) (hr : nameF l = r) :
    Calls Try.prog 19 #[.string ⟨l.toArray⟩] w fun e w' => e = .returned (.bool r) ∧ w = w' := by
  by_cases h1 : l.length < 1
  · obtain rfl : false = r := by rw [← hr]; simp [nameF]; intro h; omega
    obtain rfl : l = [] := List.length_eq_zero_iff.1 (by omega)
    clear hr hl h1
    go_enter Try.func19, Try.ntmps19
    go_wp2_with fail
    go_ret
    exact ⟨rfl, rfl⟩
  · by_cases h2 : 16 < l.length
    · obtain rfl : false = r := by rw [← hr]; simp [nameF]; intro h; omega
      clear hr
      unfold maxLen at hl
      have hz := size_list l _ hl
      go_enter Try.func19, Try.ntmps19
      go_wp2_with fail
      go_ret
      exact ⟨rfl, rfl⟩
    · have hr0 : nameFrom (l.drop 0) 0 = r := by rw [← hr]; simp [nameF, show 1 ≤ l.length by omega, show l.length ≤ 16 by omega]
      have HR := hide hr0
      clear hr hr0 hl
      have hl : l.length ≤ 16 := by omega
      have hl1 : 1 ≤ l.length := by omega
      clear h1 h2
      have hz := size_list l 16 hl
      go_enter Try.func19, Try.ntmps19
      go_wp2_with fail
      go_loop [3] (fun i => ∃ k : Nat, k ≤ l.length ∧ i = .int .i64 k ∧ nameFrom (l.drop k) k = r) (fun i => 20 - (intOf i).toNat)
      case atStart => exact ⟨0, by omega, rfl, unhide HR⟩
      case round =>
        obtain ⟨k, hk, rfl, hrk⟩ := hrel
        by_cases hlt : k < l.length
        · rw [nameFrom_step l k hlt] at hrk
          have hn : ((⟨l.toArray⟩ : ByteArray)[k]'(by simpa [ByteArray.size] using hlt)).toNat = l[k].toNat := rfl
          have hn8 : l[k].toNat < 256 := UInt8.toNat_lt _
          have hcl : l[k].toNat < 45 ∨ l[k].toNat = 45 ∨ (45 < l[k].toNat ∧ l[k].toNat < 48) ∨ (48 ≤ l[k].toNat ∧ l[k].toNat ≤ 57) ∨ (57 < l[k].toNat ∧ l[k].toNat < 97) ∨ (97 ≤ l[k].toNat ∧ l[k].toNat ≤ 122) ∨ 122 < l[k].toNat := by omega
          unfold okAt at hrk
          generalize l[k].toNat = n at hrk hn hn8 hcl
          by_cases hlet : 97 ≤ n ∧ n ≤ 122
          · have hrest : nameFrom (l.drop (k + 1)) (k + 1) = r := by rw [← hrk]; simp [hlet]
            have HREST := hide hrest
            obtain ⟨ha, hb⟩ := hlet
            clear hrk hrest hcl
            go_wp2_with fail
            go_round
            case rel => exact ⟨k + 1, by omega, by go_num, unhide HREST⟩
            case measure => simp [intOf]; omega
          · by_cases hk0 : k = 0
            · subst hk0
              obtain rfl : false = r := by rw [← hrk]; simp [hlet]
              clear hrk
              have h97 : n < 97 ∨ 122 < n := by omega
              clear hlet
              rcases hcl with hcl | rfl | ⟨ha, hb⟩ | ⟨ha, hb⟩ | ⟨ha, hb⟩ | ⟨ha, hb⟩ | hcl
              all_goals first | omega | skip
              all_goals first | (have hd1 : decide ((n : Int) ≤ 57) = true := by simp; omega) | (have hd1 : decide ((n : Int) ≤ 57) = false := by simp; omega) | skip
              all_goals first | (have hd2 : decide ((n : Int) ≤ 122) = true := by simp; omega) | (have hd2 : decide ((n : Int) ≤ 122) = false := by simp; omega) | skip
              all_goals
                go_wp2_with fail
                go_ret
                exact ⟨rfl, rfl⟩
            · have hkp : 0 < k := by omega
              have hk1 : (k : Int) ≠ 0 := by omega
              have hk2 : ((k : Int) == 0) = false := by simp; omega
              by_cases hoth : (48 ≤ n ∧ n ≤ 57) ∨ n = 45
              · have hrest : nameFrom (l.drop (k + 1)) (k + 1) = r := by rw [← hrk]; simp [hlet, hoth, hk0]
                have HREST := hide hrest
                clear hrk hrest hcl hk0
                rcases hoth with ⟨ha, hb⟩ | rfl
                all_goals
                  go_wp2_with fail
                  go_round
                  case rel => exact ⟨k + 1, by omega, by go_num, unhide HREST⟩
                  case measure => simp [intOf]; omega
              · obtain rfl : false = r := by rw [← hrk]; simp [hlet, hoth]
                clear hrk hk0
                have hn45 : ((n : Int) == 45) = false := by simp; omega
                rcases hcl with hcl | rfl | ⟨ha, hb⟩ | ⟨ha, hb⟩ | ⟨ha, hb⟩ | ⟨ha, hb⟩ | hcl
                all_goals first | omega | skip
                all_goals first | (have hd1 : decide ((n : Int) ≤ 57) = true := by simp; omega) | (have hd1 : decide ((n : Int) ≤ 57) = false := by simp; omega) | skip
                all_goals first | (have hd2 : decide ((n : Int) ≤ 122) = true := by simp; omega) | (have hd2 : decide ((n : Int) ≤ 122) = false := by simp; omega) | skip
                all_goals
                  clear hlet hoth
                  go_wp2_with fail
                  go_ret
                  exact ⟨rfl, rfl⟩
        · obtain rfl : k = l.length := by omega
          rw [List.drop_length] at hrk
          obtain rfl : true = r := hrk
          go_wp2_with fail
          go_ret
          exact ⟨rfl, rfl⟩
end Go.Proofs.Ytfbkkmnkpjgciaa
