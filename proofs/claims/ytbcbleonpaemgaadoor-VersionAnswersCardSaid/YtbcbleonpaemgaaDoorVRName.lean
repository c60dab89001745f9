/- The reference's Name returns nameF. No condition. -/
import Derived.Test.YtbcbleonpaemgaaDoorVName
namespace Go.Proofs.YtbcbleonpaemgaaDoor
open Go.RowKit
set_option maxRecDepth 100000 in
set_option maxHeartbeats 2000000 in
theorem rname_any (w : World) (l : List UInt8) (hl : l.length ≤ maxLen) (r : Bool) (hr : nameF l = r) :
    Calls Tryd.prog 22 #[.string ⟨l.toArray⟩] w fun e w' => e = .returned (.bool r) ∧ w = w' := by
  by_cases h1 : l.length < 1
  · obtain rfl : false = r := by rw [← hr]; simp [nameF]; intro h; omega
    obtain rfl : l = [] := List.length_eq_zero_iff.1 (by omega)
    clear hr hl h1
    go_enter Tryd.func22, Tryd.ntmps22
    go_wp2_with fail
    go_ret
    exact ⟨rfl, rfl⟩
  · by_cases h2 : 16 < l.length
    · obtain rfl : false = r := by rw [← hr]; simp [nameF]; intro h; omega
      clear hr
      unfold maxLen at hl
      have hz := size_list l _ hl
      go_enter Tryd.func22, Tryd.ntmps22
      go_wp2_with fail
      go_ret
      exact ⟨rfl, rfl⟩
    · have hr0 : nameFrom (l.drop 0) 0 = r := by rw [← hr]; simp [nameF, show 1 ≤ l.length by omega, show l.length ≤ 16 by omega]
      have HR := hide hr0
      clear hr hl
      have hl : l.length ≤ 16 := by omega
      have hl1 : 0 < l.length := by omega
      clear h1 h2
      have hz := size_list l 16 hl
      rw [nameFrom_step l 0 hl1] at hr0
      have hn0 : ((⟨l.toArray⟩ : ByteArray)[0]'(by simpa [ByteArray.size] using hl1)).toNat = l[0].toNat := rfl
      obtain ⟨n0, hq0⟩ : ∃ n, l[0].toNat = n := ⟨_, rfl⟩
      rw [hq0] at hn0
      unfold okAt at hr0
      rw [hq0] at hr0
      by_cases hlet0 : 97 ≤ n0 ∧ n0 ≤ 122
      · have HQ := hide hq0
        have HLET := hide hlet0
        obtain ⟨ha0, hb0⟩ := hlet0
        clear hr0 hq0
        go_enter Tryd.func22, Tryd.ntmps22
        go_wp2_with fail
        clear hn0 ha0 hb0
        go_loop [3] (fun i => ∃ k : Nat, k ≤ l.length ∧ i = .int .i64 k ∧ nameFrom (l.drop k) k = r) (fun i => 20 - (intOf i).toNat)
        case atStart => exact ⟨0, by omega, rfl, unhide HR⟩
        case round =>
          obtain ⟨k, hk, rfl, hrk⟩ := hrel
          by_cases hlt : k < l.length
          · rw [nameFrom_step l k hlt] at hrk
            have hn : ((⟨l.toArray⟩ : ByteArray)[k]'(by simpa [ByteArray.size] using hlt)).toNat = l[k].toNat := rfl
            have hn8 : l[k].toNat < 256 := UInt8.toNat_lt _
            have hfst : k = 0 → 97 ≤ l[k].toNat ∧ l[k].toNat ≤ 122 := fun h => by subst h; rw [unhide HQ]; exact unhide HLET
            have hcl : l[k].toNat < 45 ∨ l[k].toNat = 45 ∨ (45 < l[k].toNat ∧ l[k].toNat < 48) ∨ (48 ≤ l[k].toNat ∧ l[k].toNat ≤ 57) ∨ (57 < l[k].toNat ∧ l[k].toNat < 97) ∨ (97 ≤ l[k].toNat ∧ l[k].toNat ≤ 122) ∨ 122 < l[k].toNat := by omega
            unfold okAt at hrk
            generalize l[k].toNat = n at hrk hn hn8 hcl hfst
            by_cases hlet : 97 ≤ n ∧ n ≤ 122
            · have hrest : nameFrom (l.drop (k + 1)) (k + 1) = r := by rw [← hrk]; simp [hlet]
              have HREST := hide hrest
              obtain ⟨ha, hb⟩ := hlet
              clear hrk hrest hcl hfst
              go_wp2_with fail
              go_round
              case rel => exact ⟨k + 1, by omega, by go_num, unhide HREST⟩
              case measure => simp [intOf]; omega
            · have hk0 : k ≠ 0 := fun h => hlet (hfst h)
              clear hfst
              by_cases hoth : (48 ≤ n ∧ n ≤ 57) ∨ n = 45
              · have hrest : nameFrom (l.drop (k + 1)) (k + 1) = r := by rw [← hrk]; simp [hlet, hoth, hk0]
                have HREST := hide hrest
                clear hrk hrest hcl hk0
                rcases hoth with ⟨ha, hb⟩ | rfl
                all_goals
                  go_wp2_with fail
                  go_round
                  case rel => exact ⟨k + 1, by omega, by go_num, unhide HREST⟩
                  case measure => simp [intOf]; omega
              · obtain rfl : false = r := by rw [← hrk]; simp [hlet, hoth]
                clear hrk hk0
                have hn45 : ((n : Int) == 45) = false := by simp; omega
                rcases hcl with hcl | rfl | ⟨ha, hb⟩ | ⟨ha, hb⟩ | ⟨ha, hb⟩ | ⟨ha, hb⟩ | hcl
                all_goals first | omega | skip
                all_goals first | (have hd1 : decide ((n : Int) ≤ 57) = true := by simp; omega) | (have hd1 : decide ((n : Int) ≤ 57) = false := by simp; omega) | skip
                all_goals first | (have hd2 : decide ((n : Int) ≤ 122) = true := by simp; omega) | (have hd2 : decide ((n : Int) ≤ 122) = false := by simp; omega) | skip
                all_goals
                  clear hlet hoth
                  go_wp2_with fail
                  go_ret
                  exact ⟨rfl, rfl⟩
          · obtain rfl : k = l.length := by omega
            rw [List.drop_length] at hrk
            obtain rfl : true = r := hrk
            go_wp2_with fail
            go_ret
            exact ⟨rfl, rfl⟩
      · obtain rfl : false = r := by rw [← hr0]; simp [hlet0]
        have h97 : n0 < 97 ∨ (97 ≤ n0 ∧ 122 < n0) := by omega
        clear hr0 hq0 hlet0
        rcases h97 with h | ⟨ha, h⟩
        all_goals
          go_enter Tryd.func22, Tryd.ntmps22
          go_wp2_with fail
          go_ret
          exact ⟨rfl, rfl⟩
end Go.Proofs.YtbcbleonpaemgaaDoor
