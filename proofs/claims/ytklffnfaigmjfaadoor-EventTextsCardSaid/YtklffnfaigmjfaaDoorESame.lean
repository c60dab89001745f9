/- baseboardref01.Same of two slices of bytes. No condition. -/
import Derived.Test.YtklffnfaigmjfaaDoorEEnc
import Derived.BigQuiet
namespace Go.Proofs.YtklffnfaigmjfaaDoor
open Go.RowKit
theorem u8V_at {l : List Int} {k : Nat} {u : Value} (h : (u8V l)[k]? = some u) : ∃ z, l[k]? = some z ∧ u = .int .u8 z := by
  simp only [u8V, List.getElem?_map, Option.map_eq_some_iff] at h
  obtain ⟨z, hz, rfl⟩ := h
  exact ⟨z, hz, rfl⟩
def DrewOf (w w' : World) : Prop := ∃ n, w' = w.drewN n
set_option maxHeartbeats 1000000 in
theorem same_any (w : World) (B : Nat) (A A' : Option Addr) (n c m d : Nat) (l l' : List Int) (hn : n ≤ c) (hc : c ≤ maxLen) (hm : m ≤ d) (hd : d ≤ maxLen) (hr : Reads w B 1 A n (u8V l)) (hr' : Reads w B 1 A' m (u8V l')) (b : Bool) (hb : decide (l = l') = b) :
    Calls Tryd.prog 26 #[.slice A n c, .slice A' m d] w fun e w' => e = .returned (.bool b) ∧ DrewOf w w' := by
  have hl : l.length = n := by have := hr.1; simpa [u8V] using this
  have hl' : l'.length = m := by have := hr'.1; simpa [u8V] using this
  have HR := hide hr
  have HR' := hide hr'
  have HBB := hide hb
  have hnm : n ≤ 9223372036854775807 := by unfold maxLen at hc; omega
  have hmm : m ≤ 9223372036854775807 := by unfold maxLen at hd; omega
  clear hr hr' hb
  by_cases he : n = m
  · have heb : ((n : Int) == (m : Int)) = true := by simp; omega
    have heb2 : (n == m) = true := by simpa using he
    have HL := hide hl
    have HL' := hide hl'
    have HE := hide he
    have hnle : n ≤ m := by omega
    clear hl hl' he
    go_enter Tryd.func26, Tryd.ntmps26
    go_wp2_with fail
    go_loopw [5] (fun i wr => ∃ k : Nat, k ≤ n ∧ i = .int .i64 k ∧ (∀ j, j < k → l[j]? = l'[j]?) ∧ DrewOf w wr) (fun i _ => n - (intOf i).toNat)
    case atStart => exact ⟨0, by omega, rfl, fun j hj => by omega, ⟨0, by rw [World.drewN_zero]⟩⟩
    case round =>
      obtain ⟨k, hk, rfl, hall, dn, rfl⟩ := hrel
      have HALL := hide hall
      clear hall
      by_cases hkl : k < n
      · obtain ⟨ad, u, rfl, hab, hu, hcell⟩ := (unhide HR).at_ hkl
        obtain ⟨ad', u', rfl, hab', hu', hcell'⟩ := (unhide HR').at_ (Nat.lt_of_lt_of_le hkl hnle)
        obtain ⟨z, hz, rfl⟩ := u8V_at hu
        obtain ⟨z', hz', rfl⟩ := u8V_at hu'
        have hki : (k : Int) < (n : Int) := by omega
        have hki2 : (k : Int) < (m : Int) := by omega
        have hk0 : (0 : Int) ≤ (k : Int) := by omega
        have HZ := hide hz
        have HZ' := hide hz'
        clear hu hu' hz hz'
        by_cases hq : z = z'
        · have hqb : (z == z') = true := by simpa using hq
          have hqb2 : (z != z') = false := by simpa using hq
          have HQ := hide hq
          clear hq
          go_wp2_with fail
          go_quiet (fail)
          go_wp2_with fail
          go_roundw
          case rel => exact ⟨k + 1, by omega, by go_num, fun j hj => by
            rcases Nat.lt_succ_iff_lt_or_eq.1 hj with h | rfl
            · exact unhide HALL j h
            · rw [unhide HZ, unhide HZ', unhide HQ], ⟨dn + nq, by simp⟩⟩
          case measure => simp [intOf]; omega
        · have hqb : (z == z') = false := by simpa using hq
          have hqb2 : (z != z') = true := by simpa using hq
          have HQ := hide hq
          clear hq
          have HF : Hid (false = b) := hide (by
            rw [← unhide HBB]
            symm
            apply decide_eq_false
            intro h
            have := (unhide HZ).symm.trans ((congrArg (fun x : List Int => x[k]?) h).trans (unhide HZ'))
            injection this with this
            exact unhide HQ this)
          go_wp2_with fail
          go_quiet (fail)
          go_wp2_with fail
          go_ret
          exact ⟨by rw [← unhide HF]; rfl, dn + nq, by simp⟩
      · have hk1 : k = n := by omega
        have HT : Hid (true = b) := hide (by
          rw [← unhide HBB]
          symm
          apply decide_eq_true
          apply List.ext_getElem?
          intro j
          by_cases hj : j < n
          · exact unhide HALL j (by omega)
          · rw [List.getElem?_eq_none (by rw [unhide HL]; omega), List.getElem?_eq_none (by rw [unhide HL', ← unhide HE]; omega)])
        have hkf : ((k : Int) < (n : Int)) = False := by simp; omega
        clear hk1 hkl hk
        go_wp2_with fail
        go_ret
        exact ⟨by rw [← unhide HT]; rfl, dn, rfl⟩
  · have heb : ((n : Int) == (m : Int)) = false := by simp; omega
    have heb2 : (n == m) = false := by simpa using he
    have HF : Hid (false = b) := hide (by
      rw [← unhide HBB]
      symm
      apply decide_eq_false
      intro h
      exact he (by rw [← hl, ← hl', h]))
    clear he hl hl'
    go_enter Tryd.func26, Tryd.ntmps26
    go_wp2_with fail
    go_ret
    exact ⟨by rw [← unhide HF]; rfl, 0, by rw [World.drewN_zero]⟩
end Go.Proofs.YtklffnfaigmjfaaDoor
