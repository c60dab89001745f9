/- event.number returns what okU says. No condition. -/
import Derived.Test.YtklffnfaigmjfaaDoorERNum
import Derived.Test.YtklffnfaigmjfaaDoorEShelfB
import Derived.Test.YtklffnfaigmjfaaDoorHEnd
import Derived.Test.YtklffnfaigmjfaaDoorClass
import Derived.Shelf.Strings.SlTrimAscii
namespace Go.Proofs.YtklffnfaigmjfaaDoor
open Go.RowKit Go.Sort
theorem size_mk (l : List UInt8) : (⟨l.toArray⟩ : ByteArray).size = l.length := by simp [ByteArray.size]
theorem toList_mk (l : List UInt8) : (⟨l.toArray⟩ : ByteArray).data.toList = l := by simp
theorem trim_at (w : World) (l : List UInt8) (hl : l.length ≤ 1000) (r : List UInt8) (hr : Lib.trimS l digitSet = r) :
    Calls Tryd.prog 59 #[.string ⟨l.toArray⟩, .string ⟨#[48, 49, 50, 51, 52, 53, 54, 55, 56, 57]⟩] w fun e w' => e = .returned (.string ⟨r.toArray⟩) ∧ Below w.heap.size w w' := by
  subst hr
  have h := Any.strings_Trim_laid Tryd.lays160 (by kernel_rfl) ⟨l.toArray⟩ ⟨#[48, 49, 50, 51, 52, 53, 54, 55, 56, 57]⟩ w (by rw [size_mk]; omega) (by decide) (ascii_of_all (by decide))
  rw [toList_mk] at h
  exact h
theorem puint_at (w : World) (l : List UInt8) (h : okU l = true) :
    Calls Tryd.prog 60 #[.string ⟨l.toArray⟩, .int .i64 10, .int .i64 64] w fun e w' => e = .returned (.tuple #[.int .u64 (decV 0 l : Nat), .nilIface]) ∧ Below w.heap.size w w' := by
  simp only [okU, Bool.and_eq_true, decide_eq_true_eq] at h
  obtain ⟨h1, h2, _, h4⟩ := h
  have hp : 10 ^ l.length ≤ 10 ^ 10 := Nat.pow_le_pow_right (by omega) h2
  have hm := parseM l h4 0 (by omega)
  have hu : Lib.parseUintB 64 l = .ok (decV 0 l) := by
    unfold Lib.parseUintB
    rw [if_neg (by intro e; subst e; simp at h1)]
    exact hm
  refine (Tryd.strconv_ParseUint_10_at64_ok ⟨l.toArray⟩ (by rw [size_mk]; omega) (decV 0 l) (by rw [toList_mk]; exact hu) w).mono fun e w' h => ⟨h.1, ?_⟩
  rcases h.2 with rfl | rfl
  · exact Below.refl _ _
  · exact Lib.bytesWorld_below _ _ _
set_option maxRecDepth 100000 in
set_option maxHeartbeats 4000000 in
theorem num_ev (w : World) (l : List UInt8) (hl : l.length ≤ maxLen) (b : Bool) (hb : okU l = b) (n : Nat) (hn : (if b = true then decV 0 l else 0) = n) :
    Calls Tryd.prog 48 #[.string ⟨l.toArray⟩] w fun e w' => e = .returned (.tuple #[.int .u64 (n : Int), .bool b]) ∧ Below w.heap.size w w' := by
  unfold maxLen at hl
  have B0 := hide (Below.refl w.heap.size w)
  by_cases h0 : l = []
  · subst h0
    obtain rfl : false = b := hb
    obtain rfl : 0 = n := by simpa using hn
    clear hl hn
    go_enter Tryd.func48, Tryd.ntmps48
    go_wp2_with fail
    go_ret2
    exact ⟨rfl, unhide B0⟩
  have h0' : (l == []) = false := by simpa using h0
  have hlp : 1 ≤ l.length := by
    rcases l with _ | _
    · exact absurd rfl h0
    · simp
  have hz := size_list l _ hl
  by_cases h3 : 10 < l.length
  · obtain rfl : false = b := by rw [← hb, okU_big h3]
    obtain rfl : 0 = n := by simpa using hn
    have h4 : ((10 : Int) < (l.length : Int)) = True := by simp; omega
    clear hn hb
    go_enter Tryd.func48, Tryd.ntmps48
    go_wp2_with fail
    go_ret2
    exact ⟨rfl, unhide B0⟩
  have h4 : ((10 : Int) < (l.length : Int)) = False := by simp; omega
  have h3l : l.length ≤ 10 := by omega
  obtain ⟨t, ht⟩ : ∃ t, Lib.trimS l digitSet = t := ⟨_, rfl⟩
  have htn := trim_digits l
  rw [ht] at htn
  have TR := hide (trim_at w l (by omega) t ht)
  clear ht
  have hex10 : (⟨#[48, 49, 50, 51, 52, 53, 54, 55, 56, 57, 97, 98, 99, 100, 101, 102]⟩ : ByteArray).extract 0 10 = ⟨#[48, 49, 50, 51, 52, 53, 54, 55, 56, 57]⟩ := by decide
  rcases t with _ | ⟨c, t⟩
  rotate_left
  · have hna : l.all isD = false := by
      cases ha : l.all isD
      · rfl
      · exact absurd (htn.2 ha) (by simp)
    obtain rfl : false = b := by rw [← hb]; simp only [okU, hna]; simp
    obtain rfl : 0 = n := by simpa using hn
    clear hn hb htn hna
    go_enter Tryd.func48, Tryd.ntmps48
    go_wp2_with (go_at_call 59; refine (unhide TR).mono ?_; rintro e w1 ⟨rfl, hb1⟩; have B1 := hide hb1; clear hb1)
    go_ret2
    exact ⟨rfl, unhide B1⟩
  have hall := htn.1 rfl
  have hn0 : ((⟨l.toArray⟩ : ByteArray)[0]'(by simp [ByteArray.size]; omega)).toNat = l[0].toNat := rfl
  by_cases hlz : 1 < l.length ∧ l[0].toNat = 48
  · obtain rfl : false = b := by rw [← hb, okU_zero hlz.1 hlz.2]
    obtain rfl : 0 = n := by simpa using hn
    have hne1 : (l == [48]) = false := by
      cases h : (l == [48])
      · rfl
      · have : l = [48] := by simpa using h
        have h2 := hlz.1
        rw [this] at h2
        simp at h2
    rw [hlz.2] at hn0
    clear hn hb htn hlz
    go_enter Tryd.func48, Tryd.ntmps48
    go_wp2_with (go_at_call 59; refine (unhide TR).mono ?_; rintro e w1 ⟨rfl, hb1⟩; have B1 := hide hb1; clear hb1)
    go_ret2
    exact ⟨rfl, unhide B1⟩
  have hok := okU_head hlp h3l hlz
  rw [hall] at hok
  obtain rfl : true = b := by rw [← hb, hok]
  obtain rfl : decV 0 l = n := by simpa using hn
  have PU := hide fun W => puint_at W l hok
  obtain ⟨q, hq⟩ : ∃ q, decV 0 l = q := ⟨_, rfl⟩
  rw [hq] at PU ⊢
  have key : ((l[0].toNat : Int) == 48) = false ∨ (l = [48]) := by
    by_cases h : l[0].toNat = 48
    · right
      rcases l with _ | ⟨c, _ | ⟨d, r⟩⟩
      · exact absurd rfl h0
      · have : c = 48 := UInt8.toNat_inj.1 h
        rw [this]
      · exact absurd ⟨by simp, h⟩ hlz
    · left
      exact beq_eq_false_iff_ne.2 (by omega)
  clear hn hb htn hlz hall hok hq
  rcases key with hk | hk
  · generalize l[0].toNat = n0 at hn0 hk
    go_enter Tryd.func48, Tryd.ntmps48
    go_wp2_with (first
      | (go_at_call 59; refine (unhide TR).mono ?_; rintro e w1 ⟨rfl, hb1⟩; have B1 := hide hb1; clear hb1)
      | (go_at_call 60; refine (unhide PU _).mono ?_; rintro e w2 ⟨rfl, hb2⟩; have B2 := hide ((unhide B1).trans (hb2.mono (unhide B1).size)); clear hb2))
    have hS0 := hide ((Below.refl w2.heap.size w2).drew)
    have hin : Nonempty (InClass (fun W => Below w2.heap.size w2 W)) := ⟨⟨_, Below.refl _ _⟩⟩
    refine wp_region_class (fun W => Below w2.heap.size w2 W) (by kernel_rfl) (by kernel_rfl) (unhide hS0) ?_
    repeat (go_big_quiet_step (fail))
    refine wpQuiet_nil ?_
    intro _ hw'
    obtain ⟨x13, hw''⟩ := hw'
    subst hw''
    have B3 := hide ((unhide B2).trans (x13.ok.mono (unhide B2).size))
    go_wp2_with fail
    go_ret2
    exact ⟨rfl, unhide B3⟩
  · subst hk
    clear hn0
    go_enter Tryd.func48, Tryd.ntmps48
    go_wp2_with (first
      | (go_at_call 59; refine (unhide TR).mono ?_; rintro e w1 ⟨rfl, hb1⟩; have B1 := hide hb1; clear hb1)
      | (go_at_call 60; refine (unhide PU _).mono ?_; rintro e w2 ⟨rfl, hb2⟩; have B2 := hide ((unhide B1).trans (hb2.mono (unhide B1).size)); clear hb2))
    have hS0 := hide ((Below.refl w2.heap.size w2).drew)
    have hin : Nonempty (InClass (fun W => Below w2.heap.size w2 W)) := ⟨⟨_, Below.refl _ _⟩⟩
    refine wp_region_class (fun W => Below w2.heap.size w2 W) (by kernel_rfl) (by kernel_rfl) (unhide hS0) ?_
    repeat (go_big_quiet_step (fail))
    refine wpQuiet_nil ?_
    intro _ hw'
    obtain ⟨x13, hw''⟩ := hw'
    subst hw''
    have B3 := hide ((unhide B2).trans (x13.ok.mono (unhide B2).size))
    go_wp2_with fail
    go_ret2
    exact ⟨rfl, unhide B3⟩
end Go.Proofs.YtklffnfaigmjfaaDoor
