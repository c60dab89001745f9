/- The reference's digits and Format. -/
import Derived.Test.YtcebjipekodmpaaDoorMFmtPlain
namespace Go.Proofs.YtcebjipekodmpaaDoor
open Go.RowKit
set_option maxRecDepth 100000 in
set_option maxHeartbeats 1000000 in
theorem rdigits_any (w : World) (V : Nat) (hV : V < 10000000) (D : List UInt8) (hD : Lib.decDigits V = D) :
    Calls Tryd.prog 50 #[.int .i64 (V : Int)] w fun e w' => e = .returned (.string ⟨D.toArray⟩) ∧ w = w' := by
  have HD := hide hD
  clear hD
  go_enter Tryd.func50, Tryd.ntmps50
  go_wp2_with fail
  go_loop [0, 3] (fun x y => ∃ (v : Nat) (s : List UInt8), v < 10000000 ∧ x = .int .i64 v ∧ y = .string ⟨s.toArray⟩ ∧ Hid (Lib.decDigits v ++ s = D)) (fun x _ => (intOf x).toNat)
  case atStart => exact ⟨V, [], hV, rfl, rfl, hide (by rw [List.append_nil]; exact unhide HD)⟩
  case round =>
    obtain ⟨v, s, hv, rfl, rfl, hs⟩ := hrel
    have hsl : s.length ≤ 7 := by
      have h1 := congrArg List.length (unhide hs)
      have h2 := congrArg List.length (unhide HD)
      have h3 := dd_len 6 V (by omega)
      rw [List.length_append] at h1
      omega
    have hm0 : (v : Int) % 10 = ((v % 10 : Nat) : Int) := by omega
    have sl : ∀ wx : World, (Instr.slice 9 (.string ⟨#[48, 49, 50, 51, 52, 53, 54, 55, 56, 57]⟩) (some (.int .i64 ((v : Int) % 10))) (some (.int .i64 ((v : Int) % 10 + 1))) none).run Tryd.prog wx = .ok (.string ⟨[UInt8.ofNat (48 + v % 10)].toArray⟩) wx := by
      intro wx
      have := run_slice_string (P := Tryd.prog) wx 9 ⟨#[48, 49, 50, 51, 52, 53, 54, 55, 56, 57]⟩ .i64 .i64 ((v : Int) % 10) ((v : Int) % 10 + 1) Tryd.underlying9 (by omega) (by omega) (by
        have : (⟨#[48, 49, 50, 51, 52, 53, 54, 55, 56, 57]⟩ : ByteArray).size = 10 := rfl
        omega)
      rw [this, ← one_digit (v % 10) (by omega)]
      congr 3
    have hbig : ¬ v < 10 → Lib.decDigits (v / 10) ++ UInt8.ofNat (48 + v % 10) :: s = D := fun h => by
      rw [← unhide hs, dd_big v h, List.append_assoc]
      rfl
    have hsmall : v < 10 → UInt8.ofNat (48 + v % 10) :: s = D := fun h => by
      rw [← unhide hs, dd_small v h, Nat.mod_eq_of_lt h]
      rfl
    generalize UInt8.ofNat (48 + v % 10) = c at sl hbig hsmall
    have HB := hide hbig
    have HS := hide hsmall
    have SL := hide sl
    clear sl hm0 hbig hsmall
    have hz2 : ((⟨s.toArray⟩ : ByteArray)).size ≤ 7 := by simpa [ByteArray.size] using hsl
    by_cases h10 : v < 10
    · have hz : decide ((v : Int).tdiv 10 = 0) = true := by simp; omega
      go_wp2_with (rw [unhide SL])
      go_ret
      refine ⟨?_, rfl⟩
      rw [show (⟨#[c]⟩ : ByteArray) = ⟨[c].toArray⟩ from rfl, app2]
      rw [← unhide HS h10]
      rfl
    · have hz : decide ((v : Int).tdiv 10 = 0) = false := by simp; omega
      go_wp2_with (rw [unhide SL])
      go_round
      case rel =>
        refine ⟨v / 10, c :: s, by omega, by congr 1, ?_, hide (unhide HB h10)⟩
        rw [show (⟨#[c]⟩ : ByteArray) = ⟨[c].toArray⟩ from rfl, app2]
        rfl
      case measure => simp [intOf]; omega
theorem trimr_cons (c : UInt8) (l : List UInt8) : Lib.trimRightB (c :: l) 48 = if Lib.trimRightB l 48 = [] ∧ c = 48 then [] else c :: Lib.trimRightB l 48 := by
  unfold Lib.trimRightB
  rw [List.reverse_cons, List.dropWhile_append]
  rcases hd : l.reverse.dropWhile (· == 48) with _ | ⟨d, r⟩
  · by_cases hc : c = 48
    · subst hc
      simp
    · simp [hc]
  · simp
/-- What is left to write of the part behind the point. -/
def restR (p : Nat) : List UInt8 := Lib.trimRightB ((Lib.decDigits (1000000 + p)).drop 1) 48
theorem rest_zero : restR 0 = [] := by
  obtain ⟨P, hP, hPl, hPa, hPv⟩ := six_of 0 (by omega)
  have e : P = zerosL 6 := dec_inj P (zerosL 6) hPa (all_zeros 6) (by rw [hPl]; rfl) (by rw [hPv, decV_zeros])
  unfold restR
  rw [hP, List.drop_one, List.tail_cons, e]
  rfl
theorem rest_step (p : Nat) (hp : p < 1000000) (h0 : p ≠ 0) : restR p = UInt8.ofNat (48 + 10 * p / 1000000) :: restR (10 * p % 1000000) := by
  obtain ⟨P, hP, hPl, hPa, hPv⟩ := six_of p hp
  obtain ⟨Q, hQ, hQl, hQa, hQv⟩ := six_of (10 * p % 1000000) (by omega)
  rcases P with _ | ⟨c, P5⟩
  · simp at hPl
  · have hl5 : P5.length = 5 := by simpa using hPl
    simp only [List.all_cons, Bool.and_eq_true] at hPa
    have hb : 48 ≤ c.toNat ∧ c.toNat ≤ 57 := by simpa [isD] using hPa.1
    rw [decV_cons, decV_acc, hl5] at hPv
    have h5 := decV_lt P5 hPa.2
    rw [hl5] at h5
    have hd : 10 * p / 1000000 = c.toNat - 48 := by omega
    have hm : 10 * p % 1000000 = 10 * decV 0 P5 := by omega
    have hc : UInt8.ofNat (48 + 10 * p / 1000000) = c := by
      rw [hd, show 48 + (c.toNat - 48) = c.toNat by omega]
      simp
    have hQ5 : Q = P5 ++ zerosL 1 := by
      apply dec_inj
      · exact hQa
      · rw [List.all_append, hPa.2, all_zeros]; rfl
      · rw [hQl, List.length_append, hl5]; rfl
      · rw [hQv, hm, decV_app, decV_acc (zerosL 1), decV_zeros]
        have : (zerosL 1).length = 1 := rfl
        rw [this]
        omega
    unfold restR
    rw [hP, hQ, List.drop_one, List.tail_cons, List.drop_one, List.tail_cons, hQ5, trimr_app, trimr_cons, hc, if_neg]
    rintro ⟨e1, e2⟩
    obtain ⟨k, hk⟩ := trimr_split P5
    rw [e1, List.nil_append] at hk
    rw [hk, decV_zeros, e2] at hPv
    have e48 : (48 : UInt8).toNat = 48 := rfl
    omega
theorem fmtU_rest (n : Nat) : fmtU n = Lib.decDigits (n / 1000000) ++ (if n % 1000000 = 0 then [] else 46 :: restR (n % 1000000)) := rfl
end Go.Proofs.YtcebjipekodmpaaDoor
