/- The reference's digits and Format of an event return decDigits and fmtE (printed by wip/gen_erfmt.py). No condition. -/
import Derived.Test.YtklffnfaigmjfaaDoorEDec
import Derived.Test.YtklffnfaigmjfaaDoorEDistPlain
import Derived.Test.YtklffnfaigmjfaaDoorEValid
import Derived.Test.YtklffnfaigmjfaaDoorClass
import Derived.Test.YtklffnfaigmjfaaDoorEMake
import Derived.Test.YtklffnfaigmjfaaDoorERNum
import Derived.Deep.CutRange
namespace Go.Proofs.YtklffnfaigmjfaaDoor
open Go.RowKit
theorem app2s (a b : List UInt8) : (⟨a.toArray⟩ : ByteArray) ++ ⟨b.toArray⟩ = ⟨(a ++ b).toArray⟩ := by
  apply ByteArray.ext
  apply Array.ext'
  simp
theorem one_digit (n : Nat) (h : n < 10) : (⟨#[48, 49, 50, 51, 52, 53, 54, 55, 56, 57]⟩ : ByteArray).extract n (n + 1) = ⟨[UInt8.ofNat (48 + n)].toArray⟩ := by
  have : n = 0 ∨ n = 1 ∨ n = 2 ∨ n = 3 ∨ n = 4 ∨ n = 5 ∨ n = 6 ∨ n = 7 ∨ n = 8 ∨ n = 9 := by omega
  rcases this with rfl | rfl | rfl | rfl | rfl | rfl | rfl | rfl | rfl | rfl <;> rfl
theorem one_hex (n : Nat) (h : n < 16) : (⟨#[48, 49, 50, 51, 52, 53, 54, 55, 56, 57, 97, 98, 99, 100, 101, 102]⟩ : ByteArray).extract n (n + 1) = ⟨[hexB n].toArray⟩ := by
  have k : ∀ m : Fin 16, ((⟨#[48, 49, 50, 51, 52, 53, 54, 55, 56, 57, 97, 98, 99, 100, 101, 102]⟩ : ByteArray).extract m.val (m.val + 1)).data.toList = [hexB m.val] := by decide +kernel
  have := k ⟨n, h⟩
  apply ByteArray.ext
  apply Array.ext'
  exact this
set_option maxRecDepth 100000 in
set_option maxHeartbeats 1000000 in
theorem rdigits_any (w : World) (V : Nat) (hV : V < 4294967296) (D : List UInt8) (hD : Lib.decDigits V = D) :
    Calls Tryd.prog 45 #[.int .u64 (V : Int)] w fun e w' => e = .returned (.string ⟨D.toArray⟩) ∧ w = w' := by
  have HD := hide hD
  have h3 := dd_len 9 V (by omega)
  rw [hD] at h3
  clear hD
  go_enter Tryd.func45, Tryd.ntmps45
  go_wp2_with fail
  go_loop [0, 3] (fun x y => ∃ (v : Nat) (s : List UInt8), v < 4294967296 ∧ x = .int .u64 v ∧ y = .string ⟨s.toArray⟩ ∧ Hid (Lib.decDigits v ++ s = D)) (fun x _ => (intOf x).toNat)
  case atStart => exact ⟨V, [], hV, rfl, rfl, hide (by rw [List.append_nil]; exact unhide HD)⟩
  case round =>
    obtain ⟨v, s, hv, rfl, rfl, hs⟩ := hrel
    have hsl : s.length ≤ 10 := by
      have h1 := congrArg List.length (unhide hs)
      rw [List.length_append] at h1
      omega
    have hm0 : (v : Int) % 10 = ((v % 10 : Nat) : Int) := by omega
    have sl : ∀ wx : World, (Instr.slice 9 (.string ⟨#[48, 49, 50, 51, 52, 53, 54, 55, 56, 57]⟩) (some (.int .u64 ((v : Int) % 10))) (some (.int .u64 ((v : Int) % 10 + 1))) none).run Tryd.prog wx = .ok (.string ⟨[UInt8.ofNat (48 + v % 10)].toArray⟩) wx := by
      intro wx
      have := run_slice_string (P := Tryd.prog) wx 9 ⟨#[48, 49, 50, 51, 52, 53, 54, 55, 56, 57]⟩ .u64 .u64 ((v : Int) % 10) ((v : Int) % 10 + 1) Tryd.underlying9 (by omega) (by omega) (by
        have : (⟨#[48, 49, 50, 51, 52, 53, 54, 55, 56, 57]⟩ : ByteArray).size = 10 := rfl
        omega)
      rw [this, ← one_digit (v % 10) (by omega)]
      congr 3
    have hbig : ¬ v < 10 → Lib.decDigits (v / 10) ++ UInt8.ofNat (48 + v % 10) :: s = D := fun h => by
      rw [← unhide hs, dd_big v h, List.append_assoc]
      rfl
    have hsmall : v < 10 → UInt8.ofNat (48 + v % 10) :: s = D := fun h => by
      rw [← unhide hs, dd_small v h, Nat.mod_eq_of_lt h]
      rfl
    generalize UInt8.ofNat (48 + v % 10) = c at sl hbig hsmall
    have HB := hide hbig
    have HS := hide hsmall
    have SL := hide sl
    clear sl hm0 hbig hsmall
    have hz2 : ((⟨s.toArray⟩ : ByteArray)).size ≤ 10 := by simpa [ByteArray.size] using hsl
    by_cases h10 : v < 10
    · have hz : decide ((v : Int).tdiv 10 = 0) = true := by simp; omega
      go_wp2_with (rw [unhide SL])
      go_ret
      refine ⟨?_, rfl⟩
      rw [show (⟨#[c]⟩ : ByteArray) = ⟨[c].toArray⟩ from rfl, app2s]
      rw [← unhide HS h10]
      rfl
    · have hz : decide ((v : Int).tdiv 10 = 0) = false := by simp; omega
      go_wp2_with (rw [unhide SL])
      go_round
      case rel =>
        refine ⟨v / 10, c :: s, by omega, by congr 1, ?_, hide (unhide HB h10)⟩
        rw [show (⟨#[c]⟩ : ByteArray) = ⟨[c].toArray⟩ from rfl, app2s]
        rfl
      case measure => simp [intOf]; omega
theorem rfmt_bad_ev (w : World) (e : Ev) (hv : validE e = false) : Calls Tryd.prog 33 #[.agg e.c] w fun z w' => z = .returned (.tuple #[.string ⟨#[]⟩, .int .i64 1]) ∧ Below w.heap.size w w' := by
  have VX := hide fun W => rvalid_any W e false hv
  obtain ⟨eid, etm, egn, est, esn, ety, eds, ed0, ed1, ed2⟩ := e
  simp only [Ev.c] at VX ⊢
  have B0 := hide (((Below.refl w.heap.size w).alloc (Nat.le_refl _) (.cells #[.int .u16 eid, .int .u32 etm, .int .u16 egn, .int .u8 est, .int .u8 esn, .int .u8 ety, .bool eds, .int .u8 ed0, .int .u8 ed1, .int .u8 ed2] 26)).alloc (by simp) (.cells #[.int .u16 eid, .int .u32 etm, .int .u16 egn, .int .u8 est, .int .u8 esn, .int .u8 ety, .bool eds, .int .u8 ed0, .int .u8 ed1, .int .u8 ed2] 26))
  clear hv
  go_enter Tryd.func33, Tryd.ntmps33
  go_wp2_with fail
  refine (unhide VX _).mono ?_
  rintro z w1 ⟨rfl, rfl⟩
  go_wp2_with fail
  go_ret2
  exact ⟨rfl, unhide B0⟩
set_option maxRecDepth 100000 in
set_option maxHeartbeats 16000000 in
theorem rfmt_ok_nat (w : World) (x0 x1 x2 x3 x4 x5 y0 y1 y2 : Nat) (ds : Bool) (h0 : x0 < 65536) (h1 : x1 < 4294967296) (h2 : x2 < 65536) (h3 : x3 < 256) (h4 : x4 < 256) (h5 : x5 < 256) (k0 : y0 < 256) (k1 : y1 < 256) (k2 : y2 < 256)
    (hv : validE ⟨x0, x1, x2, x3, x4, x5, ds, y0, y1, y2⟩ = true) (t : List UInt8) (ht : fmtE ⟨x0, x1, x2, x3, x4, x5, ds, y0, y1, y2⟩ = t) :
    Calls Tryd.prog 33 #[.agg #[.int .u16 (x0 : Int), .int .u32 (x1 : Int), .int .u16 (x2 : Int), .int .u8 (x3 : Int), .int .u8 (x4 : Int), .int .u8 (x5 : Int), .bool ds, .int .u8 (y0 : Int), .int .u8 (y1 : Int), .int .u8 (y2 : Int)]] w fun z w' => z = .returned (.tuple #[.string ⟨t.toArray⟩, .int .i64 0]) ∧ Below w.heap.size w w' := by
  have VX := hide fun W => rvalid_any W ⟨x0, x1, x2, x3, x4, x5, ds, y0, y1, y2⟩ true hv
  simp only [Ev.c] at VX
  rw [fmtE_eq] at ht
  simp only [Int.toNat_natCast] at ht
  obtain ⟨P0, e0⟩ : ∃ l, Lib.decDigits x0 = l := ⟨_, rfl⟩
  have l0 : P0.length ≤ 10 := e0 ▸ dd_len 9 x0 (by omega)
  have G0 := hide fun W => rdigits_any W x0 (by omega) P0 e0
  obtain ⟨P1, e1⟩ : ∃ l, Lib.decDigits x1 = l := ⟨_, rfl⟩
  have l1 : P1.length ≤ 10 := e1 ▸ dd_len 9 x1 (by omega)
  have G1 := hide fun W => rdigits_any W x1 (by omega) P1 e1
  obtain ⟨P2, e2⟩ : ∃ l, Lib.decDigits x2 = l := ⟨_, rfl⟩
  have l2 : P2.length ≤ 10 := e2 ▸ dd_len 9 x2 (by omega)
  have G2 := hide fun W => rdigits_any W x2 (by omega) P2 e2
  obtain ⟨P3, e3⟩ : ∃ l, Lib.decDigits x3 = l := ⟨_, rfl⟩
  have l3 : P3.length ≤ 10 := e3 ▸ dd_len 9 x3 (by omega)
  have G3 := hide fun W => rdigits_any W x3 (by omega) P3 e3
  obtain ⟨P4, e4⟩ : ∃ l, Lib.decDigits x4 = l := ⟨_, rfl⟩
  have l4 : P4.length ≤ 10 := e4 ▸ dd_len 9 x4 (by omega)
  have G4 := hide fun W => rdigits_any W x4 (by omega) P4 e4
  obtain ⟨P5, e5⟩ : ∃ l, Lib.decDigits x5 = l := ⟨_, rfl⟩
  have l5 : P5.length ≤ 10 := e5 ▸ dd_len 9 x5 (by omega)
  have G5 := hide fun W => rdigits_any W x5 (by omega) P5 e5
  obtain ⟨wl, ew⟩ : ∃ l, wordL (x5 : Int) = l := ⟨_, rfl⟩
  have lw : wl.length ≤ 9 := ew ▸ wordL_len _
  have GW := hide fun W => rword_any W (x5 : Int) wl ew
  rw [e0, e1, e2, e3, e4, e5, ew] at ht
  obtain ⟨A1, a1⟩ : ∃ l, P0 ++ [32] = l := ⟨_, rfl⟩
  have m1 : A1.length ≤ 11 := by rw [← a1]; simp; omega
  have q1 : (⟨P0.toArray⟩ : ByteArray) ++ ⟨#[32]⟩ = ⟨A1.toArray⟩ := by rw [show (⟨#[32]⟩ : ByteArray) = ⟨[32].toArray⟩ from rfl, app2s, a1]
  have t1 : P0.length ≤ 9223372036854775806 := by omega
  obtain ⟨A2, a2⟩ : ∃ l, A1 ++ P1 = l := ⟨_, rfl⟩
  have m2 : A2.length ≤ 21 := by rw [← a2]; simp; omega
  have q2 : (⟨A1.toArray⟩ : ByteArray) ++ ⟨P1.toArray⟩ = ⟨A2.toArray⟩ := by rw [app2s, a2]
  have t2 : A1.length + P1.length ≤ 9223372036854775807 := by omega
  obtain ⟨A3, a3⟩ : ∃ l, A2 ++ [32] = l := ⟨_, rfl⟩
  have m3 : A3.length ≤ 22 := by rw [← a3]; simp; omega
  have q3 : (⟨A2.toArray⟩ : ByteArray) ++ ⟨#[32]⟩ = ⟨A3.toArray⟩ := by rw [show (⟨#[32]⟩ : ByteArray) = ⟨[32].toArray⟩ from rfl, app2s, a3]
  have t3 : A2.length ≤ 9223372036854775806 := by omega
  obtain ⟨A4, a4⟩ : ∃ l, A3 ++ P2 = l := ⟨_, rfl⟩
  have m4 : A4.length ≤ 32 := by rw [← a4]; simp; omega
  have q4 : (⟨A3.toArray⟩ : ByteArray) ++ ⟨P2.toArray⟩ = ⟨A4.toArray⟩ := by rw [app2s, a4]
  have t4 : A3.length + P2.length ≤ 9223372036854775807 := by omega
  obtain ⟨A5, a5⟩ : ∃ l, A4 ++ [32] = l := ⟨_, rfl⟩
  have m5 : A5.length ≤ 33 := by rw [← a5]; simp; omega
  have q5 : (⟨A4.toArray⟩ : ByteArray) ++ ⟨#[32]⟩ = ⟨A5.toArray⟩ := by rw [show (⟨#[32]⟩ : ByteArray) = ⟨[32].toArray⟩ from rfl, app2s, a5]
  have t5 : A4.length ≤ 9223372036854775806 := by omega
  obtain ⟨A6, a6⟩ : ∃ l, A5 ++ P3 = l := ⟨_, rfl⟩
  have m6 : A6.length ≤ 43 := by rw [← a6]; simp; omega
  have q6 : (⟨A5.toArray⟩ : ByteArray) ++ ⟨P3.toArray⟩ = ⟨A6.toArray⟩ := by rw [app2s, a6]
  have t6 : A5.length + P3.length ≤ 9223372036854775807 := by omega
  obtain ⟨A7, a7⟩ : ∃ l, A6 ++ [32] = l := ⟨_, rfl⟩
  have m7 : A7.length ≤ 44 := by rw [← a7]; simp; omega
  have q7 : (⟨A6.toArray⟩ : ByteArray) ++ ⟨#[32]⟩ = ⟨A7.toArray⟩ := by rw [show (⟨#[32]⟩ : ByteArray) = ⟨[32].toArray⟩ from rfl, app2s, a7]
  have t7 : A6.length ≤ 9223372036854775806 := by omega
  obtain ⟨A8, a8⟩ : ∃ l, A7 ++ P4 = l := ⟨_, rfl⟩
  have m8 : A8.length ≤ 54 := by rw [← a8]; simp; omega
  have q8 : (⟨A7.toArray⟩ : ByteArray) ++ ⟨P4.toArray⟩ = ⟨A8.toArray⟩ := by rw [app2s, a8]
  have t8 : A7.length + P4.length ≤ 9223372036854775807 := by omega
  obtain ⟨A9, a9⟩ : ∃ l, A8 ++ [32] = l := ⟨_, rfl⟩
  have m9 : A9.length ≤ 55 := by rw [← a9]; simp; omega
  have q9 : (⟨A8.toArray⟩ : ByteArray) ++ ⟨#[32]⟩ = ⟨A9.toArray⟩ := by rw [show (⟨#[32]⟩ : ByteArray) = ⟨[32].toArray⟩ from rfl, app2s, a9]
  have t9 : A8.length ≤ 9223372036854775806 := by omega
  obtain ⟨A10, a10⟩ : ∃ l, A9 ++ P5 = l := ⟨_, rfl⟩
  have m10 : A10.length ≤ 65 := by rw [← a10]; simp; omega
  have q10 : (⟨A9.toArray⟩ : ByteArray) ++ ⟨P5.toArray⟩ = ⟨A10.toArray⟩ := by rw [app2s, a10]
  have t10 : A9.length + P5.length ≤ 9223372036854775807 := by omega
  have ht2 : A10 ++ (32 :: (signL ds ++ 32 :: (dataL y0 y1 y2 ++ 32 :: wl))) = t := by
    rw [← ht, ← a10, ← a9, ← a8, ← a7, ← a6, ← a5, ← a4, ← a3, ← a2, ← a1]
    simp
  have HT := hide ht2
  obtain ⟨r, hr⟩ : ∃ r, w.heap.size = r := ⟨_, rfl⟩
  obtain ⟨W2, hW2⟩ : ∃ W2, (w.alloc (.cells #[.int .u16 (x0 : Int), .int .u32 (x1 : Int), .int .u16 (x2 : Int), .int .u8 (x3 : Int), .int .u8 (x4 : Int), .int .u8 (x5 : Int), .bool ds, .int .u8 (y0 : Int), .int .u8 (y1 : Int), .int .u8 (y2 : Int)] 26)).alloc (.cells #[.int .u16 (x0 : Int), .int .u32 (x1 : Int), .int .u16 (x2 : Int), .int .u8 (x3 : Int), .int .u8 (x4 : Int), .int .u8 (x5 : Int), .bool ds, .int .u8 (y0 : Int), .int .u8 (y1 : Int), .int .u8 (y2 : Int)] 26) = W2 := ⟨_, rfl⟩
  have X2 : Hid (Blk W2 r 26 #[.int .u16 (x0 : Int), .int .u32 (x1 : Int), .int .u16 (x2 : Int), .int .u8 (x3 : Int), .int .u8 (x4 : Int), .int .u8 (x5 : Int), .bool ds, .int .u8 (y0 : Int), .int .u8 (y1 : Int), .int .u8 (y2 : Int)]) := hide (hr ▸ hW2 ▸ (Blk.new w _ _).alloc _)
  have B2 : Hid (Below r w W2) := hide (hr ▸ hW2 ▸ ((Below.refl w.heap.size w).alloc (Nat.le_refl _) _).alloc (by simp) _)
  have HW2 := hide hW2
  have HR := hide hr
  clear hv ht ht2 e0 e1 e2 e3 e4 e5 ew hW2 hr a1 a2 a3 a4 a5 a6 a7 a8 a9 a10
  go_enter Tryd.func33, Tryd.ntmps33
  go_wp2_with fail
  refine (unhide VX _).mono ?_
  rintro z w1 ⟨rfl, rfl⟩
  go_upto_region 3 with fail
  rw [unhide HW2]
  simp only [unhide HR]
  have hin : Nonempty (InClass (fun W => Below W2.heap.size W2 W)) := ⟨⟨_, Below.refl _ _⟩⟩
  have K0 : Hid (∀ x' : InClass (fun W => Below W2.heap.size W2 W), Calls Tryd.prog 45 #[.int .u64 (x0 : Int)] x'.val fun e w'' => e = .returned (.string ⟨P0.toArray⟩) ∧ ∃ y' : InClass (fun W => Below W2.heap.size W2 W), w'' = y'.val) := hide fun x' => (unhide G0 x'.val).mono fun e w'' h => ⟨h.1, x', h.2.symm⟩
  have K1 : Hid (∀ x' : InClass (fun W => Below W2.heap.size W2 W), Calls Tryd.prog 45 #[.int .u64 (x1 : Int)] x'.val fun e w'' => e = .returned (.string ⟨P1.toArray⟩) ∧ ∃ y' : InClass (fun W => Below W2.heap.size W2 W), w'' = y'.val) := hide fun x' => (unhide G1 x'.val).mono fun e w'' h => ⟨h.1, x', h.2.symm⟩
  have K2 : Hid (∀ x' : InClass (fun W => Below W2.heap.size W2 W), Calls Tryd.prog 45 #[.int .u64 (x2 : Int)] x'.val fun e w'' => e = .returned (.string ⟨P2.toArray⟩) ∧ ∃ y' : InClass (fun W => Below W2.heap.size W2 W), w'' = y'.val) := hide fun x' => (unhide G2 x'.val).mono fun e w'' h => ⟨h.1, x', h.2.symm⟩
  have K3 : Hid (∀ x' : InClass (fun W => Below W2.heap.size W2 W), Calls Tryd.prog 45 #[.int .u64 (x3 : Int)] x'.val fun e w'' => e = .returned (.string ⟨P3.toArray⟩) ∧ ∃ y' : InClass (fun W => Below W2.heap.size W2 W), w'' = y'.val) := hide fun x' => (unhide G3 x'.val).mono fun e w'' h => ⟨h.1, x', h.2.symm⟩
  have K4 : Hid (∀ x' : InClass (fun W => Below W2.heap.size W2 W), Calls Tryd.prog 45 #[.int .u64 (x4 : Int)] x'.val fun e w'' => e = .returned (.string ⟨P4.toArray⟩) ∧ ∃ y' : InClass (fun W => Below W2.heap.size W2 W), w'' = y'.val) := hide fun x' => (unhide G4 x'.val).mono fun e w'' h => ⟨h.1, x', h.2.symm⟩
  have K5 : Hid (∀ x' : InClass (fun W => Below W2.heap.size W2 W), Calls Tryd.prog 45 #[.int .u64 (x5 : Int)] x'.val fun e w'' => e = .returned (.string ⟨P5.toArray⟩) ∧ ∃ y' : InClass (fun W => Below W2.heap.size W2 W), w'' = y'.val) := hide fun x' => (unhide G5 x'.val).mono fun e w'' h => ⟨h.1, x', h.2.symm⟩
  have C0 : Hid (∀ x' : InClass (fun W => Below W2.heap.size W2 W), x'.val.cell? ⟨r, 0, none⟩ = some (.int .u16 (x0 : Int))) := hide fun x' => ((unhide X2).below x'.ok (unhide X2).lt).cell 0
  have C1 : Hid (∀ x' : InClass (fun W => Below W2.heap.size W2 W), x'.val.cell? ⟨r, 1, none⟩ = some (.int .u32 (x1 : Int))) := hide fun x' => ((unhide X2).below x'.ok (unhide X2).lt).cell 1
  have C2 : Hid (∀ x' : InClass (fun W => Below W2.heap.size W2 W), x'.val.cell? ⟨r, 2, none⟩ = some (.int .u16 (x2 : Int))) := hide fun x' => ((unhide X2).below x'.ok (unhide X2).lt).cell 2
  have C3 : Hid (∀ x' : InClass (fun W => Below W2.heap.size W2 W), x'.val.cell? ⟨r, 3, none⟩ = some (.int .u8 (x3 : Int))) := hide fun x' => ((unhide X2).below x'.ok (unhide X2).lt).cell 3
  have C4 : Hid (∀ x' : InClass (fun W => Below W2.heap.size W2 W), x'.val.cell? ⟨r, 4, none⟩ = some (.int .u8 (x4 : Int))) := hide fun x' => ((unhide X2).below x'.ok (unhide X2).lt).cell 4
  have C5 : Hid (∀ x' : InClass (fun W => Below W2.heap.size W2 W), x'.val.cell? ⟨r, 5, none⟩ = some (.int .u8 (x5 : Int))) := hide fun x' => ((unhide X2).below x'.ok (unhide X2).lt).cell 5
  have hS0 := hide ((Below.refl W2.heap.size W2).drew)
  refine wp_region_class (fun W => Below W2.heap.size W2 W) (by kernel_rfl) (by kernel_rfl) (unhide hS0) ?_
  have c0 := unhide C0
  have c1 := unhide C1
  have c2 := unhide C2
  have c3 := unhide C3
  have c4 := unhide C4
  have c5 := unhide C5
  iterate 5 (go_big_quiet_step ((go_at_call 45; exact (unhide K0) _)))
  iterate 6 (go_big_quiet_step ((go_at_call 45; exact (unhide K1) _)))
  iterate 6 (go_big_quiet_step ((go_at_call 45; exact (unhide K2) _)))
  iterate 6 (go_big_quiet_step ((go_at_call 45; exact (unhide K3) _)))
  iterate 6 (go_big_quiet_step ((go_at_call 45; exact (unhide K4) _)))
  repeat (go_big_quiet_step ((go_at_call 45; exact (unhide K5) _)))
  refine wpQuiet_nil ?_
  intro _ hw'
  obtain ⟨x13, hw''⟩ := hw'
  subst hw''
  have X3 := hide ((unhide X2).below x13.ok (unhide X2).lt)
  have B3 := hide ((unhide B2).trans (x13.ok.mono (by have h1 := (unhide B2).size; have h2 := unhide HR; omega)))
  clear c0 c1 c2 c3 c4 c5 C0 C1 C2 C3 C4 C5 K0 K1 K2 K3 K4 K5 q1 q2 q3 q4 q5 q6 q7 q8 q9 q10 t1 t2 t3 t4 t5 t6 t7 t8 t9 t10 m1 m2 m3 m4 m5 m6 m7 m8 m9
  obtain ⟨W3, hW3⟩ : ∃ W9, x13.val = W9 := ⟨_, rfl⟩
  rw [hW3] at X3 B3 ⊢
  clear hW3 hin hS0
  have c6 : W3.cell? ⟨r, 6, none⟩ = some (.bool ds) := (unhide X3).cell 6
  have hrl : r < W3.heap.size := (unhide X3).lt
  obtain ⟨A11, a11⟩ : ∃ l, A10 ++ 32 :: (signL ds ++ [32]) = l := ⟨_, rfl⟩
  have m11 : A11.length ≤ 80 := by rw [← a11]; cases ds <;> simp [signL] <;> omega
  have q11 : (⟨A10.toArray⟩ : ByteArray) ++ (if ds = true then ⟨#[32, 45, 32]⟩ else ⟨#[32, 43, 32]⟩) = ⟨A11.toArray⟩ := by
    rw [← a11]
    cases ds
    · rw [if_neg (by simp), show (⟨#[32, 43, 32]⟩ : ByteArray) = ⟨[32, 43, 32].toArray⟩ from rfl, app2s]; rfl
    · rw [if_pos rfl, show (⟨#[32, 45, 32]⟩ : ByteArray) = ⟨[32, 45, 32].toArray⟩ from rfl, app2s]; rfl
  have t11 : A10.length ≤ 9223372036854775804 := by omega
  have HA11 := hide a11
  clear a11
  go_upto_if 46 with fail
  go_cut [4] from 45 to 50 (fun s wx => s = .string ⟨A11.toArray⟩ ∧ wx = W3)
  case first =>
    cases ds
    · rw [if_neg (by simp)] at q11
      go_wp2_with fail
      go_meet
      exact ⟨rfl, rfl⟩
    · rw [if_pos rfl] at q11
      go_wp2_with fail
      go_meet
      exact ⟨rfl, rfl⟩
  case rest =>
    obtain ⟨rfl, rfl⟩ := hcut
    clear q11 t11 c6 hrl
    have BW := hide (Below.refl wc.heap.size wc)
    go_wp2_with fail
    go_loopw [4, 5] (fun s i wr => ∃ k : Nat, k ≤ 3 ∧ i = .int .i64 k ∧ s = .string ⟨(A11 ++ (dataL y0 y1 y2).take (2 * k)).toArray⟩ ∧ Below wc.heap.size wc wr) (fun _ i _ => 3 - (intOf i).toNat)
    case atStart => exact ⟨0, by omega, rfl, by simp, unhide BW⟩
    case round =>
      obtain ⟨k, hk, rfl, rfl, hB⟩ := hrel
      have BB := hide hB
      have X4 := (unhide X3).below hB (unhide X3).lt
      have hrl : r < wr.heap.size := X4.lt
      clear hB
      rcases (show k = 0 ∨ k = 1 ∨ k = 2 ∨ k = 3 by omega) with rfl | rfl | rfl | rfl
      · obtain ⟨h, eh⟩ : ∃ h, y0 / 16 = h := ⟨_, rfl⟩
        obtain ⟨m, em⟩ : ∃ m, y0 % 16 = m := ⟨_, rfl⟩
        have lh : h < 16 := by omega
        have lm : m < 16 := by omega
        have ed : ((y0 : Nat) : Int).tdiv 16 = (h : Int) := by rw [Int.tdiv_eq_ediv_of_nonneg (by omega)]; omega
        have er : ((y0 : Nat) : Int).tmod 16 = (m : Int) := by rw [Int.tmod_eq_emod_of_nonneg (by omega)]; omega
        have ed2 : ((y0 : Nat) : Int) / 16 = (h : Int) := by omega
        have er2 : ((y0 : Nat) : Int) % 16 = (m : Int) := by omega
        have slh : ∀ wx : World, (Instr.slice 9 (.string ⟨#[48, 49, 50, 51, 52, 53, 54, 55, 56, 57, 97, 98, 99, 100, 101, 102]⟩) (some (.int .u8 (h : Int))) (some (.int .u8 ((h : Int) + 1))) none).run Tryd.prog wx = .ok (.string ⟨[hexB h].toArray⟩) wx := fun wx => by
          have := run_slice_string (P := Tryd.prog) wx 9 ⟨#[48, 49, 50, 51, 52, 53, 54, 55, 56, 57, 97, 98, 99, 100, 101, 102]⟩ .u8 .u8 (h : Int) ((h : Int) + 1) Tryd.underlying9 (by omega) (by omega) (by
            have : (⟨#[48, 49, 50, 51, 52, 53, 54, 55, 56, 57, 97, 98, 99, 100, 101, 102]⟩ : ByteArray).size = 16 := rfl
            omega)
          rw [this, ← one_hex h lh]
          congr 3
        have slm : ∀ wx : World, (Instr.slice 9 (.string ⟨#[48, 49, 50, 51, 52, 53, 54, 55, 56, 57, 97, 98, 99, 100, 101, 102]⟩) (some (.int .u8 (m : Int))) (some (.int .u8 ((m : Int) + 1))) none).run Tryd.prog wx = .ok (.string ⟨[hexB m].toArray⟩) wx := fun wx => by
          have := run_slice_string (P := Tryd.prog) wx 9 ⟨#[48, 49, 50, 51, 52, 53, 54, 55, 56, 57, 97, 98, 99, 100, 101, 102]⟩ .u8 .u8 (m : Int) ((m : Int) + 1) Tryd.underlying9 (by omega) (by omega) (by
            have : (⟨#[48, 49, 50, 51, 52, 53, 54, 55, 56, 57, 97, 98, 99, 100, 101, 102]⟩ : ByteArray).size = 16 := rfl
            omega)
          rw [this, ← one_hex m lm]
          congr 3
        obtain ⟨b1, eb1⟩ : ∃ b, hexB h = b := ⟨_, rfl⟩
        obtain ⟨b2, eb2⟩ : ∃ b, hexB m = b := ⟨_, rfl⟩
        rw [eb1] at slh
        rw [eb2] at slm
        obtain ⟨Q0, g0⟩ : ∃ l, A11 ++ (dataL y0 y1 y2).take (2 * 0) = l := ⟨_, rfl⟩
        obtain ⟨Q1, g1⟩ : ∃ l, Q0 ++ [b1] = l := ⟨_, rfl⟩
        obtain ⟨Q2, g2⟩ : ∃ l, Q1 ++ [b2] = l := ⟨_, rfl⟩
        have m0 : Q0.length ≤ 90 := by rw [← g0]; simp [dataL]; omega
        have m1 : Q1.length ≤ 91 := by rw [← g1]; simp; omega
        have hnext : Q2 = A11 ++ (dataL y0 y1 y2).take (2 * (0 + 1)) := by
          rw [← g2, ← g1, ← g0, ← eb1, ← eb2, ← eh, ← em, List.append_assoc, List.append_assoc]
          rfl
        have z1 : (⟨Q0.toArray⟩ : ByteArray) ++ ⟨#[b1]⟩ = ⟨Q1.toArray⟩ := by rw [show (⟨#[b1]⟩ : ByteArray) = ⟨[b1].toArray⟩ from rfl, app2s, g1]
        have z2 : (⟨Q1.toArray⟩ : ByteArray) ++ ⟨#[b2]⟩ = ⟨Q2.toArray⟩ := by rw [show (⟨#[b2]⟩ : ByteArray) = ⟨[b2].toArray⟩ from rfl, app2s, g2]
        have tz1 : Q0.length ≤ 9223372036854775806 := by omega
        have tz2 : Q1.length ≤ 9223372036854775806 := by omega
        have cy : wr.cell? ⟨r, 7, none⟩ = some (.int .u8 (y0 : Int)) := X4.cell 7
        have HN := hide hnext
        rw [g0]
        clear g0 g1 g2 eb1 eb2 eh em hnext X4 hk
        have hS0 := hide ((Below.refl wr.heap.size wr).drew)
        have hin : Nonempty (InClass (fun W => Below wr.heap.size wr W)) := ⟨⟨_, Below.refl _ _⟩⟩
        go_upto_region 12 with fail
        refine wp_region_class (fun W => Below wr.heap.size wr W) (by kernel_rfl) (by kernel_rfl) (unhide hS0) ?_
        repeat (go_big_quiet_step (fail))
        refine wpQuiet_nil ?_
        intro _ hw'
        obtain ⟨x13, hw''⟩ := hw'
        subst hw''
        have B5 := hide ((unhide BB).trans (x13.ok.mono (unhide BB).size))
        go_wp2_with fail
        go_roundw
        case rel => exact ⟨1, by omega, by go_num, by rw [← unhide HN], unhide B5⟩
        case measure => simp [intOf]
      · obtain ⟨h, eh⟩ : ∃ h, y1 / 16 = h := ⟨_, rfl⟩
        obtain ⟨m, em⟩ : ∃ m, y1 % 16 = m := ⟨_, rfl⟩
        have lh : h < 16 := by omega
        have lm : m < 16 := by omega
        have ed : ((y1 : Nat) : Int).tdiv 16 = (h : Int) := by rw [Int.tdiv_eq_ediv_of_nonneg (by omega)]; omega
        have er : ((y1 : Nat) : Int).tmod 16 = (m : Int) := by rw [Int.tmod_eq_emod_of_nonneg (by omega)]; omega
        have ed2 : ((y1 : Nat) : Int) / 16 = (h : Int) := by omega
        have er2 : ((y1 : Nat) : Int) % 16 = (m : Int) := by omega
        have slh : ∀ wx : World, (Instr.slice 9 (.string ⟨#[48, 49, 50, 51, 52, 53, 54, 55, 56, 57, 97, 98, 99, 100, 101, 102]⟩) (some (.int .u8 (h : Int))) (some (.int .u8 ((h : Int) + 1))) none).run Tryd.prog wx = .ok (.string ⟨[hexB h].toArray⟩) wx := fun wx => by
          have := run_slice_string (P := Tryd.prog) wx 9 ⟨#[48, 49, 50, 51, 52, 53, 54, 55, 56, 57, 97, 98, 99, 100, 101, 102]⟩ .u8 .u8 (h : Int) ((h : Int) + 1) Tryd.underlying9 (by omega) (by omega) (by
            have : (⟨#[48, 49, 50, 51, 52, 53, 54, 55, 56, 57, 97, 98, 99, 100, 101, 102]⟩ : ByteArray).size = 16 := rfl
            omega)
          rw [this, ← one_hex h lh]
          congr 3
        have slm : ∀ wx : World, (Instr.slice 9 (.string ⟨#[48, 49, 50, 51, 52, 53, 54, 55, 56, 57, 97, 98, 99, 100, 101, 102]⟩) (some (.int .u8 (m : Int))) (some (.int .u8 ((m : Int) + 1))) none).run Tryd.prog wx = .ok (.string ⟨[hexB m].toArray⟩) wx := fun wx => by
          have := run_slice_string (P := Tryd.prog) wx 9 ⟨#[48, 49, 50, 51, 52, 53, 54, 55, 56, 57, 97, 98, 99, 100, 101, 102]⟩ .u8 .u8 (m : Int) ((m : Int) + 1) Tryd.underlying9 (by omega) (by omega) (by
            have : (⟨#[48, 49, 50, 51, 52, 53, 54, 55, 56, 57, 97, 98, 99, 100, 101, 102]⟩ : ByteArray).size = 16 := rfl
            omega)
          rw [this, ← one_hex m lm]
          congr 3
        obtain ⟨b1, eb1⟩ : ∃ b, hexB h = b := ⟨_, rfl⟩
        obtain ⟨b2, eb2⟩ : ∃ b, hexB m = b := ⟨_, rfl⟩
        rw [eb1] at slh
        rw [eb2] at slm
        obtain ⟨Q0, g0⟩ : ∃ l, A11 ++ (dataL y0 y1 y2).take (2 * 1) = l := ⟨_, rfl⟩
        obtain ⟨Q1, g1⟩ : ∃ l, Q0 ++ [b1] = l := ⟨_, rfl⟩
        obtain ⟨Q2, g2⟩ : ∃ l, Q1 ++ [b2] = l := ⟨_, rfl⟩
        have m0 : Q0.length ≤ 90 := by rw [← g0]; simp [dataL]; omega
        have m1 : Q1.length ≤ 91 := by rw [← g1]; simp; omega
        have hnext : Q2 = A11 ++ (dataL y0 y1 y2).take (2 * (1 + 1)) := by
          rw [← g2, ← g1, ← g0, ← eb1, ← eb2, ← eh, ← em, List.append_assoc, List.append_assoc]
          rfl
        have z1 : (⟨Q0.toArray⟩ : ByteArray) ++ ⟨#[b1]⟩ = ⟨Q1.toArray⟩ := by rw [show (⟨#[b1]⟩ : ByteArray) = ⟨[b1].toArray⟩ from rfl, app2s, g1]
        have z2 : (⟨Q1.toArray⟩ : ByteArray) ++ ⟨#[b2]⟩ = ⟨Q2.toArray⟩ := by rw [show (⟨#[b2]⟩ : ByteArray) = ⟨[b2].toArray⟩ from rfl, app2s, g2]
        have tz1 : Q0.length ≤ 9223372036854775806 := by omega
        have tz2 : Q1.length ≤ 9223372036854775806 := by omega
        have cy : wr.cell? ⟨r, 8, none⟩ = some (.int .u8 (y1 : Int)) := X4.cell 8
        have HN := hide hnext
        rw [g0]
        clear g0 g1 g2 eb1 eb2 eh em hnext X4 hk
        have hS0 := hide ((Below.refl wr.heap.size wr).drew)
        have hin : Nonempty (InClass (fun W => Below wr.heap.size wr W)) := ⟨⟨_, Below.refl _ _⟩⟩
        go_upto_region 12 with fail
        refine wp_region_class (fun W => Below wr.heap.size wr W) (by kernel_rfl) (by kernel_rfl) (unhide hS0) ?_
        repeat (go_big_quiet_step (fail))
        refine wpQuiet_nil ?_
        intro _ hw'
        obtain ⟨x13, hw''⟩ := hw'
        subst hw''
        have B5 := hide ((unhide BB).trans (x13.ok.mono (unhide BB).size))
        go_wp2_with fail
        go_roundw
        case rel => exact ⟨2, by omega, by go_num, by rw [← unhide HN], unhide B5⟩
        case measure => simp [intOf]
      · obtain ⟨h, eh⟩ : ∃ h, y2 / 16 = h := ⟨_, rfl⟩
        obtain ⟨m, em⟩ : ∃ m, y2 % 16 = m := ⟨_, rfl⟩
        have lh : h < 16 := by omega
        have lm : m < 16 := by omega
        have ed : ((y2 : Nat) : Int).tdiv 16 = (h : Int) := by rw [Int.tdiv_eq_ediv_of_nonneg (by omega)]; omega
        have er : ((y2 : Nat) : Int).tmod 16 = (m : Int) := by rw [Int.tmod_eq_emod_of_nonneg (by omega)]; omega
        have ed2 : ((y2 : Nat) : Int) / 16 = (h : Int) := by omega
        have er2 : ((y2 : Nat) : Int) % 16 = (m : Int) := by omega
        have slh : ∀ wx : World, (Instr.slice 9 (.string ⟨#[48, 49, 50, 51, 52, 53, 54, 55, 56, 57, 97, 98, 99, 100, 101, 102]⟩) (some (.int .u8 (h : Int))) (some (.int .u8 ((h : Int) + 1))) none).run Tryd.prog wx = .ok (.string ⟨[hexB h].toArray⟩) wx := fun wx => by
          have := run_slice_string (P := Tryd.prog) wx 9 ⟨#[48, 49, 50, 51, 52, 53, 54, 55, 56, 57, 97, 98, 99, 100, 101, 102]⟩ .u8 .u8 (h : Int) ((h : Int) + 1) Tryd.underlying9 (by omega) (by omega) (by
            have : (⟨#[48, 49, 50, 51, 52, 53, 54, 55, 56, 57, 97, 98, 99, 100, 101, 102]⟩ : ByteArray).size = 16 := rfl
            omega)
          rw [this, ← one_hex h lh]
          congr 3
        have slm : ∀ wx : World, (Instr.slice 9 (.string ⟨#[48, 49, 50, 51, 52, 53, 54, 55, 56, 57, 97, 98, 99, 100, 101, 102]⟩) (some (.int .u8 (m : Int))) (some (.int .u8 ((m : Int) + 1))) none).run Tryd.prog wx = .ok (.string ⟨[hexB m].toArray⟩) wx := fun wx => by
          have := run_slice_string (P := Tryd.prog) wx 9 ⟨#[48, 49, 50, 51, 52, 53, 54, 55, 56, 57, 97, 98, 99, 100, 101, 102]⟩ .u8 .u8 (m : Int) ((m : Int) + 1) Tryd.underlying9 (by omega) (by omega) (by
            have : (⟨#[48, 49, 50, 51, 52, 53, 54, 55, 56, 57, 97, 98, 99, 100, 101, 102]⟩ : ByteArray).size = 16 := rfl
            omega)
          rw [this, ← one_hex m lm]
          congr 3
        obtain ⟨b1, eb1⟩ : ∃ b, hexB h = b := ⟨_, rfl⟩
        obtain ⟨b2, eb2⟩ : ∃ b, hexB m = b := ⟨_, rfl⟩
        rw [eb1] at slh
        rw [eb2] at slm
        obtain ⟨Q0, g0⟩ : ∃ l, A11 ++ (dataL y0 y1 y2).take (2 * 2) = l := ⟨_, rfl⟩
        obtain ⟨Q1, g1⟩ : ∃ l, Q0 ++ [b1] = l := ⟨_, rfl⟩
        obtain ⟨Q2, g2⟩ : ∃ l, Q1 ++ [b2] = l := ⟨_, rfl⟩
        have m0 : Q0.length ≤ 90 := by rw [← g0]; simp [dataL]; omega
        have m1 : Q1.length ≤ 91 := by rw [← g1]; simp; omega
        have hnext : Q2 = A11 ++ (dataL y0 y1 y2).take (2 * (2 + 1)) := by
          rw [← g2, ← g1, ← g0, ← eb1, ← eb2, ← eh, ← em, List.append_assoc, List.append_assoc]
          rfl
        have z1 : (⟨Q0.toArray⟩ : ByteArray) ++ ⟨#[b1]⟩ = ⟨Q1.toArray⟩ := by rw [show (⟨#[b1]⟩ : ByteArray) = ⟨[b1].toArray⟩ from rfl, app2s, g1]
        have z2 : (⟨Q1.toArray⟩ : ByteArray) ++ ⟨#[b2]⟩ = ⟨Q2.toArray⟩ := by rw [show (⟨#[b2]⟩ : ByteArray) = ⟨[b2].toArray⟩ from rfl, app2s, g2]
        have tz1 : Q0.length ≤ 9223372036854775806 := by omega
        have tz2 : Q1.length ≤ 9223372036854775806 := by omega
        have cy : wr.cell? ⟨r, 9, none⟩ = some (.int .u8 (y2 : Int)) := X4.cell 9
        have HN := hide hnext
        rw [g0]
        clear g0 g1 g2 eb1 eb2 eh em hnext X4 hk
        have hS0 := hide ((Below.refl wr.heap.size wr).drew)
        have hin : Nonempty (InClass (fun W => Below wr.heap.size wr W)) := ⟨⟨_, Below.refl _ _⟩⟩
        go_upto_region 12 with fail
        refine wp_region_class (fun W => Below wr.heap.size wr W) (by kernel_rfl) (by kernel_rfl) (unhide hS0) ?_
        repeat (go_big_quiet_step (fail))
        refine wpQuiet_nil ?_
        intro _ hw'
        obtain ⟨x13, hw''⟩ := hw'
        subst hw''
        have B5 := hide ((unhide BB).trans (x13.ok.mono (unhide BB).size))
        go_wp2_with fail
        go_roundw
        case rel => exact ⟨3, by omega, by go_num, by rw [← unhide HN], unhide B5⟩
        case measure => simp [intOf]
      · have eF : A11 ++ (dataL y0 y1 y2).take (2 * 3) = A11 ++ dataL y0 y1 y2 := by rfl
        rw [eF]
        obtain ⟨A12, a12⟩ : ∃ l, A11 ++ dataL y0 y1 y2 = l := ⟨_, rfl⟩
        have m12 : A12.length ≤ 90 := by rw [← a12]; simp [dataL]; omega
        obtain ⟨A13, a13⟩ : ∃ l, A12 ++ [32] = l := ⟨_, rfl⟩
        have m13 : A13.length ≤ 91 := by rw [← a13]; simp; omega
        have q13 : (⟨A12.toArray⟩ : ByteArray) ++ ⟨#[32]⟩ = ⟨A13.toArray⟩ := by rw [show (⟨#[32]⟩ : ByteArray) = ⟨[32].toArray⟩ from rfl, app2s, a13]
        have hfin : A13 ++ wl = t := by
          rw [← unhide HT, ← a13, ← a12, ← unhide HA11]
          simp
        have q14 : (⟨A13.toArray⟩ : ByteArray) ++ ⟨wl.toArray⟩ = ⟨t.toArray⟩ := by rw [app2s, hfin]
        have t13 : A12.length ≤ 9223372036854775806 := by omega
        have t14 : A13.length + wl.length ≤ 9223372036854775807 := by omega
        have c5 : wr.cell? ⟨r, 5, none⟩ = some (.int .u8 (x5 : Int)) := X4.cell 5
        rw [a12]
        have B9 := hide ((unhide B3).trans ((unhide BB).mono (by have h1 := (unhide B3).size; have h2 := unhide HR; omega)))
        clear a12 a13 hfin X4 eF hk
        go_wp2_with (go_at_call 46; refine (unhide GW _).mono ?_; rintro z w9 ⟨rfl, rfl⟩)
        go_ret2
        exact ⟨rfl, by rw [unhide HR]; exact unhide B9⟩
theorem rformat_ev (w : World) (e : Ev) (he : e.In) (t : List UInt8) (g : Int) (h : (if validE e = true then (fmtE e, (0 : Int)) else ([], 1)) = (t, g)) : Calls Tryd.prog 33 #[.agg e.c] w fun z w' => z = .returned (.tuple #[.string ⟨t.toArray⟩, .int .i64 g]) ∧ Below w.heap.size w w' := by
  by_cases hv : validE e = true
  · rw [if_pos hv] at h
    injection h with h1 h2
    subst h1 h2
    have a0 := he.id0; have a1 := he.id1; have a2 := he.tm0; have a3 := he.tm1; have a4 := he.gn0; have a5 := he.gn1
    have a6 := he.st0; have a7 := he.st1; have a8 := he.sn0; have a9 := he.sn1; have a10 := he.ty0; have a11 := he.ty1
    have b0 := he.d00; have b1 := he.d01; have b2 := he.d10; have b3 := he.d11; have b4 := he.d20; have b5 := he.d21
    clear he
    obtain ⟨id, tm, gn, st, sn, ty, ds, d0, d1, d2⟩ := e
    dsimp only at a0 a1 a2 a3 a4 a5 a6 a7 a8 a9 a10 a11 b0 b1 b2 b3 b4 b5
    obtain ⟨id, rfl⟩ := Int.eq_ofNat_of_zero_le a0
    obtain ⟨tm, rfl⟩ := Int.eq_ofNat_of_zero_le a2
    obtain ⟨gn, rfl⟩ := Int.eq_ofNat_of_zero_le a4
    obtain ⟨st, rfl⟩ := Int.eq_ofNat_of_zero_le a6
    obtain ⟨sn, rfl⟩ := Int.eq_ofNat_of_zero_le a8
    obtain ⟨ty, rfl⟩ := Int.eq_ofNat_of_zero_le a10
    obtain ⟨d0, rfl⟩ := Int.eq_ofNat_of_zero_le b0
    obtain ⟨d1, rfl⟩ := Int.eq_ofNat_of_zero_le b2
    obtain ⟨d2, rfl⟩ := Int.eq_ofNat_of_zero_le b4
    exact rfmt_ok_nat w id tm gn st sn ty d0 d1 d2 ds (by omega) (by omega) (by omega) (by omega) (by omega) (by omega) (by omega) (by omega) (by omega) hv _ rfl
  · have hv' : validE e = false := by simpa using hv
    rw [if_neg hv] at h
    injection h with h1 h2
    subst h1 h2
    exact rfmt_bad_ev w e hv'
end Go.Proofs.YtklffnfaigmjfaaDoor
