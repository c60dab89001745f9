/- The law EventRefuses, walked: it returns true (printed by wip/gen_erefuses.py). -/
import Derived.Test.YtklffnfaigmjfaaDoorEAwake
import Derived.Test.YtklffnfaigmjfaaDoorEEq
namespace Go.Proofs.YtklffnfaigmjfaaDoor
open Go.RowKit
set_option maxRecDepth 100000 in
set_option maxHeartbeats 4000000 in
theorem refuses_low (w : World) (hO : OffAt w) (hP : Pow10At w) (nb i : Int) (h : i < 0) :
    Calls Tryd.prog 5 #[.int .u8 nb, .int .i64 i] w fun e w' => e = .returned (.bool true) ∧ Below w.heap.size w w' := by
  have d0 : decide (0 ≤ i) = false := by first | (simp; done) | (simp; omega)
  have HO := hide hO
  have heq3 := eq3
  have HP := hide hP
  clear hO hP
  go_enter Tryd.func5, Tryd.ntmps5
  go_wp2_with fail
  refine (thr_low _ 1 nb i true 0 0 h).mono ?_
  rintro e w1 ⟨rfl, hb1⟩
  rw [show zeroEv.c = #[.int .u16 0, .int .u32 0, .int .u16 0, .int .u8 0, .int .u8 0, .int .u8 0, .bool false, .int .u8 0, .int .u8 0, .int .u8 0] from rfl]
  have B1 := hide (hb1.alloc hb1.size (.cells #[.int .u16 0, .int .u32 0, .int .u16 0, .int .u8 0, .int .u8 0, .int .u8 0, .bool false, .int .u8 0, .int .u8 0, .int .u8 0] 26))
  have K1 : Hid (Blk (w1.alloc (.cells #[.int .u16 0, .int .u32 0, .int .u16 0, .int .u8 0, .int .u8 0, .int .u8 0, .bool false, .int .u8 0, .int .u8 0, .int .u8 0] 26)) w1.heap.size 26 #[.int .u16 0, .int .u32 0, .int .u16 0, .int .u8 0, .int .u8 0, .int .u8 0, .bool false, .int .u8 0, .int .u8 0, .int .u8 0]) := hide (Blk.new w1 _ _)
  clear hb1
  go_wp2_with fail
  refine (sta_low _ 1 nb i true h).mono ?_
  rintro e w2 ⟨rfl, hb2⟩
  rw [show zeroEv.c = #[.int .u16 0, .int .u32 0, .int .u16 0, .int .u8 0, .int .u8 0, .int .u8 0, .bool false, .int .u8 0, .int .u8 0, .int .u8 0] from rfl]
  have B2 := hide ((((unhide B1).trans (hb2.mono (unhide B1).size)).alloc (((unhide B1).trans (hb2.mono (unhide B1).size)).size) (.cells #[.int .u16 0, .int .u32 0, .int .u16 0, .int .u8 0, .int .u8 0, .int .u8 0, .bool false, .int .u8 0, .int .u8 0, .int .u8 0] 26)).alloc (by have := ((unhide B1).trans (hb2.mono (unhide B1).size)).size; rw [size_alloc]; omega) (.cells #[.int .u16 0, .int .u32 0, .int .u16 0, .int .u8 0, .int .u8 0, .int .u8 0, .bool false, .int .u8 0, .int .u8 0, .int .u8 0] 26))
  have K2 := hide ((unhide K1).below hb2 (unhide K1).lt)
  clear hb2
  obtain ⟨c0, c1, c2, c3, c4, c5, c6, c7, c8, c9, hlt2⟩ := blk10 (unhide K2)
  go_wp2_with (go_at_call 19; refine (awake_any _ ((unhide HO).below (unhide B2)) ((unhide HP).below (unhide B2))).mono ?_
               rintro e w3 ⟨rfl, hb3⟩
               have B3 := hide ((unhide B2).trans (hb3.mono (unhide B2).size))
               clear hb3)
  go_ret
  exact ⟨rfl, unhide B3⟩
set_option maxRecDepth 100000 in
set_option maxHeartbeats 4000000 in
theorem refuses_high (w : World) (hO : OffAt w) (hP : Pow10At w) (nb i : Int) (h : 14 < i) :
    Calls Tryd.prog 5 #[.int .u8 nb, .int .i64 i] w fun e w' => e = .returned (.bool true) ∧ Below w.heap.size w w' := by
  have d0 : decide (0 ≤ i) = true := by first | (simp; done) | (simp; omega)
  have d5 : decide (i ≤ 5) = false := by first | (simp; done) | (simp; omega)
  have d14 : decide (i ≤ 14) = false := by first | (simp; done) | (simp; omega)
  have HO := hide hO
  have heq3 := eq3
  have HP := hide hP
  clear hO hP
  go_enter Tryd.func5, Tryd.ntmps5
  go_wp2_with fail
  refine (thr_high _ 1 nb i true 0 0 (by omega)).mono ?_
  rintro e w1 ⟨rfl, hb1⟩
  rw [show zeroEv.c = #[.int .u16 0, .int .u32 0, .int .u16 0, .int .u8 0, .int .u8 0, .int .u8 0, .bool false, .int .u8 0, .int .u8 0, .int .u8 0] from rfl]
  have B1 := hide (hb1.alloc hb1.size (.cells #[.int .u16 0, .int .u32 0, .int .u16 0, .int .u8 0, .int .u8 0, .int .u8 0, .bool false, .int .u8 0, .int .u8 0, .int .u8 0] 26))
  have K1 : Hid (Blk (w1.alloc (.cells #[.int .u16 0, .int .u32 0, .int .u16 0, .int .u8 0, .int .u8 0, .int .u8 0, .bool false, .int .u8 0, .int .u8 0, .int .u8 0] 26)) w1.heap.size 26 #[.int .u16 0, .int .u32 0, .int .u16 0, .int .u8 0, .int .u8 0, .int .u8 0, .bool false, .int .u8 0, .int .u8 0, .int .u8 0]) := hide (Blk.new w1 _ _)
  clear hb1
  go_wp2_with fail
  refine (sta_high _ 1 nb i true h).mono ?_
  rintro e w2 ⟨rfl, hb2⟩
  rw [show zeroEv.c = #[.int .u16 0, .int .u32 0, .int .u16 0, .int .u8 0, .int .u8 0, .int .u8 0, .bool false, .int .u8 0, .int .u8 0, .int .u8 0] from rfl]
  have B2 := hide ((((unhide B1).trans (hb2.mono (unhide B1).size)).alloc (((unhide B1).trans (hb2.mono (unhide B1).size)).size) (.cells #[.int .u16 0, .int .u32 0, .int .u16 0, .int .u8 0, .int .u8 0, .int .u8 0, .bool false, .int .u8 0, .int .u8 0, .int .u8 0] 26)).alloc (by have := ((unhide B1).trans (hb2.mono (unhide B1).size)).size; rw [size_alloc]; omega) (.cells #[.int .u16 0, .int .u32 0, .int .u16 0, .int .u8 0, .int .u8 0, .int .u8 0, .bool false, .int .u8 0, .int .u8 0, .int .u8 0] 26))
  have K2 := hide ((unhide K1).below hb2 (unhide K1).lt)
  clear hb2
  obtain ⟨c0, c1, c2, c3, c4, c5, c6, c7, c8, c9, hlt2⟩ := blk10 (unhide K2)
  go_wp2_with (go_at_call 19; refine (awake_any _ ((unhide HO).below (unhide B2)) ((unhide HP).below (unhide B2))).mono ?_
               rintro e w3 ⟨rfl, hb3⟩
               have B3 := hide ((unhide B2).trans (hb3.mono (unhide B2).size))
               clear hb3)
  go_ret
  exact ⟨rfl, unhide B3⟩
set_option maxRecDepth 100000 in
set_option maxHeartbeats 4000000 in
theorem refuses_mid (w : World) (hO : OffAt w) (hP : Pow10At w) (nb i : Int) (h0 : 5 < i) (h : i ≤ 14) :
    Calls Tryd.prog 5 #[.int .u8 nb, .int .i64 i] w fun e w' => e = .returned (.bool true) ∧ Below w.heap.size w w' := by
  have d0 : decide (0 ≤ i) = true := by first | (simp; done) | (simp; omega)
  have d5 : decide (i ≤ 5) = false := by first | (simp; done) | (simp; omega)
  have d14 : decide (i ≤ 14) = true := by first | (simp; done) | (simp; omega)
  have HO := hide hO
  have heq3 := eq3
  have HP := hide hP
  clear hO hP
  go_enter Tryd.func5, Tryd.ntmps5
  go_wp2_with fail
  refine (thr_high _ 1 nb i true 0 0 h0).mono ?_
  rintro e w1 ⟨rfl, hb1⟩
  rw [show zeroEv.c = #[.int .u16 0, .int .u32 0, .int .u16 0, .int .u8 0, .int .u8 0, .int .u8 0, .bool false, .int .u8 0, .int .u8 0, .int .u8 0] from rfl]
  have B1 := hide (hb1.alloc hb1.size (.cells #[.int .u16 0, .int .u32 0, .int .u16 0, .int .u8 0, .int .u8 0, .int .u8 0, .bool false, .int .u8 0, .int .u8 0, .int .u8 0] 26))
  have K1 : Hid (Blk (w1.alloc (.cells #[.int .u16 0, .int .u32 0, .int .u16 0, .int .u8 0, .int .u8 0, .int .u8 0, .bool false, .int .u8 0, .int .u8 0, .int .u8 0] 26)) w1.heap.size 26 #[.int .u16 0, .int .u32 0, .int .u16 0, .int .u8 0, .int .u8 0, .int .u8 0, .bool false, .int .u8 0, .int .u8 0, .int .u8 0]) := hide (Blk.new w1 _ _)
  clear hb1
  go_wp2_with fail
  refine (sta_in _ 1 nb i true (by omega) h).mono ?_
  rintro e w2 ⟨rfl, hb2⟩
  rw [show (Ev.mk 0 0 32 1 nb 111 (!true) i 255 255).c = #[.int .u16 0, .int .u32 0, .int .u16 32, .int .u8 1, .int .u8 nb, .int .u8 111, .bool false, .int .u8 i, .int .u8 255, .int .u8 255] from rfl]
  have B2 := hide ((((unhide B1).trans (hb2.mono (unhide B1).size)).alloc (((unhide B1).trans (hb2.mono (unhide B1).size)).size) (.cells #[.int .u16 0, .int .u32 0, .int .u16 32, .int .u8 1, .int .u8 nb, .int .u8 111, .bool false, .int .u8 i, .int .u8 255, .int .u8 255] 26)).alloc (by have := ((unhide B1).trans (hb2.mono (unhide B1).size)).size; rw [size_alloc]; omega) (.cells #[.int .u16 0, .int .u32 0, .int .u16 0, .int .u8 0, .int .u8 0, .int .u8 0, .bool false, .int .u8 0, .int .u8 0, .int .u8 0] 26))
  have K2 := hide ((unhide K1).below hb2 (unhide K1).lt)
  clear hb2
  obtain ⟨c0, c1, c2, c3, c4, c5, c6, c7, c8, c9, hlt2⟩ := blk10 (unhide K2)
  go_wp2_with (go_at_call 19; refine (awake_any _ ((unhide HO).below (unhide B2)) ((unhide HP).below (unhide B2))).mono ?_
               rintro e w3 ⟨rfl, hb3⟩
               have B3 := hide ((unhide B2).trans (hb3.mono (unhide B2).size))
               clear hb3)
  go_ret
  exact ⟨rfl, unhide B3⟩
set_option maxRecDepth 100000 in
set_option maxHeartbeats 4000000 in
theorem refuses_in (w : World) (hO : OffAt w) (hP : Pow10At w) (nb i : Int) (k : Nat) (hk : i = (k : Int)) (h : k < 6) (x : Int) (hx : offs.getD k 0 = x) (hx0 : 0 ≤ x) (hx1 : x ≤ 11) :
    Calls Tryd.prog 5 #[.int .u8 nb, .int .i64 i] w fun e w' => e = .returned (.bool true) ∧ Below w.heap.size w w' := by
  subst hk
  have HX := hide hx
  clear hx
  have d0 : decide ((0 : Int) ≤ (k : Int)) = true := by first | (simp; done) | (simp; omega)
  have d5 : decide ((k : Int) ≤ 5) = true := by first | (simp; done) | (simp; omega)
  have d14 : decide ((k : Int) ≤ 14) = true := by first | (simp; done) | (simp; omega)
  have HO := hide hO
  have heq3 := eq3
  have HP := hide hP
  clear hO hP
  go_enter Tryd.func5, Tryd.ntmps5
  go_wp2_with fail
  refine (thr_in _ (unhide HO) 1 nb k true 0 0 h x (unhide HX) hx0 hx1).mono ?_
  rintro e w1 ⟨rfl, hb1⟩
  rw [show (Ev.mk 0 0 32 1 nb 1 (!true) (80 + x) 0 0).c = #[.int .u16 0, .int .u32 0, .int .u16 32, .int .u8 1, .int .u8 nb, .int .u8 1, .bool false, .int .u8 (80 + x), .int .u8 0, .int .u8 0] from rfl]
  have B1 := hide (hb1.alloc hb1.size (.cells #[.int .u16 0, .int .u32 0, .int .u16 32, .int .u8 1, .int .u8 nb, .int .u8 1, .bool false, .int .u8 (80 + x), .int .u8 0, .int .u8 0] 26))
  have K1 : Hid (Blk (w1.alloc (.cells #[.int .u16 0, .int .u32 0, .int .u16 32, .int .u8 1, .int .u8 nb, .int .u8 1, .bool false, .int .u8 (80 + x), .int .u8 0, .int .u8 0] 26)) w1.heap.size 26 #[.int .u16 0, .int .u32 0, .int .u16 32, .int .u8 1, .int .u8 nb, .int .u8 1, .bool false, .int .u8 (80 + x), .int .u8 0, .int .u8 0]) := hide (Blk.new w1 _ _)
  clear hb1
  go_wp2_with fail
  refine (sta_in _ 1 nb (k : Int) true (by omega) (by omega)).mono ?_
  rintro e w2 ⟨rfl, hb2⟩
  rw [show (Ev.mk 0 0 32 1 nb 111 (!true) (k : Int) 255 255).c = #[.int .u16 0, .int .u32 0, .int .u16 32, .int .u8 1, .int .u8 nb, .int .u8 111, .bool false, .int .u8 (k : Int), .int .u8 255, .int .u8 255] from rfl]
  have B2 := hide ((((unhide B1).trans (hb2.mono (unhide B1).size)).alloc (((unhide B1).trans (hb2.mono (unhide B1).size)).size) (.cells #[.int .u16 0, .int .u32 0, .int .u16 32, .int .u8 1, .int .u8 nb, .int .u8 111, .bool false, .int .u8 (k : Int), .int .u8 255, .int .u8 255] 26)).alloc (by have := ((unhide B1).trans (hb2.mono (unhide B1).size)).size; rw [size_alloc]; omega) (.cells #[.int .u16 0, .int .u32 0, .int .u16 0, .int .u8 0, .int .u8 0, .int .u8 0, .bool false, .int .u8 0, .int .u8 0, .int .u8 0] 26))
  have K2 := hide ((unhide K1).below hb2 (unhide K1).lt)
  clear hb2
  obtain ⟨c0, c1, c2, c3, c4, c5, c6, c7, c8, c9, hlt2⟩ := blk10 (unhide K2)
  go_wp2_with (go_at_call 19; refine (awake_any _ ((unhide HO).below (unhide B2)) ((unhide HP).below (unhide B2))).mono ?_
               rintro e w3 ⟨rfl, hb3⟩
               have B3 := hide ((unhide B2).trans (hb3.mono (unhide B2).size))
               clear hb3)
  go_ret
  exact ⟨rfl, unhide B3⟩
theorem offs_le (k : Nat) (h : k < 6) : 0 ≤ offs.getD k 0 ∧ offs.getD k 0 ≤ 11 := by
  have : k = 0 ∨ k = 1 ∨ k = 2 ∨ k = 3 ∨ k = 4 ∨ k = 5 := by omega
  rcases this with rfl | rfl | rfl | rfl | rfl | rfl <;> decide
theorem refuses_any (w : World) (hO : OffAt w) (hP : Pow10At w) (nb i : Int) :
    Calls Tryd.prog 5 #[.int .u8 nb, .int .i64 i] w fun e w' => e = .returned (.bool true) ∧ Below w.heap.size w w' := by
  by_cases h0 : i < 0
  · exact refuses_low w hO hP nb i h0
  · by_cases h1 : i ≤ 5
    · have h2 : i.toNat < 6 := by omega
      have h3 := offs_le i.toNat h2
      exact refuses_in w hO hP nb i i.toNat (by omega) h2 _ rfl h3.1 h3.2
    · by_cases h2 : i ≤ 14
      · exact refuses_mid w hO hP nb i (by omega) h2
      · exact refuses_high w hO hP nb i (by omega)
theorem refuses_walk (w : World) (nb : Int) (_ : (Lit.int .u8 nb).wf = true) (i : Int) (_ : (Lit.int .i64 i).wf = true) (hP : Pow10At w) (hO : OffAt w) :
    Calls Tryd.prog 5 #[.int .u8 nb, .int .i64 i] w fun e w' => e = .returned (.bool true) ∧ Below w.heap.size w w' := refuses_any w hO hP nb i
end Go.Proofs.YtklffnfaigmjfaaDoor
