/- The law EventDistinct, walked: it returns true (printed by wip/gen_edist.py). -/
import Derived.Test.YtklffnfaigmjfaaDoorEEqEv
import Derived.Test.YtklffnfaigmjfaaDoorESame
import Derived.Test.YtklffnfaigmjfaaDoorEDEvent
import Derived.Test.YtklffnfaigmjfaaDoorEAwake
namespace Go.Proofs.YtklffnfaigmjfaaDoor
open Go.RowKit
theorem dice_roll (w : World) (B : Nat) (A : Option Addr) (n c : Nat) (zs : List Int) (hn : n ≤ 600) (hr : Reads w B 1 A n (intV zs)) (hB : B ≤ w.heap.size) : DiceOk (w.alloc (.cells #[.slice A n c, .int .i64 0] 66)) B w.heap.size :=
  ⟨A, n, c, 0, zs, Nat.zero_le _, hn, Blk.new w _ _, hr.alloc hB _, hB⟩
theorem reads16 {w : World} {g : Nat} {e : Ev} (h : Blk w g 5 (u8V (encL e)).toArray) : Reads w w.heap.size 1 (some ⟨g, 0, none⟩) 16 (u8V (encL e)) := by
  have := Reads.of_blk h 0 16 (by simp [u8V, encL]) h.lt
  simpa [u8V, encL] using this
set_option maxRecDepth 100000 in
set_option maxHeartbeats 16000000 in
theorem distinct_walk (w : World) (A : Option Addr) (n c : Nat) (zs : List Int) (_ : n ≤ c) (_ : c ≤ maxLen) (hr : Reads w w.heap.size 1 A n (intV zs)) (A' : Option Addr) (n' c' : Nat) (zs' : List Int) (_ : n' ≤ c') (_ : c' ≤ maxLen) (hr' : Reads w w.heap.size 1 A' n' (intV zs')) (hP : Pow10At w) (hO : OffAt w) :
    Calls Tryd.prog 6 #[.slice A n c, .slice A' n' c'] w fun e w' => e = .returned (.bool true) ∧ Below w.heap.size w w' := by
  have HO := hide hO
  have HP := hide hP
  have HR := hide hr
  have HR' := hide hr'
  clear hO hP hr hr'
  by_cases h1 : n ≤ 600
  · by_cases h2 : n' ≤ 600
    · have L1 := hide fun W => light_at W A n c true (by simpa using h1)
      have L2 := hide fun W => light_at W A' n' c' true (by simpa using h2)
      have EVT := hide devent_any
      have D1 := hide (dice_roll w w.heap.size A n c zs h1 (unhide HR) (Nat.le_refl _))
      have H2 := hide h2
      clear h1 h2
      go_enter Tryd.func6, Tryd.ntmps6
      go_wp2_with fail
      refine (unhide L1 _).mono ?_
      rintro e w' ⟨rfl, rfl⟩
      go_wp2_with fail
      refine (unhide L2 _).mono ?_
      rintro e w' ⟨rfl, rfl⟩
      go_wp2_with fail
      refine (roll_at _ A n c).mono ?_
      rintro e w' ⟨rfl, rfl⟩
      obtain ⟨W1, hW1⟩ : ∃ W1, w.alloc (.cells #[.slice A n c, .int .i64 0] 66) = W1 := ⟨_, rfl⟩
      have B1 : Hid (Below w.heap.size w W1) := hide (hW1 ▸ (Below.refl _ _).alloc (Nat.le_refl _) _)
      have D1' : Hid (DiceOk W1 w.heap.size w.heap.size) := hide (hW1 ▸ unhide D1)
      have RR1 : Hid (Reads W1 w.heap.size 1 A' n' (intV zs')) := hide (hW1 ▸ (unhide HR').alloc (Nat.le_refl _) _)
      have HW1 := hide hW1
      clear hW1
      rw [unhide HW1]
      go_wp2_with fail
      refine (unhide EVT _ _ _ (unhide D1')).mono ?_
      rintro e w2 ⟨x, rfl, hxi, hxv, hx0, hd2, hg2⟩
      have B2 := hide ((unhide B1).grown hg2 (unhide B1).size (fun j e => by injection e with e; omega))
      have RR2 := hide ((unhide RR1).grown hg2 (unhide B1).size (fun j e => by injection e with e; omega))
      have XI := hide hxi
      have XV := hide hxv
      have FX := hide fun W (h : Pow10At W) => format_ok W h x hxi hxv _ rfl
      have EX := hide fun W => enc_ok W x hxi hxv
      clear hd2 hg2 hxi hxv hx0
      go_wp2_with fail
      refine (roll_at _ A' n' c').mono ?_
      rintro e w' ⟨rfl, rfl⟩
      obtain ⟨W3, hW3⟩ : ∃ W3, w2.alloc (.cells #[.slice A' n' c', .int .i64 0] 66) = W3 := ⟨_, rfl⟩
      have B3 : Hid (Below w.heap.size w W3) := hide (hW3 ▸ (unhide B2).alloc (unhide B2).size _)
      have D3 : Hid (DiceOk W3 w.heap.size w2.heap.size) := hide (hW3 ▸ dice_roll w2 w.heap.size A' n' c' zs' (unhide H2) (unhide RR2) (unhide B2).size)
      have HW3 := hide hW3
      clear hW3
      rw [unhide HW3]
      go_wp2_with fail
      refine (unhide EVT _ _ _ (unhide D3)).mono ?_
      rintro e w4 ⟨y, rfl, hyi, hyv, hy0, hd4, hg4⟩
      have B4 := hide ((unhide B3).grown hg4 (unhide B3).size (fun j e => by injection e with e; have := (unhide B2).size; omega))
      have FY := hide fun W (h : Pow10At W) => format_ok W h y hyi hyv _ rfl
      have EY := hide fun W => enc_ok W y hyi hyv
      obtain ⟨q, hq⟩ : ∃ q, decide (x = y) = q := ⟨_, rfl⟩
      have HEQ : Hid (∀ W, (binOp .eql 26 (.agg x.c) (.agg y.c)).run Tryd.prog W = .ok (.bool q) W) := hide (fun W => by rw [run_eql_ev, hq])
      have HSAME : Hid (decide (encL x = encL y) = q) := hide (by
        rw [← hq]
        by_cases h : x = y
        · rw [h]; simp
        · rw [decide_eq_false h, decide_eq_false (fun h' => h (encL_inj (unhide XI) hyi (unhide XV) hyv h'))])
      obtain ⟨fx, hfx⟩ : ∃ l, fmtE x = l := ⟨_, rfl⟩
      obtain ⟨fy, hfy⟩ : ∃ l, fmtE y = l := ⟨_, rfl⟩
      have hfq : (fx == fy) = q := by
        rw [← hq, ← hfx, ← hfy]
        by_cases h : x = y
        · rw [h]; simp
        · rw [decide_eq_false h]
          exact beq_false_of_ne (fun h' => h (fmtE_inj (unhide XI) hyi h'))
      have HFQ := hide hfq
      rw [hfx] at FX
      rw [hfy] at FY
      have EPX : Hid (∀ W z W', EncPost W x z W' → ∃ g, z = .returned (.tuple #[.slice (some ⟨g, 0, none⟩) 16 16, .int .i64 0]) ∧ Reads W' W'.heap.size 1 (some ⟨g, 0, none⟩) 16 (u8V (encL x)) ∧ Below W.heap.size W W') := hide (fun W z W' h => by obtain ⟨g, a, b, _, d⟩ := h; exact ⟨g, a, reads16 b, d⟩)
      have EPY : Hid (∀ W z W', EncPost W y z W' → ∃ g, z = .returned (.tuple #[.slice (some ⟨g, 0, none⟩) 16 16, .int .i64 0]) ∧ Reads W' W'.heap.size 1 (some ⟨g, 0, none⟩) 16 (u8V (encL y)) ∧ Below W.heap.size W W') := hide (fun W z W' h => by obtain ⟨g, a, b, _, d⟩ := h; exact ⟨g, a, reads16 b, d⟩)
      obtain ⟨ex, hex⟩ : ∃ l, encL x = l := ⟨_, rfl⟩
      obtain ⟨ey, hey⟩ : ∃ l, encL y = l := ⟨_, rfl⟩
      rw [hex, hey] at HSAME
      simp only [hex] at EPX
      simp only [hey] at EPY
      clear hd4 hg4 hyi hyv hy0 hq hfx hfy hfq hex hey XI XV
      obtain ⟨xid, xtm, xgn, xst, xsn, xty, xds, xd0, xd1, xd2⟩ := x
      obtain ⟨yid, ytm, ygn, yst, ysn, yty, yds, yd0, yd1, yd2⟩ := y
      simp only [Ev.c] at HEQ FX FY EX EY
      simp only [Ev.c]
      obtain ⟨W5, hW5⟩ : ∃ W5, (w4.alloc (.cells #[.int .u16 xid, .int .u32 xtm, .int .u16 xgn, .int .u8 xst, .int .u8 xsn, .int .u8 xty, .bool xds, .int .u8 xd0, .int .u8 xd1, .int .u8 xd2] 26)).alloc (.cells #[.int .u16 yid, .int .u32 ytm, .int .u16 ygn, .int .u8 yst, .int .u8 ysn, .int .u8 yty, .bool yds, .int .u8 yd0, .int .u8 yd1, .int .u8 yd2] 26) = W5 := ⟨_, rfl⟩
      have B5 : Hid (Below w.heap.size w W5) := hide (hW5 ▸ ((unhide B4).alloc (unhide B4).size _).alloc (by have := (unhide B4).size; rw [size_alloc]; omega) _)
      have X5 : Hid (Blk W5 w4.heap.size 26 #[.int .u16 xid, .int .u32 xtm, .int .u16 xgn, .int .u8 xst, .int .u8 xsn, .int .u8 xty, .bool xds, .int .u8 xd0, .int .u8 xd1, .int .u8 xd2]) := hide (hW5 ▸ (Blk.new w4 _ _).alloc _)
      have Y5 : Hid (Blk W5 (w4.heap.size + 1) 26 #[.int .u16 yid, .int .u32 ytm, .int .u16 ygn, .int .u8 yst, .int .u8 ysn, .int .u8 yty, .bool yds, .int .u8 yd0, .int .u8 yd1, .int .u8 yd2]) := hide (hW5 ▸ Blk.new' (by simp))
      have HW5 := hide hW5
      clear hW5
      go_upto_region 4 with fail
      rw [unhide HW5]
      obtain ⟨p0, p1, p2, p3, p4, p5, p6, p7, p8, p9, hp⟩ := blk10 (unhide X5)
      go_wp2_with fail
      refine (unhide EX _).mono ?_
      rintro e w6 hpost
      obtain ⟨ga, rfl, ra, hb6⟩ := (unhide EPX) _ _ _ hpost
      have RA6 := hide ra
      have B6 := hide ((unhide B5).trans (hb6.mono (unhide B5).size))
      have X6 := hide ((unhide X5).below hb6 (unhide X5).lt)
      have Y6 := hide ((unhide Y5).below hb6 (unhide Y5).lt)
      clear hpost ra hb6 p0 p1 p2 p3 p4 p5 p6 p7 p8 p9 hp
      obtain ⟨p0, p1, p2, p3, p4, p5, p6, p7, p8, p9, hp⟩ := blk10 (unhide Y6)
      go_wp2_with fail
      refine (unhide EY _).mono ?_
      rintro e w7 hpost
      obtain ⟨gb, rfl, rb, hb7⟩ := (unhide EPY) _ _ _ hpost
      have RB7 := hide rb
      have RA7 := hide (((unhide RA6).below hb7).more hb7.size)
      have B7 := hide ((unhide B6).trans (hb7.mono (unhide B6).size))
      have X7 := hide ((unhide X6).below hb7 (unhide X6).lt)
      have Y7 := hide ((unhide Y6).below hb7 (unhide Y6).lt)
      clear hpost rb hb7 p0 p1 p2 p3 p4 p5 p6 p7 p8 p9 hp
      obtain ⟨p0, p1, p2, p3, p4, p5, p6, p7, p8, p9, hp⟩ := blk10 (unhide X7)
      go_wp2_with fail
      refine (unhide FX _ ((unhide HP).below (unhide B7))).mono ?_
      rintro e w8 ⟨rfl, hb8⟩
      have RA8 := hide (((unhide RA7).below hb8).more hb8.size)
      have RB8 := hide (((unhide RB7).below hb8).more hb8.size)
      have B8 := hide ((unhide B7).trans (hb8.mono (unhide B7).size))
      have X8 := hide ((unhide X7).below hb8 (unhide X7).lt)
      have Y8 := hide ((unhide Y7).below hb8 (unhide Y7).lt)
      clear hb8 p0 p1 p2 p3 p4 p5 p6 p7 p8 p9 hp
      obtain ⟨p0, p1, p2, p3, p4, p5, p6, p7, p8, p9, hp⟩ := blk10 (unhide Y8)
      go_wp2_with fail
      refine (unhide FY _ ((unhide HP).below (unhide B8))).mono ?_
      rintro e w9 ⟨rfl, hb9⟩
      have RA9 := hide (((unhide RA8).below hb9).more hb9.size)
      have RB9 := hide (((unhide RB8).below hb9).more hb9.size)
      have B9 := hide ((unhide B8).trans (hb9.mono (unhide B8).size))
      have X9 := hide ((unhide X8).below hb9 (unhide X8).lt)
      have Y9 := hide ((unhide Y8).below hb9 (unhide Y8).lt)
      have O9 := hide ((unhide HO).below (unhide B9))
      have P9 := hide ((unhide HP).below (unhide B9))
      clear hb9 p0 p1 p2 p3 p4 p5 p6 p7 p8 p9 hp
      go_upto_region 8 with fail
      have hfq := unhide HFQ
      have hin : Nonempty (InClass (fun W => Below w9.heap.size w9 W)) := ⟨⟨_, Below.refl _ _⟩⟩
      have K1 : Hid (∀ x' : InClass (fun W => Below w9.heap.size w9 W), Calls Tryd.prog 26 #[.slice (some ⟨ga, 0, none⟩) 16 16, .slice (some ⟨gb, 0, none⟩) 16 16] x'.val fun e w'' => e = .returned (.bool q) ∧ ∃ y' : InClass (fun W => Below w9.heap.size w9 W), w'' = y'.val) := hide fun x' =>
        class_call (B := w9.heap.size) ((same_any x'.val w9.heap.size _ _ 16 16 16 16 ex ey (Nat.le_refl _) (by unfold maxLen; omega) (Nat.le_refl _) (by unfold maxLen; omega) ((unhide RA9).below x'.ok) ((unhide RB9).below x'.ok) q (unhide HSAME)).mono fun _ _ h => ⟨h.1, by obtain ⟨k, rfl⟩ := h.2; exact below_drewN (Below.refl _ _) k⟩) fun w' h => x'.ok.trans h
      have K3 : Hid (∀ x' : InClass (fun W => Below w9.heap.size w9 W), Calls Tryd.prog 19 #[] x'.val fun e w'' => e = .returned (.bool true) ∧ ∃ y' : InClass (fun W => Below w9.heap.size w9 W), w'' = y'.val) := hide fun x' =>
        class_call (awake_any x'.val ((unhide O9).below x'.ok) ((unhide P9).below x'.ok)) fun w' h => x'.ok.trans (h.mono x'.ok.size)
      have hS9 := hide ((Below.refl w9.heap.size w9).drew)
      refine wp_region_class (fun W => Below w9.heap.size w9 W) (by kernel_rfl) (by kernel_rfl) (unhide hS9) ?_
      repeat (go_big_quiet_step (fail))
      go_big_quiet_step ((go_at_call 26; exact (unhide K1) _))
      refine BigFrame.wpQuiet_want rfl (fun K hK => quiet_load_row _ _ rfl w4.heap.size rfl 26 #[.int .u16 xid, .int .u32 xtm, .int .u16 xgn, .int .u8 xst, .int .u8 xsn, .int .u8 xty, .bool xds, .int .u8 xd0, .int .u8 xd1, .int .u8 xd2] _ (fun W hW => by obtain ⟨z, rfl⟩ := hW; exact (unhide X9).below z.ok (unhide X9).lt) Tryd.underlying26 rfl (by kernel_rfl) (hK _ ?_))
      simp only [Act.put, List.setIfInBounds_toArray, List.set_cons_zero, List.set_cons_succ]
      refine BigFrame.wpQuiet_want rfl (fun K hK => quiet_load_row _ _ rfl (w4.heap.size + 1) rfl 26 #[.int .u16 yid, .int .u32 ytm, .int .u16 ygn, .int .u8 yst, .int .u8 ysn, .int .u8 yty, .bool yds, .int .u8 yd0, .int .u8 yd1, .int .u8 yd2] _ (fun W hW => by obtain ⟨z, rfl⟩ := hW; exact (unhide Y9).below z.ok (unhide Y9).lt) Tryd.underlying26 rfl (by kernel_rfl) (hK _ ?_))
      simp only [Act.put, List.setIfInBounds_toArray, List.set_cons_zero, List.set_cons_succ]
      refine BigFrame.wpQuiet_want rfl (fun K hK => quiet_eql 26 26 (.tmp 68) (.tmp 69) rfl #[.int .u16 xid, .int .u32 xtm, .int .u16 xgn, .int .u8 xst, .int .u8 xsn, .int .u8 xty, .bool xds, .int .u8 xd0, .int .u8 xd1, .int .u8 xd2] #[.int .u16 yid, .int .u32 ytm, .int .u16 ygn, .int .u8 yst, .int .u8 ysn, .int .u8 yty, .bool yds, .int .u8 yd0, .int .u8 yd1, .int .u8 yd2] rfl rfl q (by kernel_rfl) (unhide HEQ) (hK _ ?_))
      simp only [Act.put, List.setIfInBounds_toArray, List.set_cons_zero, List.set_cons_succ]
      repeat (go_big_quiet_step (fail))
      refine BigFrame.wpQuiet_want rfl (fun K hK => quiet_load_row _ _ rfl w4.heap.size rfl 26 #[.int .u16 xid, .int .u32 xtm, .int .u16 xgn, .int .u8 xst, .int .u8 xsn, .int .u8 xty, .bool xds, .int .u8 xd0, .int .u8 xd1, .int .u8 xd2] _ (fun W hW => by obtain ⟨z, rfl⟩ := hW; exact (unhide X9).below z.ok (unhide X9).lt) Tryd.underlying26 rfl (by kernel_rfl) (hK _ ?_))
      simp only [Act.put, List.setIfInBounds_toArray, List.set_cons_zero, List.set_cons_succ]
      refine BigFrame.wpQuiet_want rfl (fun K hK => quiet_load_row _ _ rfl (w4.heap.size + 1) rfl 26 #[.int .u16 yid, .int .u32 ytm, .int .u16 ygn, .int .u8 yst, .int .u8 ysn, .int .u8 yty, .bool yds, .int .u8 yd0, .int .u8 yd1, .int .u8 yd2] _ (fun W hW => by obtain ⟨z, rfl⟩ := hW; exact (unhide Y9).below z.ok (unhide Y9).lt) Tryd.underlying26 rfl (by kernel_rfl) (hK _ ?_))
      simp only [Act.put, List.setIfInBounds_toArray, List.set_cons_zero, List.set_cons_succ]
      refine BigFrame.wpQuiet_want rfl (fun K hK => quiet_eql 26 26 (.tmp 77) (.tmp 78) rfl #[.int .u16 xid, .int .u32 xtm, .int .u16 xgn, .int .u8 xst, .int .u8 xsn, .int .u8 xty, .bool xds, .int .u8 xd0, .int .u8 xd1, .int .u8 xd2] #[.int .u16 yid, .int .u32 ytm, .int .u16 ygn, .int .u8 yst, .int .u8 ysn, .int .u8 yty, .bool yds, .int .u8 yd0, .int .u8 yd1, .int .u8 yd2] rfl rfl q (by kernel_rfl) (unhide HEQ) (hK _ ?_))
      simp only [Act.put, List.setIfInBounds_toArray, List.set_cons_zero, List.set_cons_succ]
      repeat (go_big_quiet_step (fail))
      go_big_quiet_step ((go_at_call 19; exact (unhide K3) _))
      repeat (go_big_quiet_step (fail))
      refine wpQuiet_nil ?_
      intro _ hw'
      obtain ⟨x14, hw''⟩ := hw'
      subst hw''
      have B14 := hide ((unhide B9).trans (x14.ok.mono (unhide B9).size))
      go_wp2_with fail
      go_ret
      exact ⟨rfl, unhide B14⟩
    · have L1 := hide fun W => light_at W A n c true (by simpa using h1)
      have L2 := hide fun W => light_at W A' n' c' false (by simpa using h2)
      clear h1 h2
      go_enter Tryd.func6, Tryd.ntmps6
      go_wp2_with fail
      refine (unhide L1 _).mono ?_
      rintro e w' ⟨rfl, rfl⟩
      go_wp2_with fail
      refine (unhide L2 _).mono ?_
      rintro e w' ⟨rfl, rfl⟩
      go_wp2_with fail
      refine (awake_any _ (unhide HO) (unhide HP)).mono ?_
      rintro e w1 ⟨rfl, hb1⟩
      go_wp2_with fail
      go_ret
      exact ⟨rfl, hb1⟩
  · have L1 := hide fun W => light_at W A n c false (by simpa using h1)
    clear h1
    go_enter Tryd.func6, Tryd.ntmps6
    go_wp2_with fail
    refine (unhide L1 _).mono ?_
    rintro e w' ⟨rfl, rfl⟩
    go_wp2_with fail
    refine (awake_any _ (unhide HO) (unhide HP)).mono ?_
    rintro e w1 ⟨rfl, hb1⟩
    go_wp2_with fail
    go_ret
    exact ⟨rfl, hb1⟩
end Go.Proofs.YtklffnfaigmjfaaDoor
