/- The law EventReturns, walked: it returns true (printed by wip/gen_ereturns.py). No condition but the two tables and the world's shape. -/
import Derived.Test.YtklffnfaigmjfaaDoorEParseW
import Derived.Test.YtklffnfaigmjfaaDoorERetP
import Derived.Test.YtklffnfaigmjfaaDoorEDEvent
import Derived.Test.YtklffnfaigmjfaaDoorEDecOne
import Derived.Test.YtklffnfaigmjfaaDoorEAwake
import Derived.Test.YtklffnfaigmjfaaDoorEEq
namespace Go.Proofs.YtklffnfaigmjfaaDoor
open Go.RowKit
theorem dice_roll0 (w : World) (B : Nat) (A : Option Addr) (n c : Nat) (zs : List Int) (hn : n ≤ 600) (hr : Reads w B 1 A n (intV zs)) (hB : B ≤ w.heap.size) : DiceOk (w.alloc (.cells #[.slice A n c, .int .i64 0] 66)) B w.heap.size :=
  ⟨A, n, c, 0, zs, Nat.zero_le _, hn, Blk.new w _ _, hr.alloc hB _, hB⟩
def fmtRE (e : Ev) : List UInt8 × Int := if validE e = true then (fmtE e, 0) else ([], 1)
theorem fmt_bad_ev (w : World) (e : Ev) (hv : validE e = false) : Calls Tryd.prog 25 #[.agg e.c] w fun z w' => z = .returned (.tuple #[.string ⟨#[]⟩, .int .i64 1]) ∧ Below w.heap.size w w' := by
  have VX := hide fun W => valid_any W e false hv
  obtain ⟨eid, etm, egn, est, esn, ety, eds, ed0, ed1, ed2⟩ := e
  simp only [Ev.c] at VX ⊢
  have B0 := hide ((Below.refl w.heap.size w).alloc (Nat.le_refl _) (.cells #[.int .u16 eid, .int .u32 etm, .int .u16 egn, .int .u8 est, .int .u8 esn, .int .u8 ety, .bool eds, .int .u8 ed0, .int .u8 ed1, .int .u8 ed2] 26))
  clear hv
  go_enter Tryd.func25, Tryd.ntmps25
  go_wp2_with fail
  refine (unhide VX _).mono ?_
  rintro z w1 ⟨rfl, rfl⟩
  have B1 := hide ((unhide B0).alloc (unhide B0).size (.cells #[.int .u16 eid, .int .u32 etm, .int .u16 egn, .int .u8 est, .int .u8 esn, .int .u8 ety, .bool eds, .int .u8 ed0, .int .u8 ed1, .int .u8 ed2] 26))
  go_wp2_with fail
  go_ret2
  exact ⟨rfl, unhide B1⟩
theorem format_ev (w : World) (hP : Pow10At w) (e : Ev) (he : e.In) (t : List UInt8) (g : Int) (h : fmtRE e = (t, g)) : Calls Tryd.prog 25 #[.agg e.c] w fun z w' => z = .returned (.tuple #[.string ⟨t.toArray⟩, .int .i64 g]) ∧ Below w.heap.size w w' := by
  by_cases hv : validE e = true
  · rw [fmtRE, if_pos hv] at h
    injection h with h1 h2
    subst h1 h2
    exact format_ok w hP e he hv _ rfl
  · have hv' : validE e = false := by simpa using hv
    rw [fmtRE, if_neg hv] at h
    injection h with h1 h2
    subst h1 h2
    exact fmt_bad_ev w e hv'
theorem zero_in : zeroEv.In := by constructor <;> decide
theorem parse_in {l : List UInt8} {v : Ev} {f : Int} (h : parseE l = (v, f)) : v.In ∧ validE v = true ∧ (f = 0 → fmtE v = l) := by
  by_cases hf : f = 0
  · subst hf
    obtain ⟨h1, h2, h3⟩ := fmt_parseE h
    exact ⟨h2, h3, fun _ => h1⟩
  · have hz : v = zeroEv := by
      rw [parseE] at h
      unfold parseP at h
      split at h
      · injection h with h _; exact h.symm
      · split at h
        · injection h with h _; exact h.symm
        · split at h
          · injection h with h _; exact h.symm
          · split at h
            · injection h with h _; exact h.symm
            · injection h with _ h; exact absurd h.symm hf
    subst hz
    exact ⟨zero_in, rfl, fun h => absurd h hf⟩
theorem fmtE_short {e : Ev} (he : e.In) (hv : validE e = true) : (fmtE e).length ≤ 100 := by
  by_cases h : 100 < (fmtE e).length
  · have h1 := parse_bad (form_long h)
    have h2 := parse_fmtE he hv
    rw [parseE, h1] at h2
    injection h2 with _ h2
    omega
  · omega
set_option maxRecDepth 100000 in
set_option maxHeartbeats 32000000 in
theorem returns_walk (w : World) (hsh : w.ShapedOpen Tryd.prog) (e : Ev) (he : e.In) (sl : List UInt8) (hsl : sl.length ≤ maxLen) (A' : Option Addr) (n' c' : Nat) (zs' : List Int) (_ : n' ≤ c') (_ : c' ≤ maxLen) (hr' : Reads w w.heap.size 1 A' n' (intV zs')) (hP : Pow10At w) (hO : OffAt w) :
    Calls Tryd.prog 9 #[.agg e.c, .string ⟨sl.toArray⟩, .slice A' n' c'] w fun e w' => e = .returned (.bool true) ∧ Below w.heap.size w w' := by
  unfold maxLen at hsl
  have hz := size_list sl _ hsl
  have HSH := hide hsh
  obtain ⟨W1, hW1⟩ : ∃ W1, w.alloc (.cells e.c 26) = W1 := ⟨_, rfl⟩
  have B1 : Below w.heap.size w W1 := hW1 ▸ (Below.refl _ _).alloc (Nat.le_refl _) _
  have hsz1 : W1.heap.size = w.heap.size + 1 := by rw [← hW1]; simp only [size_alloc]
  have HO0 := hide hO
  have HP0 := hide hP
  have HO := hide (hO.below B1)
  have HP := hide (hP.below B1)
  have HR' := hide (hr'.below B1)
  have E1 : Hid (Blk W1 w.heap.size 26 e.c) := hide (hW1 ▸ Blk.new w _ _)
  have HW1 := hide hW1
  have EI := hide he
  have CEN := hide enc_any
  have CFM := hide format_ev
  have CVA := hide valid_any
  have CDE := hide dec_any
  have CPA := hide parse_ev
  clear hO hP hr' hW1 he hsh
  obtain ⟨eid, etm, egn, est, esn, ety, eds, ed0, ed1, ed2⟩ := e
  simp only [Ev.c] at E1 HW1
  simp only [Ev.c]
  by_cases h1 : sl.length ≤ 200
  rotate_left
  · have hlt : ((200 : Int) < (sl.length : Int)) = True := by simp; omega
    clear h1
    go_enter Tryd.func9, Tryd.ntmps9
    go_upto_region 1 with fail
    rw [unhide HW1]
    go_wp2_with fail
    refine (awake_any _ (unhide HO) (unhide HP)).mono ?_
    rintro e w1 ⟨rfl, hb1⟩
    go_wp2_with fail
    go_ret
    exact ⟨rfl, B1.trans (hb1.mono B1.size)⟩
  have hlt : ((200 : Int) < (sl.length : Int)) = False := by simp; omega
  have hsl2 : sl.length ≤ 100000 := by omega
  clear h1 hsl
  by_cases h2 : n' ≤ 600
  rotate_left
  · have L2 := hide fun W => light_at W A' n' c' false (by simpa using h2)
    clear h2
    go_enter Tryd.func9, Tryd.ntmps9
    go_upto_region 1 with fail
    rw [unhide HW1]
    go_wp2_with fail
    refine (unhide L2 _).mono ?_
    rintro e w' ⟨rfl, rfl⟩
    go_wp2_with fail
    refine (awake_any _ (unhide HO) (unhide HP)).mono ?_
    rintro e w1 ⟨rfl, hb1⟩
    go_wp2_with fail
    go_ret
    exact ⟨rfl, B1.trans (hb1.mono B1.size)⟩
  have L2 := hide fun W => light_at W A' n' c' true (by simpa using h2)
  have D2 := hide (dice_roll0 W1 w.heap.size A' n' c' zs' h2 (unhide HR') (by omega))
  clear h2
  have EVT := hide devent_any
  have NX := hide dnext_any
  go_enter Tryd.func9, Tryd.ntmps9
  go_upto_region 1 with fail
  rw [unhide HW1]
  go_wp2_with fail
  refine (unhide L2 _).mono ?_
  rintro e w' ⟨rfl, rfl⟩
  go_wp2_with fail
  refine (roll_at _ A' n' c').mono ?_
  rintro e w' ⟨rfl, rfl⟩
  obtain ⟨g, hg⟩ : ∃ g, W1.heap.size = g := ⟨_, rfl⟩
  obtain ⟨W2, hW2⟩ : ∃ W2, W1.alloc (.cells #[.slice A' n' c', .int .i64 0] 66) = W2 := ⟨_, rfl⟩
  have B2 : Hid (Below w.heap.size w W2) := hide (hW2 ▸ B1.alloc (by omega) _)
  have D2' : Hid (DiceOk W2 w.heap.size g) := hide (hg ▸ hW2 ▸ unhide D2)
  have E2 : Hid (Blk W2 w.heap.size 26 #[.int .u16 eid, .int .u32 etm, .int .u16 egn, .int .u8 est, .int .u8 esn, .int .u8 ety, .bool eds, .int .u8 ed0, .int .u8 ed1, .int .u8 ed2]) := hide (hW2 ▸ (unhide E1).alloc _)
  have HW2 := hide hW2
  have hgw : w.heap.size < g := by omega
  have HG := hide hg
  clear hW2 hg hsz1 B1
  rw [unhide HW2, unhide HG]
  go_wp2_with fail
  refine (unhide EVT _ _ _ (unhide D2')).mono ?_
  rintro e w3 ⟨x, rfl, hxi, hxv, hx0, hd3, hg3⟩
  have B3 := hide ((unhide B2).grown hg3 (unhide B2).size (fun j e => by injection e with e; omega))
  have E3 := hide ((unhide E2).grown hg3 (by intro e; injection e with e; omega))
  have hgl3 := hd3.lt
  have XI := hide hxi
  obtain ⟨q, hq⟩ : ∃ q, w3.heap.size = q := ⟨_, rfl⟩
  obtain ⟨W4, hW4⟩ : ∃ W4, w3.alloc (.cells x.c 26) = W4 := ⟨_, rfl⟩
  have G4 : w3.grownBy W4 (some g) := hW4 ▸ World.grownBy_alloc w3 _ _
  have B4 := hide (hW4 ▸ (unhide B3).alloc (unhide B3).size (.cells x.c 26))
  have D4 : Hid (DiceOk W4 w.heap.size g) := hide (hW4 ▸ hd3.far (World.grownBy_alloc w3 (.cells x.c 26) none) (fun j e => by cases e))
  have E4 := hide ((unhide E3).grown G4 (by intro e; injection e with e; omega))
  have X4 : Hid (Blk W4 q 26 x.c) := hide (hq ▸ hW4 ▸ Blk.new w3 _ _)
  have hgq : g < q := by omega
  have HW4 := hide hW4
  have HQ := hide hq
  clear hW4 hq hxi hxv hx0 hd3 hg3 G4
  obtain ⟨xid, xtm, xgn, xst, xsn, xty, xds, xd0, xd1, xd2⟩ := x
  simp only [Ev.c] at X4 HW4
  simp only [Ev.c]
  go_upto_region 5 with fail
  rw [unhide HW4, unhide HQ]
  go_wp2_with fail
  refine (unhide NX _ w.heap.size g 65535 (by omega) (by omega) (unhide D4)).mono ?_
  rintro e w5 ⟨j, hj, rfl, hd5, hg5⟩
  have hv5 : IntKind.u16.wrap (j : Int) = (j : Int) := IntWalk.u16_in _ (by omega)
  have B5 := (unhide B4).grown hg5 (unhide B4).size (fun j e => by injection e with e; omega)
  have E5 := (unhide E4).grown hg5 (by intro e; injection e with e; omega)
  have X5 := (unhide X4).grown hg5 (by intro e; injection e with e; omega)
  have c5 : w5.cell? ⟨q, 0, none⟩ = some (.int .u16 xid) := X5.cell 0
  have f5 : w5.frozen? ⟨q, 0, none⟩ = false := X5.frozen 0
  have gs : w5.grownBy (w5.setCell ⟨q, 0, none⟩ (.int .u16 (j : Int))) (some q) := only_setCell (World.grownBy.refl w5 _) (.inl rfl) _
  obtain ⟨W6, hW6⟩ : ∃ W6, w5.setCell ⟨q, 0, none⟩ (.int .u16 (j : Int)) = W6 := ⟨_, rfl⟩
  have X6 : Hid (Blk W6 q 26 #[.int .u16 (j : Int), .int .u32 xtm, .int .u16 xgn, .int .u8 xst, .int .u8 xsn, .int .u8 xty, .bool xds, .int .u8 xd0, .int .u8 xd1, .int .u8 xd2]) := hide (hW6 ▸ X5.set_ 0 _)
  rw [hW6] at gs
  have B6 := hide (B5.grown gs B5.size (fun j e => by injection e with e; omega))
  have E6 := hide (E5.grown gs (by intro e; injection e with e; omega))
  have HW6 := hide hW6
  have HC5 := hide (And.intro c5 f5)
  clear B5 E5 X5 c5 f5 gs hW6 hd5 hg5
  obtain ⟨c5, f5⟩ := unhide HC5
  go_upto_region 6 with fail
  rw [unhide HW6]
  clear c5 f5
  obtain ⟨r0, r1, r2, r3, r4, r5, r6, r7, r8, r9, hrq⟩ := blk10 (unhide E6)
  obtain ⟨p0, p1, p2, p3, p4, p5, p6, p7, p8, p9, hp⟩ := blk10 (unhide X6)
  go_upto_region 7 with fail
  clear p0 p1 p2 p3 p4 p5 p6 p7 p8 p9 hp
  clear r0 r1 r2 r3 r4 r5 r6 r7 r8 r9 hrq
  obtain ⟨q7, hq7⟩ : ∃ q7, W6.heap.size = q7 := ⟨_, rfl⟩
  obtain ⟨W7, hW7⟩ : ∃ W7, W6.alloc (.cells #[.int .u16 eid, .int .u32 etm, .int .u16 egn, .int .u8 est, .int .u8 esn, .int .u8 ety, .bool eds, .int .u8 ed0, .int .u8 ed1, .int .u8 ed2, .int .u16 (j : Int), .int .u32 xtm, .int .u16 xgn, .int .u8 xst, .int .u8 xsn, .int .u8 xty, .bool xds, .int .u8 xd0, .int .u8 xd1, .int .u8 xd2] 26) = W7 := ⟨_, rfl⟩
  have N7 : Hid (Blk W7 q7 26 #[.int .u16 eid, .int .u32 etm, .int .u16 egn, .int .u8 est, .int .u8 esn, .int .u8 ety, .bool eds, .int .u8 ed0, .int .u8 ed1, .int .u8 ed2, .int .u16 (j : Int), .int .u32 xtm, .int .u16 xgn, .int .u8 xst, .int .u8 xsn, .int .u8 xty, .bool xds, .int .u8 xd0, .int .u8 xd1, .int .u8 xd2]) := hide (hq7 ▸ hW7 ▸ Blk.new W6 _ _)
  have B7 : Hid (Below w.heap.size w W7) := hide (hW7 ▸ (unhide B6).alloc (unhide B6).size _)
  have HW7 := hide hW7
  have HQ7 := hide hq7
  have eI : (Ev.mk eid etm egn est esn ety eds ed0 ed1 ed2).In := unhide EI
  have xI : (Ev.mk (j : Int) xtm xgn xst xsn xty xds xd0 xd1 xd2).In := ⟨by show (0:Int) ≤ (j:Int); omega, by show (j:Int) < 65536; omega, (unhide XI).tm0, (unhide XI).tm1, (unhide XI).gn0, (unhide XI).gn1, (unhide XI).st0, (unhide XI).st1, (unhide XI).sn0, (unhide XI).sn1, (unhide XI).ty0, (unhide XI).ty1, (unhide XI).d00, (unhide XI).d01, (unhide XI).d10, (unhide XI).d11, (unhide XI).d20, (unhide XI).d21⟩
  have HEI := hide eI
  have HXI := hide xI
  clear hW7 hq7 eI xI
  rw [unhide HW7, unhide HQ7]
  go_loopw [44] (fun i wr => ∃ k : Nat, k ≤ 2 ∧ i = .int .i64 k ∧ Below W7.heap.size W7 wr) (fun i _ => 2 - (intOf i).toNat)
  case atStart => exact ⟨0, by omega, rfl, Below.refl _ _⟩
  case round =>
    obtain ⟨k, hk, rfl, hB⟩ := hrel
    have BB := hide hB
    have BW := hide ((unhide B7).trans (hB.mono (unhide B7).size))
    have N := (unhide N7).below hB (unhide N7).lt
    clear hB
    by_cases hk2 : k < 2
    · obtain ⟨y, yI, f0, f1, f2, f3, f4, f5, f6, f7, f8, f9⟩ : ∃ y : Ev, y.In ∧ wr.cell? ⟨q7, k * 10, none⟩ = some (.int .u16 y.id) ∧ wr.cell? ⟨q7, k * 10 + 1, none⟩ = some (.int .u32 y.tm) ∧ wr.cell? ⟨q7, k * 10 + 2, none⟩ = some (.int .u16 y.gn) ∧ wr.cell? ⟨q7, k * 10 + 3, none⟩ = some (.int .u8 y.st) ∧ wr.cell? ⟨q7, k * 10 + 4, none⟩ = some (.int .u8 y.sn) ∧ wr.cell? ⟨q7, k * 10 + 5, none⟩ = some (.int .u8 y.ty) ∧ wr.cell? ⟨q7, k * 10 + 6, none⟩ = some (.bool y.ds) ∧ wr.cell? ⟨q7, k * 10 + 7, none⟩ = some (.int .u8 y.d0) ∧ wr.cell? ⟨q7, k * 10 + 8, none⟩ = some (.int .u8 y.d1) ∧ wr.cell? ⟨q7, k * 10 + 9, none⟩ = some (.int .u8 y.d2) := by
        rcases (show k = 0 ∨ k = 1 by omega) with rfl | rfl
        · exact ⟨⟨eid, etm, egn, est, esn, ety, eds, ed0, ed1, ed2⟩, unhide HEI, N.cell 0, N.cell 1, N.cell 2, N.cell 3, N.cell 4, N.cell 5, N.cell 6, N.cell 7, N.cell 8, N.cell 9⟩
        · exact ⟨⟨(j : Int), xtm, xgn, xst, xsn, xty, xds, xd0, xd1, xd2⟩, unhide HXI, N.cell 10, N.cell 11, N.cell 12, N.cell 13, N.cell 14, N.cell 15, N.cell 16, N.cell 17, N.cell 18, N.cell 19⟩
      have hql : q7 < wr.heap.size := N.lt
      have hk2i : (k : Int) < 2 := by omega
      obtain ⟨lx, fx, hlx⟩ : ∃ l f, encR y = (l, f) := ⟨_, _, rfl⟩
      obtain ⟨tx, gx, htx⟩ : ∃ l f, fmtRE y = (l, f) := ⟨_, _, rfl⟩
      obtain ⟨bv, hbv⟩ : ∃ b, validE y = b := ⟨_, rfl⟩
      have EX := hide fun W => unhide CEN W y yI lx fx hlx
      have FX := hide fun W (h : Pow10At W) => unhide CFM W h y yI tx gx htx
      have VX := hide fun W => unhide CVA W y bv hbv
      have YI := hide yI
      have HLX := hide hlx
      have HTX := hide htx
      have HBV := hide hbv
      obtain ⟨yid, ytm, ygn, yst, ysn, yty, yds, yd0, yd1, yd2⟩ := y
      simp only [Ev.c] at EX FX VX
      dsimp only at f0 f1 f2 f3 f4 f5 f6 f7 f8 f9
      clear hlx htx hbv yI N
      obtain ⟨Wy, hWy⟩ : ∃ Wy, wr.alloc (.cells #[.int .u16 yid, .int .u32 ytm, .int .u16 ygn, .int .u8 yst, .int .u8 ysn, .int .u8 yty, .bool yds, .int .u8 yd0, .int .u8 yd1, .int .u8 yd2] 26) = Wy := ⟨_, rfl⟩
      obtain ⟨qy, hqy⟩ : ∃ q, wr.heap.size = q := ⟨_, rfl⟩
      have Y : Hid (Blk Wy qy 26 #[.int .u16 yid, .int .u32 ytm, .int .u16 ygn, .int .u8 yst, .int .u8 ysn, .int .u8 yty, .bool yds, .int .u8 yd0, .int .u8 yd1, .int .u8 yd2]) := hide (hqy ▸ hWy ▸ Blk.new wr _ _)
      have BY : Hid (Below W7.heap.size W7 Wy) := hide (hWy ▸ (unhide BB).alloc (unhide BB).size _)
      have HWy := hide hWy
      have HQy := hide hqy
      clear hWy hqy
      go_upto_region 9 with fail
      rw [unhide HWy, unhide HQy]
      clear f0 f1 f2 f3 f4 f5 f6 f7 f8 f9 hql
      obtain ⟨p0, p1, p2, p3, p4, p5, p6, p7, p8, p9, hp⟩ := blk10 (unhide Y)
      go_wp2_with fail
      refine (unhide EX _).mono ?_
      rintro z w8 ⟨A1, n1, c1, rfl, ha1, hb1, r1, b1⟩
      clear p0 p1 p2 p3 p4 p5 p6 p7 p8 p9 hp
      have Y8 := hide ((unhide Y).below b1 (unhide Y).lt)
      have BY8 := hide ((unhide BY).trans (b1.mono (unhide BY).size))
      have R1 := hide r1
      have HA1 := hide ha1
      clear r1 b1 ha1
      obtain ⟨p0, p1, p2, p3, p4, p5, p6, p7, p8, p9, hp⟩ := blk10 (unhide Y8)
      go_wp2_with fail
      refine (unhide FX _ ((unhide HP0).below ((unhide B7).trans ((unhide BY8).mono (unhide B7).size)))).mono ?_
      rintro z w9 ⟨rfl, b2⟩
      clear p0 p1 p2 p3 p4 p5 p6 p7 p8 p9 hp
      have Y9 := hide ((unhide Y8).below b2 (unhide Y8).lt)
      have BY9 := hide ((unhide BY8).trans (b2.mono (unhide BY8).size))
      have R9 := hide (((unhide R1).below b2).more b2.size)
      clear b2
      obtain ⟨p0, p1, p2, p3, p4, p5, p6, p7, p8, p9, hp⟩ := blk10 (unhide Y9)
      go_wp2_with fail
      refine (unhide VX _).mono ?_
      rintro z w10 ⟨rfl, hw10⟩
      clear p0 p1 p2 p3 p4 p5 p6 p7 p8 p9 hp
      have b3 : Below w9.heap.size w9 w10 := hw10 ▸ (Below.refl _ _).alloc (Nat.le_refl _) _
      have Y10 := hide ((unhide Y9).below b3 (unhide Y9).lt)
      have BY10 := hide ((unhide BY9).trans (b3.mono (unhide BY9).size))
      have R10 := hide (((unhide R9).below b3).more b3.size)
      have BK10 := hide ((unhide B7).trans ((unhide BY10).mono (unhide B7).size))
      clear b3 hw10
      cases bv
      · have hE := unhide HLX
        rw [encR, if_neg (by rw [unhide HBV]; simp)] at hE
        injection hE with hE1 hE2
        subst hE1 hE2
        have hF := unhide HTX
        rw [fmtRE, if_neg (by rw [unhide HBV]; simp)] at hF
        injection hF with hF1 hF2
        subst hF1 hF2
        have hn0 : n1 = 0 := by have := (unhide R10).1; simpa [u8V] using this.symm
        subst hn0
        go_wp2_with fail
        go_roundw
        case rel => exact ⟨k + 1, by omega, by go_num, unhide BY10⟩
        case measure => simp [intOf]; omega
      · have hE := unhide HLX
        rw [encR, if_pos (unhide HBV)] at hE
        injection hE with hE1 hE2
        subst hE1 hE2
        have hF := unhide HTX
        rw [fmtRE, if_pos (unhide HBV)] at hF
        injection hF with hF1 hF2
        subst hF1 hF2
        have hn16 : n1 = 16 := by have := (unhide R10).1; simp [u8V, encL] at this; omega
        subst hn16
        have DE := hide (unhide CDE w10 w10.heap.size A1 16 c1 _ (unhide HA1) (unhide R10) (Nat.le_refl _) (encL_bytes (unhide YI) (unhide HBV)) _ 0 (dec_encE (unhide YI) (unhide HBV)))
        have PE := hide fun W (hb : Below w.heap.size w W) => unhide CPA W (shape_below (unhide HSH) hb) _ (by have := fmtE_short (unhide YI) (unhide HBV); omega) _ 0 (parse_fmtE (unhide YI) (unhide HBV))
        obtain ⟨tf, htf⟩ : ∃ t, fmtE ⟨yid, ytm, ygn, yst, ysn, yty, yds, yd0, yd1, yd2⟩ = t := ⟨_, rfl⟩
        rw [htf] at PE ⊢
        unfold DecPost at DE
        unfold EPost at PE
        simp only [Ev.c] at DE PE
        clear htf
        go_wp2_with fail
        refine (unhide DE).mono ?_
        rintro z w11 ⟨rfl, b4⟩
        obtain ⟨Wd, hWd⟩ : ∃ Wd, w11.alloc (.cells #[.int .u16 yid, .int .u32 ytm, .int .u16 ygn, .int .u8 yst, .int .u8 ysn, .int .u8 yty, .bool yds, .int .u8 yd0, .int .u8 yd1, .int .u8 yd2] 26) = Wd := ⟨_, rfl⟩
        obtain ⟨qd, hqd⟩ : ∃ q, w11.heap.size = q := ⟨_, rfl⟩
        have YD : Hid (Blk Wd qd 26 #[.int .u16 yid, .int .u32 ytm, .int .u16 ygn, .int .u8 yst, .int .u8 ysn, .int .u8 yty, .bool yds, .int .u8 yd0, .int .u8 yd1, .int .u8 yd2]) := hide (hqd ▸ hWd ▸ Blk.new w11 _ _)
        have Yd : Hid (Blk Wd qy 26 #[.int .u16 yid, .int .u32 ytm, .int .u16 ygn, .int .u8 yst, .int .u8 ysn, .int .u8 yty, .bool yds, .int .u8 yd0, .int .u8 yd1, .int .u8 yd2]) := hide (hWd ▸ ((unhide Y10).below b4 (unhide Y10).lt).alloc _)
        have BYd : Hid (Below W7.heap.size W7 Wd) := hide (hWd ▸ ((unhide BY10).trans (b4.mono (unhide BY10).size)).alloc ((unhide BY10).trans (b4.mono (unhide BY10).size)).size _)
        have BKd := hide ((unhide B7).trans ((unhide BYd).mono (unhide B7).size))
        have HWd := hide hWd
        have HQd := hide hqd
        clear hWd hqd b4
        go_upto_region 15 with fail
        rw [unhide HWd, unhide HQd]
        go_wp2_with fail
        refine (unhide PE _ (unhide BKd)).mono ?_
        rintro z w12 ⟨rfl, b5⟩
        obtain ⟨Wp, hWp⟩ : ∃ Wp, w12.alloc (.cells #[.int .u16 yid, .int .u32 ytm, .int .u16 ygn, .int .u8 yst, .int .u8 ysn, .int .u8 yty, .bool yds, .int .u8 yd0, .int .u8 yd1, .int .u8 yd2] 26) = Wp := ⟨_, rfl⟩
        obtain ⟨qp, hqp⟩ : ∃ q, w12.heap.size = q := ⟨_, rfl⟩
        have YP : Hid (Blk Wp qp 26 #[.int .u16 yid, .int .u32 ytm, .int .u16 ygn, .int .u8 yst, .int .u8 ysn, .int .u8 yty, .bool yds, .int .u8 yd0, .int .u8 yd1, .int .u8 yd2]) := hide (hqp ▸ hWp ▸ Blk.new w12 _ _)
        have YD2 : Hid (Blk Wp qd 26 #[.int .u16 yid, .int .u32 ytm, .int .u16 ygn, .int .u8 yst, .int .u8 ysn, .int .u8 yty, .bool yds, .int .u8 yd0, .int .u8 yd1, .int .u8 yd2]) := hide (hWp ▸ ((unhide YD).below b5 (unhide YD).lt).alloc _)
        have Y2 : Hid (Blk Wp qy 26 #[.int .u16 yid, .int .u32 ytm, .int .u16 ygn, .int .u8 yst, .int .u8 ysn, .int .u8 yty, .bool yds, .int .u8 yd0, .int .u8 yd1, .int .u8 yd2]) := hide (hWp ▸ ((unhide Yd).below b5 (unhide Yd).lt).alloc _)
        have BYp : Hid (Below W7.heap.size W7 Wp) := hide (hWp ▸ ((unhide BYd).trans (b5.mono (unhide BYd).size)).alloc ((unhide BYd).trans (b5.mono (unhide BYd).size)).size _)
        have HWp := hide hWp
        have HQp := hide hqp
        clear hWp hqp b5
        go_upto_region 16 with fail
        rw [unhide HWp, unhide HQp]
        have heq3 := eq3
        obtain ⟨r0, r1, r2, r3, r4, r5, r6, r7, r8, r9, hrq⟩ := blk10 (unhide YP)
        obtain ⟨p0, p1, p2, p3, p4, p5, p6, p7, p8, p9, hp⟩ := blk10 (unhide YD2)
        obtain ⟨s0, s1, s2, s3, s4, s5, s6, s7, s8, s9, hs⟩ := blk10 (unhide Y2)
        go_wp2_with fail
        go_roundw
        case rel => exact ⟨k + 1, by omega, by go_num, unhide BYp⟩
        case measure => simp [intOf]; omega
    · have hkf : ((k : Int) < 2) = False := by simp; omega
      clear hk2 hk N
      obtain ⟨v, f, hv⟩ : ∃ v f, parseE sl = (v, f) := ⟨_, _, rfl⟩
      obtain ⟨vI, vV, vF⟩ := parse_in hv
      have PS := hide (unhide CPA wr (shape_below (unhide HSH) (unhide BW)) sl hsl2 v f hv)
      have FV := hide fun W (h : Pow10At W) => format_ok W h v vI vV _ rfl
      obtain ⟨tv, htv⟩ : ∃ t, fmtE v = t := ⟨_, rfl⟩
      rw [htv] at FV vF
      unfold EPost at PS
      have VF := hide vF
      obtain ⟨vid, vtm, vgn, vst, vsn, vty, vds, vd0, vd1, vd2⟩ := v
      simp only [Ev.c] at PS FV
      clear hv htv vI vV vF
      go_wp2_with fail
      refine (unhide PS).mono ?_
      rintro z w20 ⟨rfl, b6⟩
      obtain ⟨Wv, hWv⟩ : ∃ Wv, w20.alloc (.cells #[.int .u16 vid, .int .u32 vtm, .int .u16 vgn, .int .u8 vst, .int .u8 vsn, .int .u8 vty, .bool vds, .int .u8 vd0, .int .u8 vd1, .int .u8 vd2] 26) = Wv := ⟨_, rfl⟩
      obtain ⟨qv, hqv⟩ : ∃ q, w20.heap.size = q := ⟨_, rfl⟩
      have V20 : Hid (Blk Wv qv 26 #[.int .u16 vid, .int .u32 vtm, .int .u16 vgn, .int .u8 vst, .int .u8 vsn, .int .u8 vty, .bool vds, .int .u8 vd0, .int .u8 vd1, .int .u8 vd2]) := hide (hqv ▸ hWv ▸ Blk.new w20 _ _)
      have BV : Hid (Below w.heap.size w Wv) := hide (hWv ▸ ((unhide BW).trans (b6.mono (unhide BW).size)).alloc ((unhide BW).trans (b6.mono (unhide BW).size)).size _)
      have HWv := hide hWv
      have HQv := hide hqv
      clear hWv hqv b6
      go_upto_region 20 with fail
      rw [unhide HWv, unhide HQv]
      obtain ⟨p0, p1, p2, p3, p4, p5, p6, p7, p8, p9, hp⟩ := blk10 (unhide V20)
      go_wp2_with fail
      refine (unhide FV _ ((unhide HP0).below (unhide BV))).mono ?_
      rintro z w21 ⟨rfl, b7⟩
      have B21 := hide ((unhide BV).trans (b7.mono (unhide BV).size))
      have AW := hide (awake_any w21 ((unhide HO0).below (unhide B21)) ((unhide HP0).below (unhide B21)))
      clear b7 p0 p1 p2 p3 p4 p5 p6 p7 p8 p9 hp
      by_cases hf : f = 0
      · obtain rfl : tv = sl := unhide VF hf
        subst hf
        go_wp2_with fail
        refine (unhide AW).mono ?_
        rintro e w30 ⟨rfl, hb30⟩
        go_wp2_with fail
        go_ret
        exact ⟨rfl, (unhide B21).trans (hb30.mono (unhide B21).size)⟩
      · have hf' : (f != 0) = true := by simpa using hf
        go_wp2_with fail
        refine (unhide AW).mono ?_
        rintro e w30 ⟨rfl, hb30⟩
        go_wp2_with fail
        go_ret
        exact ⟨rfl, (unhide B21).trans (hb30.mono (unhide B21).size)⟩
theorem returns_law (w : World) (hsh : w.ShapedOpen Tryd.prog) (e : Ev) (he : e.In) (s : ByteArray) (hs : s.size ≤ maxLen) (A' : Option Addr) (n' c' : Nat) (zs' : List Int) (h1 : n' ≤ c') (h2 : c' ≤ maxLen) (hr' : Reads w w.heap.size 1 A' n' (intV zs')) (hP : Pow10At w) (hO : OffAt w) :
    Calls Tryd.prog 9 #[.agg e.c, .string s, .slice A' n' c'] w fun e w' => e = .returned (.bool true) ∧ Below w.heap.size w w' := by
  obtain ⟨d⟩ := s
  have h : (⟨d⟩ : ByteArray) = ⟨d.toList.toArray⟩ := by simp
  rw [h]
  exact returns_walk w hsh e he d.toList hs A' n' c' zs' h1 h2 hr' hP hO
end Go.Proofs.YtklffnfaigmjfaaDoor
