/- The law EventBytes, walked: it returns true (printed by wip/gen_ebytes.py). -/
import Derived.Test.YtklffnfaigmjfaaDoorEDecAny
import Derived.Test.YtklffnfaigmjfaaDoorEDistinct
namespace Go.Proofs.YtklffnfaigmjfaaDoor
open Go.RowKit
theorem DSt.farN {w1 W W' : World} {B g : Nat} {row : Option Nat} (h : DSt w1 B g W) (hg : W.grownBy W' row) (hr : ∀ j, row = some j → w1.heap.size ≤ j) (hl : g < w1.heap.size) : DSt w1 B g W' :=
  ⟨h.1.far hg (fun j e => by have := hr j e; omega), grown_far h.2 hg hr⟩
theorem u8V_one (l : List Int) : ∀ u ∈ u8V l, u.oneCell' = true := by
  intro u hu
  obtain ⟨b, _, rfl⟩ := List.mem_map.1 hu
  rfl
theorem Reads.below_of {w w1 w2 : World} {B n : Nat} {A : Option Addr} {xs : List Value} (h : Reads w1 B 1 A n xs) (h1 : Below B w w1) (h2 : Below B w w2) : Reads w2 B 1 A n xs :=
  h.keep fun _ hp => (h2.cell hp).trans (h1.cell hp).symm
/-- Four slices of bytes. -/
def FourAt (W : World) (gL : Nat) : Prop := gL < W.heap.size ∧ ∀ k, k < 4 → ∃ A m c l, W.cell? ⟨gL, k, none⟩ = some (.slice A m c) ∧ m ≤ c ∧ BytesL l ∧ Reads W W.heap.size 1 A m (u8V l)
theorem FourAt.below {W W' : World} {gL : Nat} (h : FourAt W gL) (hb : Below W.heap.size W W') : FourAt W' gL :=
  ⟨Nat.lt_of_lt_of_le h.1 hb.size, fun k hk => by
    obtain ⟨A, m, c, l, h1, h2, h3, h4⟩ := h.2 k hk
    exact ⟨A, m, c, l, (hb.cell (p := ⟨gL, k, none⟩) h.1).trans h1, h2, h3, (h4.below hb).more hb.size⟩⟩
theorem fourAt_mk (W : World) {B n c c10 j c4 g10 : Nat} {A A4 : Option Addr} {lb lbad : List Int} (hnc : n ≤ c) (h16 : 16 ≤ c10) (hj : j ≤ 16) (hc4 : 0 + 16 + n ≤ c4) (hb : Reads W B 1 A n (u8V lb)) (h10 : Reads W W.heap.size 1 (some ⟨g10, 0, none⟩) 16 (u8V lbad))
    (h9 : Reads W W.heap.size 1 A4 (0 + 16 + n) (([] ++ u8V lbad) ++ u8V lb)) (hl : BytesL lb) (hl2 : BytesL lbad) (hB : B ≤ W.heap.size) :
    FourAt (W.alloc (.cells #[.slice A n c, .slice (some ⟨g10, 0, none⟩) 16 c10, .slice (some ⟨g10, 0, none⟩) j c10, .slice A4 (0 + 16 + n) c4] 45)) W.heap.size := by
  have hN := Blk.new W 45 #[.slice A n c, .slice (some ⟨g10, 0, none⟩) 16 c10, .slice (some ⟨g10, 0, none⟩) j c10, .slice A4 (0 + 16 + n) c4]
  have hle : W.heap.size ≤ (W.alloc (.cells #[.slice A n c, .slice (some ⟨g10, 0, none⟩) 16 c10, .slice (some ⟨g10, 0, none⟩) j c10, .slice A4 (0 + 16 + n) c4] 45)).heap.size := by rw [size_alloc]; omega
  refine ⟨by rw [size_alloc]; omega, fun k hk => ?_⟩
  have hsub := h10.sub (k := 0) (m := j) (by omega)
  rw [add_mk] at hsub
  rcases (by omega : k = 0 ∨ k = 1 ∨ k = 2 ∨ k = 3) with rfl | rfl | rfl | rfl
  · exact ⟨A, n, c, lb, hN.cell 0, hnc, hl, ((hb.more hB).alloc (Nat.le_refl _) _).more hle⟩
  · exact ⟨_, 16, c10, lbad, hN.cell 1, h16, hl2, (h10.alloc (Nat.le_refl _) _).more hle⟩
  · refine ⟨_, j, c10, lbad.take j, hN.cell 2, by omega, fun x hx => hl2 x (List.mem_of_mem_take hx), ?_⟩
    have : (List.take j (List.drop 0 (u8V lbad))) = u8V (lbad.take j) := by simp [u8V, List.map_take]
    rw [this] at hsub
    exact (hsub.alloc (Nat.le_refl _) _).more hle
  · refine ⟨A4, 0 + 16 + n, c4, lbad ++ lb, hN.cell 3, hc4, fun x hx => by rcases List.mem_append.1 hx with h | h; exact hl2 x h; exact hl x h, ?_⟩
    have : ([] ++ u8V lbad) ++ u8V lb = u8V (lbad ++ lb) := by simp [u8V]
    rw [this] at h9
    exact (h9.alloc (Nat.le_refl _) _).more hle
set_option maxRecDepth 100000 in
set_option maxHeartbeats 32000000 in
theorem bytes_walk (w : World) (e : Ev) (he : e.In) (A : Option Addr) (n c : Nat) (bs : List UInt8) (hn : n ≤ c) (_ : c ≤ maxLen) (hr : Reads w w.heap.size 1 A n (bsV bs)) (A' : Option Addr) (n' c' : Nat) (zs' : List Int) (_ : n' ≤ c') (_ : c' ≤ maxLen) (hr' : Reads w w.heap.size 1 A' n' (intV zs')) (hP : Pow10At w) (hO : OffAt w) :
    Calls Tryd.prog 7 #[.agg e.c, .slice A n c, .slice A' n' c'] w fun e w' => e = .returned (.bool true) ∧ Below w.heap.size w w' := by
  obtain ⟨lb, hlb⟩ : ∃ lb : List Int, bs.map (fun b => (b.toNat : Int)) = lb := ⟨_, rfl⟩
  have hbl : BytesL lb := by
    rw [← hlb]; intro x hx
    obtain ⟨b, _, rfl⟩ := List.mem_map.1 hx
    have := b.toNat_lt
    omega
  have hrb : Reads w w.heap.size 1 A n (u8V lb) := by rw [← hlb]; simpa [bsV, u8V, Function.comp_def] using hr
  have BL := hide hbl
  obtain ⟨W1, hW1⟩ : ∃ W1, w.alloc (.cells e.c 26) = W1 := ⟨_, rfl⟩
  have B1 : Below w.heap.size w W1 := hW1 ▸ (Below.refl _ _).alloc (Nat.le_refl _) _
  have hsz1 : W1.heap.size = w.heap.size + 1 := by rw [← hW1]; simp only [size_alloc]
  have HO0 := hide hO
  have HP0 := hide hP
  have HO := hide (hO.below B1)
  have HP := hide (hP.below B1)
  have HR := hide (hrb.below B1)
  have HR' := hide (hr'.below B1)
  have E1 : Hid (Blk W1 w.heap.size 26 e.c) := hide (hW1 ▸ Blk.new w _ _)
  have HW1 := hide hW1
  have EI := hide he
  clear hO hP hr hr' hW1 hbl hrb hlb he
  obtain ⟨eid, etm, egn, est, esn, ety, eds, ed0, ed1, ed2⟩ := e
  simp only [Ev.c] at E1 HW1
  simp only [Ev.c]
  by_cases h1 : n ≤ 60
  · have hlt : ((60 : Int) < (n : Int)) = False := by simp; omega
    have H1 := hide h1
    clear h1
    by_cases h2 : n' ≤ 600
    · have L2 := hide fun W => light_at W A' n' c' true (by simpa using h2)
      have D2 := hide (dice_roll W1 w.heap.size A' n' c' zs' h2 (unhide HR') (by omega))
      clear h2
      have EVT := hide devent_any
      have NX := hide dnext_any
      have BT := hide dbyte_any
      go_enter Tryd.func7, Tryd.ntmps7
      go_upto_region 1 with fail
      rw [unhide HW1]
      go_wp2_with fail
      refine (unhide L2 _).mono ?_
      rintro e w' ⟨rfl, rfl⟩
      go_wp2_with fail
      refine (roll_at _ A' n' c').mono ?_
      rintro e w' ⟨rfl, rfl⟩
      obtain ⟨g, hg⟩ : ∃ g, W1.heap.size = g := ⟨_, rfl⟩
      obtain ⟨W2, hW2⟩ : ∃ W2, W1.alloc (.cells #[.slice A' n' c', .int .i64 0] 66) = W2 := ⟨_, rfl⟩
      have B2 : Hid (Below w.heap.size w W2) := hide (hW2 ▸ B1.alloc (by omega) _)
      have D2' : Hid (DiceOk W2 w.heap.size g) := hide (hg ▸ hW2 ▸ unhide D2)
      have E2 : Hid (Blk W2 w.heap.size 26 #[.int .u16 eid, .int .u32 etm, .int .u16 egn, .int .u8 est, .int .u8 esn, .int .u8 ety, .bool eds, .int .u8 ed0, .int .u8 ed1, .int .u8 ed2]) := hide (hW2 ▸ (unhide E1).alloc _)
      have HW2 := hide hW2
      have hgw : w.heap.size < g := by omega
      have HG := hide hg
      have HS1 := hide hsz1
      have HB1 := hide B1
      clear hW2 hg hsz1 B1
      rw [unhide HW2, unhide HG]
      go_wp2_with fail
      refine (unhide EVT _ _ _ (unhide D2')).mono ?_
      rintro e w3 ⟨x, rfl, hxi, hxv, hx0, hd3, hg3⟩
      have B3 := hide ((unhide B2).grown hg3 (unhide B2).size (fun j e => by injection e with e; omega))
      have E3 := hide ((unhide E2).grown hg3 (by intro e; injection e with e; omega))
      have hgl3 := hd3.lt
      have XI := hide hxi
      have XV := hide hxv
      obtain ⟨q, hq⟩ : ∃ q, w3.heap.size = q := ⟨_, rfl⟩
      obtain ⟨W4, hW4⟩ : ∃ W4, w3.alloc (.cells x.c 26) = W4 := ⟨_, rfl⟩
      have G4 : w3.grownBy W4 (some g) := hW4 ▸ World.grownBy_alloc w3 _ _
      have B4 := hide (hW4 ▸ (unhide B3).alloc (unhide B3).size (.cells x.c 26))
      have D4 : Hid (DiceOk W4 w.heap.size g) := hide (hW4 ▸ hd3.far (World.grownBy_alloc w3 (.cells x.c 26) none) (fun j e => by cases e))
      have E4 := hide ((unhide E3).grown G4 (by intro e; injection e with e; omega))
      have X4 : Hid (Blk W4 q 26 x.c) := hide (hq ▸ hW4 ▸ Blk.new w3 _ _)
      have hgq : g < q := by omega
      have HW4 := hide hW4
      have HQ := hide hq
      clear hW4 hq hxi hxv hx0 hd3 hg3 G4
      obtain ⟨xid, xtm, xgn, xst, xsn, xty, xds, xd0, xd1, xd2⟩ := x
      simp only [Ev.c] at X4 HW4
      simp only [Ev.c]
      go_upto_region 5 with fail
      rw [unhide HW4, unhide HQ]
      go_wp2_with fail
      refine (unhide NX _ w.heap.size g 65536 (by omega) (by omega) (unhide D4)).mono ?_
      rintro e w5 ⟨j, hj, rfl, hd5, hg5⟩
      have hv5 : IntKind.u16.wrap (j : Int) = (j : Int) := IntWalk.u16_in _ (by omega)
      have B5 := (unhide B4).grown hg5 (unhide B4).size (fun j e => by injection e with e; omega)
      have E5 := (unhide E4).grown hg5 (by intro e; injection e with e; omega)
      have X5 := (unhide X4).grown hg5 (by intro e; injection e with e; omega)
      have c5 : w5.cell? ⟨q, 0, none⟩ = some (.int .u16 xid) := X5.cell 0
      have f5 : w5.frozen? ⟨q, 0, none⟩ = false := X5.frozen 0
      have gs : w5.grownBy (w5.setCell ⟨q, 0, none⟩ (.int .u16 (j : Int))) (some q) := only_setCell (World.grownBy.refl w5 _) (.inl rfl) _
      obtain ⟨W6, hW6⟩ : ∃ W6, w5.setCell ⟨q, 0, none⟩ (.int .u16 (j : Int)) = W6 := ⟨_, rfl⟩
      have X6 : Hid (Blk W6 q 26 #[.int .u16 (j : Int), .int .u32 xtm, .int .u16 xgn, .int .u8 xst, .int .u8 xsn, .int .u8 xty, .bool xds, .int .u8 xd0, .int .u8 xd1, .int .u8 xd2]) := hide (hW6 ▸ X5.set_ 0 _)
      rw [hW6] at gs
      have B6 := hide (B5.grown gs B5.size (fun j e => by injection e with e; omega))
      have D6 := hide (hd5.far gs (fun j e => by injection e with e; omega))
      have E6 := hide (E5.grown gs (by intro e; injection e with e; omega))
      have HW6 := hide hW6
      have HC5 := hide (And.intro c5 f5)
      clear B5 E5 X5 c5 f5 gs hW6 hd5 hg5
      obtain ⟨c5, f5⟩ := unhide HC5
      go_upto_region 6 with fail
      rw [unhide HW6]
      clear c5 f5
      obtain ⟨r0, r1, r2, r3, r4, r5, r6, r7, r8, r9, hrq⟩ := blk10 (unhide E6)
      obtain ⟨p0, p1, p2, p3, p4, p5, p6, p7, p8, p9, hp⟩ := blk10 (unhide X6)
      go_upto_region 7 with fail
      clear p0 p1 p2 p3 p4 p5 p6 p7 p8 p9 hp
      clear r0 r1 r2 r3 r4 r5 r6 r7 r8 r9 hrq
      obtain ⟨q7, hq7⟩ : ∃ q7, W6.heap.size = q7 := ⟨_, rfl⟩
      obtain ⟨W7, hW7⟩ : ∃ W7, W6.alloc (.cells #[.int .u16 eid, .int .u32 etm, .int .u16 egn, .int .u8 est, .int .u8 esn, .int .u8 ety, .bool eds, .int .u8 ed0, .int .u8 ed1, .int .u8 ed2, .int .u16 (j : Int), .int .u32 xtm, .int .u16 xgn, .int .u8 xst, .int .u8 xsn, .int .u8 xty, .bool xds, .int .u8 xd0, .int .u8 xd1, .int .u8 xd2] 26) = W7 := ⟨_, rfl⟩
      have N7 : Hid (Blk W7 q7 26 #[.int .u16 eid, .int .u32 etm, .int .u16 egn, .int .u8 est, .int .u8 esn, .int .u8 ety, .bool eds, .int .u8 ed0, .int .u8 ed1, .int .u8 ed2, .int .u16 (j : Int), .int .u32 xtm, .int .u16 xgn, .int .u8 xst, .int .u8 xsn, .int .u8 xty, .bool xds, .int .u8 xd0, .int .u8 xd1, .int .u8 xd2]) := hide (hq7 ▸ hW7 ▸ Blk.new W6 _ _)
      have B7 : Hid (Below w.heap.size w W7) := hide (hW7 ▸ (unhide B6).alloc (unhide B6).size _)
      have D7 : Hid (DiceOk W7 w.heap.size g) := hide (hW7 ▸ (unhide D6).far (World.grownBy_alloc W6 _ none) (fun j e => by cases e))
      have X7 : Hid (Blk W7 q 26 #[.int .u16 (j : Int), .int .u32 xtm, .int .u16 xgn, .int .u8 xst, .int .u8 xsn, .int .u8 xty, .bool xds, .int .u8 xd0, .int .u8 xd1, .int .u8 xd2]) := hide (hW7 ▸ (unhide X6).alloc _)
      have HW7 := hide hW7
      have HQ7 := hide hq7
      have eI : (⟨eid, etm, egn, est, esn, ety, eds, ed0, ed1, ed2⟩ : Ev).In := unhide EI
      have xI : (⟨(j : Int), xtm, xgn, xst, xsn, xty, xds, xd0, xd1, xd2⟩ : Ev).In := ⟨by show (0:Int) ≤ (j:Int); omega, by show (j:Int) < 65536; omega, (unhide XI).tm0, (unhide XI).tm1, (unhide XI).gn0, (unhide XI).gn1, (unhide XI).st0, (unhide XI).st1, (unhide XI).sn0, (unhide XI).sn1, (unhide XI).ty0, (unhide XI).ty1, (unhide XI).d00, (unhide XI).d01, (unhide XI).d10, (unhide XI).d11, (unhide XI).d20, (unhide XI).d21⟩
      have HEI := hide eI
      have HXI := hide xI
      clear hW7 hq7 eI xI
      rw [unhide HW7, unhide HQ7]
      go_loopw [44] (fun i wr => ∃ k : Nat, k ≤ 2 ∧ i = .int .i64 k ∧ Below W7.heap.size W7 wr) (fun i _ => 2 - (intOf i).toNat)
      case atStart => exact ⟨0, by omega, rfl, Below.refl _ _⟩
      case round =>
        obtain ⟨k, hk, rfl, hB⟩ := hrel
        have BB := hide hB
        have N := hide ((unhide N7).below hB (unhide N7).lt)
        clear hB
        rcases (by omega : k = 0 ∨ k = 1 ∨ k = 2) with rfl | rfl | hk2
        · have eeI : (⟨eid, etm, egn, est, esn, ety, eds, ed0, ed1, ed2⟩ : Ev).In := unhide HEI
          obtain ⟨lx, fx, hlx⟩ : ∃ l f, encR (⟨eid, etm, egn, est, esn, ety, eds, ed0, ed1, ed2⟩ : Ev) = (l, f) := ⟨_, _, rfl⟩
          have EX := hide fun W => enc_any W _ eeI lx fx hlx
          have RX := hide fun W => renc_any W _ eeI lx fx hlx
          obtain ⟨bv, hbv⟩ : ∃ b, validE (⟨eid, etm, egn, est, esn, ety, eds, ed0, ed1, ed2⟩ : Ev) = b := ⟨_, rfl⟩
          have VX := hide fun W => valid_any W _ bv hbv
          have VY := hide fun W => rvalid_any W _ bv hbv
          simp only [Ev.c] at EX RX VX VY
          have hbb : (bv != bv) = false := by simp
          have hff : (fx != fx) = false := by simp
          clear hlx hbv
          have f0 := (unhide N).cell 0
          have f1 := (unhide N).cell 1
          have f2 := (unhide N).cell 2
          have f3 := (unhide N).cell 3
          have f4 := (unhide N).cell 4
          have f5 := (unhide N).cell 5
          have f6 := (unhide N).cell 6
          have f7 := (unhide N).cell 7
          have f8 := (unhide N).cell 8
          have f9 := (unhide N).cell 9
          simp only [List.getElem?_toArray, List.getElem?_cons_zero, List.getElem?_cons_succ] at f0 f1 f2 f3 f4 f5 f6 f7 f8 f9
          obtain ⟨Wy, hWy⟩ : ∃ Wy, wr.alloc (.cells #[.int .u16 eid, .int .u32 etm, .int .u16 egn, .int .u8 est, .int .u8 esn, .int .u8 ety, .bool eds, .int .u8 ed0, .int .u8 ed1, .int .u8 ed2] 26) = Wy := ⟨_, rfl⟩
          have Y : Hid (Blk Wy wr.heap.size 26 #[.int .u16 eid, .int .u32 etm, .int .u16 egn, .int .u8 est, .int .u8 esn, .int .u8 ety, .bool eds, .int .u8 ed0, .int .u8 ed1, .int .u8 ed2]) := hide (hWy ▸ Blk.new wr _ _)
          have BY : Hid (Below W7.heap.size W7 Wy) := hide (hWy ▸ (unhide BB).alloc (unhide BB).size _)
          have HWy := hide hWy
          clear hWy
          go_upto_region 9 with fail
          rw [unhide HWy]
          obtain ⟨p0, p1, p2, p3, p4, p5, p6, p7, p8, p9, hp⟩ := blk10 (unhide Y)
          go_wp2_with fail
          refine (unhide EX _).mono ?_
          rintro z w8 ⟨A1, n1, c1, rfl, ha1, hb1, r1, b1⟩
          clear p0 p1 p2 p3 p4 p5 p6 p7 p8 p9 hp
          have Y8 := hide ((unhide Y).below b1 (unhide Y).lt)
          have BY8 := hide ((unhide BY).trans (b1.mono (unhide BY).size))
          have R1 := hide r1
          clear r1 b1
          obtain ⟨p0, p1, p2, p3, p4, p5, p6, p7, p8, p9, hp⟩ := blk10 (unhide Y8)
          go_wp2_with fail
          refine (unhide RX _).mono ?_
          rintro z w9 ⟨A2, n2, c2, rfl, ha2, hb2, r2, b2⟩
          clear p0 p1 p2 p3 p4 p5 p6 p7 p8 p9 hp
          have Y9 := hide ((unhide Y8).below b2 (unhide Y8).lt)
          have BY9 := hide ((unhide BY8).trans (b2.mono (unhide BY8).size))
          have R1' := hide (((unhide R1).below b2).more b2.size)
          have R2 := hide r2
          clear r2 b2
          go_upto_region 11 with fail
          have hin : Nonempty (InClass (fun W => Below w9.heap.size w9 W)) := ⟨⟨_, Below.refl _ _⟩⟩
          have K1 : Hid (∀ x' : InClass (fun W => Below w9.heap.size w9 W), Calls Tryd.prog 20 #[.agg #[.int .u16 eid, .int .u32 etm, .int .u16 egn, .int .u8 est, .int .u8 esn, .int .u8 ety, .bool eds, .int .u8 ed0, .int .u8 ed1, .int .u8 ed2]] x'.val fun e w'' => e = .returned (.bool bv) ∧ ∃ y' : InClass (fun W => Below w9.heap.size w9 W), w'' = y'.val) := hide fun x' =>
            class_call (B := w9.heap.size) ((unhide VX x'.val).mono fun _ _ h => ⟨h.1, by rw [h.2]; exact (Below.refl _ _).alloc x'.ok.size _⟩) fun w' h => x'.ok.trans h
          have K2 : Hid (∀ x' : InClass (fun W => Below w9.heap.size w9 W), Calls Tryd.prog 29 #[.agg #[.int .u16 eid, .int .u32 etm, .int .u16 egn, .int .u8 est, .int .u8 esn, .int .u8 ety, .bool eds, .int .u8 ed0, .int .u8 ed1, .int .u8 ed2]] x'.val fun e w'' => e = .returned (.bool bv) ∧ ∃ y' : InClass (fun W => Below w9.heap.size w9 W), w'' = y'.val) := hide fun x' =>
            class_call (B := w9.heap.size) ((unhide VY x'.val).mono fun _ _ h => ⟨h.1, by rw [h.2]; exact (Below.refl _ _).alloc x'.ok.size _⟩) fun w' h => x'.ok.trans h
          have K3 : Hid (∀ x' : InClass (fun W => Below w9.heap.size w9 W), Calls Tryd.prog 26 #[.slice A1 n1 c1, .slice A2 n2 c2] x'.val fun e w'' => e = .returned (.bool true) ∧ ∃ y' : InClass (fun W => Below w9.heap.size w9 W), w'' = y'.val) := hide fun x' =>
            class_call (B := w9.heap.size) ((same_any x'.val w9.heap.size _ _ n1 c1 n2 c2 lx lx ha1 hb1 ha2 hb2 ((unhide R1').below x'.ok) ((unhide R2).below x'.ok) true (by simp)).mono fun _ _ h => ⟨h.1, by obtain ⟨k, rfl⟩ := h.2; exact below_drewN (Below.refl _ _) k⟩) fun w' h => x'.ok.trans h
          have hS9 := hide ((Below.refl w9.heap.size w9).drew)
          refine wp_region_class (fun W => Below w9.heap.size w9 W) (by kernel_rfl) (by kernel_rfl) (unhide hS9) ?_
          refine BigFrame.wpQuiet_want rfl (fun K hK => quiet_load_row _ _ rfl wr.heap.size rfl 26 #[.int .u16 eid, .int .u32 etm, .int .u16 egn, .int .u8 est, .int .u8 esn, .int .u8 ety, .bool eds, .int .u8 ed0, .int .u8 ed1, .int .u8 ed2] _ (fun W hW => by obtain ⟨z, rfl⟩ := hW; exact (unhide Y9).below z.ok (unhide Y9).lt) Tryd.underlying26 rfl (by kernel_rfl) (hK _ ?_))
          simp only [Act.put, List.setIfInBounds_toArray, List.set_cons_zero, List.set_cons_succ]
          go_big_quiet_step ((go_at_call 20; exact (unhide K1) _))
          refine BigFrame.wpQuiet_want rfl (fun K hK => quiet_load_row _ _ rfl wr.heap.size rfl 26 #[.int .u16 eid, .int .u32 etm, .int .u16 egn, .int .u8 est, .int .u8 esn, .int .u8 ety, .bool eds, .int .u8 ed0, .int .u8 ed1, .int .u8 ed2] _ (fun W hW => by obtain ⟨z, rfl⟩ := hW; exact (unhide Y9).below z.ok (unhide Y9).lt) Tryd.underlying26 rfl (by kernel_rfl) (hK _ ?_))
          simp only [Act.put, List.setIfInBounds_toArray, List.set_cons_zero, List.set_cons_succ]
          go_big_quiet_step ((go_at_call 29; exact (unhide K2) _))
          repeat (go_big_quiet_step (fail))
          go_big_quiet_step ((go_at_call 26; exact (unhide K3) _))
          repeat (go_big_quiet_step (fail))
          refine wpQuiet_nil ?_
          intro _ hw'
          obtain ⟨x14, hw''⟩ := hw'
          subst hw''
          have B14 := hide ((unhide BY9).trans (x14.ok.mono (unhide BY9).size))
          go_wp2_with fail
          go_roundw
          case rel => exact ⟨1, by omega, by go_num, unhide B14⟩
          case measure => simp [intOf]
        · have xxI : (⟨(j : Int), xtm, xgn, xst, xsn, xty, xds, xd0, xd1, xd2⟩ : Ev).In := unhide HXI
          obtain ⟨lx, fx, hlx⟩ : ∃ l f, encR (⟨(j : Int), xtm, xgn, xst, xsn, xty, xds, xd0, xd1, xd2⟩ : Ev) = (l, f) := ⟨_, _, rfl⟩
          have EX := hide fun W => enc_any W _ xxI lx fx hlx
          have RX := hide fun W => renc_any W _ xxI lx fx hlx
          obtain ⟨bv, hbv⟩ : ∃ b, validE (⟨(j : Int), xtm, xgn, xst, xsn, xty, xds, xd0, xd1, xd2⟩ : Ev) = b := ⟨_, rfl⟩
          have VX := hide fun W => valid_any W _ bv hbv
          have VY := hide fun W => rvalid_any W _ bv hbv
          simp only [Ev.c] at EX RX VX VY
          have hbb : (bv != bv) = false := by simp
          have hff : (fx != fx) = false := by simp
          clear hlx hbv
          have f0 := (unhide N).cell 10
          have f1 := (unhide N).cell 11
          have f2 := (unhide N).cell 12
          have f3 := (unhide N).cell 13
          have f4 := (unhide N).cell 14
          have f5 := (unhide N).cell 15
          have f6 := (unhide N).cell 16
          have f7 := (unhide N).cell 17
          have f8 := (unhide N).cell 18
          have f9 := (unhide N).cell 19
          simp only [List.getElem?_toArray, List.getElem?_cons_zero, List.getElem?_cons_succ] at f0 f1 f2 f3 f4 f5 f6 f7 f8 f9
          obtain ⟨Wy, hWy⟩ : ∃ Wy, wr.alloc (.cells #[.int .u16 (j : Int), .int .u32 xtm, .int .u16 xgn, .int .u8 xst, .int .u8 xsn, .int .u8 xty, .bool xds, .int .u8 xd0, .int .u8 xd1, .int .u8 xd2] 26) = Wy := ⟨_, rfl⟩
          have Y : Hid (Blk Wy wr.heap.size 26 #[.int .u16 (j : Int), .int .u32 xtm, .int .u16 xgn, .int .u8 xst, .int .u8 xsn, .int .u8 xty, .bool xds, .int .u8 xd0, .int .u8 xd1, .int .u8 xd2]) := hide (hWy ▸ Blk.new wr _ _)
          have BY : Hid (Below W7.heap.size W7 Wy) := hide (hWy ▸ (unhide BB).alloc (unhide BB).size _)
          have HWy := hide hWy
          clear hWy
          go_upto_region 9 with fail
          rw [unhide HWy]
          obtain ⟨p0, p1, p2, p3, p4, p5, p6, p7, p8, p9, hp⟩ := blk10 (unhide Y)
          go_wp2_with fail
          refine (unhide EX _).mono ?_
          rintro z w8 ⟨A1, n1, c1, rfl, ha1, hb1, r1, b1⟩
          clear p0 p1 p2 p3 p4 p5 p6 p7 p8 p9 hp
          have Y8 := hide ((unhide Y).below b1 (unhide Y).lt)
          have BY8 := hide ((unhide BY).trans (b1.mono (unhide BY).size))
          have R1 := hide r1
          clear r1 b1
          obtain ⟨p0, p1, p2, p3, p4, p5, p6, p7, p8, p9, hp⟩ := blk10 (unhide Y8)
          go_wp2_with fail
          refine (unhide RX _).mono ?_
          rintro z w9 ⟨A2, n2, c2, rfl, ha2, hb2, r2, b2⟩
          clear p0 p1 p2 p3 p4 p5 p6 p7 p8 p9 hp
          have Y9 := hide ((unhide Y8).below b2 (unhide Y8).lt)
          have BY9 := hide ((unhide BY8).trans (b2.mono (unhide BY8).size))
          have R1' := hide (((unhide R1).below b2).more b2.size)
          have R2 := hide r2
          clear r2 b2
          go_upto_region 11 with fail
          have hin : Nonempty (InClass (fun W => Below w9.heap.size w9 W)) := ⟨⟨_, Below.refl _ _⟩⟩
          have K1 : Hid (∀ x' : InClass (fun W => Below w9.heap.size w9 W), Calls Tryd.prog 20 #[.agg #[.int .u16 (j : Int), .int .u32 xtm, .int .u16 xgn, .int .u8 xst, .int .u8 xsn, .int .u8 xty, .bool xds, .int .u8 xd0, .int .u8 xd1, .int .u8 xd2]] x'.val fun e w'' => e = .returned (.bool bv) ∧ ∃ y' : InClass (fun W => Below w9.heap.size w9 W), w'' = y'.val) := hide fun x' =>
            class_call (B := w9.heap.size) ((unhide VX x'.val).mono fun _ _ h => ⟨h.1, by rw [h.2]; exact (Below.refl _ _).alloc x'.ok.size _⟩) fun w' h => x'.ok.trans h
          have K2 : Hid (∀ x' : InClass (fun W => Below w9.heap.size w9 W), Calls Tryd.prog 29 #[.agg #[.int .u16 (j : Int), .int .u32 xtm, .int .u16 xgn, .int .u8 xst, .int .u8 xsn, .int .u8 xty, .bool xds, .int .u8 xd0, .int .u8 xd1, .int .u8 xd2]] x'.val fun e w'' => e = .returned (.bool bv) ∧ ∃ y' : InClass (fun W => Below w9.heap.size w9 W), w'' = y'.val) := hide fun x' =>
            class_call (B := w9.heap.size) ((unhide VY x'.val).mono fun _ _ h => ⟨h.1, by rw [h.2]; exact (Below.refl _ _).alloc x'.ok.size _⟩) fun w' h => x'.ok.trans h
          have K3 : Hid (∀ x' : InClass (fun W => Below w9.heap.size w9 W), Calls Tryd.prog 26 #[.slice A1 n1 c1, .slice A2 n2 c2] x'.val fun e w'' => e = .returned (.bool true) ∧ ∃ y' : InClass (fun W => Below w9.heap.size w9 W), w'' = y'.val) := hide fun x' =>
            class_call (B := w9.heap.size) ((same_any x'.val w9.heap.size _ _ n1 c1 n2 c2 lx lx ha1 hb1 ha2 hb2 ((unhide R1').below x'.ok) ((unhide R2).below x'.ok) true (by simp)).mono fun _ _ h => ⟨h.1, by obtain ⟨k, rfl⟩ := h.2; exact below_drewN (Below.refl _ _) k⟩) fun w' h => x'.ok.trans h
          have hS9 := hide ((Below.refl w9.heap.size w9).drew)
          refine wp_region_class (fun W => Below w9.heap.size w9 W) (by kernel_rfl) (by kernel_rfl) (unhide hS9) ?_
          refine BigFrame.wpQuiet_want rfl (fun K hK => quiet_load_row _ _ rfl wr.heap.size rfl 26 #[.int .u16 (j : Int), .int .u32 xtm, .int .u16 xgn, .int .u8 xst, .int .u8 xsn, .int .u8 xty, .bool xds, .int .u8 xd0, .int .u8 xd1, .int .u8 xd2] _ (fun W hW => by obtain ⟨z, rfl⟩ := hW; exact (unhide Y9).below z.ok (unhide Y9).lt) Tryd.underlying26 rfl (by kernel_rfl) (hK _ ?_))
          simp only [Act.put, List.setIfInBounds_toArray, List.set_cons_zero, List.set_cons_succ]
          go_big_quiet_step ((go_at_call 20; exact (unhide K1) _))
          refine BigFrame.wpQuiet_want rfl (fun K hK => quiet_load_row _ _ rfl wr.heap.size rfl 26 #[.int .u16 (j : Int), .int .u32 xtm, .int .u16 xgn, .int .u8 xst, .int .u8 xsn, .int .u8 xty, .bool xds, .int .u8 xd0, .int .u8 xd1, .int .u8 xd2] _ (fun W hW => by obtain ⟨z, rfl⟩ := hW; exact (unhide Y9).below z.ok (unhide Y9).lt) Tryd.underlying26 rfl (by kernel_rfl) (hK _ ?_))
          simp only [Act.put, List.setIfInBounds_toArray, List.set_cons_zero, List.set_cons_succ]
          go_big_quiet_step ((go_at_call 29; exact (unhide K2) _))
          repeat (go_big_quiet_step (fail))
          go_big_quiet_step ((go_at_call 26; exact (unhide K3) _))
          repeat (go_big_quiet_step (fail))
          refine wpQuiet_nil ?_
          intro _ hw'
          obtain ⟨x14, hw''⟩ := hw'
          subst hw''
          have B14 := hide ((unhide BY9).trans (x14.ok.mono (unhide BY9).size))
          go_wp2_with fail
          go_roundw
          case rel => exact ⟨2, by omega, by go_num, unhide B14⟩
          case measure => simp [intOf]
        · have hkf : ((k : Int) < 2) = False := by simp; omega
          clear hk2 hk
          obtain ⟨i0, hi, hz0, hz1, hz2⟩ := info_parts info_u8
          have HI := hide hi
          have HI0 := hide hz0
          have HI1 := hide hz1
          have HI2 := hide hz2
          clear hi hz0 hz1 hz2
          have B8 := (unhide B7).trans ((unhide BB).mono (unhide B7).size)
          have D8 : DiceOk wr w.heap.size g := (unhide D7).keep (fun b hb => (unhide BB).block b (by have := (unhide D7).lt; omega))
          have X8 := (unhide X7).below (unhide BB) (unhide X7).lt
          have c8 : wr.cell? ⟨q, 0, none⟩ = some (.int .u16 (j : Int)) := X8.cell 0
          have f8 : wr.frozen? ⟨q, 0, none⟩ = false := X8.frozen 0
          have gs : wr.grownBy (wr.setCell ⟨q, 0, none⟩ (.int .u16 1)) (some q) := only_setCell (World.grownBy.refl wr _) (.inl rfl) _
          obtain ⟨W9, hW9⟩ : ∃ W9, wr.setCell ⟨q, 0, none⟩ (.int .u16 1) = W9 := ⟨_, rfl⟩
          have X9 : Hid (Blk W9 q 26 #[.int .u16 1, .int .u32 xtm, .int .u16 xgn, .int .u8 xst, .int .u8 xsn, .int .u8 xty, .bool xds, .int .u8 xd0, .int .u8 xd1, .int .u8 xd2]) := hide (hW9 ▸ X8.set_ 0 _)
          rw [hW9] at gs
          have B9 := hide (B8.grown gs B8.size (fun j e => by injection e with e; omega))
          have D9 := hide (D8.far gs (fun j e => by injection e with e; omega))
          have HW9 := hide hW9
          have HC8 := hide (And.intro c8 f8)
          have XX : Hid ((⟨1, xtm, xgn, xst, xsn, xty, xds, xd0, xd1, xd2⟩ : Ev).In ∧ validE ⟨1, xtm, xgn, xst, xsn, xty, xds, xd0, xd1, xd2⟩ = true) := hide (by
            refine ⟨⟨by show (0 : Int) ≤ 1; omega, by show (1 : Int) < 65536; omega, (unhide XI).tm0, (unhide XI).tm1, (unhide XI).gn0, (unhide XI).gn1, (unhide XI).st0, (unhide XI).st1, (unhide XI).sn0, (unhide XI).sn1, (unhide XI).ty0, (unhide XI).ty1, (unhide XI).d00, (unhide XI).d01, (unhide XI).d10, (unhide XI).d11, (unhide XI).d20, (unhide XI).d21⟩, ?_⟩
            have := unhide XV
            simp [validE] at this ⊢
            omega)
          have REX := hide fun W => renc_ok W _ (unhide XX).1 (unhide XX).2
          have EBY := hide (encL_bytes (unhide XX).1 (unhide XX).2)
          have ELE : Hid ((encL ⟨1, xtm, xgn, xst, xsn, xty, xds, xd0, xd1, xd2⟩).length = 16) := hide rfl
          obtain ⟨le, hle⟩ : ∃ l, encL ⟨1, xtm, xgn, xst, xsn, xty, xds, xd0, xd1, xd2⟩ = l := ⟨_, rfl⟩
          unfold REncPost at REX
          simp only [hle, Ev.c] at REX EBY ELE
          clear B8 D8 X8 c8 f8 gs hW9 hle
          obtain ⟨c8, f8⟩ := unhide HC8
          go_upto_region 15 with fail
          rw [unhide HW9]
          clear c8 f8
          obtain ⟨p0, p1, p2, p3, p4, p5, p6, p7, p8, p9, hp⟩ := blk10 (unhide X9)
          go_wp2_with fail
          refine (unhide REX _).mono ?_
          rintro z w10 ⟨v10, rfl, ho10, hb10⟩
          clear p0 p1 p2 p3 p4 p5 p6 p7 p8 p9 hp
          obtain ⟨A10, c10, rfl, hc10, hm10⟩ := slice_of_own ho10
          obtain ⟨g10, cap10, hv10, hg10, hl10⟩ := ho10.form (by omega)
          injection hv10 with ha _ hb
          subst ha hb
          have hW9s := (unhide D9).lt
          have hgg : g < g10 := by omega
          have B10 := hide ((unhide B9).trans (hb10.mono (unhide B9).size))
          have D10 : Hid (DiceOk w10 w.heap.size g) := hide ((unhide D9).keep (fun b hb => hb10.block b (by omega)))
          have OW10 := hide ho10
          clear ho10 hb10
          go_wp2_with fail
          refine (unhide NX _ w.heap.size g 16 (by omega) (by omega) (unhide D10)).mono ?_
          rintro e w11 ⟨j2, hj2, rfl, hd11, hg11⟩
          have B11 := hide ((unhide B10).grown hg11 (unhide B10).size (fun j e => by injection e with e; omega))
          have OW11 := hide ((unhide OW10).kept hg11 (.inr (by simp [Value.ownBlock]; omega)))
          have D11 := hide hd11
          clear hd11 hg11
          go_wp2_with fail
          refine (unhide BT _ w.heap.size g (unhide D11)).mono ?_
          rintro e w12 ⟨y, hy0, hy1, rfl, hd12, hg12⟩
          have B12 := (unhide B11).grown hg12 (unhide B11).size (fun j e => by injection e with e; omega)
          have OW12 := (unhide OW11).kept hg12 (.inr (by simp [Value.ownBlock]; omega))
          have j2n : j2 < 16 := by omega
          obtain ⟨u12, hu12⟩ : ∃ u, (u8V le)[j2]? = some u := ⟨_, List.getElem?_eq_getElem (by rw [OW12.1]; omega)⟩
          have c12 : w12.cell? ⟨g10, j2, none⟩ = some u12 := (OW12.cellAt j2 (by omega)).trans hu12
          have f12 : w12.frozen? ⟨g10, j2, none⟩ = false := OW12.frozenAt j2
          have st12 := OW12.stored j2 (.int .u8 y)
          obtain ⟨W13, hW13⟩ : ∃ W13, w12.setCell ⟨g10, j2, none⟩ (.int .u8 y) = W13 := ⟨_, rfl⟩
          rw [hW13] at st12
          obtain ⟨lbad, hlbad⟩ : ∃ l, le.set j2 y = l := ⟨_, rfl⟩
          have hset : (u8V le).set j2 (.int .u8 y) = u8V lbad := by rw [← hlbad]; simp [u8V, List.map_set]
          rw [hset] at st12
          have B13 := hide (B12.grown st12.2 B12.size (fun j e => by injection e with e; omega))
          have D13 := hide (hd12.far st12.2 (fun j e => by injection e with e; omega))
          have OW13 := hide st12.1
          have BBAD : Hid (BytesL lbad) := hide (by
            intro x hx
            rw [← hlbad] at hx
            rcases List.mem_or_eq_of_mem_set hx with h | rfl
            · exact unhide EBY x h
            · exact ⟨hy0, hy1⟩)
          have HW13 := hide hW13
          have HC12 := hide (And.intro c12 f12)
          clear B12 OW12 hu12 c12 f12 st12 hW13 hlbad hset hd12 hg12
          obtain ⟨c12, f12⟩ := unhide HC12
          go_upto_region 17 with fail
          rw [unhide HW13]
          clear c12 f12
          have RBS : Hid (∀ W, DSt W13 w.heap.size g W → Reads W w.heap.size 1 A n (u8V lb)) := hide (fun W hW => ((unhide HR).below_of (unhide HB1) (unhide B13)).grown hW.2 (unhide B13).size (fun j e => by injection e with e; omega))
          have OWS : Hid (∀ W, DSt W13 w.heap.size g W → W.ownsRow W9.heap.size 5 1 (.slice (some ⟨g10, 0, none⟩) 16 c10) 16 (u8V lbad)) := hide (fun W hW => (unhide OW13).kept hW.2 (.inr (by simp [Value.ownBlock]; omega)))
          have HSL : Hid (∀ (j : Nat), j ≤ 16 → ∀ W, (Instr.sliceAt 45 (.slice (some ⟨g10, 0, none⟩) 16 c10) none (some (.int .i64 (j : Int))) none).run Tryd.prog W = .ok (.slice (some ⟨g10, 0, none⟩) j c10) W) := hide (fun j hj W => by
            have hj1 : (j : Int) ≤ (c10 : Int) := by omega
            have hj0 : (0 : Int) ≤ (j : Int) := by omega
            go_simp)
          have hnc := hn
          have hn60 := unhide H1
          go_cut [97, 98, 99] from 87 to 99 (fun p m i W => ∃ gL : Nat, p = .slice (some ⟨gL, 0, none⟩) 4 4 ∧ m = .int .i64 4 ∧ i = .int .i64 0 ∧ FourAt W gL ∧ Below w.heap.size w W)
          case first =>
            have hS0 : DSt W13 w.heap.size g W13.drew := DSt.drew ⟨unhide D13, World.grownBy.refl _ _⟩
            refine wp_region_noPanic (wp_region_held_drew (S := DSt W13 w.heap.size g) (by kernel_rfl) hS0 (fun _ => ?_))
            refine th_take (i := 0) (v := ?_) rfl (by kernel_rfl) (by kernel_rfl) (by kernel_rfl) (Or.inl ⟨by rfl, fun wz hSw => ?_⟩) hS0 ?_
            rotate_left
            · go_simp
              with_reducible rfl
            simp only [Act.put, List.setIfInBounds_toArray, List.set_cons_zero, List.set_cons_succ]
            refine th_take (i := 1) (v := ?_) rfl (by kernel_rfl) (by kernel_rfl) (by kernel_rfl) (Or.inl ⟨by rfl, fun wz hSw => ?_⟩) hS0 ?_
            rotate_left
            · go_simp
              with_reducible rfl
            simp only [Act.put, List.setIfInBounds_toArray, List.set_cons_zero, List.set_cons_succ]
            refine th_take (i := 2) (v := ?_) rfl (by kernel_rfl) (by kernel_rfl) (by kernel_rfl) (Or.inl ⟨by rfl, fun wz hSw => ?_⟩) hS0 ?_
            rotate_left
            · go_simp
              with_reducible rfl
            simp only [Act.put, List.setIfInBounds_toArray, List.set_cons_zero, List.set_cons_succ]
            refine th_take (i := 3) (v := ?_) rfl (by kernel_rfl) (by kernel_rfl) (by kernel_rfl) (Or.inl ⟨by rfl, fun wz hSw => ?_⟩) hS0 ?_
            rotate_left
            · go_simp
              with_reducible rfl
            simp only [Act.put, List.setIfInBounds_toArray, List.set_cons_zero, List.set_cons_succ]
            refine th_take (i := 6) (v := ?_) rfl (by kernel_rfl) (by kernel_rfl) (by kernel_rfl) (Or.inl ⟨by rfl, fun wz hSw => ?_⟩) hS0 ?_
            rotate_left
            · go_simp
              with_reducible rfl
            simp only [Act.put, List.setIfInBounds_toArray, List.set_cons_zero, List.set_cons_succ]
            refine th_take (i := 8) (v := ?_) rfl (by kernel_rfl) (by kernel_rfl) (by kernel_rfl) (Or.inl ⟨by rfl, fun wz hSw => ?_⟩) hS0 ?_
            rotate_left
            · go_simp
              with_reducible rfl
            simp only [Act.put, List.setIfInBounds_toArray, List.set_cons_zero, List.set_cons_succ]
            refine th_take (i := 12) (v := ?_) rfl (by kernel_rfl) (by kernel_rfl) (by kernel_rfl) (Or.inl ⟨by rfl, fun wz hSw => ?_⟩) hS0 ?_
            rotate_left
            · go_simp
              with_reducible rfl
            simp only [Act.put, List.setIfInBounds_toArray, List.set_cons_zero, List.set_cons_succ]
            refine th_one (i := 4) rfl (by kernel_rfl) (fun K hK => ?_)
            rw [if_pos (by rfl)]
            go_simp
            refine (unhide NX _ w.heap.size g 17 (by omega) (by omega) hS0.1).mono ?_
            rintro e w14 ⟨j3, hj3, rfl, hcn, hgn⟩
            have hS1 : DSt W13 w.heap.size g w14 := hS0.call hcn hgn
            have hsl := (unhide HSL) j3 (by omega)
            refine hK.out _ _ hS1 (fun _ => ?_)
            clear hK K
            try simp only [Act.put, List.setIfInBounds_toArray, List.set_cons_zero, List.set_cons_succ]
            refine th_take (i := 5) (v := ?_) rfl (by kernel_rfl) (by kernel_rfl) (by kernel_rfl) (Or.inl ⟨by rfl, fun wz hSw => ?_⟩) hS1 ?_
            rotate_left
            · go_simp
              with_reducible rfl
            simp only [Act.put, List.setIfInBounds_toArray, List.set_cons_zero, List.set_cons_succ]
            refine th_one (i := 7) rfl (by kernel_rfl) (fun K hK => ?_)
            refine step_append_any w14 rfl (.const (.slice none 0 0)) (.tmp 93) 45 rfl W13.heap.size 5 i0 (.int .u8 0) 1 1 Tryd.underlying45 (unhide HI) (unhide HI0) (unhide HI1) (unhide HI2) rfl (by decide) (.slice none 0 0) 0 [] rfl (World.ownsRow_nil w14 W13.heap.size 5 1) w14.heap.size (some ⟨g10, 0, none⟩) 16 c10 (u8V lbad) rfl (Reads.of_own (unhide OWS _ hS1)) (u8V_one _) (by unfold maxLen; omega) (by omega) hS1.2.size ?_
            intro v7 w7 ho7 hg7 _
            have hS7 : DSt W13 w.heap.size g w7 := hS1.farN hg7 (fun j e => by cases e) (unhide D13).lt
            refine hK.out _ _ hS7 (fun _ => ?_)
            clear hK K
            try simp only [Act.put]
            try simp only [List.setIfInBounds_toArray, List.set_cons_zero, List.set_cons_succ]
            refine th_one (i := 9) rfl (by kernel_rfl) (fun K hK => ?_)
            refine step_append_any w7 rfl (.tmp 94) (.tmp 95) 45 rfl W13.heap.size 5 i0 (.int .u8 0) 1 1 Tryd.underlying45 (unhide HI) (unhide HI0) (unhide HI1) (unhide HI2) rfl (by decide) v7 (0 + 16) _ rfl ho7 w7.heap.size A n c (u8V lb) rfl ((unhide RBS _ hS7).more (Nat.le_trans (unhide B13).size hS7.2.size)) (u8V_one _) (by unfold maxLen; omega) (by omega) hS7.2.size ?_
            intro v9 w9 ho9 hg9 _
            have hS9 : DSt W13 w.heap.size g w9 := hS7.farN hg9 (fun j e => (ho7.lt j e).1) (unhide D13).lt
            refine hK.out _ _ hS9 (fun _ => ?_)
            clear hK K
            try simp only [Act.put]
            try simp only [List.setIfInBounds_toArray, List.set_cons_zero, List.set_cons_succ]
            obtain ⟨A4, c4, rfl, hc4, hm4⟩ := slice_of_own ho9
            have rd9 := Reads.of_own ho9
            refine th_one (i := 10) rfl (by kernel_rfl) (fun K hK => ?_)
            rw [if_pos (by rfl)]
            go_simp
            have hSa : DSt W13 w.heap.size g (w9.alloc (.cells #[.slice A n c, .slice (some ⟨g10, 0, none⟩) 16 c10, .slice (some ⟨g10, 0, none⟩) j3 c10, .slice A4 (0 + 16 + n) c4] 45)) := hS9.alloc _
            refine hK.out _ _ hSa (fun _ => ?_)
            clear hK K
            try simp only [Act.put, List.setIfInBounds_toArray, List.set_cons_zero, List.set_cons_succ]
            refine th_take (i := 11) (v := ?_) rfl (by kernel_rfl) (by kernel_rfl) (by kernel_rfl) (Or.inl ⟨by rfl, fun wz hSw => ?_⟩) hSa ?_
            rotate_left
            · go_simp
              with_reducible rfl
            simp only [Act.put, List.setIfInBounds_toArray, List.set_cons_zero, List.set_cons_succ]
            refine wpAnyH_done (by kernel_rfl) (NoPanic.normal ?_) _
            go_wp2_with fail
            go_meet
            exact ⟨w9.heap.size, rfl, rfl, rfl, fourAt_mk w9 hnc (by omega) (by omega) hc4 (unhide RBS _ hS9) (Reads.of_own (unhide OWS _ hS9)) rd9 (unhide BL) (unhide BBAD) (Nat.le_trans (unhide B13).size hS9.2.size), (unhide B13).grown hSa.2 (unhide B13).size (fun j e => by injection e with e; omega)⟩
          case rest =>
            obtain ⟨gL, rfl, rfl, rfl, h4, hB17⟩ := hcut
            obtain ⟨W17, hW17, h4', hB17'⟩ : ∃ W17, W17 = _ ∧ FourAt W17 gL ∧ Below w.heap.size w W17 := ⟨_, rfl, h4, hB17⟩
            subst hW17
            clear h4' hB17'
            have H4 := hide h4
            have B17 := hide hB17
            clear h4 hB17
            go_wp2_with fail
            go_loopw [99] (fun i wr => ∃ k : Nat, k ≤ 4 ∧ i = .int .i64 k ∧ Below W17.heap.size W17 wr) (fun i _ => 4 - (intOf i).toNat)
            case atStart => exact ⟨0, by omega, rfl, Below.refl _ _⟩
            case round =>
              obtain ⟨k, hk, rfl, hB⟩ := hrel
              have BB := hide hB
              have F4 := hide (FourAt.below (unhide H4) hB)
              have BW := hide ((unhide B17).trans (hB.mono (unhide B17).size))
              clear hB
              by_cases hk4 : k < 4
              · obtain ⟨Ak, m, ck, l, hcell, hmc, hbk, hrk⟩ := (unhide F4).2 k hk4
                obtain ⟨Y, f, hY⟩ : ∃ Y f, decR l = (Y, f) := ⟨_, _, rfl⟩
                have DE := hide (dec_any wr wr.heap.size Ak m ck l hmc hrk (Nat.le_refl _) hbk Y f hY)
                have RE := hide (fun W (h : Below wr.heap.size wr W) => rdec_any W wr.heap.size Ak m ck l hmc (hrk.below h) h.size hbk Y f hY)
                unfold DecPost at DE RE
                have hki : (k : Int) < 4 := by omega
                have hk0 : (0 : Int) ≤ (k : Int) := by omega
                have heq3 := eq3
                have hff : (f != f) = false := by simp
                obtain ⟨yid, ytm, ygn, yst, ysn, yty, yds, yd0, yd1, yd2⟩ := Y
                simp only [Ev.c] at DE RE
                clear hmc hbk hrk hY
                go_wp2_with fail
                refine (unhide DE).mono ?_
                rintro z w18 ⟨rfl, hb18⟩
                obtain ⟨W19, hW19⟩ : ∃ W19, w18.alloc (.cells #[.int .u16 yid, .int .u32 ytm, .int .u16 ygn, .int .u8 yst, .int .u8 ysn, .int .u8 yty, .bool yds, .int .u8 yd0, .int .u8 yd1, .int .u8 yd2] 26) = W19 := ⟨_, rfl⟩
                have Y19 : Hid (Blk W19 w18.heap.size 26 #[.int .u16 yid, .int .u32 ytm, .int .u16 ygn, .int .u8 yst, .int .u8 ysn, .int .u8 yty, .bool yds, .int .u8 yd0, .int .u8 yd1, .int .u8 yd2]) := hide (hW19 ▸ Blk.new w18 _ _)
                have S19 : Hid (Below wr.heap.size wr W19) := hide (hW19 ▸ hb18.alloc hb18.size _)
                have HW19 := hide hW19
                clear hW19 hb18 hcell
                go_upto_region 21 with fail
                rw [unhide HW19]
                go_wp2_with fail
                refine (unhide RE _ (unhide S19)).mono ?_
                rintro z w20 ⟨rfl, hb20⟩
                obtain ⟨W21, hW21⟩ : ∃ W21, w20.alloc (.cells #[.int .u16 yid, .int .u32 ytm, .int .u16 ygn, .int .u8 yst, .int .u8 ysn, .int .u8 yty, .bool yds, .int .u8 yd0, .int .u8 yd1, .int .u8 yd2] 26) = W21 := ⟨_, rfl⟩
                have Z21 : Hid (Blk W21 w20.heap.size 26 #[.int .u16 yid, .int .u32 ytm, .int .u16 ygn, .int .u8 yst, .int .u8 ysn, .int .u8 yty, .bool yds, .int .u8 yd0, .int .u8 yd1, .int .u8 yd2]) := hide (hW21 ▸ Blk.new w20 _ _)
                have Y21 : Hid (Blk W21 w18.heap.size 26 #[.int .u16 yid, .int .u32 ytm, .int .u16 ygn, .int .u8 yst, .int .u8 ysn, .int .u8 yty, .bool yds, .int .u8 yd0, .int .u8 yd1, .int .u8 yd2]) := hide (hW21 ▸ ((unhide Y19).below hb20 (unhide Y19).lt).alloc _)
                have S21 : Hid (Below wr.heap.size wr W21) := hide (hW21 ▸ ((unhide S19).trans (hb20.mono (unhide S19).size)).alloc (Nat.le_trans (unhide S19).size hb20.size) _)
                have HW21 := hide hW21
                clear hW21 hb20
                go_upto_region 22 with fail
                rw [unhide HW21]
                obtain ⟨r0, r1, r2, r3, r4, r5, r6, r7, r8, r9, hrq⟩ := blk10 (unhide Y21)
                obtain ⟨p0, p1, p2, p3, p4, p5, p6, p7, p8, p9, hp⟩ := blk10 (unhide Z21)
                go_wp2_with fail
                go_roundw
                case rel => exact ⟨k + 1, by omega, by go_num, (unhide BB).trans ((unhide S21).mono (unhide BB).size)⟩
                case measure => simp [intOf]; omega
              · have hkf : ((k : Int) < 4) = False := by simp; omega
                clear hk4 hk
                go_wp2_with fail
                refine (awake_any _ ((unhide HO0).below (unhide BW)) ((unhide HP0).below (unhide BW))).mono ?_
                rintro e w30 ⟨rfl, hb30⟩
                go_wp2_with fail
                go_ret
                exact ⟨rfl, (unhide BW).trans (hb30.mono (unhide BW).size)⟩
    · have L2 := hide fun W => light_at W A' n' c' false (by simpa using h2)
      clear h2
      go_enter Tryd.func7, Tryd.ntmps7
      go_upto_region 1 with fail
      rw [unhide HW1]
      go_wp2_with fail
      refine (unhide L2 _).mono ?_
      rintro e w' ⟨rfl, rfl⟩
      go_wp2_with fail
      refine (awake_any _ (unhide HO) (unhide HP)).mono ?_
      rintro e w1 ⟨rfl, hb1⟩
      go_wp2_with fail
      go_ret
      exact ⟨rfl, B1.trans (hb1.mono B1.size)⟩
  · have hlt : (60 : Int) < (n : Int) := by omega
    clear h1
    go_enter Tryd.func7, Tryd.ntmps7
    go_upto_region 1 with fail
    rw [unhide HW1]
    go_wp2_with fail
    refine (awake_any _ (unhide HO) (unhide HP)).mono ?_
    rintro e w1 ⟨rfl, hb1⟩
    go_wp2_with fail
    go_ret
    exact ⟨rfl, B1.trans (hb1.mono B1.size)⟩
end Go.Proofs.YtklffnfaigmjfaaDoor
