/- joined by tools/merge.py of SPackL SAwakeP SAwakeC STaken SOnceP. -/
import Derived.Test.YtfbkkmnkpjgciaaSSplit
import Derived.Test.YtfbkkmnkpjgciaaSAcc
import Derived.Test.YtfbkkmnkpjgciaaSRecv
import Derived.Test.YtfbkkmnkpjgciaaSBytes
import Derived.Below
import Derived.Maps.OwnSet
import Derived.Maps.OwnOps
import Derived.Test.YtfbkkmnkpjgciaaSShiftAll
/- what a packet that was made says when it is split. -/
namespace Go.Proofs.Ytfbkkmnkpjgciaa
open Go.RowKit
theorem packF_cons (f : UInt8) (ks : List UInt8) (id n : Nat) (kb : UInt8) (data : List UInt8) : ∃ T : List UInt8, T.length = 8 ∧ T = leB (sumF ks (bodyF f id n kb data)) 8 ∧
    packF f ks id n kb data = f :: byteAt (id : Int) 0 :: byteAt (id : Int) 1 :: byteAt (id : Int) 2 :: byteAt (id : Int) 3 :: byteAt (n : Int) 0 :: byteAt (n : Int) 1 :: byteAt (n : Int) 2 :: byteAt (n : Int) 3 :: kb :: (data ++ T) := by
  refine ⟨_, leB_len _ _, rfl, ?_⟩
  unfold packF
  generalize leB (sumF ks (bodyF f id n kb data)) 8 = T
  unfold bodyF joinF
  show f :: (([leB (id : Int) 4, leB (n : Int) 4, [kb], data].flatten) ++ T) = _
  simp [leB, List.range_succ]
theorem parts_pack (f : UInt8) (ks : List UInt8) (id n : Nat) (kb : UInt8) (data : List UInt8) (hi : id < 4294967296) (hn : n < 4294967296) : partsF (packF f ks id n kb data) = ⟨id, n, kb, data⟩ := by
  obtain ⟨T, hT, _, e⟩ := packF_cons f ks id n kb data
  rw [e]
  have h1 : leW [byteAt (id : Int) 0, byteAt (id : Int) 1, byteAt (id : Int) 2, byteAt (id : Int) 3] = id := by
    have := leW_leB_nat id 4
    rw [Nat.mod_eq_of_lt (by simpa using hi)] at this
    exact this
  have h2 : leW [byteAt (n : Int) 0, byteAt (n : Int) 1, byteAt (n : Int) 2, byteAt (n : Int) 3] = n := by
    have := leW_leB_nat n 4
    rw [Nat.mod_eq_of_lt (by simpa using hn)] at this
    exact this
  unfold partsF
  have h3 : (data ++ T).take ((f :: byteAt (id : Int) 0 :: byteAt (id : Int) 1 :: byteAt (id : Int) 2 :: byteAt (id : Int) 3 :: byteAt (n : Int) 0 :: byteAt (n : Int) 1 :: byteAt (n : Int) 2 :: byteAt (n : Int) 3 :: kb :: (data ++ T)).length - 18) = data := by
    rw [show (f :: byteAt (id : Int) 0 :: byteAt (id : Int) 1 :: byteAt (id : Int) 2 :: byteAt (id : Int) 3 :: byteAt (n : Int) 0 :: byteAt (n : Int) 1 :: byteAt (n : Int) 2 :: byteAt (n : Int) 3 :: kb :: (data ++ T)).length - 18 = data.length by simp [hT]]
    exact List.take_left' rfl
  show (⟨leW [byteAt (id : Int) 0, byteAt (id : Int) 1, byteAt (id : Int) 2, byteAt (id : Int) 3], leW [byteAt (n : Int) 0, byteAt (n : Int) 1, byteAt (n : Int) 2, byteAt (n : Int) 3], kb, _⟩ : Prt) = _
  rw [h1, h2]
  show (⟨id, n, kb, (data ++ T).take _⟩ : Prt) = _
  rw [h3]
theorem pack_len (f : UInt8) (ks : List UInt8) (id n : Nat) (kb : UInt8) (data : List UInt8) : (packF f ks id n kb data).length = 18 + data.length := by
  obtain ⟨T, hT, _, e⟩ := packF_cons f ks id n kb data
  rw [e]
  simp [hT]
  omega
theorem form_pack (f : UInt8) (ks : List UInt8) (id n : Nat) (kb : UInt8) (data : List UInt8) (hd : data.length ≤ 256) : formB f (packF f ks id n kb data) = true := by
  have hl := pack_len f ks id n kb data
  obtain ⟨T, hT, _, e⟩ := packF_cons f ks id n kb data
  unfold formB
  rw [hl, e]
  simp
  omega
theorem gen_pack (f : UInt8) (ks : List UInt8) (id n : Nat) (kb : UInt8) (data : List UInt8) : genF ks (packF f ks id n kb data) = true := by
  unfold genF
  have hl : (packF f ks id n kb data).length - 8 = (bodyF f id n kb data).length := by rw [pack_len, bodyF_len]; omega
  rw [hl]
  unfold packF
  rw [List.drop_left' rfl, List.take_left' rfl]
  simp
end Go.Proofs.Ytfbkkmnkpjgciaa

/- the example of the chapter, in plain Lean. -/
namespace Go.Proofs.Ytfbkkmnkpjgciaa
open Go.RowKit
def k7 : List UInt8 := [7, 0, 0, 0, 0, 0, 0, 0, 0, 0, 0, 0, 0, 0, 0, 0]
def opN : List UInt8 := [111, 112, 101, 114]
def exC0 : Cli := newCli opN k7 ((2 : UInt8).toNat : Int) 5
def exB1 : List UInt8 := helloF opN 2 5
def exU : List Usr := [⟨opN, k7, true, 2⟩]
def exC : List Chn := [⟨1, 3⟩]
def exB2 : List UInt8 := chalF 1 6
def exS0 : Sess := newS exU exB1 6 1 0
theorem ex_hello : helloS [] 1 exU exC 1 exB1 6 0 = ⟨0, [exS0], 2, exB2⟩ := by kernel_rfl
def exC1 : Cli := ansC exC0 exB2
def exB3 : List UInt8 := provF 3 exC0.key exC1.id exC0.nonce exC1.server (levB exC0.level)
def exB4 : List UInt8 := provF 4 exS0.key exS0.id exS0.client exS0.server (levB exS0.level)
theorem ex_key : exS0.key = exC0.key := by kernel_rfl
theorem ex_id : exS0.id = exC1.id := by kernel_rfl
theorem ex_cl : exS0.client = exC0.nonce := by kernel_rfl
theorem ex_sv : exS0.server = exC1.server := by kernel_rfl
theorem ex_lv : levB exS0.level = levB exC0.level := by kernel_rfl
theorem ex_id1 : exC1.id = 1 := by kernel_rfl
theorem ex_proof : proofS [exS0] 2 exB3 1 = ⟨0, [opened exS0 1], 2, exB4⟩ := by
  have e3 : exB3 = provF 3 exS0.key exS0.id exS0.client exS0.server (levB exS0.level) := by
    rw [ex_key, ex_id, ex_cl, ex_sv, ex_lv]; rfl
  have hl : exB3.length = 13 := provF_len _ _ _ _ _ _
  have h0 : exB3[0]? = some 3 := provF_head _ _ _ _ _ _
  have hi : leW ((exB3.drop 1).take 4) = 1 := by
    unfold exB3
    rw [provF_id _ _ _ _ _ _ (by rw [ex_id1]; decide), ex_id1]
  unfold proofS
  rw [if_neg (by rw [show validF [exS0] 2 = true by kernel_rfl]; simp), if_neg (by rw [show timeB 1 = true by kernel_rfl]; simp), if_neg (by rw [hl, h0]; simp), hi, show firstI (idP 1) (expF [exS0] 2 1) 0 = some (0, exS0) by kernel_rfl]
  dsimp only
  rw [if_neg (by rw [show exS0.opn = false by kernel_rfl]; simp), if_neg (by rw [← e3]; simp), show (expF [exS0] 2 1) = [exS0] by kernel_rfl]
  rfl
def exC2 : Cli := { exC1 with opn := true }
theorem ex_b4 : exB4 = provF 4 exC1.key exC1.id exC1.nonce exC1.server (levB exC1.level) := by
  unfold exB4
  rw [ex_key, ex_id, ex_cl, ex_sv, ex_lv]
  rfl
def exC3 : Cli := { exC2 with out := exC2.out + 1 }
def exS1 : Sess := opened exS0 1
def exB5 : List UInt8 := packF 5 exC2.sess exC2.id (exC2.out + 1) 0 [9]
theorem ex_sess : exS1.key = exC2.sess := by
  show derF exS0.key sessL (exS0.client : Int) (exS0.server : Int) = derF exC0.key sessL (exC0.nonce : Int) (exC1.server : Int)
  rw [ex_key, ex_cl, ex_sv]
def exS2 : Sess := took exS1 1 2
theorem ex_recv : recvS [exS1] 2 exB5 2 = ⟨0, [exS2], 2, 1, 0, [9]⟩ := by
  have hp : partsF exB5 = ⟨1, 1, 0, [9]⟩ := by
    unfold exB5
    rw [parts_pack 5 exC2.sess exC2.id (exC2.out + 1) 0 [9] (show exC1.id < 4294967296 by rw [ex_id1]; decide) (by show (0 : Nat) + 1 < 4294967296; decide)]
    show (⟨exC1.id, 0 + 1, 0, [9]⟩ : Prt) = _
    rw [ex_id1]
  have hf : formB 5 exB5 = true := form_pack _ _ _ _ _ _ (by simp)
  have hg : genF exS1.key exB5 = true := by rw [ex_sess]; exact gen_pack _ _ _ _ _ _
  unfold recvS
  rw [if_neg (by rw [show validF [exS1] 2 = true by kernel_rfl]; simp), if_neg (by rw [show timeB 2 = true by kernel_rfl]; simp), if_neg (by rw [hf]; simp), hp]
  dsimp only
  rw [if_neg (by rw [show kindB 0 = true by kernel_rfl]; simp), show firstI (idP 1) (expF [exS1] 2 2) 0 = some (0, exS1) by kernel_rfl]
  dsimp only
  rw [if_neg (by rw [show exS1.opn = true by kernel_rfl]; simp), if_neg (by rw [hg]; simp), show shiftF exS1.hi exS1.se 1 = (1, 0, 0) by kernel_rfl, show (expF [exS1] 2 2) = [exS1] by kernel_rfl]
  rfl
end Go.Proofs.Ytfbkkmnkpjgciaa

/- the example of the chapter, walked (printed by wip/gen_sawake.py). -/
namespace Go.Proofs.Ytfbkkmnkpjgciaa
open Go.RowKit
def exU0 : Usr := ⟨opN, k7, true, 2⟩
def exH0 : Chn := ⟨1, 3⟩
theorem exC0_ok : exC0.Ok := newCli_ok (by decide) rfl (by decide)
theorem exC1_ok : exC1.Ok := ansC_ok exC0_ok rfl
theorem exC2_ok : exC2.Ok := ⟨exC1_ok.user, exC1_ok.key, exC1_ok.sess, exC1_ok.nonce, exC1_ok.server, exC1_ok.id, exC1_ok.hi, exC1_ok.se, exC1_ok.out⟩
theorem exC3_ok : exC3.Ok := ⟨exC1_ok.user, exC1_ok.key, exC1_ok.sess, exC1_ok.nonce, exC1_ok.server, exC1_ok.id, exC1_ok.hi, exC1_ok.se, by show 0 + 1 < 4294967296; decide⟩
theorem exS0_ok : exS0.Ok := ⟨by show 1 < 4294967296; decide, by show 4 ≤ maxLen; decide, by rw [ex_cl]; decide, by show 6 < 18446744073709551616; decide, by rw [ex_key]; rfl, by show 0 < 4294967296; decide, by show 0 < 4294967296; decide, by show 0 < 4294967296; decide⟩
theorem exS1_ok : exS1.Ok := ⟨exS0_ok.id, exS0_ok.user, exS0_ok.client, exS0_ok.server, der_len _ _ _ _, exS0_ok.hi, exS0_ok.se, exS0_ok.out⟩
theorem build_k7 : Try.prog.built 36 [(0, .int .u8 7)] = some (bsV k7).toArray := by kernel_rfl
theorem build_u0 : Try.prog.built 39 [(0, .string ⟨opN.toArray⟩), (1, .agg (bsV k7).toArray), (2, .bool true), (3, .int .i64 2)] = some exU0.cs.toArray := by kernel_rfl
theorem build_h0 : Try.prog.built 42 [(0, .int .i64 1), (1, .int .i64 3)] = some exH0.cs.toArray := by kernel_rfl
theorem run_us (w : World) : (Instr.buildSlice 40 1 #[(0, .agg exU0.cs.toArray)]).run Try.prog w = .ok (.slice (some ⟨w.heap.size, 0, none⟩) 1 1) (w.alloc (.cells exU0.cs.toArray 39)) := by kernel_rfl
theorem run_hs (w : World) (g : Nat) (hg : w.heap.size = g) : (Instr.buildSlice 43 1 #[(0, .agg exH0.cs.toArray)]).run Try.prog w = .ok (.slice (some ⟨g, 0, none⟩) 1 1) (w.alloc (.cells exH0.cs.toArray 42)) := by subst hg; kernel_rfl
theorem run_b9 (w : World) : (Instr.buildSlice 32 1 #[(0, .int .u8 9)]).run Try.prog w = .ok (.slice (some ⟨w.heap.size, 0, none⟩) 1 1) (w.alloc (.cells (bsV [9]).toArray 5)) := by kernel_rfl
theorem alloc_acc (w : World) : (Instr.alloc 45 true (.tuple #[])).run Try.prog w = .ok (.pointer (some ⟨w.heap.size, 0, none⟩)) (w.alloc (.cells #[.slice none 0 0, .slice none 0 0] 45)) := by kernel_rfl
theorem ex_begin (w : World) : Calls Try.prog 10 #[.string ⟨opN.toArray⟩, .agg (bsV k7).toArray, .int .i64 2, .int .u64 5] w (BegPost w exC0 exB1) :=
  begin_ok w opN k7 rfl 2 5 (by decide) (by kernel_rfl) (by decide)
def SesOk (w : World) (L : List Sess) (nx : Nat) (b : List UInt8) (e : Ending) (w' : World) : Prop :=
  ∃ A c A2 c2, e = .returned (.tuple #[.agg #[.slice A L.length c, .int .u32 (nx : Int)], .slice A2 b.length c2, .int .i64 0]) ∧ w'.ownsRow w.heap.size 84 26 (.slice A L.length c) L.length (flatS L) ∧ w'.ownsRow w.heap.size 5 1 (.slice A2 b.length c2) b.length (bsV b) ∧ b.length ≤ c2 ∧ c2 ≤ maxLen ∧ Below w.heap.size w w'
theorem SesPost.ok {w w' : World} {L : List Sess} {nx : Nat} {b : List UInt8} {e : Ending} (h : SesPost w ⟨0, L, nx, b⟩ e w') : SesOk w L nx b e w' := by
  unfold SesPost at h
  rw [if_pos rfl] at h
  obtain ⟨vS, vD, he, h1, h2, h3⟩ := h
  obtain ⟨A, c, e1, _, _⟩ := slice_of_own h1
  obtain ⟨A2, c2, e2, h4, h5⟩ := slice_of_own h2
  subst e1 e2
  exact ⟨A, c, A2, c2, he, h1, h2, h4, h5, h3⟩
def RcvOk (w : World) (L : List Sess) (nx id kind : Nat) (b : List UInt8) (e : Ending) (w' : World) : Prop :=
  ∃ A c A2 c2, e = .returned (.tuple #[.agg #[.slice A L.length c, .int .u32 (nx : Int)], .int .u32 (id : Int), .int .i64 (kind : Int), .slice A2 b.length c2, .int .i64 0]) ∧ w'.ownsRow w.heap.size 84 26 (.slice A L.length c) L.length (flatS L) ∧ w'.ownsRow w.heap.size 5 1 (.slice A2 b.length c2) b.length (bsV b) ∧ b.length ≤ c2 ∧ c2 ≤ maxLen ∧ Below w.heap.size w w'
theorem RcvPost.ok {w w' : World} {L : List Sess} {nx id kind : Nat} {b : List UInt8} {e : Ending} (h : RcvPost w ⟨0, L, nx, id, kind, b⟩ e w') : RcvOk w L nx id kind b e w' := by
  unfold RcvPost at h
  rw [if_pos rfl] at h
  obtain ⟨vS, vD, he, h1, h2, h3⟩ := h
  obtain ⟨A, c, e1, _, _⟩ := slice_of_own h1
  obtain ⟨A2, c2, e2, h4, h5⟩ := slice_of_own h2
  subst e1 e2
  exact ⟨A, c, A2, c2, he, h1, h2, h4, h5, h3⟩
theorem ex_helloC (w : World) (gu gc : Nat) (hu : Blk w gu 39 exU0.cs.toArray) (hc : Blk w gc 42 exH0.cs.toArray) (Ab : Option Addr) (cb : Nat) (hb : Reads w w.heap.size 1 Ab 14 (bsV exB1)) (hbc : 14 ≤ cb) (hbm : cb ≤ maxLen) :
    Calls Try.prog 11 #[.agg #[.slice none 0 0, .int .u32 1], .agg #[.slice (some ⟨gu, 0, none⟩) 1 1, .slice (some ⟨gc, 0, none⟩) 1 1], .int .i64 1, .slice Ab 14 cb, .int .u64 6, .int .i64 0] w (SesOk w [exS0] 2 exB2) := by
  have hU : UsrL w w.heap.size (some ⟨gu, 0, none⟩) 1 exU := by
    refine ⟨⟨rfl, fun _ => ⟨⟨gu, 0, none⟩, rfl, hu.lt, fun j u hj => ?_⟩⟩, fun x hx => ?_, fun x hx => ?_⟩
    · rw [add_mk, hu.cell]
      simpa [exU, exU0] using hj
    · simp [exU] at hx; subst hx; exact ⟨by show 4 ≤ maxLen; decide, rfl⟩
    · simp [exU] at hx; subst hx; rfl
  have hC : ChnL w w.heap.size (some ⟨gc, 0, none⟩) 1 exC := by
    refine ⟨⟨rfl, fun _ => ⟨⟨gc, 0, none⟩, rfl, hc.lt, fun j u hj => ?_⟩⟩, fun x hx => trivial, fun x hx => ?_⟩
    · rw [add_mk, hc.cell]
      simpa [exC, exH0] using hj
    · simp [exC] at hx; subst hx; rfl
  exact (hello_sx w none 0 0 [] 1 ⟨Reads.none_, fun x hx => by cases hx⟩ (by decide) (by decide) (some ⟨gu, 0, none⟩) 1 1 (some ⟨gc, 0, none⟩) 1 1 exU exC hU hC (by decide) (by decide) 1 Ab 14 cb exB1 hb hbc hbm 6 (by decide) 0 _ ex_hello).mono fun e w' h => h.ok
theorem ex_answer (w : World) (A : Option Addr) (cc : Nat) (hr : Reads w w.heap.size 1 A 13 (bsV exB2)) (hnc : 13 ≤ cc) :
    Calls Try.prog 13 #[.agg exC0.cs.toArray, .slice A 13 cc] w (BegPost w exC1 exB3) :=
  answer_ok w exC0 exC0_ok A cc exB2 hr hnc (by kernel_rfl) rfl rfl
theorem ex_proofC (w : World) (A : Option Addr) (c : Nat) (hS : SessL w w.heap.size A 1 [exS0]) (Ab : Option Addr) (cb : Nat) (hb : Reads w w.heap.size 1 Ab 13 (bsV exB3)) (hbc : 13 ≤ cb) (hbm : cb ≤ maxLen) :
    Calls Try.prog 14 #[.agg #[.slice A 1 c, .int .u32 2], .slice Ab 13 cb, .int .i64 1] w (SesOk w [exS1] 2 exB4) :=
  (proof_sx w A 1 c [exS0] 2 hS (by decide) (by decide) Ab 13 cb exB3 hb hbc hbm 1 _ ex_proof).mono fun e w' h => h.ok
theorem ex_accept (w : World) (A : Option Addr) (cc : Nat) (hr : Reads w w.heap.size 1 A 13 (bsV exB4)) (hnc : 13 ≤ cc) :
    Calls Try.prog 15 #[.agg exC1.cs.toArray, .slice A 13 cc] w (AccPost w exC2) :=
  accept_ok w exC1 exC1_ok A cc exB4 hr hnc (by kernel_rfl) rfl (by rw [ex_id1]; decide) ex_b4
theorem ex_post (w : World) (A : Option Addr) (cc : Nat) (hr : Reads w w.heap.size 1 A 1 (bsV [9])) (hnc : 1 ≤ cc) (hcm : cc ≤ maxLen) :
    Calls Try.prog 17 #[.agg exC2.cs.toArray, .int .i64 0, .slice A 1 cc] w (BegPost w exC3 exB5) :=
  post_ok w exC2 exC2_ok 0 A 1 cc [9] hr hnc hcm (by kernel_rfl) rfl (by decide) (by decide) (by show 0 < 4294967295; decide)
theorem exB5_len : exB5.length = 19 := pack_len _ _ _ _ _ _
theorem ex_recvC (w : World) (A : Option Addr) (c : Nat) (hS : SessL w w.heap.size A 1 [exS1]) (Ab : Option Addr) (cb : Nat) (hb : Reads w w.heap.size 1 Ab 19 (bsV exB5)) (hbc : 19 ≤ cb) (hbm : cb ≤ maxLen) :
    Calls Try.prog 18 #[.agg #[.slice A 1 c, .int .u32 2], .slice Ab 19 cb, .int .i64 2] w (RcvOk w [exS2] 2 1 0 [9]) :=
  (recv_sx w A 1 c [exS1] 2 hS (by decide) (by decide) Ab 19 cb exB5 hb hbc hbm 2 _ ex_recv).mono fun e w' h => h.ok
end Go.Proofs.Ytfbkkmnkpjgciaa

/- the call's own map[uint32]bool: what it holds, as a function. -/
namespace Go.Proofs.Ytfbkkmnkpjgciaa
open Go.RowKit
open Go.Maps (Keyed IsMap)
theorem u32_under : Try.prog.underlying 22 = some (.int .u32) := by kernel_rfl
theorem bool_under : Try.prog.underlying 4 = some .bool := by kernel_rfl
theorem map_under : Try.prog.underlying 30 = some (.map 22 4) := by kernel_rfl
theorem u32_keyed : Keyed Try.prog 22 := Go.Maps.int_keyed u32_under
theorem u32_key (x : Nat) (hx : x < 4294967296) : keyOf Try.prog 22 (.int .u32 (x : Int)) = some (.int .u32 (x : Int)) := by
  have hw : (Lit.int .u32 (x : Int)).wf = true := by
    simp [Lit.wf, IntKind.min, IntKind.max, IntKind.signed, IntKind.bits]
    omega
  exact Go.Maps.keyOf_int_mk u32_under hw
theorem bool_zero (w : World) : (zeroValue 4).run Try.prog w = .ok (.bool false) w := by kernel_rfl
/-- block b is a map of at most n entries; T says which numbers it holds as true -/
def Taken (w : World) (b n : Nat) (T : Nat → Bool) : Prop :=
  ∃ D : DataW Unit, w.ownsMap Try.prog 22 (plainElem Try.prog 4) b n D ∧ ∀ x : Nat, D.atKey (.int .u32 (x : Int)) (.lit (.bool false)) = .lit (.bool (T x))
theorem Taken.made (w : World) : Taken (w.alloc (.map #[] 0)) w.heap.size 0 (fun _ => false) :=
  ⟨_, World.ownsMap_made w _ _ _, fun _ => rfl⟩
theorem Taken.kept {w w' : World} {row : Option Nat} {b n : Nat} {T : Nat → Bool} (h : Taken w b n T) (hg : w.grownBy w' row) (hne : some b ≠ row) : Taken w' b n T := by
  obtain ⟨D, h1, h2⟩ := h
  exact ⟨D, h1.kept hg hne, h2⟩
theorem Taken.below {w w' : World} {B b n : Nat} {T : Nat → Bool} (h : Taken w b n T) (hb : Below B w w') (hB : b < B) : Taken w' b n T := by
  obtain ⟨D, ⟨es, clock, h1, h2⟩, h3⟩ := h
  exact ⟨D, ⟨es, clock, (hb.block b hB).trans h1, h2⟩, h3⟩
theorem Taken.lt {w : World} {b n : Nat} {T : Nat → Bool} (h : Taken w b n T) : b < w.heap.size := by
  obtain ⟨D, h1, _⟩ := h
  exact h1.lt
theorem plainElem_bool_inv {v : Value} {x : Bool} {ps : List MemPlace} (h : plainElem (H := Unit) Try.prog 4 v = some (.lit (.bool x), ps)) : v = .bool x := by
  unfold plainElem at h
  rw [bool_under] at h
  split at h
  · simp at h; rw [h.1]
  · rename_i e; cases e
  · rename_i e; cases e
  · cases h
theorem Taken.look {w : World} {b n : Nat} {T : Nat → Bool} (h : Taken w b n T) (x : Nat) (hx : x < 4294967296) : (Instr.lookup 30 (.map (some b)) (.int .u32 (x : Int)) false).run Try.prog w = .ok (.bool (T x)) w := by
  obtain ⟨D, h1, h2⟩ := h
  obtain ⟨v, ps, hrun, hv⟩ := h1.lookup u32_keyed map_under (bool_zero w) (plainElem_bool bool_under false) (u32_key x hx)
  rw [h2 x] at hv
  rw [plainElem_bool_inv hv] at hrun
  exact hrun
theorem Taken.put {w : World} {b n : Nat} {T : Nat → Bool} (h : Taken w b n T) (x : Nat) (hx : x < 4294967296) (hn : n < maxLen) : ∃ w', (Instr.mapUpdate 30 (.map (some b)) (.int .u32 (x : Int)) (.bool true)).run Try.prog w = .ok () w' ∧ Taken w' b (n + 1) (fun y => y == x || T y) ∧ w.grownBy w' (some b) := by
  obtain ⟨D, h1, h2⟩ := h
  obtain ⟨w', hrun, ho, hg⟩ := h1.update u32_keyed map_under hn (u32_key x hx) (plainElem_bool bool_under true)
  refine ⟨w', hrun, ⟨_, ho, fun y => ?_⟩, hg⟩
  by_cases e : y = x
  · subst e
    rw [Go.Maps.atKey_put_same h1.isMap (by simp [WideAt.IsKeyLit])]
    simp
  · rw [Go.Maps.atKey_put_other (fun h => e (Int.ofNat.inj (by simpa using h))), h2 y]
    simp [e]
end Go.Proofs.Ytfbkkmnkpjgciaa

/- a window takes each number at most once: in plain Lean. -/
namespace Go.Proofs.Ytfbkkmnkpjgciaa
open Go.RowKit
/-- every number of T is the greatest, or its bit is in s, or it is more than 32 below the greatest -/
def WinInv (h s : Nat) (T : Nat → Bool) : Prop := ∀ m, T m = true → 1 ≤ m ∧ (m = h ∨ (m < h ∧ (32 ≤ h - m - 1 ∨ s.testBit (h - m - 1) = true)))
theorem WinInv.start (h s : Nat) : WinInv h s (fun _ => false) := fun m hm => by cases hm
theorem shift_once {h s n : Nat} {T : Nat → Bool} (hi : WinInv h s T) (ht : T n = true) : (shiftF h s n).2.2 = 45 := by
  obtain ⟨h1, h2⟩ := hi n ht
  unfold shiftF
  rcases h2 with rfl | ⟨h2, h3⟩
  · rw [if_neg (by omega), if_pos (.inr rfl)]
  · rw [if_neg (by omega), if_neg (by omega)]
    by_cases h4 : 32 ≤ h - n - 1
    · rw [if_pos h4]
    · rw [if_neg h4, if_pos (h3.resolve_left h4)]
theorem shift_codes (h s n : Nat) : (shiftF h s n).2.2 = 0 ∨ (shiftF h s n).2.2 = 45 := by
  unfold shiftF
  split
  · split <;> exact .inl rfl
  · split
    · exact .inr rfl
    · split
      · exact .inr rfl
      · split
        · exact .inr rfl
        · exact .inl rfl
theorem bit_mod (x k : Nat) (hk : k < 32) : (x % 4294967296).testBit k = x.testBit k := by
  rw [show (4294967296 : Nat) = 2 ^ 32 by decide, Nat.testBit_mod_two_pow]
  simp [hk]
theorem bit_shl (x d k : Nat) : (x * 2 ^ d).testBit (d + k) = x.testBit k := by
  rw [Nat.mul_comm, Nat.testBit_two_pow_mul]
  simp
theorem bit_two (s c k : Nat) (hc : c < 2) : (2 * s + c).testBit (k + 1) = s.testBit k := by
  rw [Nat.testBit_succ]
  congr 1
  omega
theorem bit_one (s : Nat) : (2 * s + 1).testBit 0 = true := by
  simp [Nat.testBit_zero]
theorem shift_inv {h s n : Nat} {T : Nat → Bool} (hi : WinInv h s T) (he : (shiftF h s n).2.2 = 0) : h ≤ (shiftF h s n).1 ∧ WinInv (shiftF h s n).1 (shiftF h s n).2.1 (fun y => y == n || T y) := by
  unfold shiftF at he ⊢
  by_cases c1 : h < n
  · rw [if_pos c1] at he ⊢
    obtain ⟨d, rfl⟩ : ∃ d, n = h + 1 + d := ⟨n - h - 1, by omega⟩
    have hd : h + 1 + d - h - 1 = d := by omega
    rw [hd] at he ⊢
    by_cases c2 : 32 ≤ d
    · rw [if_pos c2]
      refine ⟨by dsimp only; omega, fun m hm => ?_⟩
      dsimp only at hm ⊢
      rcases Bool.or_eq_true _ _ |>.mp hm with e | e
      · obtain rfl : m = h + 1 + d := by simpa using e
        exact ⟨by omega, .inl rfl⟩
      · obtain ⟨h1, h2⟩ := hi m e
        exact ⟨h1, .inr ⟨by omega, .inl (by omega)⟩⟩
    · rw [if_neg c2]
      refine ⟨by dsimp only; omega, fun m hm => ?_⟩
      dsimp only at hm ⊢
      rcases Bool.or_eq_true _ _ |>.mp hm with e | e
      · obtain rfl : m = h + 1 + d := by simpa using e
        exact ⟨by omega, .inl rfl⟩
      · obtain ⟨h1, h2⟩ := hi m e
        refine ⟨h1, .inr ⟨by omega, ?_⟩⟩
        have h0 : h ≠ 0 := by omega
        rw [if_neg h0]
        rcases h2 with rfl | ⟨h2, h3⟩
        · right
          rw [show m + 1 + d - m - 1 = d + 0 by omega, bit_mod _ _ (by omega), bit_shl, bit_one]
        · obtain ⟨k, rfl⟩ : ∃ k, h = m + 1 + k := ⟨h - m - 1, by omega⟩
          rw [show m + 1 + k - m - 1 = k by omega] at h3
          rw [show m + 1 + k + 1 + d - m - 1 = d + (k + 1) by omega]
          by_cases c3 : 32 ≤ d + (k + 1)
          · exact .inl c3
          · right
            rw [bit_mod _ _ (by omega), bit_shl, bit_two _ _ _ (by omega)]
            exact h3.resolve_left (by omega)
  · rw [if_neg c1] at he ⊢
    by_cases c2 : n = 0 ∨ n = h
    · rw [if_pos c2] at he; cases he
    · rw [if_neg c2] at he ⊢
      by_cases c3 : 32 ≤ h - n - 1
      · rw [if_pos c3] at he; cases he
      · rw [if_neg c3] at he ⊢
        cases c4 : s.testBit (h - n - 1) with
        | true => rw [c4, if_pos rfl] at he; cases he
        | false =>
          rw [if_neg (by simp)]
          refine ⟨Nat.le_refl _, fun m hm => ?_⟩
          dsimp only at hm ⊢
          rcases Bool.or_eq_true _ _ |>.mp hm with e | e
          · obtain rfl : m = n := by simpa using e
            refine ⟨by omega, .inr ⟨by omega, .inr ?_⟩⟩
            rw [Nat.testBit_or, Nat.testBit_two_pow_self]
            simp
          · obtain ⟨h1, h2⟩ := hi m e
            refine ⟨h1, h2.imp id fun h2 => ⟨h2.1, h2.2.imp id fun h3 => ?_⟩⟩
            rw [Nat.testBit_or, h3]
            rfl
end Go.Proofs.Ytfbkkmnkpjgciaa
