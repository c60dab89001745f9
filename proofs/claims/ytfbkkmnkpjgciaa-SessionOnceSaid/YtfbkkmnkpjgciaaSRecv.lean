/- session.Receive (printed by wip/gen_srecv.py). -/
import Derived.Test.YtfbkkmnkpjgciaaSProof
import Derived.Test.YtfbkkmnkpjgciaaSSplit
import Derived.Test.YtfbkkmnkpjgciaaSShiftAll
namespace Go.Proofs.Ytfbkkmnkpjgciaa
open Go.RowKit
structure RRes where
  e : Int
  L : List Sess
  nx : Nat
  id : Nat
  kind : Nat
  d : List UInt8
def badR (c : Int) : RRes := ⟨c, [], 0, 0, 0, []⟩
def RcvPost (w : World) (r : RRes) (e : Ending) (w' : World) : Prop :=
  if r.e = 0 then ∃ vS vD, e = .returned (.tuple #[.agg #[vS, .int .u32 (r.nx : Int)], .int .u32 (r.id : Int), .int .i64 (r.kind : Int), vD, .int .i64 0]) ∧ w'.ownsRow w.heap.size 84 26 vS r.L.length (flatS r.L) ∧ w'.ownsRow w.heap.size 5 1 vD r.d.length (bsV r.d) ∧ Below w.heap.size w w'
  else e = .returned (.tuple #[.agg #[.slice none 0 0, .int .u32 0], .int .u32 0, .int .i64 0, .slice none 0 0, .int .i64 r.e]) ∧ Below w.heap.size w w'
theorem RcvPost.bad {w w' : World} {c : Int} {e : Ending} (hc : c ≠ 0) (he : e = .returned (.tuple #[.agg #[.slice none 0 0, .int .u32 0], .int .u32 0, .int .i64 0, .slice none 0 0, .int .i64 c])) (hb : Below w.heap.size w w') : RcvPost w (badR c) e w' := by
  unfold RcvPost badR
  dsimp only
  rw [if_neg hc]
  exact ⟨he, hb⟩
def took (x : Sess) (n : Nat) (now : Int) : Sess := { x with hi := (shiftF x.hi x.se n).1, se := (shiftF x.hi x.se n).2.1, last := now }
def recvS (L : List Sess) (nx : Nat) (b : List UInt8) (now : Int) : RRes :=
  if validF L nx = false then badR 1 else if timeB now = false then badR 2 else if formB 5 b = false then badR 6 else if kindB (partsF b).kb = false then badR 6 else
  match firstI (idP (partsF b).id) (expF L nx now) 0 with
  | none => badR 44
  | some (i, x) => if x.opn = false then badR 44 else if genF x.key b = false then badR 50 else
    if (shiftF x.hi x.se (partsF b).n).2.2 ≠ 0 then badR (shiftF x.hi x.se (partsF b).n).2.2 else
    ⟨0, (expF L nx now).set i (took x (partsF b).n now), nx, (partsF b).id, (partsF b).kb.toNat, (partsF b).data⟩
theorem alloc_win (w : World) : (Instr.alloc 24 true (.tuple #[])).run Try.prog w = .ok (.pointer (some ⟨w.heap.size, 0, none⟩)) (w.alloc (.cells #[.int .u32 0, .int .u32 0] 24)) := by kernel_rfl
theorem win_isRow : ∃ d, Try.prog.underlying 24 = some d ∧ d.isRow = true := ⟨_, Try.underlying24, rfl⟩
theorem Sess.At.win {x : Sess} {f : Nat → Option Value} (h : x.At f) : ∀ (j : Nat) (v : Value), [Value.int .u32 (x.hi : Int), .int .u32 (x.se : Int)][j]? = some v → f (22 + j) = some v := by
  intro j v hv
  match j with
  | 0 => rw [← hv]; exact h.hi
  | 1 => rw [← hv]; exact h.se
  | k + 2 => simp at hv
theorem step_alloc_ {P : Program} {o : Oper} {a : Act} {w : World} {K : Act → World → Prop} {Q : Exit → Act → World → Prop} (t : TypeId) (ho : o.op = .alloc t) {cells : Array Value} (hr : (Instr.alloc t true (.tuple #[])).run P w = .ok (.pointer (some ⟨w.heap.size, 0, none⟩)) (w.alloc (.cells cells t)))
    (hk : K (a.put o.dst (.pointer (some ⟨w.heap.size, 0, none⟩))) (w.alloc (.cells cells t))) : Oper.wp P o a w K Q := by
  unfold Oper.wp execOp
  simp only [ho, Sem.run_bind, Sem.run_pure, Result.andThen_ok, hr]
  exact hk
def ShfR (B : Nat) (wh wl : Nat) (we : Int) : Nat → Value → World → Prop
  | 6, v, _ => v = .tuple #[.agg #[.int .u32 (wh : Int), .int .u32 (wl : Int)], .int .i64 we]
  | 7, v, _ => v = .tuple #[.agg #[.int .u32 (wh : Int), .int .u32 (wl : Int)], .int .i64 we]
  | 8, v, _ => v = .agg #[.int .u32 (wh : Int), .int .u32 (wl : Int)]
  | 9, v, _ => v = .int .i64 we
  | 10, v, w => ∃ g, v = .pointer (some ⟨g, 0, none⟩) ∧ Blk w g 24 #[.int .u32 0, .int .u32 0] ∧ B ≤ g
  | _, _, _ => True
theorem ShfR.keep {B wh wl : Nat} {we : Int} : ∀ (k : Nat) (v : Value) (w w' : World), ShfR B wh wl we k v w → Below w.heap.size w w' → ShfR B wh wl we k v w' := by
  intro k v w w' h hb
  unfold ShfR at *
  split at h
  · exact h
  · exact h
  · exact h
  · exact h
  · obtain ⟨g, h1, h2, h3⟩ := h
    exact ⟨g, h1, h2.below hb h2.lt, h3⟩
  · trivial
set_option maxRecDepth 100000 in
set_option maxHeartbeats 16000000 in
theorem recv_sx (w : World) (A : Option Addr) (n c : Nat) (L : List Sess) (nx : Nat) (hS : SessL w w.heap.size A n L) (hn : n ≤ 1000) (hnx : nx < 4294967296)
    (Ab : Option Addr) (nb cb : Nat) (b : List UInt8) (hb : Reads w w.heap.size 1 Ab nb (bsV b)) (hbc : nb ≤ cb) (hbm : cb ≤ maxLen) (now : Int) (r : RRes) (hr : recvS L nx b now = r) :
    Calls Try.prog 18 #[.agg #[.slice A n c, .int .u32 (nx : Int)], .slice Ab nb cb, .int .i64 now] w (RcvPost w r) := by
  obtain ⟨W1, hW1⟩ : ∃ W1, (w.alloc (.cells #[.slice A n c, .int .u32 (nx : Int)] 53)).alloc (.cells #[.slice none 0 0, .int .u32 0] 53) = W1 := ⟨_, rfl⟩
  have hsz : W1.heap.size = w.heap.size + 2 := by rw [← hW1, size_alloc2]
  have K0 : Hid (Blk W1 w.heap.size 53 #[.slice A n c, .int .u32 (nx : Int)]) := hide (hW1 ▸ ((Blk.new w _ _).alloc _))
  have K2 : Hid (Blk W1 (w.heap.size + 1) 53 #[.slice none 0 0, .int .u32 0]) := hide (hW1 ▸ (Blk.new' (by simp)))
  have B1 : Hid (Below w.heap.size w W1) := hide (hW1 ▸ ((Below.refl _ _).alloc (Nat.le_refl _) _).alloc (by rw [size_alloc]; omega) _)
  have HS := hide hS
  have HBB := hide hb
  have HR := hide hr
  have HW1 := hide hW1
  have hlb : b.length = nb := by have := hb.1; simpa [bsV] using this
  have HLB := hide hlb
  have HBC := hide hbc
  have HBM := hide hbm
  have hnb : (nb : Int) ≤ 9223372036854775807 := by unfold maxLen at hbm; omega
  have S1 := hide ((hS.below (unhide B1)).more (unhide B1).size)
  obtain ⟨t1, ht1⟩ : ∃ t, validF L nx = t := ⟨_, rfl⟩
  have HT1 := hide ht1
  clear hW1 hS hb hr hlb hbc hbm ht1
  go_enter Try.func18, Try.ntmps18
  go_upto_region 1 with fail
  rw [unhide HW1]
  go_wp2_with (first
    | (refine wpList_load_row rfl 53 _ rfl w.heap.size rfl 53 _ _ _ (unhide K0) Try.underlying53 rfl (by kernel_rfl) ?_)
    | fail)
  refine (valid_sx W1 A n c L nx (unhide S1) (by unfold maxLen; omega) hnx t1 (unhide HT1)).mono ?_
  rintro e w2 ⟨rfl, hb2⟩
  have J0 := hide ((unhide K0).below hb2 (unhide K0).lt)
  have J2 := hide ((unhide K2).below hb2 (unhide K2).lt)
  have X2 := hide ((unhide B1).trans (hb2.mono (unhide B1).size))
  have hs2 : w.heap.size + 2 ≤ w2.heap.size := by have := hb2.size; omega
  clear hb2
  cases t1
  case false =>
    have hrr := unhide HR
    unfold recvS at hrr
    rw [if_pos (unhide HT1)] at hrr
    subst hrr
    clear HR
    go_wp2_with (first
      | (refine wpList_build_cs rfl 53 _ rfl [] rfl _ build_sl0 ?_)
      | (refine wpList_store_blk rfl 53 (.tmp 6) (.tmp 20) rfl (w.heap.size + 1) 53 _ #[.slice none 0 0, .int .u32 0] rfl rfl (unhide J2) rfl (by kernel_rfl) (by intro v hv; simp at hv; rcases hv with rfl | rfl <;> rfl) ?_
         intro w9 hb9 hg9
         have Z9 := hide hb9
         have E9 := hide ((unhide X2).grown hg9 (unhide X2).size (fun j e => by injection e with e; omega))
         clear hb9 hg9)
      | fail)
    exact bodyPost_ret (v := .tuple #[.agg #[.slice none 0 0, .int .u32 0], .int .u32 0, .int .i64 0, .slice none 0 0, .int .i64 1]) (res_ctttt rfl _ (w.heap.size + 1) 53 _ _ _ _ _ _ rfl rfl rfl rfl rfl (unhide Z9) Try.underlying53 rfl (by kernel_rfl)) rfl (RcvPost.bad (by omega) rfl (unhide E9))
  obtain ⟨t2, ht2⟩ : ∃ t, timeB now = t := ⟨_, rfl⟩
  have HT2 := hide ht2
  have HT2' : Hid (decide (0 ≤ now ∧ now ≤ 17179869184) = t2) := hide ht2
  clear ht2
  cases t2
  case false =>
    have hrr := unhide HR
    unfold recvS at hrr
    rw [if_neg (by rw [unhide HT1]; simp), if_pos (unhide HT2)] at hrr
    subst hrr
    clear HR
    go_wp2_with (first
      | (refine wpList_build_cs rfl 53 _ rfl [] rfl _ build_sl0 ?_)
      | (refine wpList_store_blk rfl 53 (.tmp 6) (.tmp 24) rfl (w.heap.size + 1) 53 _ #[.slice none 0 0, .int .u32 0] rfl rfl (unhide J2) rfl (by kernel_rfl) (by intro v hv; simp at hv; rcases hv with rfl | rfl <;> rfl) ?_
         intro w9 hb9 hg9
         have Z9 := hide hb9
         have E9 := hide ((unhide X2).grown hg9 (unhide X2).size (fun j e => by injection e with e; omega))
         clear hb9 hg9)
      | (go_at_call 24; refine (time_sx _ now _ (unhide HT2')).mono ?_; rintro e w' ⟨rfl, rfl⟩)
      | fail)
    exact bodyPost_ret (v := .tuple #[.agg #[.slice none 0 0, .int .u32 0], .int .u32 0, .int .i64 0, .slice none 0 0, .int .i64 2]) (res_ctttt rfl _ (w.heap.size + 1) 53 _ _ _ _ _ _ rfl rfl rfl rfl rfl (unhide Z9) Try.underlying53 rfl (by kernel_rfl)) rfl (RcvPost.bad (by omega) rfl (unhide E9))
  have hrr := unhide HR
  unfold recvS at hrr
  rw [if_neg (by rw [unhide HT1]; simp), if_neg (by rw [unhide HT2]; simp)] at hrr
  have HR2 := hide hrr
  clear hrr HR
  go_wp2_with (first
    | (go_at_call 24; refine (time_sx _ now _ (unhide HT2')).mono ?_; rintro e w' ⟨rfl, rfl⟩)
    | fail)
  obtain ⟨t3, ht3⟩ : ∃ t, formB 5 b = t := ⟨_, rfl⟩
  have HT3 := hide ht3
  clear ht3
  have R2 := hide (((unhide HBB).below (unhide X2)).more (unhide X2).size)
  cases t3
  case false =>
    have hrr := unhide HR2
    rw [if_pos (unhide HT3)] at hrr
    subst hrr
    clear HR2
    refine (split_bad w2 5 Ab nb cb b (unhide R2) (Nat.le_trans (unhide HBC) (unhide HBM)) (unhide HT3)).mono ?_
    rintro e w3 ⟨rfl, hb3⟩
    have U2 := hide (((unhide J2).below hb3 (unhide J2).lt).alloc (.cells #[.int .u32 0, .int .u32 0, .int .i64 0, .slice none 0 0] 93))
    have U3 := hide (Blk.new w3 93 #[.int .u32 0, .int .u32 0, .int .i64 0, .slice none 0 0])
    have UX := hide (((unhide X2).trans (hb3.mono (unhide X2).size)).alloc (by have := hb3.size; have := (unhide X2).size; omega) (.cells #[.int .u32 0, .int .u32 0, .int .i64 0, .slice none 0 0] 93))
    have hs3 : w2.heap.size ≤ w3.heap.size := hb3.size
    clear hb3
    go_upto_region 6 with (first
      | (refine wpList_alloc_to rfl 93 rfl _ w3.heap.size rfl (alloc_parts _) ?_)
      | (refine wpList_store_blk rfl 93 (.tmp 11) (.tmp 28) rfl w3.heap.size 93 _ #[.int .u32 0, .int .u32 0, .int .i64 0, .slice none 0 0] rfl rfl (unhide U3) rfl (by kernel_rfl) (by intro v hv; simp at hv; rcases hv with rfl | rfl | rfl | rfl <;> rfl) ?_
         intro w5 hb5 hg5
         have Y2 := hide ((unhide U2).grown hg5 (fun e => by injection e with e; omega))
         have YX := hide ((unhide UX).grown hg5 (unhide UX).size (fun j e => by injection e with e; omega))
         clear hb5 hg5)
      | fail)
    go_wp2_with (first
      | (refine wpList_build_cs rfl 53 _ rfl [] rfl _ build_sl0 ?_)
      | (refine wpList_store_blk rfl 53 (.tmp 6) (.tmp 32) rfl (w.heap.size + 1) 53 _ #[.slice none 0 0, .int .u32 0] rfl rfl (unhide Y2) rfl (by kernel_rfl) (by intro v hv; simp at hv; rcases hv with rfl | rfl <;> rfl) ?_
         intro w9 hb9 hg9
         have Z9 := hide hb9
         have E9 := hide ((unhide YX).grown hg9 (unhide YX).size (fun j e => by injection e with e; omega))
         clear hb9 hg9)
      | fail)
    exact bodyPost_ret (v := .tuple #[.agg #[.slice none 0 0, .int .u32 0], .int .u32 0, .int .i64 0, .slice none 0 0, .int .i64 6]) (res_ctttt rfl _ (w.heap.size + 1) 53 _ _ _ _ _ _ rfl rfl rfl rfl rfl (unhide Z9) Try.underlying53 rfl (by kernel_rfl)) rfl (RcvPost.bad (by omega) rfl (unhide E9))
  have hrr := unhide HR2
  rw [if_neg (by rw [unhide HT3]; simp)] at hrr
  have h274 : 18 ≤ nb ∧ nb ≤ 274 := by
    have h := unhide HT3
    unfold formB at h
    simp only [Bool.and_eq_true, decide_eq_true_eq] at h
    rw [unhide HLB] at h
    exact ⟨h.1, h.2.1⟩
  refine (split_ok w2 5 Ab nb cb b (unhide R2) (unhide HBC) (unhide HBM) (unhide HT3)).mono ?_
  rintro e w3 ⟨vd, rfl, hod, hb3⟩
  have hpl : (partsF b).id < 4294967296 := leW4 _ _
  have hpn : (partsF b).n < 4294967296 := leW4 _ _
  have hpd : (partsF b).data.length = nb - 18 := by
    show ((b.drop 10).take (b.length - 18)).length = _
    rw [List.length_take, List.length_drop, unhide HLB]
    omega
  obtain ⟨P, hP⟩ : ∃ P, partsF b = P := ⟨_, rfl⟩
  rw [unhide HLB] at hod
  rw [hP] at hod hpl hpn hpd hrr ⊢
  obtain ⟨pid, pn, pk, pd⟩ := P
  dsimp only at hod hpl hpn hpd hrr ⊢
  obtain ⟨nd, hnd⟩ : ∃ k, nb - 18 = k := ⟨_, rfl⟩
  rw [hnd] at hod hpd
  obtain ⟨Ad, cd, hvd, hmd, hcdm⟩ := slice_of_own hod
  subst hvd
  have HR3 := hide hrr
  have HPD := hide hpd
  have U0 := hide (((unhide J0).below hb3 (unhide J0).lt).alloc (.cells #[.int .u32 0, .int .u32 0, .int .i64 0, .slice none 0 0] 93))
  have U2 := hide (((unhide J2).below hb3 (unhide J2).lt).alloc (.cells #[.int .u32 0, .int .u32 0, .int .i64 0, .slice none 0 0] 93))
  have U3 := hide (Blk.new w3 93 #[.int .u32 0, .int .u32 0, .int .i64 0, .slice none 0 0])
  have UX := hide (((unhide X2).trans (hb3.mono (unhide X2).size)).alloc (by have := hb3.size; have := (unhide X2).size; omega) (.cells #[.int .u32 0, .int .u32 0, .int .i64 0, .slice none 0 0] 93))
  have UD := hide ((own_more hod (unhide X2).size).alloc (.cells #[.int .u32 0, .int .u32 0, .int .i64 0, .slice none 0 0] 93))
  have hs3 : w2.heap.size ≤ w3.heap.size := hb3.size
  clear hb3 hod hrr HR2 hP hpd hnd
  obtain ⟨t4, ht4⟩ : ∃ t, kindB pk = t := ⟨_, rfl⟩
  have HT4 := hide ht4
  rw [ht4]
  clear ht4
  go_upto_region 6 with (first
    | (refine wpList_alloc_to rfl 93 rfl _ w3.heap.size rfl (alloc_parts _) ?_)
    | (refine wpList_store_blk rfl 93 (.tmp 11) (.tmp 28) rfl w3.heap.size 93 _ #[.int .u32 (pid : Int), .int .u32 (pn : Int), .int .i64 (pk.toNat : Int), .slice Ad nd cd] rfl rfl (unhide U3) rfl (by kernel_rfl) (by intro v hv; simp at hv; rcases hv with rfl | rfl | rfl | rfl <;> rfl) ?_
       intro w5 hb5 hg5
       have Y0 := hide ((unhide U0).grown hg5 (fun e => by injection e with e; omega))
       have Y2 := hide ((unhide U2).grown hg5 (fun e => by injection e with e; omega))
       have YX := hide ((unhide UX).grown hg5 (unhide UX).size (fun j e => by injection e with e; omega))
       have Y3 := hide hb5
       have YD := hide (World.ownsRow.kept (unhide UD) hg5 (.inr (own_blk_ne (unhide UD) (unhide U3) (by decide))))
       have hs5 : w3.heap.size < w5.heap.size := hb5.lt
       clear hb5 hg5)
    | fail)
  cases t4
  case false =>
    have hrr := unhide HR3
    rw [if_pos (unhide HT4)] at hrr
    subst hrr
    clear HR3
    go_wp2_with (first
      | (refine wpList_build_cs rfl 53 _ rfl [] rfl _ build_sl0 ?_)
      | (refine wpList_store_blk rfl 53 (.tmp 6) (.tmp 32) rfl (w.heap.size + 1) 53 _ #[.slice none 0 0, .int .u32 0] rfl rfl (unhide Y2) rfl (by kernel_rfl) (by intro v hv; simp at hv; rcases hv with rfl | rfl <;> rfl) ?_
         intro w9 hb9 hg9
         have Z9 := hide hb9
         have E9 := hide ((unhide YX).grown hg9 (unhide YX).size (fun j e => by injection e with e; omega))
         clear hb9 hg9)
      | fail)
    exact bodyPost_ret (v := .tuple #[.agg #[.slice none 0 0, .int .u32 0], .int .u32 0, .int .i64 0, .slice none 0 0, .int .i64 6]) (res_ctttt rfl _ (w.heap.size + 1) 53 _ _ _ _ _ _ rfl rfl rfl rfl rfl (unhide Z9) Try.underlying53 rfl (by kernel_rfl)) rfl (RcvPost.bad (by omega) rfl (unhide E9))
  have hrr := unhide HR3
  rw [if_neg (by rw [unhide HT4]; simp)] at hrr
  have HR4 := hide hrr
  clear hrr HR3
  go_wp2_with (first
    | (refine wpList_load_row rfl 53 _ rfl w.heap.size rfl 53 _ _ _ (unhide Y0) Try.underlying53 rfl (by kernel_rfl) ?_)
    | fail)
  refine (expire_sx w5 A n c L nx (((unhide HS).below (unhide YX)).more (unhide YX).size) hn hnx now).mono ?_
  rintro e w4 ⟨v4, rfl, ho4, hb4⟩
  obtain ⟨E, hE⟩ : ∃ E, expF L nx now = E := ⟨_, rfl⟩
  have hEok : AllOk E := by rw [← hE]; exact expF_ok (unhide HS).ok
  have hEl : E.length ≤ n := by rw [← hE, ← (unhide HS).len]; exact expF_le _ _ _
  have hr3 := unhide HR4
  rw [hE] at ho4 hr3
  have HR5 := hide hr3
  obtain ⟨m, hm⟩ : ∃ m, E.length = m := ⟨_, rfl⟩
  rw [hm] at ho4 hEl
  obtain ⟨A4, c4, hv4, hmc4, hcm4⟩ := slice_of_own ho4
  subst hv4
  have M2 := hide (((unhide Y2).below hb4 (unhide Y2).lt).alloc (.cells #[.slice none 0 0, .int .u32 0] 53))
  have MP := hide (((unhide Y3).below hb4 (unhide Y3).lt).alloc (.cells #[.slice none 0 0, .int .u32 0] 53))
  have MD := hide ((own_below (unhide YD) hb4).alloc (.cells #[.slice none 0 0, .int .u32 0] 53))
  have O4 := hide (ho4.alloc (.cells #[.slice none 0 0, .int .u32 0] 53))
  have M3 := hide (Blk.new w4 53 #[.slice none 0 0, .int .u32 0])
  have hs4 : w5.heap.size ≤ w4.heap.size := hb4.size
  have X4 := hide (((unhide YX).trans (hb4.mono (unhide YX).size)).alloc (by have := (unhide YX).size; omega) (.cells #[.slice none 0 0, .int .u32 0] 53))
  have HEOK := hide hEok
  have HM := hide hm
  clear ho4 hb4 hE hEok hm hr3 HR4
  go_upto_region 9 with (first
    | (refine wpList_alloc_to rfl 53 rfl _ w4.heap.size rfl (alloc_sl _) ?_)
    | (refine wpList_store_blk rfl 53 (.tmp 13) (.tmp 35) rfl w4.heap.size 53 _ #[.slice A4 m c4, .int .u32 (nx : Int)] rfl rfl (unhide M3) rfl (by kernel_rfl) (by intro v hv; simp at hv; rcases hv with rfl | rfl <;> rfl) ?_
       intro w6 hb5 hg5
       have N3 := hide hb5
       have N2 := hide ((unhide M2).grown hg5 (fun e => by injection e with e; omega))
       have NP := hide ((unhide MP).grown hg5 (fun e => by injection e with e; omega))
       have ND := hide (World.ownsRow.kept (unhide MD) hg5 (.inr (own_blk_ne (unhide MD) (unhide M3) (by decide))))
       have O5 := hide (World.ownsRow.kept (unhide O4) hg5 (.inr (own_blk_ne (unhide O4) (unhide M3) (by decide))))
       have X5 := hide ((unhide X4).grown hg5 (unhide X4).size (fun j e => by injection e with e; omega))
       have hs6 : w4.heap.size < w6.heap.size := hb5.lt
       clear hb5 hg5)
    | fail)
  have p0 : w6.cell? ⟨w3.heap.size, 0, none⟩ = some (.int .u32 (pid : Int)) := (unhide NP).cell 0
  obtain ⟨fi, hfi⟩ : ∃ i, findG (idP pid) E 0 = i := ⟨_, rfl⟩
  have HFI := hide hfi
  clear hfi
  go_wp2_with (first
    | (refine wpList_load_row rfl 53 _ rfl w4.heap.size rfl 53 _ _ _ (unhide N3) Try.underlying53 rfl (by kernel_rfl) ?_)
    | fail)
  refine (find_sx w6 A4 m c4 E _ (SessL.of_own (unhide O5) (unhide HEOK)) (by unfold maxLen; omega) pid).mono ?_
  rintro e ww ⟨he, hBw⟩
  subst he
  rw [unhide HFI]
  have N36 := hide ((unhide N3).below hBw (unhide N3).lt)
  have N26 := hide ((unhide N2).below hBw (unhide N2).lt)
  have NP6 := hide ((unhide NP).below hBw (unhide NP).lt)
  have ND6 := hide (own_below (unhide ND) hBw)
  have O6 := hide (own_more (own_below (unhide O5) hBw) (Nat.le_refl _))
  have X6 := hide ((unhide X5).trans (hBw.mono (unhide X5).size))
  have hs7 : w6.heap.size ≤ ww.heap.size := hBw.size
  clear hBw p0
  have d0 : ww.cell? ⟨w4.heap.size, 0, none⟩ = some (.slice A4 m c4) := (unhide N36).cell 0
  rcases findG_firstI (idP pid) E 0 with ⟨e1, f1⟩ | ⟨i, x, e1, f1, hx, hpx⟩
  · obtain rfl : fi = -1 := by rw [← unhide HFI, e1]
    have hrr := unhide HR5
    rw [f1] at hrr
    dsimp only at hrr
    subst hrr
    clear HR5 e1 f1
    go_wp2_with (first
      | (refine wpList_build_cs rfl 53 _ rfl [] rfl _ build_sl0 ?_)
      | (refine wpList_store_blk rfl 53 (.tmp 6) (.tmp 51) rfl (w.heap.size + 1) 53 _ #[.slice none 0 0, .int .u32 0] rfl rfl (unhide N26) rfl (by kernel_rfl) (by intro v hv; simp at hv; rcases hv with rfl | rfl <;> rfl) ?_
         intro w9 hb9 hg9
         have Z9 := hide hb9
         have E9 := hide ((unhide X6).grown hg9 (unhide X6).size (fun j e => by injection e with e; omega))
         clear hb9 hg9)
      | fail)
    exact bodyPost_ret (v := .tuple #[.agg #[.slice none 0 0, .int .u32 0], .int .u32 0, .int .i64 0, .slice none 0 0, .int .i64 44]) (res_ctttt rfl _ (w.heap.size + 1) 53 _ _ _ _ _ _ rfl rfl rfl rfl rfl (unhide Z9) Try.underlying53 rfl (by kernel_rfl)) rfl (RcvPost.bad (by omega) rfl (unhide E9))
  rw [Nat.zero_add] at e1 f1
  obtain rfl : fi = (i : Int) := by rw [← unhide HFI, e1]
  have hrr := unhide HR5
  rw [f1] at hrr
  dsimp only at hrr
  have HR6 := hide hrr
  have him : i < m := by have := (List.getElem?_eq_some_iff.1 hx).1; have := unhide HM; omega
  have hxo : x.Ok := (unhide HEOK) x (List.mem_of_getElem? hx)
  obtain ⟨gr, cap, cur, hv6, hgb, hrow, hml⟩ := RowM.of_own (unhide O6) (unhide HEOK) (by omega)
  injection hv6 with hA4 _ hc4
  subst hA4 hc4
  have hat := Sess.range hxo (hrow.range (unhide HEOK) hx)
  have hi0 : ((i : Int) < 0) = False := by simp
  have hi0b : (0 : Int) ≤ (i : Int) := by omega
  have hiz : (i : Int) < (m : Int) := by omega
  have c21 := hat.opn
  have HX := hide hx
  have HXO := hide hxo
  have HROW := hide hrow
  clear hrr HR5 e1 f1 hx hxo hrow hat hpx
  obtain ⟨t3, ht3⟩ : ∃ t, x.opn = t := ⟨_, rfl⟩
  rw [ht3] at c21
  have HT5 := hide ht3
  clear ht3
  cases t3
  case false =>
    have hrr := unhide HR6
    rw [if_pos (unhide HT5)] at hrr
    subst hrr
    clear HR6
    go_wp2_with (first
      | (refine wpList_build_cs rfl 53 _ rfl [] rfl _ build_sl0 ?_)
      | (refine wpList_store_blk rfl 53 (.tmp 6) (.tmp 51) rfl (w.heap.size + 1) 53 _ #[.slice none 0 0, .int .u32 0] rfl rfl (unhide N26) rfl (by kernel_rfl) (by intro v hv; simp at hv; rcases hv with rfl | rfl <;> rfl) ?_
         intro w9 hb9 hg9
         have Z9 := hide hb9
         have E9 := hide ((unhide X6).grown hg9 (unhide X6).size (fun j e => by injection e with e; omega))
         clear hb9 hg9)
      | fail)
    exact bodyPost_ret (v := .tuple #[.agg #[.slice none 0 0, .int .u32 0], .int .u32 0, .int .i64 0, .slice none 0 0, .int .i64 44]) (res_ctttt rfl _ (w.heap.size + 1) 53 _ _ _ _ _ _ rfl rfl rfl rfl rfl (unhide Z9) Try.underlying53 rfl (by kernel_rfl)) rfl (RcvPost.bad (by omega) rfl (unhide E9))
  have hrr := unhide HR6
  rw [if_neg (by rw [unhide HT5]; simp)] at hrr
  have HR7 := hide hrr
  clear hrr HR6
  obtain ⟨dk, hdk, hdr⟩ := key_isRow
  have HDK := hide hdk
  have HDR := hide hdr
  obtain ⟨dw, hdw, hdwr⟩ := win_isRow
  have HDW := hide hdw
  have HDWR := hide hdwr
  have HKX := hide (unhide HXO).key
  have hgrw := (unhide HROW).blk.lt
  have HRG := hide ((unhide HROW).range (unhide HEOK) (unhide HX))
  have HAT := hide (Sess.range (unhide HXO) (unhide HRG))
  clear hdk hdr hdw hdwr
  have Q6 := hide (((unhide HBB).below (unhide X6)).more (unhide X6).size)
  obtain ⟨t7, ht7⟩ : ∃ t, genF x.key b = t := ⟨_, rfl⟩
  have HT7 := hide ht7
  clear ht7
  go_wp2_with (first
    | (refine wpList_load_mid rfl 36 (.tmp 58) rfl gr (i * 26 + 5) rfl (bsV x.key) dk (show ww.rangeAt gr (i * 26 + 5) (bsV x.key) from fun j v hv => by rw [Nat.add_assoc (i * 26) 5 j]; exact (unhide HAT).key j v hv) (unhide HDK) (unhide HDR) (key_info _ (unhide HKX)) ?_)
    | fail)
  refine (genuine_sx ww x.key (unhide HKX) Ab nb cb b (unhide Q6) (unhide HBC) (unhide HBM) (by omega) (by omega)).mono ?_
  rintro e w8 ⟨he, hb8⟩
  subst he
  rw [unhide HT7]
  have N38 := hide ((unhide N36).below hb8 (unhide N36).lt)
  have N28 := hide ((unhide N26).below hb8 (unhide N26).lt)
  have NP8 := hide ((unhide NP6).below hb8 (unhide NP6).lt)
  have ND8 := hide (own_below (unhide ND6) hb8)
  have X8 := hide ((unhide X6).trans (hb8.mono (unhide X6).size))
  have ROW8 := hide ((unhide HROW).below hb8)
  have hs8 : ww.heap.size ≤ w8.heap.size := hb8.size
  clear hb8 c21 d0
  cases t7
  case false =>
    have hrr := unhide HR7
    rw [if_pos (unhide HT7)] at hrr
    subst hrr
    clear HR7
    go_wp2_with (first
      | (refine wpList_build_cs rfl 53 _ rfl [] rfl _ build_sl0 ?_)
      | (refine wpList_store_blk rfl 53 (.tmp 6) (.tmp 63) rfl (w.heap.size + 1) 53 _ #[.slice none 0 0, .int .u32 0] rfl rfl (unhide N28) rfl (by kernel_rfl) (by intro v hv; simp at hv; rcases hv with rfl | rfl <;> rfl) ?_
         intro w9 hb9 hg9
         have Z9 := hide hb9
         have E9 := hide ((unhide X8).grown hg9 (unhide X8).size (fun j e => by injection e with e; omega))
         clear hb9 hg9)
      | fail)
    exact bodyPost_ret (v := .tuple #[.agg #[.slice none 0 0, .int .u32 0], .int .u32 0, .int .i64 0, .slice none 0 0, .int .i64 50]) (res_ctttt rfl _ (w.heap.size + 1) 53 _ _ _ _ _ _ rfl rfl rfl rfl rfl (unhide Z9) Try.underlying53 rfl (by kernel_rfl)) rfl (RcvPost.bad (by omega) rfl (unhide E9))
  have hrr := unhide HR7
  rw [if_neg (by rw [unhide HT7]; simp)] at hrr
  obtain ⟨⟨wh, wl, we⟩, hw⟩ : ∃ p, shiftF x.hi x.se pn = p := ⟨_, rfl⟩
  have hwl := shiftF_lt x.hi x.se pn (unhide HXO).hi (unhide HXO).se hpn
  have hxhi := (unhide HXO).hi
  have hxse := (unhide HXO).se
  unfold took at hrr
  rw [hw] at hrr hwl
  dsimp only at hrr hwl
  obtain ⟨hwh, hwl⟩ := hwl
  have HR8 := hide hrr
  have HSH := hide (fun W => hw ▸ shift_sx W x.hi x.se pn hxhi hxse hpn)
  have ESH := hide (enters Try.func6 (by kernel_rfl) rfl)
  clear hrr HR7 hw hxhi hxse
  have HRG8 := hide ((unhide ROW8).range (unhide HEOK) (unhide HX))
  have hgrw8 := (unhide ROW8).blk.lt
  have HAT8 := hide (fun (W : World) (hW : Below w8.heap.size w8 W) => Sess.range (unhide HXO) (show W.rangeAt gr (i * 26) x.cs from fun j v hv => (hW.cell (p := ⟨gr, i * 26 + j, none⟩) hgrw8).trans (unhide HRG8 j v hv)))
  have P8 := hide (fun (W : World) (hW : Below w8.heap.size w8 W) => show W.cell? ⟨w3.heap.size, 1, none⟩ = some (.int .u32 (pn : Int)) from ((unhide NP8).below hW (unhide NP8).lt).cell 1)
  go_upto_region 15 with fail
  have hS0 : Below w8.heap.size w8 w8.drew := (Below.refl _ _).drew
  refine wp_region_noPanic (wp_region_held_drew (S := fun wz => Below w8.heap.size w8 wz) (by kernel_rfl) hS0 (fun _ => ?_))
  refine th_take (i := 0) (v := ?_) rfl (by kernel_rfl) (by kernel_rfl) (by kernel_rfl) (Or.inl ⟨by rfl, fun wz hSw => ?_⟩) hS0 ?_
  rotate_left
  · go_simp
    with_reducible rfl
  simp only [Act.put, List.setIfInBounds_toArray, List.set_cons_zero, List.set_cons_succ]
  refine th_take (i := 1) (v := ?_) rfl (by kernel_rfl) (by kernel_rfl) (by kernel_rfl) (Or.inl ⟨by rfl, fun wz hSw => ?_⟩) hS0 ?_
  rotate_left
  · go_simp
    with_reducible rfl
  simp only [Act.put, List.setIfInBounds_toArray, List.set_cons_zero, List.set_cons_succ]
  refine th_take (i := 2) (v := ?_) rfl (by kernel_rfl) (by kernel_rfl) (by kernel_rfl) (Or.inl ⟨by rfl, fun wz hSw => ?_⟩) hS0 ?_
  rotate_left
  · go_simp
    with_reducible rfl
  simp only [Act.put, List.setIfInBounds_toArray, List.set_cons_zero, List.set_cons_succ]
  refine th_take (i := 3) (v := .agg #[.int .u32 (x.hi : Int), .int .u32 (x.se : Int)]) rfl (by kernel_rfl) (by kernel_rfl) (by kernel_rfl) (yieldsIf_load_mid (by rfl) 24 (.tmp 67) rfl gr (i * 26 + 22) rfl [.int .u32 (x.hi : Int), .int .u32 (x.se : Int)] dw (fun wz hSw => (show wz.rangeAt gr (i * 26 + 22) [.int .u32 (x.hi : Int), .int .u32 (x.se : Int)] from fun j v hv => by rw [Nat.add_assoc (i * 26) 22 j]; exact (unhide HAT8 wz hSw).win j v hv)) (unhide HDW) (unhide HDWR) (by kernel_rfl)) hS0 ?_
  simp only [Act.put, List.setIfInBounds_toArray, List.set_cons_zero, List.set_cons_succ]
  refine th_take (i := 4) (v := ?_) rfl (by kernel_rfl) (by kernel_rfl) (by kernel_rfl) (Or.inl ⟨by rfl, fun wz hSw => ?_⟩) hS0 ?_
  rotate_left
  · go_simp
    with_reducible rfl
  simp only [Act.put, List.setIfInBounds_toArray, List.set_cons_zero, List.set_cons_succ]
  refine th_take (i := 5) (v := .int .u32 (pn : Int)) rfl (by kernel_rfl) (by kernel_rfl) (by kernel_rfl) (Or.inl ⟨by rfl, fun wz hSw => ?_⟩) hS0 ?_
  · have hq := unhide P8 wz hSw
    go_simp
  simp only [Act.put, List.setIfInBounds_toArray, List.set_cons_zero, List.set_cons_succ]
  refine th_two (i := 6) (j := 10) rfl rfl (by kernel_rfl) (fun K hK => ?_) (fun K hK => ?_)
  · skip
    have hS0' := hS0
    rw [if_pos (by rfl)]
    go_simp
    refine (unhide HSH w8.drew).mono ?_
    rintro e w9 ⟨he, hb9'⟩
    obtain rfl : e = .returned (.tuple #[.agg #[.int .u32 (wh : Int), .int .u32 (wl : Int)], .int .i64 we]) := he
    have hb9 : Below w8.heap.size w8 w9 := hS0.trans (hb9'.mono hS0.size)
    refine hK.out _ _ hb9 (fun _ => ?_)
    clear hK K
    try simp only [Act.put, List.setIfInBounds_toArray, List.set_cons_zero, List.set_cons_succ]
    refine th_take (i := 7) (v := ?_) rfl (by kernel_rfl) (by kernel_rfl) (by kernel_rfl) (Or.inl ⟨by rfl, fun wz hSw => ?_⟩) hb9 ?_
    rotate_left
    · go_simp
      with_reducible rfl
    simp only [Act.put, List.setIfInBounds_toArray, List.set_cons_zero, List.set_cons_succ]
    refine th_take (i := 8) (v := ?_) rfl (by kernel_rfl) (by kernel_rfl) (by kernel_rfl) (Or.inl ⟨by rfl, fun wz hSw => ?_⟩) hb9 ?_
    rotate_left
    · go_simp
      with_reducible rfl
    simp only [Act.put, List.setIfInBounds_toArray, List.set_cons_zero, List.set_cons_succ]
    refine th_take (i := 9) (v := ?_) rfl (by kernel_rfl) (by kernel_rfl) (by kernel_rfl) (Or.inl ⟨by rfl, fun wz hSw => ?_⟩) hb9 ?_
    rotate_left
    · go_simp
      with_reducible rfl
    simp only [Act.put, List.setIfInBounds_toArray, List.set_cons_zero, List.set_cons_succ]
    obtain ⟨gw, hgw0⟩ : ∃ k, w9.heap.size = k := ⟨_, rfl⟩
    have hbw : Blk (w9.alloc (.cells #[.int .u32 0, .int .u32 0] 24)) gw 24 #[.int .u32 0, .int .u32 0] := by rw [← hgw0]; exact Blk.new w9 _ _
    have hgw : w8.heap.size ≤ gw := by have := hb9.size; omega
    refine th_one (i := 10) rfl (by kernel_rfl) (fun K hK => ?_)
    rw [if_pos (by rfl)]
    refine step_alloc_ 24 rfl (alloc_win _) ?_
    have hba : Below w8.heap.size w8 (w9.alloc (.cells #[.int .u32 0, .int .u32 0] 24)) := hb9.alloc hb9.size _
    refine hK.out _ _ hba (fun _ => ?_)
    clear hK K
    try simp only [Act.put, List.setIfInBounds_toArray, List.set_cons_zero, List.set_cons_succ]
    rw [hgw0]
    clear hgw0 hb9
    rename Below w8.heap.size w8 (w9.alloc _) => hb9
    refine th_one (i := 11) rfl (by kernel_rfl) (fun K hK => ?_)
    refine step_store_blk (by rfl) 24 (.tmp 16) (.tmp 72) rfl gw 24 _ #[.int .u32 (wh : Int), .int .u32 (wl : Int)] rfl rfl hbw rfl (by kernel_rfl) (by intro v hv; simp at hv; rcases hv with rfl | rfl <;> rfl) ?_
    intro w10 hb10 hg10
    have hB10 : Below w8.heap.size w8 w10 := hb9.grown hg10 hb9.size (fun j e => by injection e with e; omega)
    refine hK.out _ _ hB10 (fun _ => ?_)
    clear hK K
    try simp only [Act.put]
    refine th_take (i := 12) (v := ?_) rfl (by kernel_rfl) (by kernel_rfl) (by kernel_rfl) (Or.inl ⟨by rfl, fun wz hSw => ?_⟩) hB10 ?_
    rotate_left
    · go_simp
      with_reducible rfl
    simp only [Act.put, List.setIfInBounds_toArray, List.set_cons_zero, List.set_cons_succ]
    refine wpAnyH_done (by kernel_rfl) (NoPanic.normal ?_) _
    have N310 := hide ((unhide N38).below hB10 (unhide N38).lt)
    have N210 := hide ((unhide N28).below hB10 (unhide N28).lt)
    have NP10 := hide ((unhide NP8).below hB10 (unhide NP8).lt)
    have ND10 := hide (own_below (unhide ND8) hB10)
    have X10 := hide ((unhide X8).trans (hB10.mono (unhide X8).size))
    have ROW10 := hide ((unhide ROW8).below hB10)
    have hs10 : w8.heap.size ≤ w10.heap.size := hB10.size
    have NW := hide hb10
    clear hB10 hb10 hg10 hbw hb9 hS0
    obtain ⟨t9, ht9⟩ : ∃ t, (we != 0) = t := ⟨_, rfl⟩
    cases t9
    case true =>
      have hne : we ≠ 0 := by simpa using ht9
      have hrr := unhide HR8
      rw [if_pos hne] at hrr
      subst hrr
      clear HR8
      go_wp2_with (first
        | (refine wpList_build_cs rfl 53 _ rfl [] rfl _ build_sl0 ?_)
        | (refine wpList_store_blk rfl 53 (.tmp 6) (.tmp 76) rfl (w.heap.size + 1) 53 _ #[.slice none 0 0, .int .u32 0] rfl rfl (unhide N210) rfl (by kernel_rfl) (by intro v hv; simp at hv; rcases hv with rfl | rfl <;> rfl) ?_
           intro w9 hb9 hg9
           have Z9 := hide hb9
           have E9 := hide ((unhide X10).grown hg9 (unhide X10).size (fun j e => by injection e with e; omega))
           clear hb9 hg9)
        | fail)
      exact bodyPost_ret (v := .tuple #[.agg #[.slice none 0 0, .int .u32 0], .int .u32 0, .int .i64 0, .slice none 0 0, .int .i64 we]) (res_ctttt rfl _ (w.heap.size + 1) 53 _ _ _ _ _ _ rfl rfl rfl rfl rfl (unhide Z9) Try.underlying53 rfl (by kernel_rfl)) rfl (RcvPost.bad hne rfl (unhide E9))
    have hwe : we = 0 := by simpa using ht9
    have hrr := unhide HR8
    rw [if_neg (fun h => h hwe)] at hrr
    subst hrr
    clear HR8
    have hxz1 : ({ x with hi := wh, se := wl } : Sess).Ok := ⟨(unhide HXO).id, (unhide HXO).user, (unhide HXO).client, (unhide HXO).server, (unhide HXO).key, hwh, hwl, (unhide HXO).out⟩
    have hxz2 : ({ x with hi := wh, se := wl, last := now } : Sess).Ok := ⟨(unhide HXO).id, (unhide HXO).user, (unhide HXO).client, (unhide HXO).server, (unhide HXO).key, hwh, hwl, (unhide HXO).out⟩
    have hok1 : AllOk (E.set i { x with hi := wh, se := wl }) := (unhide HEOK).set hxz1
    have hiE : i < E.length := (List.getElem?_eq_some_iff.1 (unhide HX)).1
    have hx1 : (E.set i { x with hi := wh, se := wl })[i]? = some { x with hi := wh, se := wl } := List.getElem?_set_self hiE
    have hsplit : ∀ (W : World) (M : List Sess) (cu : Array Value) (k : Nat), RowM W gr c4 M cu → i < M.length → k ≤ 26 → i * 26 + k ≤ cu.size := fun _ _ _ _ h1 h2 h3 => by have := h1.size; have := h1.le; omega
    have hng : ∀ (W : World) (q : Nat) (t : TypeId) (cs cu : Array Value), Blk W q t cs → Blk W gr 84 cu → t ≠ 84 → some q ≠ some gr := fun _ _ _ _ _ hq hb ht e => by
      injection e with e
      subst e
      exact Blk.ne_ hq hb ht rfl
    have hgw10 : gw ≠ gr := fun e => hng _ _ _ _ _ (unhide NW) (unhide ROW10).blk (by decide) (by rw [e])
    have H1 := hide hxz1
    have H2 := hide hxz2
    have HOK1 := hide hok1
    have HIE := hide hiE
    have HX1 := hide hx1
    have HSP := hide hsplit
    have HNG := hide hng
    clear hxz1 hxz2 hok1 hiE hx1 hsplit hng
    go_upto_region 19 with (first
      | (refine wpList_load_row rfl 24 _ rfl gw rfl 24 _ _ _ (unhide NW) Try.underlying24 rfl (by kernel_rfl) ?_)
      | (refine wpList_store_part rfl 24 (.tmp 83) (.tmp 80) rfl gr (i * 26 + 22) 84 _ (.agg #[.int .u32 (wh : Int), .int .u32 (wl : Int)]) [.int .u32 (wh : Int), .int .u32 (wl : Int)] _ rfl rfl (unhide ROW10).blk rfl (by have := (unhide HSP) _ _ _ 24 (unhide ROW10) (unhide HIE) (by omega); simp; omega) (by kernel_rfl) (by intro v hv; simp at hv; rcases hv with rfl | rfl <;> rfl) rfl ?_
         intro w11 hb11 hg11
         have R11 : Hid (∃ cu, RowM w11 gr c4 (E.set i { x with hi := wh, se := wl }) cu) := hide ⟨_, RowM.part (unhide ROW10) (unhide HEOK) (unhide HX) (unhide H1) (Sess.set_win (unhide HXO) wh wl) (by simp) hb11⟩
         obtain ⟨cu11, r11⟩ := unhide R11
         have ROW11 := hide r11
         have N311 := hide ((unhide N310).grown hg11 ((unhide HNG) _ _ _ _ _ (unhide N310) (unhide ROW10).blk (by decide)))
         have N211 := hide ((unhide N210).grown hg11 ((unhide HNG) _ _ _ _ _ (unhide N210) (unhide ROW10).blk (by decide)))
         have NP11 := hide ((unhide NP10).grown hg11 ((unhide HNG) _ _ _ _ _ (unhide NP10) (unhide ROW10).blk (by decide)))
         have ND11 := hide (World.ownsRow.kept (unhide ND10) hg11 (.inr (own_blk_ne (unhide ND10) (unhide ROW10).blk (by decide))))
         have X11 := hide ((unhide X10).grown hg11 (unhide X10).size (fun j e => by injection e with e; omega))
         clear hb11 hg11 R11 r11)
      | (refine wpList_store_part rfl 2 (.tmp 85) (.tmp 81) rfl gr (i * 26 + 25) 84 _ (.int .i64 now) [.int .i64 now] _ rfl rfl (unhide ROW11).blk rfl (by have := (unhide HSP) _ _ _ 26 (unhide ROW11) (by rw [List.length_set]; exact (unhide HIE)) (by omega); simp; omega) (by kernel_rfl) (one1 rfl) rfl ?_
         intro w12 hb12 hg12
         have R12 : Hid (∃ cu, RowM w12 gr c4 ((E.set i { x with hi := wh, se := wl }).set i { x with hi := wh, se := wl, last := now }) cu) := hide ⟨_, RowM.part (unhide ROW11) (unhide HOK1) (unhide HX1) (unhide H2) (Sess.set_last (unhide H1) now) (by simp) hb12⟩
         obtain ⟨cu12, r12⟩ := unhide R12
         have ROW12 := hide r12
         have N312 := hide ((unhide N311).grown hg12 ((unhide HNG) _ _ _ _ _ (unhide N311) (unhide ROW11).blk (by decide)))
         have N212 := hide ((unhide N211).grown hg12 ((unhide HNG) _ _ _ _ _ (unhide N211) (unhide ROW11).blk (by decide)))
         have NP12 := hide ((unhide NP11).grown hg12 ((unhide HNG) _ _ _ _ _ (unhide NP11) (unhide ROW11).blk (by decide)))
         have ND12 := hide (World.ownsRow.kept (unhide ND11) hg12 (.inr (own_blk_ne (unhide ND11) (unhide ROW11).blk (by decide))))
         have X12 := hide ((unhide X11).grown hg12 (unhide X11).size (fun j e => by injection e with e; omega))
         clear hb12 hg12 R12 r12)
      | fail)
    have hgr2 : gr ≠ w.heap.size + 1 := fun e => (unhide HNG) _ _ _ _ _ (unhide N212) (unhide ROW12).blk (by decide) (by rw [e])
    have hB0 : Below w12.heap.size w12 w12.drew := (Below.refl _ _).drew
    have hS0 : (fun wz => Blk wz w4.heap.size 53 #[.slice (some ⟨gr, 0, none⟩) m c4, .int .u32 (nx : Int)] ∧ Blk wz w3.heap.size 93 #[.int .u32 (pid : Int), .int .u32 (pn : Int), .int .i64 (pk.toNat : Int), .slice Ad nd cd]) w12.drew := ⟨unhide N312, unhide NP12⟩
    refine wp_region_noPanic (wp_region_held_drew (S := fun wz => Blk wz w4.heap.size 53 #[.slice (some ⟨gr, 0, none⟩) m c4, .int .u32 (nx : Int)] ∧ Blk wz w3.heap.size 93 #[.int .u32 (pid : Int), .int .u32 (pn : Int), .int .i64 (pk.toNat : Int), .slice Ad nd cd]) (by kernel_rfl) hS0 (fun _ => ?_))
    refine th_take (i := 0) rfl (by kernel_rfl) (by kernel_rfl) (by kernel_rfl) (y_loadblk 53 (.tmp 13) (by rfl) rfl w4.heap.size rfl 53 #[.slice (some ⟨gr, 0, none⟩) m c4, .int .u32 (nx : Int)] _ (fun _ h => h.1) Try.underlying53 rfl (by kernel_rfl)) hS0 ?_
    simp only [Act.put, List.setIfInBounds_toArray, List.set_cons_zero, List.set_cons_succ]
    refine th_take (i := 1) (v := ?_) rfl (by kernel_rfl) (by kernel_rfl) (by kernel_rfl) (Or.inl ⟨by rfl, fun wz hSw => ?_⟩) hS0 ?_
    rotate_left
    · go_simp
      with_reducible rfl
    simp only [Act.put, List.setIfInBounds_toArray, List.set_cons_zero, List.set_cons_succ]
    refine th_take (i := 2) (v := .int .u32 (pid : Int)) rfl (by kernel_rfl) (by kernel_rfl) (by kernel_rfl) (Or.inl ⟨by rfl, fun wz hSw => ?_⟩) hS0 ?_
    · have hq : wz.cell? ⟨w3.heap.size, 0, none⟩ = some (.int .u32 (pid : Int)) := hSw.2.cell 0
      go_simp
    simp only [Act.put, List.setIfInBounds_toArray, List.set_cons_zero, List.set_cons_succ]
    refine th_take (i := 3) (v := ?_) rfl (by kernel_rfl) (by kernel_rfl) (by kernel_rfl) (Or.inl ⟨by rfl, fun wz hSw => ?_⟩) hS0 ?_
    rotate_left
    · go_simp
      with_reducible rfl
    simp only [Act.put, List.setIfInBounds_toArray, List.set_cons_zero, List.set_cons_succ]
    refine th_take (i := 4) (v := .int .i64 (pk.toNat : Int)) rfl (by kernel_rfl) (by kernel_rfl) (by kernel_rfl) (Or.inl ⟨by rfl, fun wz hSw => ?_⟩) hS0 ?_
    · have hq : wz.cell? ⟨w3.heap.size, 2, none⟩ = some (.int .i64 (pk.toNat : Int)) := hSw.2.cell 2
      go_simp
    simp only [Act.put, List.setIfInBounds_toArray, List.set_cons_zero, List.set_cons_succ]
    refine th_take (i := 5) (v := ?_) rfl (by kernel_rfl) (by kernel_rfl) (by kernel_rfl) (Or.inl ⟨by rfl, fun wz hSw => ?_⟩) hS0 ?_
    rotate_left
    · go_simp
      with_reducible rfl
    simp only [Act.put, List.setIfInBounds_toArray, List.set_cons_zero, List.set_cons_succ]
    refine th_take (i := 6) (v := .slice Ad nd cd) rfl (by kernel_rfl) (by kernel_rfl) (by kernel_rfl) (Or.inl ⟨by rfl, fun wz hSw => ?_⟩) hS0 ?_
    · have hq : wz.cell? ⟨w3.heap.size, 3, none⟩ = some (.slice Ad nd cd) := hSw.2.cell 3
      go_simp
    simp only [Act.put, List.setIfInBounds_toArray, List.set_cons_zero, List.set_cons_succ]
    refine th_one (i := 7) rfl (by kernel_rfl) (fun K hK => ?_)
    have q1 : Blk w12.drew (w.heap.size + 1) 53 #[.slice none 0 0, .int .u32 0] := unhide N212
    refine step_store_blk (by rfl) 53 (.tmp 6) (.tmp 86) rfl (w.heap.size + 1) 53 _ #[.slice (some ⟨gr, 0, none⟩) m c4, .int .u32 (nx : Int)] rfl rfl q1 rfl (by kernel_rfl) (by intro v hv; simp at hv; rcases hv with rfl | rfl <;> rfl) ?_
    intro w13 hb13 hg13
    have hS13 : Blk w13 w4.heap.size 53 #[.slice (some ⟨gr, 0, none⟩) m c4, .int .u32 (nx : Int)] ∧ Blk w13 w3.heap.size 93 #[.int .u32 (pid : Int), .int .u32 (pn : Int), .int .i64 (pk.toNat : Int), .slice Ad nd cd] := ⟨hS0.1.grown hg13 (fun e => by injection e with e; omega), hS0.2.grown hg13 (fun e => by injection e with e; omega)⟩
    have ho13 := World.ownsRow.kept (w := w12.drew) (unhide ND12) hg13 (.inr (own_blk_ne (w := w12.drew) (unhide ND12) q1 (by decide)))
    have hr13 := RowM.grown (w := w12.drew) (RowM.mk (unhide ROW12).blk (unhide ROW12).size (unhide ROW12).le (unhide ROW12).cap (unhide ROW12).take) hg13 hgr2
    have hx13 := (unhide X12).drew.grown hg13 (unhide X12).size (fun j e => by injection e with e; omega)
    refine hK.out _ _ hS13 (fun _ => ?_)
    clear hK K
    try simp only [Act.put]
    refine th_take (i := 8) (v := ?_) rfl (by kernel_rfl) (by kernel_rfl) (by kernel_rfl) (Or.inl ⟨by rfl, fun wz hSw => ?_⟩) hS13 ?_
    rotate_left
    · go_simp
      with_reducible rfl
    simp only [Act.put, List.setIfInBounds_toArray, List.set_cons_zero, List.set_cons_succ]
    refine th_take (i := 9) (v := ?_) rfl (by kernel_rfl) (by kernel_rfl) (by kernel_rfl) (Or.inl ⟨by rfl, fun wz hSw => ?_⟩) hS13 ?_
    rotate_left
    · go_simp
      with_reducible rfl
    simp only [Act.put, List.setIfInBounds_toArray, List.set_cons_zero, List.set_cons_succ]
    refine th_take (i := 10) (v := ?_) rfl (by kernel_rfl) (by kernel_rfl) (by kernel_rfl) (Or.inl ⟨by rfl, fun wz hSw => ?_⟩) hS13 ?_
    rotate_left
    · go_simp
      with_reducible rfl
    simp only [Act.put, List.setIfInBounds_toArray, List.set_cons_zero, List.set_cons_succ]
    refine th_take (i := 11) (v := ?_) rfl (by kernel_rfl) (by kernel_rfl) (by kernel_rfl) (Or.inl ⟨by rfl, fun wz hSw => ?_⟩) hS13 ?_
    rotate_left
    · go_simp
      with_reducible rfl
    simp only [Act.put, List.setIfInBounds_toArray, List.set_cons_zero, List.set_cons_succ]
    refine wpAnyH_done (by kernel_rfl) (NoPanic.normal ?_) _
    have H13 := hide hb13
    have O13 := hide ho13
    have ROW13 := hide hr13
    have X13 := hide hx13
    clear hb13 ho13 hr13 hx13 hg13 hS13 hS0 hB0 q1
    go_wp2_with fail
    refine bodyPost_ret (v := .tuple #[.agg #[.slice (some ⟨gr, 0, none⟩) m c4, .int .u32 (nx : Int)], .int .u32 (pid : Int), .int .i64 (pk.toNat : Int), .slice Ad nd cd, .int .i64 0]) (res_ctttt rfl _ (w.heap.size + 1) 53 _ _ _ _ _ _ rfl rfl rfl rfl rfl (unhide H13) Try.underlying53 rfl (by kernel_rfl)) rfl ?_
    unfold RcvPost
    rw [if_pos rfl]
    refine ⟨_, _, rfl, ?_, ?_, unhide X13⟩
    · dsimp only
      have hr := unhide ROW13
      rw [List.set_set] at hr
      rw [List.length_set, unhide HM]
      exact hr.whole ((unhide HEOK).set (unhide H2)) (by have := (unhide X6).size; omega) (by rw [List.length_set]; exact unhide HM)
    · dsimp only
      rw [unhide HPD]
      exact unhide O13
  · skip
    obtain ⟨gw, hgw0⟩ : ∃ k, w8.drew.heap.size = k := ⟨_, rfl⟩
    have hbw0 : Blk (w8.drew.alloc (.cells #[.int .u32 0, .int .u32 0] 24)) gw 24 #[.int .u32 0, .int .u32 0] := by rw [← hgw0]; exact Blk.new w8.drew _ _
    have hgw : w8.heap.size ≤ gw := Nat.le_of_eq hgw0
    rw [if_pos (by rfl)]
    refine step_alloc_ 24 rfl (alloc_win _) ?_
    have hba : Below w8.heap.size w8 (w8.drew.alloc (.cells #[.int .u32 0, .int .u32 0] 24)) := hS0.alloc hS0.size _
    refine hK.out _ _ hba (fun _ => ?_)
    clear hK K
    try simp only [Act.put, List.setIfInBounds_toArray, List.set_cons_zero, List.set_cons_succ]
    rw [hgw0]
    refine th_one (i := 6) rfl (by kernel_rfl) (fun K hK => ?_)
    rw [if_pos (by rfl)]
    go_simp
    refine (unhide HSH (w8.drew.alloc (.cells #[.int .u32 0, .int .u32 0] 24))).mono ?_
    rintro e w9 ⟨he, hb9'⟩
    obtain rfl : e = .returned (.tuple #[.agg #[.int .u32 (wh : Int), .int .u32 (wl : Int)], .int .i64 we]) := he
    have hb9 : Below w8.heap.size w8 w9 := hba.trans (hb9'.mono hba.size)
    refine hK.out _ _ hb9 (fun _ => ?_)
    clear hK K
    try simp only [Act.put, List.setIfInBounds_toArray, List.set_cons_zero, List.set_cons_succ]
    refine th_take (i := 7) (v := ?_) rfl (by kernel_rfl) (by kernel_rfl) (by kernel_rfl) (Or.inl ⟨by rfl, fun wz hSw => ?_⟩) hb9 ?_
    rotate_left
    · go_simp
      with_reducible rfl
    simp only [Act.put, List.setIfInBounds_toArray, List.set_cons_zero, List.set_cons_succ]
    refine th_take (i := 8) (v := ?_) rfl (by kernel_rfl) (by kernel_rfl) (by kernel_rfl) (Or.inl ⟨by rfl, fun wz hSw => ?_⟩) hb9 ?_
    rotate_left
    · go_simp
      with_reducible rfl
    simp only [Act.put, List.setIfInBounds_toArray, List.set_cons_zero, List.set_cons_succ]
    refine th_take (i := 9) (v := ?_) rfl (by kernel_rfl) (by kernel_rfl) (by kernel_rfl) (Or.inl ⟨by rfl, fun wz hSw => ?_⟩) hb9 ?_
    rotate_left
    · go_simp
      with_reducible rfl
    simp only [Act.put, List.setIfInBounds_toArray, List.set_cons_zero, List.set_cons_succ]
    have hbw : Blk w9 gw 24 #[.int .u32 0, .int .u32 0] := hbw0.below hb9' hbw0.lt
    clear hgw0 hbw0 hb9' hba
    refine th_one (i := 11) rfl (by kernel_rfl) (fun K hK => ?_)
    refine step_store_blk (by rfl) 24 (.tmp 16) (.tmp 72) rfl gw 24 _ #[.int .u32 (wh : Int), .int .u32 (wl : Int)] rfl rfl hbw rfl (by kernel_rfl) (by intro v hv; simp at hv; rcases hv with rfl | rfl <;> rfl) ?_
    intro w10 hb10 hg10
    have hB10 : Below w8.heap.size w8 w10 := hb9.grown hg10 hb9.size (fun j e => by injection e with e; omega)
    refine hK.out _ _ hB10 (fun _ => ?_)
    clear hK K
    try simp only [Act.put]
    refine th_take (i := 12) (v := ?_) rfl (by kernel_rfl) (by kernel_rfl) (by kernel_rfl) (Or.inl ⟨by rfl, fun wz hSw => ?_⟩) hB10 ?_
    rotate_left
    · go_simp
      with_reducible rfl
    simp only [Act.put, List.setIfInBounds_toArray, List.set_cons_zero, List.set_cons_succ]
    refine wpAnyH_done (by kernel_rfl) (NoPanic.normal ?_) _
    have N310 := hide ((unhide N38).below hB10 (unhide N38).lt)
    have N210 := hide ((unhide N28).below hB10 (unhide N28).lt)
    have NP10 := hide ((unhide NP8).below hB10 (unhide NP8).lt)
    have ND10 := hide (own_below (unhide ND8) hB10)
    have X10 := hide ((unhide X8).trans (hB10.mono (unhide X8).size))
    have ROW10 := hide ((unhide ROW8).below hB10)
    have hs10 : w8.heap.size ≤ w10.heap.size := hB10.size
    have NW := hide hb10
    clear hB10 hb10 hg10 hbw hb9 hS0
    obtain ⟨t9, ht9⟩ : ∃ t, (we != 0) = t := ⟨_, rfl⟩
    cases t9
    case true =>
      have hne : we ≠ 0 := by simpa using ht9
      have hrr := unhide HR8
      rw [if_pos hne] at hrr
      subst hrr
      clear HR8
      go_wp2_with (first
        | (refine wpList_build_cs rfl 53 _ rfl [] rfl _ build_sl0 ?_)
        | (refine wpList_store_blk rfl 53 (.tmp 6) (.tmp 76) rfl (w.heap.size + 1) 53 _ #[.slice none 0 0, .int .u32 0] rfl rfl (unhide N210) rfl (by kernel_rfl) (by intro v hv; simp at hv; rcases hv with rfl | rfl <;> rfl) ?_
           intro w9 hb9 hg9
           have Z9 := hide hb9
           have E9 := hide ((unhide X10).grown hg9 (unhide X10).size (fun j e => by injection e with e; omega))
           clear hb9 hg9)
        | fail)
      exact bodyPost_ret (v := .tuple #[.agg #[.slice none 0 0, .int .u32 0], .int .u32 0, .int .i64 0, .slice none 0 0, .int .i64 we]) (res_ctttt rfl _ (w.heap.size + 1) 53 _ _ _ _ _ _ rfl rfl rfl rfl rfl (unhide Z9) Try.underlying53 rfl (by kernel_rfl)) rfl (RcvPost.bad hne rfl (unhide E9))
    have hwe : we = 0 := by simpa using ht9
    have hrr := unhide HR8
    rw [if_neg (fun h => h hwe)] at hrr
    subst hrr
    clear HR8
    have hxz1 : ({ x with hi := wh, se := wl } : Sess).Ok := ⟨(unhide HXO).id, (unhide HXO).user, (unhide HXO).client, (unhide HXO).server, (unhide HXO).key, hwh, hwl, (unhide HXO).out⟩
    have hxz2 : ({ x with hi := wh, se := wl, last := now } : Sess).Ok := ⟨(unhide HXO).id, (unhide HXO).user, (unhide HXO).client, (unhide HXO).server, (unhide HXO).key, hwh, hwl, (unhide HXO).out⟩
    have hok1 : AllOk (E.set i { x with hi := wh, se := wl }) := (unhide HEOK).set hxz1
    have hiE : i < E.length := (List.getElem?_eq_some_iff.1 (unhide HX)).1
    have hx1 : (E.set i { x with hi := wh, se := wl })[i]? = some { x with hi := wh, se := wl } := List.getElem?_set_self hiE
    have hsplit : ∀ (W : World) (M : List Sess) (cu : Array Value) (k : Nat), RowM W gr c4 M cu → i < M.length → k ≤ 26 → i * 26 + k ≤ cu.size := fun _ _ _ _ h1 h2 h3 => by have := h1.size; have := h1.le; omega
    have hng : ∀ (W : World) (q : Nat) (t : TypeId) (cs cu : Array Value), Blk W q t cs → Blk W gr 84 cu → t ≠ 84 → some q ≠ some gr := fun _ _ _ _ _ hq hb ht e => by
      injection e with e
      subst e
      exact Blk.ne_ hq hb ht rfl
    have hgw10 : gw ≠ gr := fun e => hng _ _ _ _ _ (unhide NW) (unhide ROW10).blk (by decide) (by rw [e])
    have H1 := hide hxz1
    have H2 := hide hxz2
    have HOK1 := hide hok1
    have HIE := hide hiE
    have HX1 := hide hx1
    have HSP := hide hsplit
    have HNG := hide hng
    clear hxz1 hxz2 hok1 hiE hx1 hsplit hng
    go_upto_region 19 with (first
      | (refine wpList_load_row rfl 24 _ rfl gw rfl 24 _ _ _ (unhide NW) Try.underlying24 rfl (by kernel_rfl) ?_)
      | (refine wpList_store_part rfl 24 (.tmp 83) (.tmp 80) rfl gr (i * 26 + 22) 84 _ (.agg #[.int .u32 (wh : Int), .int .u32 (wl : Int)]) [.int .u32 (wh : Int), .int .u32 (wl : Int)] _ rfl rfl (unhide ROW10).blk rfl (by have := (unhide HSP) _ _ _ 24 (unhide ROW10) (unhide HIE) (by omega); simp; omega) (by kernel_rfl) (by intro v hv; simp at hv; rcases hv with rfl | rfl <;> rfl) rfl ?_
         intro w11 hb11 hg11
         have R11 : Hid (∃ cu, RowM w11 gr c4 (E.set i { x with hi := wh, se := wl }) cu) := hide ⟨_, RowM.part (unhide ROW10) (unhide HEOK) (unhide HX) (unhide H1) (Sess.set_win (unhide HXO) wh wl) (by simp) hb11⟩
         obtain ⟨cu11, r11⟩ := unhide R11
         have ROW11 := hide r11
         have N311 := hide ((unhide N310).grown hg11 ((unhide HNG) _ _ _ _ _ (unhide N310) (unhide ROW10).blk (by decide)))
         have N211 := hide ((unhide N210).grown hg11 ((unhide HNG) _ _ _ _ _ (unhide N210) (unhide ROW10).blk (by decide)))
         have NP11 := hide ((unhide NP10).grown hg11 ((unhide HNG) _ _ _ _ _ (unhide NP10) (unhide ROW10).blk (by decide)))
         have ND11 := hide (World.ownsRow.kept (unhide ND10) hg11 (.inr (own_blk_ne (unhide ND10) (unhide ROW10).blk (by decide))))
         have X11 := hide ((unhide X10).grown hg11 (unhide X10).size (fun j e => by injection e with e; omega))
         clear hb11 hg11 R11 r11)
      | (refine wpList_store_part rfl 2 (.tmp 85) (.tmp 81) rfl gr (i * 26 + 25) 84 _ (.int .i64 now) [.int .i64 now] _ rfl rfl (unhide ROW11).blk rfl (by have := (unhide HSP) _ _ _ 26 (unhide ROW11) (by rw [List.length_set]; exact (unhide HIE)) (by omega); simp; omega) (by kernel_rfl) (one1 rfl) rfl ?_
         intro w12 hb12 hg12
         have R12 : Hid (∃ cu, RowM w12 gr c4 ((E.set i { x with hi := wh, se := wl }).set i { x with hi := wh, se := wl, last := now }) cu) := hide ⟨_, RowM.part (unhide ROW11) (unhide HOK1) (unhide HX1) (unhide H2) (Sess.set_last (unhide H1) now) (by simp) hb12⟩
         obtain ⟨cu12, r12⟩ := unhide R12
         have ROW12 := hide r12
         have N312 := hide ((unhide N311).grown hg12 ((unhide HNG) _ _ _ _ _ (unhide N311) (unhide ROW11).blk (by decide)))
         have N212 := hide ((unhide N211).grown hg12 ((unhide HNG) _ _ _ _ _ (unhide N211) (unhide ROW11).blk (by decide)))
         have NP12 := hide ((unhide NP11).grown hg12 ((unhide HNG) _ _ _ _ _ (unhide NP11) (unhide ROW11).blk (by decide)))
         have ND12 := hide (World.ownsRow.kept (unhide ND11) hg12 (.inr (own_blk_ne (unhide ND11) (unhide ROW11).blk (by decide))))
         have X12 := hide ((unhide X11).grown hg12 (unhide X11).size (fun j e => by injection e with e; omega))
         clear hb12 hg12 R12 r12)
      | fail)
    have hgr2 : gr ≠ w.heap.size + 1 := fun e => (unhide HNG) _ _ _ _ _ (unhide N212) (unhide ROW12).blk (by decide) (by rw [e])
    have hB0 : Below w12.heap.size w12 w12.drew := (Below.refl _ _).drew
    have hS0 : (fun wz => Blk wz w4.heap.size 53 #[.slice (some ⟨gr, 0, none⟩) m c4, .int .u32 (nx : Int)] ∧ Blk wz w3.heap.size 93 #[.int .u32 (pid : Int), .int .u32 (pn : Int), .int .i64 (pk.toNat : Int), .slice Ad nd cd]) w12.drew := ⟨unhide N312, unhide NP12⟩
    refine wp_region_noPanic (wp_region_held_drew (S := fun wz => Blk wz w4.heap.size 53 #[.slice (some ⟨gr, 0, none⟩) m c4, .int .u32 (nx : Int)] ∧ Blk wz w3.heap.size 93 #[.int .u32 (pid : Int), .int .u32 (pn : Int), .int .i64 (pk.toNat : Int), .slice Ad nd cd]) (by kernel_rfl) hS0 (fun _ => ?_))
    refine th_take (i := 0) rfl (by kernel_rfl) (by kernel_rfl) (by kernel_rfl) (y_loadblk 53 (.tmp 13) (by rfl) rfl w4.heap.size rfl 53 #[.slice (some ⟨gr, 0, none⟩) m c4, .int .u32 (nx : Int)] _ (fun _ h => h.1) Try.underlying53 rfl (by kernel_rfl)) hS0 ?_
    simp only [Act.put, List.setIfInBounds_toArray, List.set_cons_zero, List.set_cons_succ]
    refine th_take (i := 1) (v := ?_) rfl (by kernel_rfl) (by kernel_rfl) (by kernel_rfl) (Or.inl ⟨by rfl, fun wz hSw => ?_⟩) hS0 ?_
    rotate_left
    · go_simp
      with_reducible rfl
    simp only [Act.put, List.setIfInBounds_toArray, List.set_cons_zero, List.set_cons_succ]
    refine th_take (i := 2) (v := .int .u32 (pid : Int)) rfl (by kernel_rfl) (by kernel_rfl) (by kernel_rfl) (Or.inl ⟨by rfl, fun wz hSw => ?_⟩) hS0 ?_
    · have hq : wz.cell? ⟨w3.heap.size, 0, none⟩ = some (.int .u32 (pid : Int)) := hSw.2.cell 0
      go_simp
    simp only [Act.put, List.setIfInBounds_toArray, List.set_cons_zero, List.set_cons_succ]
    refine th_take (i := 3) (v := ?_) rfl (by kernel_rfl) (by kernel_rfl) (by kernel_rfl) (Or.inl ⟨by rfl, fun wz hSw => ?_⟩) hS0 ?_
    rotate_left
    · go_simp
      with_reducible rfl
    simp only [Act.put, List.setIfInBounds_toArray, List.set_cons_zero, List.set_cons_succ]
    refine th_take (i := 4) (v := .int .i64 (pk.toNat : Int)) rfl (by kernel_rfl) (by kernel_rfl) (by kernel_rfl) (Or.inl ⟨by rfl, fun wz hSw => ?_⟩) hS0 ?_
    · have hq : wz.cell? ⟨w3.heap.size, 2, none⟩ = some (.int .i64 (pk.toNat : Int)) := hSw.2.cell 2
      go_simp
    simp only [Act.put, List.setIfInBounds_toArray, List.set_cons_zero, List.set_cons_succ]
    refine th_take (i := 5) (v := ?_) rfl (by kernel_rfl) (by kernel_rfl) (by kernel_rfl) (Or.inl ⟨by rfl, fun wz hSw => ?_⟩) hS0 ?_
    rotate_left
    · go_simp
      with_reducible rfl
    simp only [Act.put, List.setIfInBounds_toArray, List.set_cons_zero, List.set_cons_succ]
    refine th_take (i := 6) (v := .slice Ad nd cd) rfl (by kernel_rfl) (by kernel_rfl) (by kernel_rfl) (Or.inl ⟨by rfl, fun wz hSw => ?_⟩) hS0 ?_
    · have hq : wz.cell? ⟨w3.heap.size, 3, none⟩ = some (.slice Ad nd cd) := hSw.2.cell 3
      go_simp
    simp only [Act.put, List.setIfInBounds_toArray, List.set_cons_zero, List.set_cons_succ]
    refine th_one (i := 7) rfl (by kernel_rfl) (fun K hK => ?_)
    have q1 : Blk w12.drew (w.heap.size + 1) 53 #[.slice none 0 0, .int .u32 0] := unhide N212
    refine step_store_blk (by rfl) 53 (.tmp 6) (.tmp 86) rfl (w.heap.size + 1) 53 _ #[.slice (some ⟨gr, 0, none⟩) m c4, .int .u32 (nx : Int)] rfl rfl q1 rfl (by kernel_rfl) (by intro v hv; simp at hv; rcases hv with rfl | rfl <;> rfl) ?_
    intro w13 hb13 hg13
    have hS13 : Blk w13 w4.heap.size 53 #[.slice (some ⟨gr, 0, none⟩) m c4, .int .u32 (nx : Int)] ∧ Blk w13 w3.heap.size 93 #[.int .u32 (pid : Int), .int .u32 (pn : Int), .int .i64 (pk.toNat : Int), .slice Ad nd cd] := ⟨hS0.1.grown hg13 (fun e => by injection e with e; omega), hS0.2.grown hg13 (fun e => by injection e with e; omega)⟩
    have ho13 := World.ownsRow.kept (w := w12.drew) (unhide ND12) hg13 (.inr (own_blk_ne (w := w12.drew) (unhide ND12) q1 (by decide)))
    have hr13 := RowM.grown (w := w12.drew) (RowM.mk (unhide ROW12).blk (unhide ROW12).size (unhide ROW12).le (unhide ROW12).cap (unhide ROW12).take) hg13 hgr2
    have hx13 := (unhide X12).drew.grown hg13 (unhide X12).size (fun j e => by injection e with e; omega)
    refine hK.out _ _ hS13 (fun _ => ?_)
    clear hK K
    try simp only [Act.put]
    refine th_take (i := 8) (v := ?_) rfl (by kernel_rfl) (by kernel_rfl) (by kernel_rfl) (Or.inl ⟨by rfl, fun wz hSw => ?_⟩) hS13 ?_
    rotate_left
    · go_simp
      with_reducible rfl
    simp only [Act.put, List.setIfInBounds_toArray, List.set_cons_zero, List.set_cons_succ]
    refine th_take (i := 9) (v := ?_) rfl (by kernel_rfl) (by kernel_rfl) (by kernel_rfl) (Or.inl ⟨by rfl, fun wz hSw => ?_⟩) hS13 ?_
    rotate_left
    · go_simp
      with_reducible rfl
    simp only [Act.put, List.setIfInBounds_toArray, List.set_cons_zero, List.set_cons_succ]
    refine th_take (i := 10) (v := ?_) rfl (by kernel_rfl) (by kernel_rfl) (by kernel_rfl) (Or.inl ⟨by rfl, fun wz hSw => ?_⟩) hS13 ?_
    rotate_left
    · go_simp
      with_reducible rfl
    simp only [Act.put, List.setIfInBounds_toArray, List.set_cons_zero, List.set_cons_succ]
    refine th_take (i := 11) (v := ?_) rfl (by kernel_rfl) (by kernel_rfl) (by kernel_rfl) (Or.inl ⟨by rfl, fun wz hSw => ?_⟩) hS13 ?_
    rotate_left
    · go_simp
      with_reducible rfl
    simp only [Act.put, List.setIfInBounds_toArray, List.set_cons_zero, List.set_cons_succ]
    refine wpAnyH_done (by kernel_rfl) (NoPanic.normal ?_) _
    have H13 := hide hb13
    have O13 := hide ho13
    have ROW13 := hide hr13
    have X13 := hide hx13
    clear hb13 ho13 hr13 hx13 hg13 hS13 hS0 hB0 q1
    go_wp2_with fail
    refine bodyPost_ret (v := .tuple #[.agg #[.slice (some ⟨gr, 0, none⟩) m c4, .int .u32 (nx : Int)], .int .u32 (pid : Int), .int .i64 (pk.toNat : Int), .slice Ad nd cd, .int .i64 0]) (res_ctttt rfl _ (w.heap.size + 1) 53 _ _ _ _ _ _ rfl rfl rfl rfl rfl (unhide H13) Try.underlying53 rfl (by kernel_rfl)) rfl ?_
    unfold RcvPost
    rw [if_pos rfl]
    refine ⟨_, _, rfl, ?_, ?_, unhide X13⟩
    · dsimp only
      have hr := unhide ROW13
      rw [List.set_set] at hr
      rw [List.length_set, unhide HM]
      exact hr.whole ((unhide HEOK).set (unhide H2)) (by have := (unhide X6).size; omega) (by rw [List.length_set]; exact unhide HM)
    · dsimp only
      rw [unhide HPD]
      exact unhide O13
end Go.Proofs.Ytfbkkmnkpjgciaa
