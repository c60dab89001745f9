/- session.Expire (printed by wip/gen_sexpire.py). -/
import Derived.Test.YtfbkkmnkpjgciaaSDel
namespace Go.Proofs.Ytfbkkmnkpjgciaa
open Go.RowKit
def timeB (now : Int) : Bool := decide (0 ≤ now ∧ now ≤ 17179869184)
def expF (L : List Sess) (nx : Nat) (now : Int) : List Sess := if (validF L nx && timeB now) = true then keepL (oldP now) L else L
theorem expF_ok {L : List Sess} {nx : Nat} {now : Int} (h : AllOk L) : AllOk (expF L nx now) := by
  unfold expF; split
  · exact keepL_ok h
  · exact h
theorem expF_le (L : List Sess) (nx : Nat) (now : Int) : (expF L nx now).length ≤ L.length := by
  unfold expF; split
  · exact keepL_le _ _
  · exact Nat.le_refl _
theorem bld_sl (w : World) (A : Option Addr) (n c : Nat) (x : Int) : (Instr.build 53 #[(0, .slice A n c), (1, .int .u32 x)]).run Try.prog w = .ok (.agg #[.slice A n c, .int .u32 x]) w := by kernel_rfl
def ExpR (B n : Nat) (L : List Sess) (nx : Nat) : Nat → Value → World → Prop
  | 2, v, w => w.ownsRow B 84 26 v n (flatS L)
  | 5, v, w => ∃ d, v = .agg #[d, .int .u32 (nx : Int)] ∧ w.ownsRow B 84 26 d n (flatS L)
  | 6, v, w => ∃ g, v = .pointer (some ⟨g, 0, none⟩) ∧ Blk w g 53 #[.slice none 0 0, .int .u32 0] ∧ B ≤ g
  | _, _, _ => True
theorem ExpR.keep {B n : Nat} {L : List Sess} {nx : Nat} : ∀ (k : Nat) (v : Value) (w w' : World), ExpR B n L nx k v w → Below w.heap.size w w' → ExpR B n L nx k v w' := by
  intro k v w w' h hb
  unfold ExpR at *
  split at h
  · exact own_below h hb
  · obtain ⟨d, h1, h2⟩ := h
    exact ⟨d, h1, own_below h2 hb⟩
  · obtain ⟨g, h1, h2, h3⟩ := h
    exact ⟨g, h1, h2.below hb h2.lt, h3⟩
  · trivial
def ExpPost (w : World) (L : List Sess) (nx : Nat) (e : Ending) (w' : World) : Prop :=
  ∃ v, e = .returned (.agg #[v, .int .u32 (nx : Int)]) ∧ w'.ownsRow w.heap.size 84 26 v L.length (flatS L) ∧ Below w.heap.size w w'
set_option maxRecDepth 100000 in
set_option maxHeartbeats 8000000 in
theorem expire_sx (w : World) (A : Option Addr) (n c : Nat) (L : List Sess) (nx : Nat) (h : SessL w w.heap.size A n L) (hn : n ≤ 1000) (hnx : nx < 4294967296) (now : Int) :
    Calls Try.prog 27 #[.agg #[.slice A n c, .int .u32 (nx : Int)], .int .i64 now] w (ExpPost w (expF L nx now) nx) := by
  obtain ⟨W1, hW1⟩ : ∃ W1, ((w.alloc (.cells #[.slice A n c, .int .u32 (nx : Int)] 53)).alloc (.cells #[.int .i64 now] 2)).alloc (.cells #[.slice none 0 0, .int .u32 0] 53) = W1 := ⟨_, rfl⟩
  have hsz : W1.heap.size = w.heap.size + 3 := by rw [← hW1, size_alloc3]
  have K0 : Hid (Blk W1 w.heap.size 53 #[.slice A n c, .int .u32 (nx : Int)]) := hide (hW1 ▸ (((Blk.new w _ _).alloc _).alloc _))
  have K1 : Hid (Blk W1 (w.heap.size + 1) 2 #[.int .i64 now]) := hide (hW1 ▸ ((Blk.new' (by simp)).alloc _))
  have K2 : Hid (Blk W1 (w.heap.size + 2) 53 #[.slice none 0 0, .int .u32 0]) := hide (hW1 ▸ (Blk.new' (by simp)))
  have B1 : Hid (Below w.heap.size w W1) := hide (hW1 ▸ (((Below.refl _ _).alloc (Nat.le_refl _) _).alloc (by rw [size_alloc]; omega) _).alloc (by rw [size_alloc, size_alloc]; omega) _)
  have HS := hide ((h.below (unhide B1)).more (unhide B1).size)
  have HOK := hide h.ok
  have HLEN := hide h.len
  have HW1 := hide hW1
  have EGC' := hide (enters Try.func42 (by kernel_rfl) rfl)
  have d0 : W1.cell? ⟨w.heap.size, 0, none⟩ = some (.slice A n c) := (unhide K0).cell 0
  have d1 : W1.cell? ⟨w.heap.size, 1, none⟩ = some (.int .u32 (nx : Int)) := (unhide K0).cell 1
  have D0 := hide (fun W (hW : Below W1.heap.size W1 W) => (hW.cell (p := ⟨w.heap.size, 0, none⟩) (unhide K0).lt).trans d0)
  have D1 := hide (fun W (hW : Below W1.heap.size W1 W) => (hW.cell (p := ⟨w.heap.size, 1, none⟩) (unhide K0).lt).trans d1)
  clear hW1 h d0 d1
  go_enter Try.func27, Try.ntmps27
  go_upto_region 1 with fail
  rw [unhide HW1]
  have hS0 : Below W1.heap.size W1 W1.drew := (Below.refl _ _).drew
  refine wp_region_noPanic (wp_region_held_drew (S := fun wz => Below W1.heap.size W1 wz) (by kernel_rfl) hS0 (fun _ => ?_))
  refine th_take (i := 0) (v := ?_) rfl (by kernel_rfl) (by kernel_rfl) (by kernel_rfl) (Or.inl ⟨by rfl, fun wz hSw => ?_⟩) hS0 ?_
  rotate_left
  · go_simp
    with_reducible rfl
  simp only [Act.put, List.setIfInBounds_toArray, List.set_cons_zero, List.set_cons_succ]
  refine th_take (i := 1) (v := .slice A n c) rfl (by kernel_rfl) (by kernel_rfl) (by kernel_rfl) (Or.inl ⟨by rfl, fun wz hSw => ?_⟩) hS0 ?_
  · have hq := unhide D0 wz hSw
    go_simp
  simp only [Act.put, List.setIfInBounds_toArray, List.set_cons_zero, List.set_cons_succ]
  refine th_take (i := 3) (v := ?_) rfl (by kernel_rfl) (by kernel_rfl) (by kernel_rfl) (Or.inl ⟨by rfl, fun wz hSw => ?_⟩) hS0 ?_
  rotate_left
  · go_simp
    with_reducible rfl
  simp only [Act.put, List.setIfInBounds_toArray, List.set_cons_zero, List.set_cons_succ]
  refine th_take (i := 4) (v := .int .u32 (nx : Int)) rfl (by kernel_rfl) (by kernel_rfl) (by kernel_rfl) (Or.inl ⟨by rfl, fun wz hSw => ?_⟩) hS0 ?_
  · have hq := unhide D1 wz hSw
    go_simp
  simp only [Act.put, List.setIfInBounds_toArray, List.set_cons_zero, List.set_cons_succ]
  refine any_below (ExpR W1.heap.size n L nx) W1 [2, 5, 6] #[true, true, true, true, true, true, true, false] [(2, some 8), (5, some 11), (6, some 5)] 27 1 (by kernel_rfl) rfl ExpR.keep (fun _ h => h) hS0 ⟨?_, ?_, ?_, trivial⟩ ?_ rfl
  · intro a wa hBa hout hin
    have e : a.eval (.tmp 7) = .slice A n c := hout 7 (by kernel_rfl)
    refine b_call [.slice A n c] rfl rfl rfl rfl (unhide EGC') ?_ ?_
    · show [a.eval (.tmp 7)] = _
      rw [e]
    · exact (clone_s wa A n c L (((unhide HS).below hBa).more hBa.size) hn).mono fun e w' ⟨v, he, ho, hb⟩ => ⟨v, he, hb, own_more ho hBa.size⟩
  · intro a wa hBa hout hin
    have h2 : wa.ownsRow W1.heap.size 84 26 (a.eval (.tmp 8)) n (flatS L) := hin 2 8 (by kernel_rfl)
    have e10 : a.eval (.tmp 10) = .int .u32 (nx : Int) := hout 10 (by kernel_rfl)
    obtain ⟨A8, c8, e8, _, _⟩ := slice_of_own h2
    rw [e8] at h2
    refine b_val rfl rfl (v := .agg #[.slice A8 n c8, .int .u32 (nx : Int)]) (w' := wa) ?_ ⟨Below.refl _ _, _, rfl, h2⟩
    simp [execOp, e8, e10, bld_sl]
  · intro a wa hBa hout hin
    refine b_val rfl rfl (v := .pointer (some ⟨wa.heap.size, 0, none⟩)) (w' := wa.alloc (.cells #[.slice none 0 0, .int .u32 0] 53)) ?_ ⟨(Below.refl _ _).alloc (Nat.le_refl _) _, wa.heap.size, rfl, Blk.new _ _ _, hBa.size⟩
    simp [execOp, alloc_sl]
  intro vals ww hBw hRw
  simp only [puts, Act.put, List.setIfInBounds_toArray, List.set_cons_zero, List.set_cons_succ]
  obtain ⟨d, e5, ho5⟩ : ∃ d, vals 5 = .agg #[d, .int .u32 (nx : Int)] ∧ ww.ownsRow W1.heap.size 84 26 d n (flatS L) := hRw 5 (by rfl)
  obtain ⟨g5, e6, hb6, hg6⟩ : ∃ g, vals 6 = .pointer (some ⟨g, 0, none⟩) ∧ Blk ww g 53 #[.slice none 0 0, .int .u32 0] ∧ W1.heap.size ≤ g := hRw 6 (by rfl)
  rw [e5, e6]
  clear e5 e6 hRw
  refine th_one (i := 7) rfl (by kernel_rfl) (fun K hK => ?_)
  refine step_store_blk (by rfl) 53 (.tmp 5) (.tmp 11) rfl g5 53 _ #[d, .int .u32 (nx : Int)] rfl rfl hb6 rfl (by kernel_rfl) (by obtain ⟨_, _, e, _, _⟩ := slice_of_own ho5; subst e; intro v hv; simp at hv; rcases hv with rfl | rfl <;> rfl) ?_
  intro w2 hb2 hg2
  have hS2 : Below W1.heap.size W1 w2 := hBw.grown hg2 hBw.size (fun j e => by injection e with e; omega)
  have ho2 : w2.ownsRow W1.heap.size 84 26 d n (flatS L) := World.ownsRow.kept ho5 hg2 (.inr (own_blk_ne ho5 hb6 (by decide)))
  refine hK.out _ _ hS2 (fun _ => ?_)
  clear hK K
  try simp only [Act.put]
  refine wpAnyH_done (by kernel_rfl) (NoPanic.normal ?_) _
  have Z2 := hide hb2
  have O2 := hide ho2
  have S2 := hide hS2
  have X2 : Hid (Below w.heap.size w w2) := hide ((unhide B1).trans (hS2.mono (by omega)))
  have J0 := hide ((unhide K0).below hS2 (unhide K0).lt)
  have J1 := hide ((unhide K1).below hS2 (unhide K1).lt)
  have J2 := hide ((unhide K2).below hS2 (unhide K2).lt)
  have HS2 := hide (((unhide HS).below hS2).more hS2.size)
  clear hb2 ho2 hS2 hg2 hb6 ho5 hBw hS0
  obtain ⟨A0, c0, hd, _, _⟩ := slice_of_own (unhide O2)
  subst hd
  obtain ⟨r, hr⟩ : ∃ r, validF L nx = r := ⟨_, rfl⟩
  obtain ⟨t, ht⟩ : ∃ t, timeB now = t := ⟨_, rfl⟩
  have HR := hide hr
  have HT : Hid (decide (0 ≤ now ∧ now ≤ 17179869184) = t) := hide ht
  have HE : Hid (expF L nx now = if (r && t) = true then keepL (oldP now) L else L) := hide (by unfold expF; rw [hr, ht])
  clear hr ht
  go_wp2_with (first
    | (refine wpList_load_row rfl 53 _ rfl w.heap.size rfl 53 _ _ _ (unhide J0) Try.underlying53 rfl (by kernel_rfl) ?_)
    | fail)
  refine (valid_sx w2 A n c L nx (unhide HS2) (by unfold maxLen; omega) hnx r (unhide HR)).mono ?_
  rintro e w3 ⟨rfl, hb3⟩
  have Z3 := hide ((unhide Z2).below hb3 (unhide Z2).lt)
  have O3 := hide (own_below (unhide O2) hb3)
  have X3 := hide ((unhide X2).trans (hb3.mono (unhide X2).size))
  have S3 := hide ((unhide S2).trans (hb3.mono (unhide S2).size))
  have J13 := hide ((unhide J1).below hb3 (unhide J1).lt)
  have J23 := hide ((unhide J2).below hb3 (unhide J2).lt)
  clear hb3
  have dn : w3.cell? ⟨w.heap.size + 1, 0, none⟩ = some (.int .i64 now) := (unhide J13).cell 0
  have hne : w.heap.size + 2 ≠ g5 := by omega
  cases r with
  | false =>
    have ek : expF L nx now = L := by rw [unhide HE]; simp
    go_wp2_with (first
      | (go_at_call 24; refine (time_sx _ now _ (unhide HT)).mono ?_; rintro e w' ⟨rfl, rfl⟩)
      | (refine wpList_load_row rfl 53 _ rfl g5 rfl 53 _ _ _ (unhide Z3) Try.underlying53 rfl (by kernel_rfl) ?_)
      | (refine wpList_store_blk rfl 53 (.tmp 4) (.tmp 20) rfl (w.heap.size + 2) 53 _ #[.slice A0 n c0, .int .u32 (nx : Int)] rfl rfl (unhide J23) rfl (by kernel_rfl) (by intro v hv; simp at hv; rcases hv with rfl | rfl <;> rfl) ?_
         intro w9 hb9 hg9
         have Z9 := hide hb9
         have O9 := hide (World.ownsRow.kept (unhide O3) hg9 (.inr (own_blk_ne (unhide O3) (unhide J23) (by decide))))
         have E9 := hide ((unhide X3).grown hg9 (unhide X3).size (fun j e => by injection e with e; omega))
         clear hb9 hg9)
      | fail)
    refine bodyPost_ret (v := .agg #[.slice A0 n c0, .int .u32 (nx : Int)]) (res1 rfl _ (w.heap.size + 2) 53 _ _ rfl (unhide Z9) Try.underlying53 rfl (by kernel_rfl)) rfl ?_
    rw [ek]
    refine (show ExpPost w L nx _ _ from ⟨_, rfl, ?_, unhide E9⟩)
    rw [unhide HLEN]
    exact own_more (unhide O9) (by omega)
  | true =>
    cases t with
    | false =>
      have ek : expF L nx now = L := by rw [unhide HE]; simp
      go_wp2_with (first
        | (go_at_call 24; refine (time_sx _ now _ (unhide HT)).mono ?_; rintro e w' ⟨rfl, rfl⟩)
        | (refine wpList_load_row rfl 53 _ rfl g5 rfl 53 _ _ _ (unhide Z3) Try.underlying53 rfl (by kernel_rfl) ?_)
        | (refine wpList_store_blk rfl 53 (.tmp 4) (.tmp 20) rfl (w.heap.size + 2) 53 _ #[.slice A0 n c0, .int .u32 (nx : Int)] rfl rfl (unhide J23) rfl (by kernel_rfl) (by intro v hv; simp at hv; rcases hv with rfl | rfl <;> rfl) ?_
           intro w9 hb9 hg9
           have Z9 := hide hb9
           have O9 := hide (World.ownsRow.kept (unhide O3) hg9 (.inr (own_blk_ne (unhide O3) (unhide J23) (by decide))))
           have E9 := hide ((unhide X3).grown hg9 (unhide X3).size (fun j e => by injection e with e; omega))
           clear hb9 hg9)
        | fail)
      refine bodyPost_ret (v := .agg #[.slice A0 n c0, .int .u32 (nx : Int)]) (res1 rfl _ (w.heap.size + 2) 53 _ _ rfl (unhide Z9) Try.underlying53 rfl (by kernel_rfl)) rfl ?_
      rw [ek]
      refine (show ExpPost w L nx _ _ from ⟨_, rfl, ?_, unhide E9⟩)
      rw [unhide HLEN]
      exact own_more (unhide O9) (by omega)
    | true =>
      have ek : expF L nx now = keepL (oldP now) L := by rw [unhide HE]; simp
      have htt := unhide HT
      simp only [decide_eq_true_eq] at htt
      have DN := hide dn
      have c0f : w3.cell? ⟨g5, 0, none⟩ = some (.slice A0 n c0) := (unhide Z3).cell 0
      go_wp2_with (first
        | (go_at_call 24; refine (time_sx _ now _ (unhide HT)).mono ?_; rintro e w' ⟨rfl, rfl⟩)
        | fail)
      refine (delfunc_sx w3 W1.heap.size (.slice A0 n c0) n L (unhide O3) (unhide HOK) hn (w.heap.size + 1) now htt.1 htt.2 (by omega) (unhide S3).size (unhide DN)).mono ?_
      rintro e w4 ⟨v4, rfl, ho4, hg4⟩
      obtain ⟨A4, c4, hv4, _, _⟩ := slice_of_own ho4
      subst hv4
      obtain ⟨m4, hm4⟩ : ∃ m, (keepL (oldP now) L).length = m := ⟨_, rfl⟩
      rw [hm4] at ho4 ⊢
      have O4 := hide ho4
      have Z4 := hide ((unhide Z3).grown hg4 (own_blk_ne (unhide O3) (unhide Z3) (by decide)).symm)
      have J24 := hide ((unhide J23).grown hg4 (own_blk_ne (unhide O3) (unhide J23) (by decide)).symm)
      have X4 := hide ((unhide X3).grown hg4 (unhide X3).size (fun j e => by have := own_ge (unhide O3) j e; omega))
      have HM4 := hide hm4
      clear dn c0f ho4 hg4 hm4
      go_wp2_with (first
        | (refine wpList_store_part rfl 51 (.tmp 25) (.tmp 24) rfl g5 0 53 _ (.slice A4 m4 c4) [.slice A4 m4 c4] [.slice A4 m4 c4, .int .u32 (nx : Int)] rfl rfl (unhide Z4) rfl (by simp) (by kernel_rfl) (one1 rfl) rfl ?_
           intro w5 hb5 hg5
           have Z5 := hide hb5
           have O5 := hide (World.ownsRow.kept (unhide O4) hg5 (.inr (own_blk_ne (unhide O4) (unhide Z4) (by decide))))
           have J25 := hide ((unhide J24).grown hg5 (fun e => by injection e with e; omega))
           have X5 := hide ((unhide X4).grown hg5 (unhide X4).size (fun j e => by injection e with e; omega))
           clear hb5 hg5)
        | (refine wpList_load_row rfl 53 _ rfl g5 rfl 53 _ _ _ (unhide Z5) Try.underlying53 rfl (by kernel_rfl) ?_)
        | (refine wpList_store_blk rfl 53 (.tmp 4) (.tmp 26) rfl (w.heap.size + 2) 53 _ #[.slice A4 m4 c4, .int .u32 (nx : Int)] rfl rfl (unhide J25) rfl (by kernel_rfl) (by intro v hv; simp at hv; rcases hv with rfl | rfl <;> rfl) ?_
           intro w9 hb9 hg9
           have Z9 := hide hb9
           have O9 := hide (World.ownsRow.kept (unhide O5) hg9 (.inr (own_blk_ne (unhide O5) (unhide J25) (by decide))))
           have E9 := hide ((unhide X5).grown hg9 (unhide X5).size (fun j e => by injection e with e; omega))
           clear hb9 hg9)
        | fail)
      refine bodyPost_ret (v := .agg #[.slice A4 m4 c4, .int .u32 (nx : Int)]) (res1 rfl _ (w.heap.size + 2) 53 _ _ rfl (unhide Z9) Try.underlying53 rfl (by kernel_rfl)) rfl ?_
      rw [ek]
      refine (show ExpPost w (keepL (oldP now) L) nx _ _ from ⟨_, rfl, ?_, unhide E9⟩)
      rw [unhide HM4]
      exact own_more (unhide O9) (by omega)
end Go.Proofs.Ytfbkkmnkpjgciaa
