/- session.packet and session.proved: bytes and their digest (printed by wip/gen_spacket.py). -/
import Derived.Test.YtfbkkmnkpjgciaaSPiece
namespace Go.Proofs.Ytfbkkmnkpjgciaa
open Go.RowKit
def bodyF (f : UInt8) (id n : Nat) (kb : UInt8) (data : List UInt8) : List UInt8 := joinF f [leB (id : Int) 4, leB (n : Int) 4, [kb], data]
def packF (f : UInt8) (ks : List UInt8) (id n : Nat) (kb : UInt8) (data : List UInt8) : List UInt8 := bodyF f id n kb data ++ leB (sumF ks (bodyF f id n kb data)) 8
theorem bodyF_len (f : UInt8) (id n : Nat) (kb : UInt8) (data : List UInt8) : (bodyF f id n kb data).length = 10 + data.length := by simp [bodyF, joinF, leB_len]; omega
def PackR (B : Nat) (f : UInt8) (ks : List UInt8) (id n : Nat) (kb : UInt8) (data : List UInt8) : Nat → Value → World → Prop
  | 4, v, w => SliceOf w 4 (leB (id : Int) 4) v
  | 7, v, w => SliceOf w 4 (leB (n : Int) 4) v
  | 10, v, w => SliceOf w 1 [kb] v
  | 12, v, w => PiecesOf w 4 [leB (id : Int) 4, leB (n : Int) 4, [kb], data] v
  | 13, v, w => SliceOf w (bodyF f id n kb data).length (bodyF f id n kb data) v
  | 14, v, w => OwnOf B w (packF f ks id n kb data).length (packF f ks id n kb data) v
  | _, _, _ => True
theorem PackR.keep {B : Nat} {f : UInt8} {ks : List UInt8} {id n : Nat} {kb : UInt8} {data : List UInt8} : ∀ (k : Nat) (v : Value) (w w' : World), PackR B f ks id n kb data k v w → Below w.heap.size w w' → PackR B f ks id n kb data k v w' := by
  intro k v w w' h hb
  unfold PackR at *
  split at h
  · exact h.below hb
  · exact h.below hb
  · exact h.below hb
  · exact h.below hb
  · exact h.below hb
  · exact h.below hb
  · trivial
set_option maxRecDepth 100000 in
set_option maxHeartbeats 8000000 in
theorem packet_sx (w : World) (f : UInt8) (ks : List UInt8) (hk : ks.length = 16) (id n : Nat) (hid : id < 4294967296) (hnn : n < 4294967296) (kb : UInt8) (A : Option Addr) (m c : Nat) (data : List UInt8) (hr : Reads w w.heap.size 1 A m (bsV data)) (hm : m ≤ c) (hc : c ≤ maxLen) (hd : data.length ≤ 900) :
    Calls Try.prog 36 #[.int .u8 (f.toNat : Int), .agg (bsV ks).toArray, .int .u32 (id : Int), .int .u32 (n : Int), .int .i64 (kb.toNat : Int), .slice A m c] w
      fun e w' => ∃ v, e = .returned v ∧ w'.ownsRow w.heap.size 5 1 v (packF f ks id n kb data).length (bsV (packF f ks id n kb data)) ∧ Below w.heap.size w w' := by
  obtain ⟨W1, hW1⟩ : ∃ W1, w.alloc (.cells (bsV ks).toArray 36) = W1 := ⟨_, rfl⟩
  have K1 : Hid (Blk W1 w.heap.size 36 (bsV ks).toArray) := hide (hW1 ▸ Blk.new w _ _)
  have B1 : Hid (Below w.heap.size w W1) := hide (hW1 ▸ (Below.refl _ _).alloc (Nat.le_refl _) _)
  have D1 : Hid (Reads W1 W1.heap.size 1 A m (bsV data)) := hide (((hr.below (unhide B1))).more (unhide B1).size)
  have HW1 := hide hW1
  have HSZ := hide (key_size hk)
  have HK := hide hk
  have HM := hide hm
  have HC := hide hc
  have HD := hide hd
  have EGL := enters Try.func22 (by kernel_rfl) rfl
  have EGJ := enters Try.func21 (by kernel_rfl) rfl
  have EGS := enters Try.func51 (by kernel_rfl) rfl
  have EGL' := hide EGL
  have EGJ' := hide EGJ
  have EGS' := hide EGS
  have hkb := kb.toNat_lt
  have wid : IntKind.u64.wrap (id : Int) = (id : Int) := IntWalk.u64_in _ (by omega)
  have wn : IntKind.u64.wrap (n : Int) = (n : Int) := IntWalk.u64_in _ (by omega)
  have hkw : IntKind.u8.wrap (kb.toNat : Int) = (kb.toNat : Int) := by rw [IntKind.wrap_u8']; omega
  have hml : data.length = m := by have := hr.1; simpa [bsV] using this
  clear hW1 hr hk hm hc hd EGL EGJ EGS hml
  go_enter Try.func36, Try.ntmps36
  go_upto_region 1 with fail
  rw [unhide HW1]
  clear HW1
  have hS0 : Below W1.heap.size W1 W1.drew := (Below.refl _ _).drew
  refine wp_region_noPanic (wp_region_held_drew (S := fun wz => Below W1.heap.size W1 wz) (by kernel_rfl) hS0 (fun _ => ?_))
  refine th_take (i := 0) rfl (by kernel_rfl) (by kernel_rfl) (by kernel_rfl) (y_loadblk 36 (.tmp 7) (by rfl) rfl w.heap.size rfl 36 (bsV ks).toArray _ (fun _ h => (unhide K1).below h (unhide K1).lt) Try.underlying36 rfl (unhide HSZ)) hS0 ?_
  simp only [Act.put, List.setIfInBounds_toArray, List.set_cons_zero, List.set_cons_succ]
  refine th_take (i := 1) (v := ?_) rfl (by kernel_rfl) (by kernel_rfl) (by kernel_rfl) (Or.inl ⟨by rfl, fun wz hSw => ?_⟩) hS0 ?_
  rotate_left
  · go_simp
    with_reducible rfl
  simp only [Act.put, List.setIfInBounds_toArray, List.set_cons_zero, List.set_cons_succ]
  refine th_take (i := 2) (v := ?_) rfl (by kernel_rfl) (by kernel_rfl) (by kernel_rfl) (Or.inl ⟨by rfl, fun wz hSw => ?_⟩) hS0 ?_
  rotate_left
  · go_simp
    with_reducible rfl
  simp only [Act.put, List.setIfInBounds_toArray, List.set_cons_zero, List.set_cons_succ]
  refine th_take (i := 3) (v := .int .u64 (id : Int)) rfl (by kernel_rfl) (by kernel_rfl) (by kernel_rfl) (Or.inl ⟨by rfl, fun wz hSw => ?_⟩) hS0 ?_
  · skip
    go_simp
  simp only [Act.put, List.setIfInBounds_toArray, List.set_cons_zero, List.set_cons_succ]
  refine th_take (i := 5) (v := ?_) rfl (by kernel_rfl) (by kernel_rfl) (by kernel_rfl) (Or.inl ⟨by rfl, fun wz hSw => ?_⟩) hS0 ?_
  rotate_left
  · go_simp
    with_reducible rfl
  simp only [Act.put, List.setIfInBounds_toArray, List.set_cons_zero, List.set_cons_succ]
  refine th_take (i := 6) (v := .int .u64 (n : Int)) rfl (by kernel_rfl) (by kernel_rfl) (by kernel_rfl) (Or.inl ⟨by rfl, fun wz hSw => ?_⟩) hS0 ?_
  · skip
    go_simp
  simp only [Act.put, List.setIfInBounds_toArray, List.set_cons_zero, List.set_cons_succ]
  refine th_take (i := 8) (v := ?_) rfl (by kernel_rfl) (by kernel_rfl) (by kernel_rfl) (Or.inl ⟨by rfl, fun wz hSw => ?_⟩) hS0 ?_
  rotate_left
  · go_simp
    with_reducible rfl
  simp only [Act.put, List.setIfInBounds_toArray, List.set_cons_zero, List.set_cons_succ]
  refine th_take (i := 9) (v := .int .u8 (kb.toNat : Int)) rfl (by kernel_rfl) (by kernel_rfl) (by kernel_rfl) (Or.inl ⟨by rfl, fun wz hSw => ?_⟩) hS0 ?_
  · skip
    go_simp
  simp only [Act.put, List.setIfInBounds_toArray, List.set_cons_zero, List.set_cons_succ]
  refine th_take (i := 11) (v := ?_) rfl (by kernel_rfl) (by kernel_rfl) (by kernel_rfl) (Or.inl ⟨by rfl, fun wz hSw => ?_⟩) hS0 ?_
  rotate_left
  · go_simp
    with_reducible rfl
  simp only [Act.put, List.setIfInBounds_toArray, List.set_cons_zero, List.set_cons_succ]
  refine any_below (PackR w.heap.size f ks id n kb data) W1 [4, 7, 10, 12, 13, 14] #[true, true, true, true, true, true, true, true, true, true, true, true, true, true, true, false] [(4, some 17), (7, some 20), (10, some 23), (12, some 25), (13, some 26), (14, some 27)] 28 1 (by kernel_rfl) rfl PackR.keep (fun _ h => h) hS0 ⟨?_, ?_, ?_, ?_, ?_, ?_, trivial⟩ ?_ rfl
  · intro a wa hBa hout hin
    refine b_call (argv := [.int .u64 (id : Int), .int .i64 ((4 : Nat) : Int)]) rfl rfl rfl rfl (unhide EGL') ?_ ?_
    · show [a.eval (.tmp 16), _] = _
      rw [hout 16 (by kernel_rfl)]
      rfl
    · exact little_of wa id 4 (.inl rfl)
  · intro a wa hBa hout hin
    refine b_call (argv := [.int .u64 (n : Int), .int .i64 ((4 : Nat) : Int)]) rfl rfl rfl rfl (unhide EGL') ?_ ?_
    · show [a.eval (.tmp 19), _] = _
      rw [hout 19 (by kernel_rfl)]
      rfl
    · exact little_of wa n 4 (.inl rfl)
  · intro a wa hBa hout hin
    have e : a.eval (.tmp 22) = .int .u8 (kb.toNat : Int) := hout 22 (by kernel_rfl)
    refine b_val rfl rfl (v := .slice (some ⟨wa.heap.size, 0, none⟩) 1 1) (w' := wa.alloc (.cells #[.int .u8 (kb.toNat : Int)] 5)) ?_ ⟨(Below.refl _ _).alloc (Nat.le_refl _) _, SliceOf.new1 kb⟩
    simp [execOp, e, run_slice_b]
  · intro a wa hBa hout hin
    obtain ⟨A4, c4, e4, h41, h42, h43⟩ := hin 4 17 (by kernel_rfl)
    obtain ⟨A7, c7, e7, h71, h72, h73⟩ := hin 7 20 (by kernel_rfl)
    obtain ⟨A10, c10, e10, h101, h102, h103⟩ := hin 10 23 (by kernel_rfl)
    have e11 : a.eval (.tmp 24) = .slice A m c := hout 24 (by kernel_rfl)
    have hd := ((unhide D1).below hBa).more hBa.size
    refine b_val rfl rfl (v := .slice (some ⟨wa.heap.size, 0, none⟩) 4 4) (w' := wa.alloc (.cells [Value.slice A4 4 c4, .slice A7 4 c7, .slice A10 1 c10, .slice A m c].toArray 32)) ?_ ⟨(Below.refl _ _).alloc (Nat.le_refl _) _, PiecesOf.new 4 rfl (.cons h41 h42 h43 (.cons h71 h72 h73 (.cons h101 h102 h103 (.cons (unhide HM) (unhide HC) hd (.nil _ _)))))⟩
    simp [execOp, e4, e7, e10, e11, run_slice_4]
  · intro a wa hBa hout hin
    refine b_call (argv := [.int .u8 (f.toNat : Int), a.eval (.tmp 25)]) rfl rfl rfl rfl (unhide EGJ') ?_ ?_
    · show [a.eval (.tmp 14), _] = _
      rw [hout 14 (by kernel_rfl)]
      rfl
    · exact (joined_of wa f 4 _ _ (hin 12 25 (by kernel_rfl)) (by have := unhide HD; simp [leB_len]; omega) (by omega)).mono fun e w' ⟨v, he, ho, hb⟩ => ⟨v, he, hb, SliceOf.of_own ho⟩
  · intro a wa hBa hout hin
    obtain ⟨A5, c5, e5, h51, h52, h53⟩ := hin 13 26 (by kernel_rfl)
    refine b_call (argv := [.agg (bsV ks).toArray, .slice A5 (bodyF f id n kb data).length c5]) rfl rfl rfl rfl (unhide EGS') ?_ ?_
    · show [a.eval (.tmp 13), a.eval (.tmp 26)] = _
      rw [hout 13 (by kernel_rfl), e5]
      rfl
    · refine (seal_any ks (bodyF f id n kb data) (unhide HK) A5 _ c5 wa h53 h51 h52 (by rw [bodyF_len]; have := unhide HD; omega)).mono fun e w' ⟨v, he, ho, hb⟩ => ⟨v, he, hb, ?_⟩
      have e6 : bsV (bodyF f id n kb data) ++ bsV (leB (sumF ks (bodyF f id n kb data)) 8) = bsV (packF f ks id n kb data) := by simp [packF, bsV]
      have e7 : (bodyF f id n kb data).length + 8 = (packF f ks id n kb data).length := by simp [packF, leB_len]
      rw [e6, e7] at ho
      exact own_more ho (Nat.le_trans (unhide B1).size hBa.size)
  intro vals ww hBw hRw
  simp only [puts, Act.put, List.setIfInBounds_toArray, List.set_cons_zero, List.set_cons_succ]
  have h14 : OwnOf w.heap.size ww _ _ (vals 14) := hRw 14 (by rfl)
  refine th_take (i := 15) (v := ?_) rfl (by kernel_rfl) (by kernel_rfl) (by kernel_rfl) (Or.inl ⟨by rfl, fun wz hSw => ?_⟩) hBw ?_
  rotate_left
  · go_simp
    with_reducible rfl
  simp only [Act.put, List.setIfInBounds_toArray, List.set_cons_zero, List.set_cons_succ]
  refine wpAnyH_done (by kernel_rfl) (NoPanic.normal ?_) _
  have H14 := hide h14
  have HB := hide ((unhide B1).trans (hBw.mono (unhide B1).size))
  clear h14 hRw hBw hS0
  go_wp2_with fail
  go_ret
  exact ⟨_, rfl, unhide H14, unhide HB⟩
end Go.Proofs.Ytfbkkmnkpjgciaa
