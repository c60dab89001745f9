/- session.proved: the packet that proves that a key is known (printed by wip/gen_sproved.py). -/
import Derived.Test.YtfbkkmnkpjgciaaSPacket
namespace Go.Proofs.Ytfbkkmnkpjgciaa
open Go.RowKit
def headF (f : UInt8) (id : Nat) : List UInt8 := joinF f [leB (id : Int) 4]
def ptextF (f : UInt8) (id cl sv : Nat) (lb : UInt8) : List UInt8 := joinF f [leB (id : Int) 4, leB (cl : Int) 8, leB (sv : Int) 8, [lb]]
def provF (f : UInt8) (ks : List UInt8) (id cl sv : Nat) (lb : UInt8) : List UInt8 := headF f id ++ leB (sumF ks (ptextF f id cl sv lb)) 8
theorem headF_len (f : UInt8) (id : Nat) : (headF f id).length = 5 := by simp [headF, joinF, leB_len]
theorem ptextF_len (f : UInt8) (id cl sv : Nat) (lb : UInt8) : (ptextF f id cl sv lb).length = 22 := by simp [ptextF, joinF, leB_len]
theorem provF_len (f : UInt8) (ks : List UInt8) (id cl sv : Nat) (lb : UInt8) : (provF f ks id cl sv lb).length = 13 := by simp [provF, headF_len, leB_len]
theorem headF_tail (f : UInt8) (id : Nat) : (headF f id).drop 1 = leB (id : Int) 4 := by simp [headF, joinF]
def ProvR (f : UInt8) (id cl sv : Nat) (lb : UInt8) : Nat → Value → World → Prop
  | 4, v, w => SliceOf w 8 (leB (cl : Int) 8) v
  | 6, v, w => SliceOf w 8 (leB (sv : Int) 8) v
  | 9, v, w => SliceOf w 1 [lb] v
  | 10, v, w => PiecesOf w 4 [leB (id : Int) 4, leB (cl : Int) 8, leB (sv : Int) 8, [lb]] v
  | 11, v, w => SliceOf w 22 (ptextF f id cl sv lb) v
  | _, _, _ => True
theorem ProvR.keep {f : UInt8} {id cl sv : Nat} {lb : UInt8} : ∀ (k : Nat) (v : Value) (w w' : World), ProvR f id cl sv lb k v w → Below w.heap.size w w' → ProvR f id cl sv lb k v w' := by
  intro k v w w' h hb
  unfold ProvR at *
  split at h
  · exact h.below hb
  · exact h.below hb
  · exact h.below hb
  · exact h.below hb
  · exact h.below hb
  · trivial
set_option maxRecDepth 100000 in
set_option maxHeartbeats 8000000 in
theorem proved_sx (w : World) (f : UInt8) (ks : List UInt8) (hk : ks.length = 16) (id cl sv : Nat) (hid : id < 4294967296) (lb : UInt8) :
    Calls Try.prog 31 #[.int .u8 (f.toNat : Int), .agg (bsV ks).toArray, .int .u32 (id : Int), .int .u64 (cl : Int), .int .u64 (sv : Int), .int .i64 (lb.toNat : Int)] w
      fun e w' => ∃ v, e = .returned v ∧ w'.ownsRow w.heap.size 5 1 v 13 (bsV (provF f ks id cl sv lb)) ∧ Below w.heap.size w w' := by
  obtain ⟨i0, hi, hz0, hz1, hz2⟩ := info_parts info_b
  obtain ⟨W1, hW1⟩ : ∃ W1, w.alloc (.cells (bsV ks).toArray 36) = W1 := ⟨_, rfl⟩
  have K1 : Hid (Blk W1 w.heap.size 36 (bsV ks).toArray) := hide (hW1 ▸ Blk.new w _ _)
  have B1 : Hid (Below w.heap.size w W1) := hide (hW1 ▸ (Below.refl _ _).alloc (Nat.le_refl _) _)
  have hs1 : w.heap.size < W1.heap.size := (unhide K1).lt
  have HW1 := hide hW1
  have HSZ := hide (key_size hk)
  have HK := hide hk
  have EGL' := hide (enters Try.func22 (by kernel_rfl) rfl)
  have EGJ' := hide (enters Try.func21 (by kernel_rfl) rfl)
  have hlb := lb.toNat_lt
  have hlw : IntKind.u8.wrap (lb.toNat : Int) = (lb.toNat : Int) := by rw [IntKind.wrap_u8']; omega
  have wid : IntKind.u64.wrap (id : Int) = (id : Int) := IntWalk.u64_in _ (by omega)
  clear hW1 hk
  go_enter Try.func31, Try.ntmps31
  go_wp2_with fail
  rw [unhide HW1]
  refine (little_of W1 id 4 (.inl rfl)).mono ?_
  rintro e w2 ⟨v, rfl, hb2, hs2⟩
  obtain ⟨A2, c2, rfl, h21, h22, h23⟩ := hs2
  have P2 := hide (PiecesOf.new (w := w2) (t := 32) 1 rfl (.cons h21 h22 h23 (.nil _ _)))
  have X2 := hide ((Below.refl W1.heap.size W1).trans hb2)
  clear h21 h22 h23 hb2
  go_wp2_with fail
  refine (joined_of _ f 1 _ _ (unhide P2) (by simp [leB_len]) (by omega)).mono ?_
  rintro e w3 ⟨v3, rfl, ho3, hb3⟩
  have hl3 : (joinF f [leB (id : Int) 4]).length = 5 := headF_len f id
  rw [hl3] at ho3
  have hs2 : W1.heap.size ≤ w2.heap.size := (unhide X2).size
  have X3 := hide ((unhide X2).trans ((((Below.refl w2.heap.size w2).alloc (Nat.le_refl _) _).trans (hb3.mono (by rw [size_alloc]; omega))).mono hs2))
  obtain ⟨g3, c3, hv3, _, hg3⟩ := ho3.form (by omega)
  subst hv3
  have ho3' := own_more ho3 (show w.heap.size ≤ _ by rw [size_alloc]; omega)
  have HO3 := hide ho3'
  obtain ⟨_, _, hA3, hc35, hc3m⟩ := slice_of_own ho3
  injection hA3 with hA3 _ hc3e
  subst hc3e
  have hr3 := Reads.of_own ho3
  have hcut := hr3.cut (k := 1) (cap := c3) (by omega) hc35
  have hc1 : ¬ (c3 = 1) := by omega
  have ec3 : (if c3 = 1 then some (⟨g3, 0, none⟩ : Addr) else (some (⟨g3, 0, none⟩ : Addr)).map (·.add (1 * 1))) = some ⟨g3, 1, none⟩ := by rw [if_neg hc1]; rfl
  rw [ec3, show (bsV (joinF f [leB (id : Int) 4])).drop (1 * 1) = bsV (leB (id : Int) 4) from by simp [bsV, joinF]] at hcut
  have HCT := hide hcut
  have hs3 : W1.heap.size ≤ w3.heap.size := (unhide X3).size
  have hcz : (1 : Int) ≤ (c3 : Int) := by omega
  have hcz2 : (5 : Int) ≤ (c3 : Int) := by omega
  clear ho3 ho3' hb3 hr3 hcut ec3 P2 X2 hA3
  go_upto_region 2 with fail
  have hsl : ∀ W : World, (Instr.sliceAt 32 (.slice (some ⟨g3, 0, none⟩) 5 c3) (some (.int .i64 1)) none none).run Try.prog W = .ok (.slice (some ⟨g3, 1, none⟩) 4 (c3 - 1)) W := by
    intro W
    go_simp
  have hS0 : Below w3.heap.size w3 w3.drew := (Below.refl _ _).drew
  refine wp_region_noPanic (wp_region_held_drew (S := fun wz => Below w3.heap.size w3 wz) (by kernel_rfl) hS0 (fun _ => ?_))
  refine th_take (i := 0) (v := ?_) rfl (by kernel_rfl) (by kernel_rfl) (by kernel_rfl) (Or.inl ⟨by rfl, fun wz hSw => ?_⟩) hS0 ?_
  rotate_left
  · go_simp
    with_reducible rfl
  simp only [Act.put, List.setIfInBounds_toArray, List.set_cons_zero, List.set_cons_succ]
  refine th_take (i := 1) (v := ?_) rfl (by kernel_rfl) (by kernel_rfl) (by kernel_rfl) (Or.inl ⟨by rfl, fun wz hSw => ?_⟩) hS0 ?_
  rotate_left
  · go_simp
    with_reducible rfl
  simp only [Act.put, List.setIfInBounds_toArray, List.set_cons_zero, List.set_cons_succ]
  refine th_take (i := 2) (v := .slice (some ⟨g3, 1, none⟩) 4 (c3 - 1)) rfl (by kernel_rfl) (by kernel_rfl) (by kernel_rfl) (Or.inl ⟨by rfl, fun wz hSw => ?_⟩) hS0 ?_
  · skip
    go_simp
  simp only [Act.put, List.setIfInBounds_toArray, List.set_cons_zero, List.set_cons_succ]
  refine th_take (i := 3) (v := ?_) rfl (by kernel_rfl) (by kernel_rfl) (by kernel_rfl) (Or.inl ⟨by rfl, fun wz hSw => ?_⟩) hS0 ?_
  rotate_left
  · go_simp
    with_reducible rfl
  simp only [Act.put, List.setIfInBounds_toArray, List.set_cons_zero, List.set_cons_succ]
  refine th_take (i := 5) (v := ?_) rfl (by kernel_rfl) (by kernel_rfl) (by kernel_rfl) (Or.inl ⟨by rfl, fun wz hSw => ?_⟩) hS0 ?_
  rotate_left
  · go_simp
    with_reducible rfl
  simp only [Act.put, List.setIfInBounds_toArray, List.set_cons_zero, List.set_cons_succ]
  refine th_take (i := 7) (v := ?_) rfl (by kernel_rfl) (by kernel_rfl) (by kernel_rfl) (Or.inl ⟨by rfl, fun wz hSw => ?_⟩) hS0 ?_
  rotate_left
  · go_simp
    with_reducible rfl
  simp only [Act.put, List.setIfInBounds_toArray, List.set_cons_zero, List.set_cons_succ]
  refine th_take (i := 8) (v := .int .u8 (lb.toNat : Int)) rfl (by kernel_rfl) (by kernel_rfl) (by kernel_rfl) (Or.inl ⟨by rfl, fun wz hSw => ?_⟩) hS0 ?_
  · skip
    go_simp
  simp only [Act.put, List.setIfInBounds_toArray, List.set_cons_zero, List.set_cons_succ]
  refine any_below (ProvR f id cl sv lb) w3 [4, 6, 9, 10, 11] #[true, true, true, true, true, true, true, true, true, true, true, true, false] [(4, some 25), (6, some 27), (9, some 30), (10, some 31), (11, some 32)] 39 1 (by kernel_rfl) rfl ProvR.keep (fun _ h => h) hS0 ⟨?_, ?_, ?_, ?_, ?_, trivial⟩ ?_ rfl
  · intro a wa hBa hout hin
    refine b_call [.int .u64 (cl : Int), .int .i64 ((8 : Nat) : Int)] rfl rfl rfl rfl (unhide EGL') ?_ ?_
    · show [a.eval (.tmp 24), _] = _
      rw [hout 24 (by kernel_rfl)]
      rfl
    · exact little_of wa cl 8 (.inr rfl)
  · intro a wa hBa hout hin
    refine b_call [.int .u64 (sv : Int), .int .i64 ((8 : Nat) : Int)] rfl rfl rfl rfl (unhide EGL') ?_ ?_
    · show [a.eval (.tmp 26), _] = _
      rw [hout 26 (by kernel_rfl)]
      rfl
    · exact little_of wa sv 8 (.inr rfl)
  · intro a wa hBa hout hin
    have e : a.eval (.tmp 29) = .int .u8 (lb.toNat : Int) := hout 29 (by kernel_rfl)
    refine b_val rfl rfl (v := .slice (some ⟨wa.heap.size, 0, none⟩) 1 1) (w' := wa.alloc (.cells #[.int .u8 (lb.toNat : Int)] 5)) ?_ ⟨(Below.refl _ _).alloc (Nat.le_refl _) _, SliceOf.new1 lb⟩
    simp [execOp, e, run_slice_b]
  · intro a wa hBa hout hin
    obtain ⟨A4, c4, e4, h41, h42, h43⟩ := hin 4 25 (by kernel_rfl)
    obtain ⟨A6, c6, e6, h61, h62, h63⟩ := hin 6 27 (by kernel_rfl)
    obtain ⟨A9, c9, e9, h91, h92, h93⟩ := hin 9 30 (by kernel_rfl)
    have e2 : a.eval (.tmp 23) = .slice (some ⟨g3, 1, none⟩) 4 (c3 - 1) := hout 23 (by kernel_rfl)
    have hd := ((unhide HCT).below hBa).more hBa.size
    refine b_val rfl rfl (v := .slice (some ⟨wa.heap.size, 0, none⟩) 4 4) (w' := wa.alloc (.cells [Value.slice (some ⟨g3, 1, none⟩) 4 (c3 - 1), .slice A4 8 c4, .slice A6 8 c6, .slice A9 1 c9].toArray 32)) ?_ ⟨(Below.refl _ _).alloc (Nat.le_refl _) _, PiecesOf.new 4 rfl (.cons (by omega) (by omega) hd (.cons h41 h42 h43 (.cons h61 h62 h63 (.cons h91 h92 h93 (.nil _ _)))))⟩
    simp [execOp, e2, e4, e6, e9, run_slice_4]
  · intro a wa hBa hout hin
    refine b_call [.int .u8 (f.toNat : Int), a.eval (.tmp 31)] rfl rfl rfl rfl (unhide EGJ') ?_ ?_
    · show [a.eval (.tmp 21), _] = _
      rw [hout 21 (by kernel_rfl)]
      rfl
    · exact (joined_of wa f 4 _ _ (hin 10 31 (by kernel_rfl)) (by simp [leB_len]) (by omega)).mono fun e w' ⟨v, he, ho, hb⟩ => ⟨v, he, hb, by
        have h := SliceOf.of_own ho
        have hl : (joinF f [leB (id : Int) 4, leB (cl : Int) 8, leB (sv : Int) 8, [lb]]).length = 22 := ptextF_len f id cl sv lb
        rw [hl] at h
        exact h⟩
  intro vals ww hBw hRw
  simp only [puts, Act.put, List.setIfInBounds_toArray, List.set_cons_zero, List.set_cons_succ]
  obtain ⟨A5, c5, e5, h51, h52, h53⟩ : SliceOf ww 22 (ptextF f id cl sv lb) (vals 11) := hRw 11 (by rfl)
  rw [e5]
  refine th_take (i := 12) (v := ?_) rfl (by kernel_rfl) (by kernel_rfl) (by kernel_rfl) (Or.inl ⟨by rfl, fun wz hSw => ?_⟩) hBw ?_
  rotate_left
  · go_simp
    with_reducible rfl
  simp only [Act.put, List.setIfInBounds_toArray, List.set_cons_zero, List.set_cons_succ]
  refine wpAnyH_done (by kernel_rfl) (NoPanic.normal ?_) _
  have X4 := hide ((unhide X3).trans (hBw.mono hs3))
  have R5 := hide h53
  have HO4 := hide (own_below (unhide HO3) hBw)
  have K4 := hide ((unhide K1).below (unhide X4) (by omega))
  clear h53 hRw hBw hS0 e5
  go_wp2_with (first
  | (refine wpList_load_row rfl 36 _ rfl w.heap.size rfl 36 _ _ _ (unhide K4) Try.underlying36 rfl (unhide HSZ) ?_)
  | fail)
  refine (sum_any ks (ptextF f id cl sv lb) (unhide HK) A5 22 c5 ww (unhide R5) h51 h52).mono ?_
  rintro e w6 ⟨rfl, hb6⟩
  have X6 := hide ((unhide X4).trans (hb6.mono (unhide X4).size))
  have HO6 := hide (own_below (unhide HO4) hb6)
  clear hb6
  obtain ⟨sm, hsm⟩ : ∃ sm : Nat, sumF ks (ptextF f id cl sv lb) = (sm : Int) := ⟨_, (Int.toNat_of_nonneg (sumF_nonneg _ _)).symm⟩
  have HSM := hide hsm
  rw [hsm]
  clear hsm
  go_wp2_with fail
  refine (little_of w6 sm 8 (.inr rfl)).mono ?_
  rintro e w7 ⟨v7, rfl, hb7, hs7⟩
  obtain ⟨A7, c7, rfl, h71, h72, h73⟩ := hs7
  have X7 := hide ((unhide X6).trans (hb7.mono (unhide X6).size))
  have HO7 := hide (own_below (unhide HO6) hb7)
  have R7 := hide h73
  have hs7 : w.heap.size ≤ w7.heap.size := Nat.le_trans (Nat.le_of_lt hs1) (unhide X7).size
  clear h73 hb7
  go_wp2_with (first
  | (at_builtin; refine wpList_append_b w7 (.tmp 33) (.tmp 37) 32 _ A7 8 c7 rfl rfl rfl rfl w.heap.size 5 i0 (.int .u8 0) 1 Try.underlying32 hi hz0 hz1 hz2 rfl _ _ (unhide HO7) w7.heap.size _ (unhide R7) (bsV_one _) (by unfold maxLen; omega) (by omega) hs7 ?_
     intro v8 w8 ho8 hb8
     have HO8 := hide ho8
     have HB8 := hide hb8
     clear ho8 hb8)
  | fail)
  go_ret
  refine ⟨_, rfl, ?_, ((unhide B1).trans ((unhide X7).mono (Nat.le_of_lt hs1))).trans (unhide HB8)⟩
  have e9 : bsV (provF f ks id cl sv lb) = bsV (joinF f [leB (id : Int) 4]) ++ bsV (leB (sm : Int) 8) := by rw [← unhide HSM]; simp [provF, headF, bsV]
  rw [e9]
  exact unhide HO8
end Go.Proofs.Ytfbkkmnkpjgciaa
