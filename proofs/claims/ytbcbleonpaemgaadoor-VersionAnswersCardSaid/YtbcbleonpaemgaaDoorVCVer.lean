/- baseboardfield's Version (printed by wip/gen_vcver.py). No condition. -/
import Derived.Test.YtbcbleonpaemgaaDoorVNeedM
namespace Go.Proofs.YtbcbleonpaemgaaDoor
open Go.RowKit
/-- What Version leaves. -/
def CVerPost (w : World) (B g : Nat) (e : Ending) (w' : World) : Prop :=
  ∃ x : Ver, e = .returned (.agg #[.int .i64 x.a, .int .i64 x.b, .int .i64 x.c]) ∧ (1 ≤ x.a ∧ x.a ≤ 3) ∧ (-1 ≤ x.b ∧ x.b ≤ 1000) ∧ (0 ≤ x.c ∧ x.c ≤ 1) ∧ CodesAt w' B g ∧ w.grownBy w' (some g)
set_option maxRecDepth 100000 in
set_option maxHeartbeats 16000000 in
theorem cver_any (w : World) (B g : Nat) (h : CodesAt w B g) : Calls Tryd.prog 11 #[.pointer (some ⟨g, 0, none⟩)] w (CVerPost w B g) := by
  have hg := h.lt
  obtain ⟨w1, hw1⟩ : ∃ w1, w.alloc (.cells #[.int .i64 0, .int .i64 0, .int .i64 0] 26) = w1 := ⟨_, rfl⟩
  have C1 : Hid (CodesAt w1 B g) := hide (hw1 ▸ (h.keep fun b hb => by rw [Below.heap_alloc w _ b (by omega)]))
  have R1 : Hid (Blk w1 w.heap.size 26 #[.int .i64 0, .int .i64 0, .int .i64 0]) := hide (hw1 ▸ Blk.new w _ _)
  have G1 : Hid (w.grownBy w1 (some g)) := hide (hw1 ▸ World.grownBy_alloc w _ _)
  have hsz : w1.heap.size = w.heap.size + 1 := by rw [← hw1]; simp only [size_alloc]
  have hgw : w.heap.size < w1.heap.size := by omega
  have HW1 := hide hw1
  have CALL := hide next_any
  clear h hw1 hsz
  go_enter Tryd.func11, Tryd.ntmps11
  go_upto_region 1 with fail
  rw [unhide HW1]

  have S0 : Hid (NSt w1 B g w1) := hide ⟨unhide C1, World.grownBy.refl _ _⟩
  go_wp2_with fail
  refine (unhide CALL _ B g 3 (unhide S0).1 (by omega) (by omega)).mono ?_
  rintro e wn1 ⟨r1, rfl, hr0, hr1, hcn, hgn⟩
  have S1 := hide ((unhide S0).call hcn hgn)
  obtain ⟨a, ea⟩ : ∃ a, 1 + r1 = a := ⟨_, rfl⟩
  have ha : 1 ≤ a ∧ a ≤ 3 := by omega
  have hwa : IntKind.i64.wrap a = a := IntWalk.i64_in _ (by omega)
  clear hr0 hr1 hcn hgn
  go_wp2_with fail
  refine (unhide CALL _ B g 5 (unhide S1).1 (by omega) (by omega)).mono ?_
  rintro e wn2 ⟨r2, rfl, hr0, hr1, hcn, hgn⟩
  have S2 := hide ((unhide S1).call hcn hgn)
  obtain ⟨b, eb⟩ : ∃ b, r2.tdiv 4 = b := ⟨_, rfl⟩
  have hb : 0 ≤ b ∧ b ≤ 1 := by rw [Int.tdiv_eq_ediv_of_nonneg hr0] at eb; omega
  have hwb : IntKind.i64.wrap b = b := IntWalk.i64_in _ (by omega)
  clear hr0 hr1 hcn hgn
  go_wp2_with fail
  refine (unhide CALL _ B g 9 (unhide S2).1 (by omega) (by omega)).mono ?_
  rintro e wn3 ⟨r3, rfl, hr0, hr1, hcn, hgn⟩
  have S3 := hide ((unhide S2).call hcn hgn)
  obtain ⟨c, ec⟩ : ∃ c, r3.tdiv 8 = c := ⟨_, rfl⟩
  have hc : 0 ≤ c ∧ c ≤ 1 := by rw [Int.tdiv_eq_ediv_of_nonneg hr0] at ec; omega
  have hwc : IntKind.i64.wrap c = c := IntWalk.i64_in _ (by omega)
  clear hr0 hr1 hcn hgn
  obtain ⟨q, hq⟩ : ∃ q, wn3.heap.size = q := ⟨_, rfl⟩
  have hq1 : w1.heap.size ≤ q := hq ▸ (unhide S3).size
  obtain ⟨W4, hW4⟩ : ∃ W4, wn3.alloc (.cells #[.int .i64 a, .int .i64 b, .int .i64 c] 26) = W4 := ⟨_, rfl⟩
  have hN : NSt w1 B g W4 := hW4 ▸ (unhide S3).alloc _
  have hbq : Blk W4 q 26 #[.int .i64 a, .int .i64 b, .int .i64 c] := hq ▸ hW4 ▸ Blk.new wn3 _ _
  have HN := hide hN
  have HBQ := hide hbq
  have HW4 := hide hW4
  have HQ4 := hide hq
  clear hW4 hq hN hbq
  go_upto_region 2 with fail
  rw [unhide HW4, unhide HQ4]
  have hN := unhide HN
  have hbq := unhide HBQ
  have SC := hide hN.1
  have SG := hide hN.2
  have HQ := hide hbq
  have KR := hide ((unhide R1).grown hN.2 (by intro e; injection e with e; omega))
  have hgq : g < q := by have := (unhide C1).lt; omega
  clear hN hbq
  go_wp2_with fail
  refine (unhide CALL _ B g 30 (unhide SC) (by omega) (by omega)).mono ?_
  rintro e w5 ⟨r5, rfl, hr0, hr1, hc5, hg5⟩
  have S5 := hide hc5
  have T5 := hide (grown_trans_some (unhide SG) hg5)
  have Q5 := hide ((unhide HQ).grown hg5 (by intro e; injection e with e; omega))
  have K5 := hide ((unhide KR).grown hg5 (by intro e; injection e with e; omega))
  clear hc5 hg5 hr0 hr1
  by_cases h5 : r5 = 29
  · have he5 : (r5 == 29) = true := by simpa using h5
    clear h5
    obtain ⟨W6, hW6⟩ : ∃ W6, w5.alloc (.cells #[.int .i64 (-1), .int .i64 999, .int .i64 1000] 3) = W6 := ⟨_, rfl⟩
    have L6 : Hid (Blk W6 w5.heap.size 3 #[.int .i64 (-1), .int .i64 999, .int .i64 1000]) := hide (hW6 ▸ Blk.new w5 _ _)
    have S6 := hide (hW6 ▸ codes_far (unhide S5) (World.grownBy_alloc w5 (.cells #[.int .i64 (-1), .int .i64 999, .int .i64 1000] 3) none) (fun j e => by cases e))
    have T6 := hide (hW6 ▸ grown_far (unhide T5) (World.grownBy_alloc w5 (.cells #[.int .i64 (-1), .int .i64 999, .int .i64 1000] 3) none) (fun j e => by cases e))
    have Q6 := hide (hW6 ▸ (unhide Q5).alloc (.cells #[.int .i64 (-1), .int .i64 999, .int .i64 1000] 3))
    have K6 := hide (hW6 ▸ (unhide K5).alloc (.cells #[.int .i64 (-1), .int .i64 999, .int .i64 1000] 3))
    have hg6 : g < w5.heap.size := (unhide S5).lt
    have HW6 := hide hW6
    clear hW6
    go_wp2_with fail
    rw [unhide HW6]
    refine (unhide CALL _ B g 3 (unhide S6) (by omega) (by omega)).mono ?_
    rintro e w7 ⟨r7, rfl, hr0, hr1, hc7, hg7⟩
    obtain ⟨k, rfl⟩ := Int.eq_ofNat_of_zero_le hr0
    have L7 := (unhide L6).grown hg7 (by intro e; injection e with e; omega)
    obtain ⟨b', hb', hcl⟩ : ∃ b' : Int, (-1 ≤ b' ∧ b' ≤ 1000) ∧ w7.cell? ⟨w5.heap.size, k, none⟩ = some (.int .i64 b') := by
      have hk : k = 0 ∨ k = 1 ∨ k = 2 := by omega
      rcases hk with rfl | rfl | rfl
      · exact ⟨-1, by omega, L7.cell 0⟩
      · exact ⟨999, by omega, L7.cell 1⟩
      · exact ⟨1000, by omega, L7.cell 2⟩
    have Q7 := (unhide Q6).grown hg7 (by intro e; injection e with e; omega)
    have q1 : w7.cell? ⟨q, 1, none⟩ = some (.int .i64 b) := Q7.cell 1
    have f1 : w7.frozen? ⟨q, 1, none⟩ = false := Q7.frozen 1
    have hq7 := Q7.lt
    have gs : w7.grownBy (w7.setCell ⟨q, 1, none⟩ (.int .i64 b')) (some q) := only_setCell (World.grownBy.refl w7 _) (.inl rfl) _
    have Q8 : Hid (Blk (w7.setCell ⟨q, 1, none⟩ (.int .i64 b')) q 26 #[.int .i64 a, .int .i64 b', .int .i64 c]) := hide (Q7.set_ 1 _)
    have S8 := hide (codes_far hc7 gs (fun j e => by injection e with e; omega))
    have T8 := hide (grown_far (grown_trans_some (unhide T6) hg7) gs (fun j e => by injection e with e; omega))
    have K8 := hide (((unhide K6).grown hg7 (by intro e; injection e with e; omega)).grown gs (by intro e; injection e with e; omega))
    clear hc7 hg7 gs L7 Q7 hr0
    go_wp2_with (first
      | (refine wpList_load_row rfl 26 _ rfl q rfl 26 _ _ _ (unhide Q8) Tryd.underlying26 rfl (by kernel_rfl) ?_)
      | (refine wpList_store_blk rfl 26 (.tmp 2) (.tmp 23) rfl w.heap.size 26 _ #[.int .i64 a, .int .i64 b', .int .i64 c] rfl rfl (unhide K8) rfl (by kernel_rfl) (by intro u hu; simp at hu; rcases hu with rfl | rfl | rfl <;> rfl) ?_
         intro w9 hb9 hg9
         have Z9 := hide hb9
         have C9 := hide (codes_far (unhide S8) hg9 (fun j e => by injection e with e; omega))
         have G9 := hide (grown_far (grown_trans_some (unhide G1) (unhide T8)) hg9 (fun j e => by injection e with e; omega))
         clear hb9 hg9)
      | fail)
    exact bodyPost_ret (v := .agg #[.int .i64 a, .int .i64 b', .int .i64 c]) (res1 rfl _ w.heap.size 26 #[.int .i64 a, .int .i64 b', .int .i64 c] _ rfl (unhide Z9) Tryd.underlying26 rfl (by kernel_rfl)) rfl ⟨⟨a, b', c⟩, rfl, ha, by show -1 ≤ b' ∧ b' ≤ 1000; omega, hc, unhide C9, unhide G9⟩
  · have he5 : (r5 == 29) = false := by simpa using h5
    go_wp2_with (first
      | (refine wpList_load_row rfl 26 _ rfl q rfl 26 _ _ _ (unhide Q5) Tryd.underlying26 rfl (by kernel_rfl) ?_)
      | (refine wpList_store_blk rfl 26 (.tmp 2) (.tmp 23) rfl w.heap.size 26 _ #[.int .i64 a, .int .i64 b, .int .i64 c] rfl rfl (unhide K5) rfl (by kernel_rfl) (by intro u hu; simp at hu; rcases hu with rfl | rfl | rfl <;> rfl) ?_
         intro w9 hb9 hg9
         have Z9 := hide hb9
         have C9 := hide (codes_far (unhide S5) hg9 (fun j e => by injection e with e; omega))
         have G9 := hide (grown_far (grown_trans_some (unhide G1) (unhide T5)) hg9 (fun j e => by injection e with e; omega))
         clear hb9 hg9)
      | fail)
    exact bodyPost_ret (v := .agg #[.int .i64 a, .int .i64 b, .int .i64 c]) (res1 rfl _ w.heap.size 26 #[.int .i64 a, .int .i64 b, .int .i64 c] _ rfl (unhide Z9) Tryd.underlying26 rfl (by kernel_rfl)) rfl ⟨⟨a, b, c⟩, rfl, ha, by show -1 ≤ b ∧ b ≤ 1000; omega, hc, unhide C9, unhide G9⟩
end Go.Proofs.YtbcbleonpaemgaaDoor
