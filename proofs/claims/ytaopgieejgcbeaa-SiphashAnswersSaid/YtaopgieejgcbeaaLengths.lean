/- The law SiphashLengths, walked: it returns true; nothing that was there turns. -/
import Derived.Test.YtaopgieejgcbeaaAwake
import Derived.Test.YtaopgieejgcbeaaField
import Derived.Test.YtaopgieejgcbeaaClass
import Derived.Test.YtaopgieejgcbeaaOpen
namespace Go.Proofs.Ytaopgieejgcbeaa
open Go.RowKit
theorem toB_of {r : Int} (h0 : 0 ≤ r) (h1 : r < 256) : ((toB r).toNat : Int) = r := by
  unfold toB
  rw [UInt8.toNat_ofNat']
  omega
theorem bsV_snoc (cs : List UInt8) {r : Int} (h0 : 0 ≤ r) (h1 : r < 256) : bsV (cs ++ [toB r]) = bsV cs ++ [.int .u8 r] := by
  simp [bsV, toB_of h0 h1]
theorem key_size {ks : List UInt8} (hk : ks.length = 16) : (Try.prog.info? 23).map (·.size) = some (bsV ks).toArray.size := by
  have e : (bsV ks).toArray.size = 16 := by simp [hk]
  rw [e]
  exact (by kernel_rfl : (Try.prog.info? 23).map (·.size) = some 16)
set_option maxRecDepth 100000 in
set_option maxHeartbeats 2000000 in
theorem lengths_walk (w : World) (ks : List UInt8) (hk : ks.length = 16) (A : Option Addr) (n c : Nat) (bs : List UInt8) (hn : n ≤ c) (hc : c ≤ maxLen) (hr : Reads w w.heap.size 1 A n (bsV bs)) :
    Calls Try.prog 3 #[.agg (bsV ks).toArray, .slice A n c] w fun e w' => e = .returned (.bool true) ∧ Below w.heap.size w w' := by
  obtain ⟨i0, hi, hz0, hz1, hz2⟩ := info_parts info_u8
  have HR := hide hr
  have HK := hide hk
  have HC := hide hc
  have HA := hide awake_any
  clear hr hk hc
  go_enter Try.func3, Try.ntmps3
  go_wp2_with fail
  refine (unhide HA _).mono ?_
  rintro e w1 ⟨rfl, hb1⟩
  have hs1 := hb1.size
  have HKB := hide ((Blk.new w 23 (bsV ks).toArray).below hb1 (by rw [size_alloc]; omega))
  have hbel := ((Below.refl w.heap.size w).alloc (Nat.le_refl _) (.cells (bsV ks).toArray 23)).trans (hb1.mono (by rw [size_alloc]; omega))
  have HB1 := hide hbel
  have HR1 := hide (((unhide HR).below hbel).more (B' := w1.heap.size) hbel.size)
  rw [size_alloc] at hs1
  clear hb1 hbel
  go_wp2_with fail
  refine (new_any _ A n c bs 32 (unhide HR1) hn (unhide HC) (by omega)).mono ?_
  rintro e w2 ⟨rfl, hcd, hb2⟩
  have HCD := hide hcd
  have hs2 := hcd.lt
  have HKB2 := hide ((unhide HKB).below hb2 (by omega))
  have HB2 := hide ((unhide HB1).trans (hb2.mono (unhide HB1).size))
  clear hcd hb2
  go_wp2_with fail
  go_loopw [6, 7] (fun v x wx => ∃ (k : Nat) (cs : List UInt8), k ≤ 32 ∧ x = .int .i64 k ∧ wx.ownsRow (w1.heap.size + 1) 5 1 v k (bsV cs) ∧ CodesAt wx w1.heap.size w1.heap.size ∧ Blk wx w.heap.size 23 (bsV ks).toArray ∧ Below w.heap.size w wx) (fun _ x _ => 32 - (intOf x).toNat)
  case atStart => exact ⟨0, [], by omega, rfl, ⟨by simp, .inl ⟨rfl, rfl⟩⟩, unhide HCD, unhide HKB2, unhide HB2⟩
  case round =>
    obtain ⟨k, cs, hk, rfl, hown, hcd, hkb, hg⟩ := hrel
    have hsz := hg.size
    have hlt0 := hcd.lt
    by_cases hlt : k < 32
    · have HO := hide hown
      have HCD3 := hide hcd
      have HKB3 := hide hkb
      have HG3 := hide hg
      clear hown hcd hkb hg
      go_wp2_with fail
      refine (next_any wr w1.heap.size w1.heap.size 256 (unhide HCD3) (by omega) (by omega)).mono ?_
      rintro e w3 ⟨r, rfl, hr0, hr1, hcd4, hg4⟩
      have hr2 : r < 256 := by omega
      have hne : u6.ownBlock ≠ some w1.heap.size := fun e => by have := own_ge (unhide HO) _ e; omega
      have HO4 := hide ((unhide HO).kept hg4 (.inr hne))
      have HCD4 := hide hcd4
      have HKB4 := hide ((unhide HKB3).grown hg4 (by simp; omega))
      have HG4 := hide ((unhide HG3).grown hg4 hsz (fun g e => by injection e; omega))
      have hsz4 := hg4.size
      clear hcd4 hg4 hr1
      go_wp2_with (at_builtin; refine wpList_append1 _ rfl (.tmp 17) (.tmp 21) 24 rfl (w1.heap.size + 1) 5 i0 _ 1 Try.underlying24 hi hz0 hz1 hz2 rfl _ k (bsV cs) rfl (unhide HO4) _ rfl (by rfl) (by unfold maxLen; omega) (by omega) (by omega) ?_; intro v' w4 hown1 hbel1)
      go_roundw
      case rel =>
        refine ⟨k + 1, cs ++ [toB r], by omega, by go_num, by rw [bsV_snoc cs hr0 hr2]; exact hown1, (unhide HCD4).keep (fun b hb => hbel1.block b (by omega)), (unhide HKB4).below hbel1 (by omega), (unhide HG4).trans (hbel1.mono (by omega))⟩
      case measure => simp [intOf]; omega
    · obtain rfl : k = 32 := by omega
      rw [show ((32 : Nat) : Int) = 32 from rfl]
      obtain ⟨wo, rfl⟩ : ∃ wo : World, wo = wr := ⟨_, rfl⟩
      obtain ⟨A2, c2, rfl, hc2, hm2⟩ := slice_of_own hown
      have hrd := Reads.of_own hown
      obtain ⟨ad, rfl⟩ := hrd.some_ (by omega)
      have HKB5 := hide hkb
      have HG5 := hide hg
      have HRD := hide hrd
      clear hown hcd hkb hg hrd hn
      have hm3 := hm2
      unfold maxLen at hm3
      go_wp2_with fail
      go_loopw [8] (fun x wx => ∃ j : Nat, j ≤ 25 ∧ x = .int .i64 j ∧ Below wo.heap.size wo wx) (fun x _ => 25 - (intOf x).toNat)
      case atStart => exact ⟨0, by omega, rfl, Below.refl _ _⟩
      case round =>
        obtain ⟨j, hj, rfl, hbx⟩ := hrel
        by_cases hjl : j ≤ 24
        · have HBX := hide hbx
          have h1 : ∀ x : InClass (fun W => Below wo.heap.size wo W), Calls Try.prog 10 #[.agg (bsV ks).toArray, .slice (some ad) j c2] x.val fun e w'' => e = .returned (.int .u64 (sumF ks (cs.take j))) ∧ ∃ y : InClass (fun W => Below wo.heap.size wo W), w'' = y.val := fun x => by
            have hx := x.ok
            have hrx := (((unhide HRD).below hx).take (m := j) (by omega)).more hx.size
            have e1 : (bsV cs).take j = bsV (cs.take j) := by simp [bsV, List.map_take]
            rw [e1] at hrx
            exact class_call (sum_any ks (cs.take j) (unhide HK) _ _ _ _ hrx (by omega) hm2) (fun w' h => hx.trans (h.mono hx.size))
          have h2 : ∀ x : InClass (fun W => Below wo.heap.size wo W), Calls Try.prog 11 #[.agg (bsV ks).toArray, .slice (some ad) j j] x.val fun e w'' => e = .returned (.int .u64 (sumF ks (cs.take j))) ∧ ∃ y : InClass (fun W => Below wo.heap.size wo W), w'' = y.val := fun x => by
            have hx := x.ok
            have hrx := (((unhide HRD).below hx).take (m := j) (by omega)).more hx.size
            have e1 : (bsV cs).take j = bsV (cs.take j) := by simp [bsV, List.map_take]
            rw [e1] at hrx
            exact class_call (ref_sum_any ks (cs.take j) (unhide HK) _ _ _ _ hrx (by omega) (by omega)) (fun w' h => hx.trans (h.mono hx.size))
          have hin : Nonempty (InClass (fun W => Below wo.heap.size wo W)) := ⟨⟨wo, Below.refl _ _⟩⟩
          have H1 := hide h1
          have H2 := hide h2
          clear h1 h2 hbx
          have hj0 : (0 : Int) ≤ (j : Int) := by omega
          have hj1 : (j : Int) ≤ (c2 : Int) := by omega
          go_wp2_with fail
          refine wp_region_class (fun W => Below wo.heap.size wo W) (by kernel_rfl) (by kernel_rfl) (unhide HBX).drew ?_
          refine BigFrame.wpQuiet_want rfl (fun K hK => quiet_load_row _ _ rfl w.heap.size rfl 23 (bsV ks).toArray _ (fun W hW => by obtain ⟨x, rfl⟩ := hW; exact (unhide HKB5).below x.ok (unhide HKB5).lt) Try.underlying23 rfl (key_size (unhide HK)) (hK _ ?_))
          simp only [Act.put, List.setIfInBounds_toArray, List.set_cons_zero, List.set_cons_succ]
          repeat (go_big_quiet_step ((first | (go_at_call 10; exact (unhide H1) _) | (go_at_call 11; exact (unhide H2) _))))
          refine BigFrame.wpQuiet_want rfl (fun K hK => quiet_load_row _ _ rfl w.heap.size rfl 23 (bsV ks).toArray _ (fun W hW => by obtain ⟨x, rfl⟩ := hW; exact (unhide HKB5).below x.ok (unhide HKB5).lt) Try.underlying23 rfl (key_size (unhide HK)) (hK _ ?_))
          simp only [Act.put, List.setIfInBounds_toArray, List.set_cons_zero, List.set_cons_succ]
          repeat (go_big_quiet_step ((first | (go_at_call 10; exact (unhide H1) _) | (go_at_call 11; exact (unhide H2) _))))
          refine wpQuiet_nil ?_
          intro _ hw'
          obtain ⟨x, hw''⟩ := hw'
          subst hw''
          have hx := x.ok
          have HX := hide hx
          clear hx
          go_wp2_with fail
          go_roundw
          case rel => exact ⟨j + 1, by omega, by go_num, unhide HX⟩
          case measure => simp [intOf]; omega
        · obtain rfl : j = 25 := by omega
          have HE := hide ((unhide HG5).trans (hbx.mono hsz))
          clear hbx
          go_wp2_with fail
          go_ret
          exact ⟨rfl, unhide HE⟩
end Go.Proofs.Ytaopgieejgcbeaa
