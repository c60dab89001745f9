/- account.Valid (printed by wip/gen_saccv.py). -/
import Derived.Test.YtfbkkmnkpjgciaaSAcct
namespace Go.Proofs.Ytfbkkmnkpjgciaa
open Go.RowKit
theorem binOp_string_leq (t : TypeId) (a b : ByteArray) : binOp .leq t (.string a) (.string b) = pure (.bool (Op.bytesLess a.toList b.toList || (a.toList == b.toList))) := by simp [binOp, Op.stringOp]
theorem run_leq_str (w : World) (a b : List UInt8) (r : Bool) (hr : leqL a b = r) : (binOp .leq 9 (.string ⟨a.toArray⟩) (.string ⟨b.toArray⟩)).run Try.prog w = .ok (.bool r) w := by
  rw [binOp_string_leq, ← hr]
  simp [leqL]
theorem alloc_chn (w : World) : (Instr.alloc 42 true (.tuple #[])).run Try.prog w = .ok (.pointer (some ⟨w.heap.size, 0, none⟩)) (w.alloc (.cells #[.int .i64 0, .int .i64 0] 42)) := by kernel_rfl
theorem chn_info (x : Chn) : (Try.prog.info? 42).map (·.size) = some x.cs.length := by
  show (Try.prog.info? 42).map (·.size) = some 2
  kernel_rfl
set_option maxRecDepth 100000 in
set_option maxHeartbeats 16000000 in
theorem accv_sx (w : World) (AU : Option Addr) (nU cU : Nat) (AC : Option Addr) (nC cC : Nat) (U : List Usr) (C : List Chn) (hU : UsrL w w.heap.size AU nU U) (hC : ChnL w w.heap.size AC nC C) (hnU : nU ≤ maxLen) (hnC : nC ≤ maxLen) (r : Int) (hr : accV U C = r) :
    Calls Try.prog 39 #[.agg #[.slice AU nU cU, .slice AC nC cC]] w fun e w' => e = .returned (.int .i64 r) ∧ Below w.heap.size w w' := by
  have hlU := hU.len (by omega)
  have hlC := hC.len (by omega)
  unfold accV at hr
  rw [hlU, hlC] at hr
  unfold maxLen at hnU hnC
  have HB0 := hide ((Below.refl w.heap.size w).alloc (Nat.le_refl _) (.cells #[.slice AU nU cU, .slice AC nC cC] 45))
  have HK0 := hide (Blk.new w 45 #[.slice AU nU cU, .slice AC nC cC])
  by_cases h8 : 8 < nU
  · obtain rfl : 3 = r := by rw [← hr]; simp [h8]
    have e1 : ((8 : Int) < (nU : Int)) = True := by simp; omega
    clear hr hU hC hlU hlC
    go_enter Try.func39, Try.ntmps39
    go_wp2_with fail
    go_ret
    exact ⟨rfl, unhide HB0⟩
  have e1 : ((8 : Int) < (nU : Int)) = False := by simp; omega
  by_cases h4 : 4 < nC
  · obtain rfl : 3 = r := by rw [← hr]; simp [h4]
    have e2 : ((4 : Int) < (nC : Int)) = True := by simp; omega
    clear hr hU hC hlU hlC
    go_enter Try.func39, Try.ntmps39
    go_wp2_with fail
    go_ret
    exact ⟨rfl, unhide HB0⟩
  have e2 : ((4 : Int) < (nC : Int)) = False := by simp; omega
  rw [if_neg (by omega)] at hr
  obtain ⟨E, hE⟩ : ∃ E, firstE (errU U) nU 0 = E := ⟨_, rfl⟩
  obtain ⟨G, hG⟩ : ∃ G, firstE (errC C) nC 0 = G := ⟨_, rfl⟩
  rw [hE, hG] at hr
  have HR := hide hr
  have HE : Hid (firstE (errU U) (nU - 0) 0 = E) := hide hE
  have HG : Hid (firstE (errC C) (nC - 0) 0 = G) := hide hG
  have HU := hide hU
  have HC := hide hC
  have HLU := hide hlU
  have HLC := hide hlC
  clear hr hE hG hU hC hlU hlC
  go_enter Try.func39, Try.ntmps39
  go_wp2_with fail
  go_loopw [20] (fun i wr => ∃ k : Nat, k ≤ nU ∧ i = .int .i64 k ∧ Hid (firstE (errU U) (nU - k) k = E) ∧ Hid (Blk wr w.heap.size 45 #[.slice AU nU cU, .slice AC nC cC]) ∧ Hid (Below w.heap.size w wr)) (fun i _ => nU - (intOf i).toNat)
  case atStart => exact ⟨0, by omega, rfl, HE, HK0, HB0⟩
  case round =>
    obtain ⟨k, hk, rfl, hrk, HK, HB⟩ := hrel
    by_cases hlt : k < nU
    · obtain ⟨g, oo, x, hA, hg, hx, hxo, _, hrg⟩ := ((unhide HU).below (unhide HB)).at_ (by omega) hlt
      have hv := firstE_step (errU U) hlt
      have HRK0 : Hid (∀ e, errU U k = e → e ≠ 0 → r = e) := hide (fun e he hne => by
        have h1 := unhide hrk
        rw [hv, he, if_neg hne] at h1
        rw [← unhide HR, ← h1, if_neg hne])
      have HRK1 : Hid (errU U k = 0 → firstE (errU U) (nU - (k + 1)) (k + 1) = E) := hide (fun he => by have h1 := unhide hrk; rwa [hv, if_pos he] at h1)
      have HX := hide hx
      have HXO := hide hxo
      have HRG := hide hrg
      have HN := hide (Blk.new wr 39 zUsr.cs.toArray)
      have HBn := hide ((unhide HB).alloc (unhide HB).size (.cells zUsr.cs.toArray 39))
      have HKn := hide ((unhide HK).alloc (.cells zUsr.cs.toArray 39))
      have hlt2 : (k : Int) < (nU : Int) := by omega
      have HA := hide hA
      clear hx hxo hrg hv
      subst hA
      go_upto_region 6 with (first
        | (refine wpList_load_mid rfl 39 (.tmp 23) rfl g (oo + k * 19) rfl _ _ (unhide HRG) Try.underlying39 rfl (usr_info (unhide HXO)) ?_)
        | (refine wpList_alloc_to rfl 39 rfl _ wr.heap.size rfl (alloc_usr _) ?_)
        | (refine wpList_store_blk rfl 39 (.tmp 4) (.tmp 24) rfl wr.heap.size 39 _ x.cs.toArray rfl rfl (unhide HN) (Usr.size_eq (unhide HXO)) (usr_infoA (unhide HXO)) (fun v hv => Usr.one v (by simpa using hv)) ?_
           intro w5 hb5 hg5
           have X5 := hide hb5
           have K5 := hide ((unhide HKn).grown hg5 (fun e => by injection e with e; have := (unhide HK).lt; omega))
           have B5 := hide ((unhide HBn).grown hg5 (unhide HBn).size (fun j e => by injection e with e; have := (unhide HB).size; omega))
           clear hb5 hg5)
        | fail)
      have hat := (Usr.blk (unhide HXO) (unhide X5))
      have c0 := hat.name
      have c18 := hat.limit
      have hux := (unhide HXO).name
      clear hat HBn HKn HN HRG
      obtain ⟨t3, ht3⟩ : ∃ b, nameF x.name = b := ⟨_, rfl⟩
      have HNM := hide ht3
      cases t3
      case false =>
        obtain rfl : r = 1 := unhide HRK0 1 (by unfold errU; rw [unhide HX]; simp [ht3]) (by omega)
        go_wp2_with (first
          | (go_at_call 19; refine (name_any _ x.name hux _ (unhide HNM)).mono ?_; rintro e w' ⟨rfl, rfl⟩)
          | fail)
        go_ret
        exact ⟨rfl, unhide B5⟩
      obtain ⟨t4, ht4⟩ : ∃ b, lvl0 x.limit = b := ⟨_, rfl⟩
      have HLV := hide ht4
      cases t4
      case false =>
        obtain rfl : r = 2 := unhide HRK0 2 (by unfold errU; rw [unhide HX]; simp [ht3, ht4]) (by omega)
        go_wp2_with (first
          | (go_at_call 19; refine (name_any _ x.name hux _ (unhide HNM)).mono ?_; rintro e w' ⟨rfl, rfl⟩)
          | (go_at_call 53; refine (alevel_sx _ x.limit _ (unhide HLV)).mono ?_; rintro e w' ⟨rfl, rfl⟩)
          | fail)
        go_ret
        exact ⟨rfl, unhide B5⟩
      have HT3 := hide ht3
      have HT4 := hide ht4
      clear ht3 ht4
      go_upto_region 10 with (first
          | (go_at_call 19; refine (name_any _ x.name hux _ (unhide HNM)).mono ?_; rintro e w' ⟨rfl, rfl⟩)
          | (go_at_call 53; refine (alevel_sx _ x.limit _ (unhide HLV)).mono ?_; rintro e w' ⟨rfl, rfl⟩)
          | fail)
      rcases k with _ | m
      · have HNX := hide (unhide HRK1 (by unfold errU; rw [unhide HX]; simp [unhide HT3, unhide HT4]))
        have hS0 : (fun _ : World => True) w5.drew := trivial
        refine wp_region_noPanic (wp_region_held_drew (S := fun _ => True) (by kernel_rfl) hS0 (fun _ => ?_))
        refine th_take (i := 0) (v := ?_) rfl (by kernel_rfl) (by kernel_rfl) (by kernel_rfl) (Or.inl ⟨by rfl, fun wz hSw => ?_⟩) hS0 ?_
        rotate_left
        · go_simp
          with_reducible rfl
        simp only [Act.put, List.setIfInBounds_toArray, List.set_cons_zero, List.set_cons_succ]
        refine th_take (i := 1) (v := .bool false) rfl (by kernel_rfl) (by kernel_rfl) (by kernel_rfl) (Or.inl ⟨by rfl, fun wz hSw => ?_⟩) hS0 ?_
        · skip
          go_simp
        simp only [Act.put, List.setIfInBounds_toArray, List.set_cons_zero, List.set_cons_succ]
        refine th_take (i := 2) (v := ?_) rfl (by kernel_rfl) (by kernel_rfl) (by kernel_rfl) (Or.inl ⟨by rfl, fun wz hSw => ?_⟩) hS0 ?_
        rotate_left
        · go_simp
          with_reducible rfl
        simp only [Act.put, List.setIfInBounds_toArray, List.set_cons_zero, List.set_cons_succ]
        refine th_take (i := 3) (v := undef) rfl (by kernel_rfl) (by kernel_rfl) (by kernel_rfl) (Or.inr ⟨by rfl, rfl⟩) hS0 ?_
        simp only [Act.put, List.setIfInBounds_toArray, List.set_cons_zero, List.set_cons_succ]
        refine th_take (i := 4) (v := undef) rfl (by kernel_rfl) (by kernel_rfl) (by kernel_rfl) (Or.inr ⟨by rfl, rfl⟩) hS0 ?_
        simp only [Act.put, List.setIfInBounds_toArray, List.set_cons_zero, List.set_cons_succ]
        refine th_take (i := 5) (v := undef) rfl (by kernel_rfl) (by kernel_rfl) (by kernel_rfl) (Or.inr ⟨by rfl, rfl⟩) hS0 ?_
        simp only [Act.put, List.setIfInBounds_toArray, List.set_cons_zero, List.set_cons_succ]
        refine th_take (i := 6) (v := undef) rfl (by kernel_rfl) (by kernel_rfl) (by kernel_rfl) (Or.inr ⟨by rfl, rfl⟩) hS0 ?_
        simp only [Act.put, List.setIfInBounds_toArray, List.set_cons_zero, List.set_cons_succ]
        refine th_take (i := 7) (v := undef) rfl (by kernel_rfl) (by kernel_rfl) (by kernel_rfl) (Or.inr ⟨by rfl, rfl⟩) hS0 ?_
        simp only [Act.put, List.setIfInBounds_toArray, List.set_cons_zero, List.set_cons_succ]
        refine th_take (i := 8) (v := undef) rfl (by kernel_rfl) (by kernel_rfl) (by kernel_rfl) (Or.inr ⟨by rfl, rfl⟩) hS0 ?_
        simp only [Act.put, List.setIfInBounds_toArray, List.set_cons_zero, List.set_cons_succ]
        refine th_take (i := 9) (v := undef) rfl (by kernel_rfl) (by kernel_rfl) (by kernel_rfl) (Or.inr ⟨by rfl, rfl⟩) hS0 ?_
        simp only [Act.put, List.setIfInBounds_toArray, List.set_cons_zero, List.set_cons_succ]
        refine th_take (i := 10) (v := undef) rfl (by kernel_rfl) (by kernel_rfl) (by kernel_rfl) (Or.inr ⟨by rfl, rfl⟩) hS0 ?_
        simp only [Act.put, List.setIfInBounds_toArray, List.set_cons_zero, List.set_cons_succ]
        refine th_take (i := 11) (v := undef) rfl (by kernel_rfl) (by kernel_rfl) (by kernel_rfl) (Or.inr ⟨by rfl, rfl⟩) hS0 ?_
        simp only [Act.put, List.setIfInBounds_toArray, List.set_cons_zero, List.set_cons_succ]
        refine th_take (i := 12) (v := undef) rfl (by kernel_rfl) (by kernel_rfl) (by kernel_rfl) (Or.inr ⟨by rfl, rfl⟩) hS0 ?_
        simp only [Act.put, List.setIfInBounds_toArray, List.set_cons_zero, List.set_cons_succ]
        refine th_take (i := 13) (v := .bool false) rfl (by kernel_rfl) (by kernel_rfl) (by kernel_rfl) (Or.inl ⟨by rfl, fun wz hSw => ?_⟩) hS0 ?_
        · skip
          go_simp
        simp only [Act.put, List.setIfInBounds_toArray, List.set_cons_zero, List.set_cons_succ]
        refine th_take (i := 14) (v := ?_) rfl (by kernel_rfl) (by kernel_rfl) (by kernel_rfl) (Or.inl ⟨by rfl, fun wz hSw => ?_⟩) hS0 ?_
        rotate_left
        · go_simp
          with_reducible rfl
        simp only [Act.put, List.setIfInBounds_toArray, List.set_cons_zero, List.set_cons_succ]
        refine wpAnyH_done (by kernel_rfl) (NoPanic.normal ?_) _
        have B6 : Hid (Below w.heap.size w w5.drew) := hide (unhide B5).drew
        have K6 : Hid (Blk w5.drew w.heap.size 45 #[.slice (some ⟨g, oo, none⟩) nU cU, .slice AC nC cC]) := K5
        clear hS0
        go_wp2_with fail
        go_roundw
        case rel => exact ⟨_, by omega, by go_num, HNX, K6, B6⟩
        case measure => simp [intOf]; omega
      · obtain ⟨g', oo', p, hA', hg', hp, hpo, _, hrgp⟩ := ((unhide HU).below ((unhide B5))).at_ (k := m) (by omega) (by omega)
        injection hA' with hA'
        injection hA' with hA1 hA2 _
        subst hA1
        subst hA2
        have hcp0 := (Usr.range hpo hrgp).name
        have hcp : w5.cell? ⟨g, oo + m * 19, none⟩ = some (.string ⟨p.name.toArray⟩) := by simpa using hcp0
        have hgw : g < w5.heap.size := Nat.lt_of_lt_of_le hg (unhide B5).size
        obtain ⟨t, ht⟩ : ∃ t, leqL x.name p.name = t := ⟨_, rfl⟩
        have HP := hide hp
        have HT := hide ht
        have HE0 : Hid (t = false → errU U (m + 1) = 0) := hide (fun e => by unfold errU; rw [unhide HX]; simp [unhide HT3, unhide HT4, unhide HP, unhide HT, e])
        have HE7 : Hid (t = true → errU U (m + 1) = 7) := hide (fun e => by unfold errU; rw [unhide HX]; simp [unhide HT3, unhide HT4, unhide HP, unhide HT, e])
        have hi1 : IntKind.i64.wrap ((m : Int) + 1 - 1) = (m : Int) := by rw [show (m : Int) + 1 - 1 = (m : Int) by omega]; exact IntWalk.i64_in _ (by omega)
        have hi0 : (m : Int) + 1 - 1 = (m : Int) := by omega
        have hi9 : IntKind.i64.wrap (m : Int) = (m : Int) := IntWalk.i64_in _ (by omega)
        have hi2 : (0 : Int) ≤ (m : Int) := by omega
        have hi3 : (m : Int) < (nU : Int) := by omega
        have hi4 : (0 : Int) < (m : Int) + 1 := by omega
        have HLEQ := hide (fun W => run_leq_str W x.name p.name t ht)
        have hx5 := (unhide X5).lt
        have hk5 := (unhide K5).lt
        have CP := hide (fun W (hW : Below w5.heap.size w5 W) => (hW.cell (p := ⟨g, oo + m * 19, none⟩) hgw).trans hcp)
        have CX := hide (fun W (hW : Below w5.heap.size w5 W) => (hW.cell (p := ⟨wr.heap.size, 0, none⟩) hx5).trans c0)
        have CA := hide (fun W (hW : Below w5.heap.size w5 W) => (hW.cell (p := ⟨w.heap.size, 0, none⟩) hk5).trans ((unhide K5).cell 0))
        clear hcp hcp0 hp hpo hrgp ht c0 c18
        have hS0 : Below w5.heap.size w5 w5.drew := (Below.refl _ _).drew
        refine wp_region_noPanic (wp_region_held_drew (S := fun wz => Below w5.heap.size w5 wz) (by kernel_rfl) hS0 (fun _ => ?_))
        refine th_take (i := 0) (v := ?_) rfl (by kernel_rfl) (by kernel_rfl) (by kernel_rfl) (Or.inl ⟨by rfl, fun wz hSw => ?_⟩) hS0 ?_
        rotate_left
        · go_simp
          with_reducible rfl
        simp only [Act.put, List.setIfInBounds_toArray, List.set_cons_zero, List.set_cons_succ]
        refine th_take (i := 1) (v := .bool true) rfl (by kernel_rfl) (by kernel_rfl) (by kernel_rfl) (Or.inl ⟨by rfl, fun wz hSw => ?_⟩) hS0 ?_
        · skip
          go_simp
        simp only [Act.put, List.setIfInBounds_toArray, List.set_cons_zero, List.set_cons_succ]
        refine th_take (i := 2) (v := ?_) rfl (by kernel_rfl) (by kernel_rfl) (by kernel_rfl) (Or.inl ⟨by rfl, fun wz hSw => ?_⟩) hS0 ?_
        rotate_left
        · go_simp
          with_reducible rfl
        simp only [Act.put, List.setIfInBounds_toArray, List.set_cons_zero, List.set_cons_succ]
        refine th_take (i := 3) (v := ?_) rfl (by kernel_rfl) (by kernel_rfl) (by kernel_rfl) (Or.inl ⟨by rfl, fun wz hSw => ?_⟩) hS0 ?_
        rotate_left
        · go_simp
          with_reducible rfl
        simp only [Act.put, List.setIfInBounds_toArray, List.set_cons_zero, List.set_cons_succ]
        refine th_take (i := 4) (v := .string ⟨x.name.toArray⟩) rfl (by kernel_rfl) (by kernel_rfl) (by kernel_rfl) (Or.inl ⟨by rfl, fun wz hSw => ?_⟩) hS0 ?_
        · have hq := unhide CX wz hSw
          go_simp
        simp only [Act.put, List.setIfInBounds_toArray, List.set_cons_zero, List.set_cons_succ]
        refine th_take (i := 5) (v := ?_) rfl (by kernel_rfl) (by kernel_rfl) (by kernel_rfl) (Or.inl ⟨by rfl, fun wz hSw => ?_⟩) hS0 ?_
        rotate_left
        · go_simp
          with_reducible rfl
        simp only [Act.put, List.setIfInBounds_toArray, List.set_cons_zero, List.set_cons_succ]
        refine th_take (i := 6) (v := .slice (some ⟨g, oo, none⟩) nU cU) rfl (by kernel_rfl) (by kernel_rfl) (by kernel_rfl) (Or.inl ⟨by rfl, fun wz hSw => ?_⟩) hS0 ?_
        · have hq := unhide CA wz hSw
          go_simp
        simp only [Act.put, List.setIfInBounds_toArray, List.set_cons_zero, List.set_cons_succ]
        refine th_take (i := 7) (v := ?_) rfl (by kernel_rfl) (by kernel_rfl) (by kernel_rfl) (Or.inl ⟨by rfl, fun wz hSw => ?_⟩) hS0 ?_
        rotate_left
        · go_simp
          with_reducible rfl
        simp only [Act.put, List.setIfInBounds_toArray, List.set_cons_zero, List.set_cons_succ]
        refine th_take (i := 8) (v := .int .i64 (m : Int)) rfl (by kernel_rfl) (by kernel_rfl) (by kernel_rfl) (Or.inl ⟨by rfl, fun wz hSw => ?_⟩) hS0 ?_
        · skip
          go_simp
        simp only [Act.put, List.setIfInBounds_toArray, List.set_cons_zero, List.set_cons_succ]
        refine th_take (i := 9) (v := ?_) rfl (by kernel_rfl) (by kernel_rfl) (by kernel_rfl) (Or.inl ⟨by rfl, fun wz hSw => ?_⟩) hS0 ?_
        rotate_left
        · go_simp
          with_reducible rfl
        simp only [Act.put, List.setIfInBounds_toArray, List.set_cons_zero, List.set_cons_succ]
        refine th_take (i := 10) (v := ?_) rfl (by kernel_rfl) (by kernel_rfl) (by kernel_rfl) (Or.inl ⟨by rfl, fun wz hSw => ?_⟩) hS0 ?_
        rotate_left
        · go_simp
          with_reducible rfl
        simp only [Act.put, List.setIfInBounds_toArray, List.set_cons_zero, List.set_cons_succ]
        refine th_take (i := 11) (v := .string ⟨p.name.toArray⟩) rfl (by kernel_rfl) (by kernel_rfl) (by kernel_rfl) (Or.inl ⟨by rfl, fun wz hSw => ?_⟩) hS0 ?_
        · have hq := unhide CP wz hSw
          go_simp
        simp only [Act.put, List.setIfInBounds_toArray, List.set_cons_zero, List.set_cons_succ]
        refine th_take (i := 12) (v := .bool t) rfl (by kernel_rfl) (by kernel_rfl) (by kernel_rfl) (Or.inl ⟨by rfl, fun wz hSw => ?_⟩) hS0 ?_
        · have hq := unhide HLEQ wz
          go_simp
        simp only [Act.put, List.setIfInBounds_toArray, List.set_cons_zero, List.set_cons_succ]
        refine th_take (i := 13) (v := .bool t) rfl (by kernel_rfl) (by kernel_rfl) (by kernel_rfl) (Or.inl ⟨by rfl, fun wz hSw => ?_⟩) hS0 ?_
        · skip
          go_simp
        simp only [Act.put, List.setIfInBounds_toArray, List.set_cons_zero, List.set_cons_succ]
        refine th_take (i := 14) (v := ?_) rfl (by kernel_rfl) (by kernel_rfl) (by kernel_rfl) (Or.inl ⟨by rfl, fun wz hSw => ?_⟩) hS0 ?_
        rotate_left
        · go_simp
          with_reducible rfl
        simp only [Act.put, List.setIfInBounds_toArray, List.set_cons_zero, List.set_cons_succ]
        refine wpAnyH_done (by kernel_rfl) (NoPanic.normal ?_) _
        have B6 : Hid (Below w.heap.size w w5.drew) := hide (unhide B5).drew
        have K6 : Hid (Blk w5.drew w.heap.size 45 #[.slice (some ⟨g, oo, none⟩) nU cU, .slice AC nC cC]) := K5
        clear hS0
        cases t with
        | true =>
          obtain rfl : r = 7 := unhide HRK0 7 (unhide HE7 rfl) (by omega)
          go_wp2_with fail
          go_ret
          exact ⟨rfl, unhide B6⟩
        | false =>
          have HNX := hide (unhide HRK1 (unhide HE0 rfl))
          go_wp2_with fail
          go_roundw
          case rel => exact ⟨_, by omega, by go_num, HNX, K6, B6⟩
          case measure => simp [intOf]; omega
    · obtain rfl : k = nU := by omega
      have hz := unhide hrk
      rw [Nat.sub_self] at hz
      have HRG : Hid (r = G) := hide (by rw [← unhide HR, ← hz]; rfl)
      have d1 : wr.cell? ⟨w.heap.size, 1, none⟩ = some (.slice AC nC cC) := (unhide HK).cell 1
      clear hrk hz
      go_wp2_with fail
      clear d1
      go_loopw [54] (fun i wr => ∃ q : Nat, q ≤ nC ∧ i = .int .i64 q ∧ Hid (firstE (errC C) (nC - q) q = G) ∧ Hid (Blk wr w.heap.size 45 #[.slice AU k cU, .slice AC nC cC]) ∧ Hid (Below w.heap.size w wr)) (fun i _ => nC - (intOf i).toNat)
      case atStart => exact ⟨0, by omega, rfl, HG, HK, HB⟩
      case round =>
        clear HK HB
        obtain ⟨q, hq, rfl, hrk, HK, HB⟩ := hrel
        by_cases hlt2 : q < nC
        · obtain ⟨g, oo, x, hA, hg, hx, _, _, hrg⟩ := ((unhide HC).below (unhide HB)).at_ (by omega) hlt2
          have hv := firstE_step (errC C) hlt2
          have HRK0 : Hid (∀ e, errC C q = e → e ≠ 0 → r = e) := hide (fun e he hne => by
            have h1 := unhide hrk
            rw [hv, he, if_neg hne] at h1
            rw [unhide HRG, ← h1])
          have HRK1 : Hid (errC C q = 0 → firstE (errC C) (nC - (q + 1)) (q + 1) = G) := hide (fun he => by have h1 := unhide hrk; rwa [hv, if_pos he] at h1)
          have HX := hide hx
          have HRGx := hide hrg
          have HN := hide (Blk.new wr 42 #[.int .i64 0, .int .i64 0])
          have HBn := hide ((unhide HB).alloc (unhide HB).size (.cells #[.int .i64 0, .int .i64 0] 42))
          have HKn := hide ((unhide HK).alloc (.cells #[.int .i64 0, .int .i64 0] 42))
          have hltz : (q : Int) < (nC : Int) := by omega
          clear hx hrg hv
          subst hA
          go_upto_region 16 with (first
            | (refine wpList_load_mid rfl 42 (.tmp 57) rfl g (oo + q * 2) rfl _ _ (unhide HRGx) Try.underlying42 rfl (chn_info x) ?_)
            | (refine wpList_alloc_to rfl 42 rfl _ wr.heap.size rfl (alloc_chn _) ?_)
            | (refine wpList_store_blk rfl 42 (.tmp 6) (.tmp 58) rfl wr.heap.size 42 _ x.cs.toArray rfl rfl (unhide HN) rfl (chn_info x) (by intro v hv; simp [Chn.cs] at hv; rcases hv with rfl | rfl <;> rfl) ?_
               intro w5 hb5 hg5
               have X5 := hide hb5
               have K5 := hide ((unhide HKn).grown hg5 (fun e => by injection e with e; have := (unhide HK).lt; omega))
               have B5 := hide ((unhide HBn).grown hg5 (unhide HBn).size (fun j e => by injection e with e; have := (unhide HB).size; omega))
               clear hb5 hg5)
            | fail)
          have c0 : w5.cell? ⟨wr.heap.size, 0, none⟩ = some (.int .i64 x.number) := (unhide X5).cell 0
          have c1 : w5.cell? ⟨wr.heap.size, 1, none⟩ = some (.int .i64 x.limit) := (unhide X5).cell 1
          clear HBn HKn HN HRGx
          by_cases n0 : x.number < 0
          · obtain rfl : r = 2 := unhide HRK0 2 (by unfold errC; rw [unhide HX]; simp [n0]) (by omega)
            go_wp2_with fail
            go_ret
            exact ⟨rfl, unhide B5⟩
          by_cases n4 : 4 ≤ x.number
          · obtain rfl : r = 2 := unhide HRK0 2 (by unfold errC; rw [unhide HX]; simp [n4]) (by omega)
            go_wp2_with fail
            go_ret
            exact ⟨rfl, unhide B5⟩
          obtain ⟨t4, ht4⟩ : ∃ b, lvl0 x.limit = b := ⟨_, rfl⟩
          have HLV := hide ht4
          have HN0 := hide n0
          have HN4 := hide n4
          have f0 : (x.number < 0) = False := by simp; omega
          have f4 : (4 ≤ x.number) = False := by simp; omega
          clear n0 n4
          cases t4
          case false =>
            obtain rfl : r = 2 := unhide HRK0 2 (by unfold errC; rw [unhide HX]; simp [ht4]) (by omega)
            clear ht4
            go_wp2_with (first
              | (go_at_call 53; refine (alevel_sx _ x.limit _ (unhide HLV)).mono ?_; rintro e w' ⟨rfl, rfl⟩)
              | fail)
            go_ret
            exact ⟨rfl, unhide B5⟩
          clear ht4
          go_upto_region 18 with (first
              | (go_at_call 53; refine (alevel_sx _ x.limit _ (unhide HLV)).mono ?_; rintro e w' ⟨rfl, rfl⟩)
              | fail)
          rcases q with _ | m
          · have HNX := hide (unhide HRK1 (by unfold errC; rw [unhide HX]; simp [unhide HN0, unhide HN4, unhide HLV]))
            have hS0 : (fun _ : World => True) w5.drew := trivial
            refine wp_region_noPanic (wp_region_held_drew (S := fun _ => True) (by kernel_rfl) hS0 (fun _ => ?_))
            refine th_take (i := 0) (v := ?_) rfl (by kernel_rfl) (by kernel_rfl) (by kernel_rfl) (Or.inl ⟨by rfl, fun wz hSw => ?_⟩) hS0 ?_
            rotate_left
            · go_simp
              with_reducible rfl
            simp only [Act.put, List.setIfInBounds_toArray, List.set_cons_zero, List.set_cons_succ]
            refine th_take (i := 1) (v := .bool false) rfl (by kernel_rfl) (by kernel_rfl) (by kernel_rfl) (Or.inl ⟨by rfl, fun wz hSw => ?_⟩) hS0 ?_
            · skip
              go_simp
            simp only [Act.put, List.setIfInBounds_toArray, List.set_cons_zero, List.set_cons_succ]
            refine th_take (i := 2) (v := ?_) rfl (by kernel_rfl) (by kernel_rfl) (by kernel_rfl) (Or.inl ⟨by rfl, fun wz hSw => ?_⟩) hS0 ?_
            rotate_left
            · go_simp
              with_reducible rfl
            simp only [Act.put, List.setIfInBounds_toArray, List.set_cons_zero, List.set_cons_succ]
            refine th_take (i := 3) (v := undef) rfl (by kernel_rfl) (by kernel_rfl) (by kernel_rfl) (Or.inr ⟨by rfl, rfl⟩) hS0 ?_
            simp only [Act.put, List.setIfInBounds_toArray, List.set_cons_zero, List.set_cons_succ]
            refine th_take (i := 4) (v := undef) rfl (by kernel_rfl) (by kernel_rfl) (by kernel_rfl) (Or.inr ⟨by rfl, rfl⟩) hS0 ?_
            simp only [Act.put, List.setIfInBounds_toArray, List.set_cons_zero, List.set_cons_succ]
            refine th_take (i := 5) (v := undef) rfl (by kernel_rfl) (by kernel_rfl) (by kernel_rfl) (Or.inr ⟨by rfl, rfl⟩) hS0 ?_
            simp only [Act.put, List.setIfInBounds_toArray, List.set_cons_zero, List.set_cons_succ]
            refine th_take (i := 6) (v := undef) rfl (by kernel_rfl) (by kernel_rfl) (by kernel_rfl) (Or.inr ⟨by rfl, rfl⟩) hS0 ?_
            simp only [Act.put, List.setIfInBounds_toArray, List.set_cons_zero, List.set_cons_succ]
            refine th_take (i := 7) (v := undef) rfl (by kernel_rfl) (by kernel_rfl) (by kernel_rfl) (Or.inr ⟨by rfl, rfl⟩) hS0 ?_
            simp only [Act.put, List.setIfInBounds_toArray, List.set_cons_zero, List.set_cons_succ]
            refine th_take (i := 8) (v := undef) rfl (by kernel_rfl) (by kernel_rfl) (by kernel_rfl) (Or.inr ⟨by rfl, rfl⟩) hS0 ?_
            simp only [Act.put, List.setIfInBounds_toArray, List.set_cons_zero, List.set_cons_succ]
            refine th_take (i := 9) (v := undef) rfl (by kernel_rfl) (by kernel_rfl) (by kernel_rfl) (Or.inr ⟨by rfl, rfl⟩) hS0 ?_
            simp only [Act.put, List.setIfInBounds_toArray, List.set_cons_zero, List.set_cons_succ]
            refine th_take (i := 10) (v := undef) rfl (by kernel_rfl) (by kernel_rfl) (by kernel_rfl) (Or.inr ⟨by rfl, rfl⟩) hS0 ?_
            simp only [Act.put, List.setIfInBounds_toArray, List.set_cons_zero, List.set_cons_succ]
            refine th_take (i := 11) (v := undef) rfl (by kernel_rfl) (by kernel_rfl) (by kernel_rfl) (Or.inr ⟨by rfl, rfl⟩) hS0 ?_
            simp only [Act.put, List.setIfInBounds_toArray, List.set_cons_zero, List.set_cons_succ]
            refine th_take (i := 12) (v := undef) rfl (by kernel_rfl) (by kernel_rfl) (by kernel_rfl) (Or.inr ⟨by rfl, rfl⟩) hS0 ?_
            simp only [Act.put, List.setIfInBounds_toArray, List.set_cons_zero, List.set_cons_succ]
            refine th_take (i := 13) (v := .bool false) rfl (by kernel_rfl) (by kernel_rfl) (by kernel_rfl) (Or.inl ⟨by rfl, fun wz hSw => ?_⟩) hS0 ?_
            · skip
              go_simp
            simp only [Act.put, List.setIfInBounds_toArray, List.set_cons_zero, List.set_cons_succ]
            refine th_take (i := 14) (v := ?_) rfl (by kernel_rfl) (by kernel_rfl) (by kernel_rfl) (Or.inl ⟨by rfl, fun wz hSw => ?_⟩) hS0 ?_
            rotate_left
            · go_simp
              with_reducible rfl
            simp only [Act.put, List.setIfInBounds_toArray, List.set_cons_zero, List.set_cons_succ]
            refine wpAnyH_done (by kernel_rfl) (NoPanic.normal ?_) _
            have B6 : Hid (Below w.heap.size w w5.drew) := hide (unhide B5).drew
            have K6 : Hid (Blk w5.drew w.heap.size 45 #[.slice AU k cU, .slice (some ⟨g, oo, none⟩) nC cC]) := K5
            clear hS0
            go_wp2_with fail
            go_roundw
            case rel => exact ⟨_, by omega, by go_num, HNX, K6, B6⟩
            case measure => simp [intOf]; omega
          · obtain ⟨g', oo', p, hA', hg', hp, _, _, hrgp⟩ := ((unhide HC).below ((unhide B5))).at_ (k := m) (by omega) (by omega)
            injection hA' with hA'
            injection hA' with hA1 hA2 _
            subst hA1
            subst hA2
            have hcp : w5.cell? ⟨g, oo + m * 2, none⟩ = some (.int .i64 p.number) := by have := hrgp 0 _ rfl; simpa using this
            have hgw : g < w5.heap.size := Nat.lt_of_lt_of_le hg (unhide B5).size
            obtain ⟨t, ht⟩ : ∃ t, decide (x.number ≤ p.number) = t := ⟨_, rfl⟩
            have HP := hide hp
            have HT := hide ht
            have HNG : Hid (¬ (x.number < 0 ∨ 4 ≤ x.number ∨ lvl0 x.limit = false)) := hide (by have := unhide HN0; have := unhide HN4; rw [unhide HLV]; simp; omega)
            have HE0 : Hid (t = false → errC C (m + 1) = 0) := hide (fun e => by unfold errC; rw [unhide HX]; have := unhide HT; rw [e] at this; simp at this; dsimp only; rw [if_neg (unhide HNG)]; simp [unhide HP]; omega)
            have HE7 : Hid (t = true → errC C (m + 1) = 7) := hide (fun e => by unfold errC; rw [unhide HX]; have := unhide HT; rw [e] at this; simp at this; dsimp only; rw [if_neg (unhide HNG)]; simp [unhide HP]; omega)
            have hi1 : IntKind.i64.wrap ((m : Int) + 1 - 1) = (m : Int) := by rw [show (m : Int) + 1 - 1 = (m : Int) by omega]; exact IntWalk.i64_in _ (by omega)
            have hi0 : (m : Int) + 1 - 1 = (m : Int) := by omega
            have hi9 : IntKind.i64.wrap (m : Int) = (m : Int) := IntWalk.i64_in _ (by omega)
            have hi2 : (0 : Int) ≤ (m : Int) := by omega
            have hi3 : (m : Int) < (nC : Int) := by omega
            have hi4 : (0 : Int) < (m : Int) + 1 := by omega
            have hx5 := (unhide X5).lt
            have hk5 := (unhide K5).lt
            have CP := hide (fun W (hW : Below w5.heap.size w5 W) => (hW.cell (p := ⟨g, oo + m * 2, none⟩) hgw).trans hcp)
            have CX := hide (fun W (hW : Below w5.heap.size w5 W) => (hW.cell (p := ⟨wr.heap.size, 0, none⟩) hx5).trans c0)
            have CA := hide (fun W (hW : Below w5.heap.size w5 W) => (hW.cell (p := ⟨w.heap.size, 1, none⟩) hk5).trans ((unhide K5).cell 1))
            clear hcp hp hrgp ht c0 c1
            have hS0 : Below w5.heap.size w5 w5.drew := (Below.refl _ _).drew
            refine wp_region_noPanic (wp_region_held_drew (S := fun wz => Below w5.heap.size w5 wz) (by kernel_rfl) hS0 (fun _ => ?_))
            refine th_take (i := 0) (v := ?_) rfl (by kernel_rfl) (by kernel_rfl) (by kernel_rfl) (Or.inl ⟨by rfl, fun wz hSw => ?_⟩) hS0 ?_
            rotate_left
            · go_simp
              with_reducible rfl
            simp only [Act.put, List.setIfInBounds_toArray, List.set_cons_zero, List.set_cons_succ]
            refine th_take (i := 1) (v := .bool true) rfl (by kernel_rfl) (by kernel_rfl) (by kernel_rfl) (Or.inl ⟨by rfl, fun wz hSw => ?_⟩) hS0 ?_
            · skip
              go_simp
            simp only [Act.put, List.setIfInBounds_toArray, List.set_cons_zero, List.set_cons_succ]
            refine th_take (i := 2) (v := ?_) rfl (by kernel_rfl) (by kernel_rfl) (by kernel_rfl) (Or.inl ⟨by rfl, fun wz hSw => ?_⟩) hS0 ?_
            rotate_left
            · go_simp
              with_reducible rfl
            simp only [Act.put, List.setIfInBounds_toArray, List.set_cons_zero, List.set_cons_succ]
            refine th_take (i := 3) (v := ?_) rfl (by kernel_rfl) (by kernel_rfl) (by kernel_rfl) (Or.inl ⟨by rfl, fun wz hSw => ?_⟩) hS0 ?_
            rotate_left
            · go_simp
              with_reducible rfl
            simp only [Act.put, List.setIfInBounds_toArray, List.set_cons_zero, List.set_cons_succ]
            refine th_take (i := 4) (v := .int .i64 x.number) rfl (by kernel_rfl) (by kernel_rfl) (by kernel_rfl) (Or.inl ⟨by rfl, fun wz hSw => ?_⟩) hS0 ?_
            · have hq := unhide CX wz hSw
              go_simp
            simp only [Act.put, List.setIfInBounds_toArray, List.set_cons_zero, List.set_cons_succ]
            refine th_take (i := 5) (v := ?_) rfl (by kernel_rfl) (by kernel_rfl) (by kernel_rfl) (Or.inl ⟨by rfl, fun wz hSw => ?_⟩) hS0 ?_
            rotate_left
            · go_simp
              with_reducible rfl
            simp only [Act.put, List.setIfInBounds_toArray, List.set_cons_zero, List.set_cons_succ]
            refine th_take (i := 6) (v := .slice (some ⟨g, oo, none⟩) nC cC) rfl (by kernel_rfl) (by kernel_rfl) (by kernel_rfl) (Or.inl ⟨by rfl, fun wz hSw => ?_⟩) hS0 ?_
            · have hq := unhide CA wz hSw
              go_simp
            simp only [Act.put, List.setIfInBounds_toArray, List.set_cons_zero, List.set_cons_succ]
            refine th_take (i := 7) (v := ?_) rfl (by kernel_rfl) (by kernel_rfl) (by kernel_rfl) (Or.inl ⟨by rfl, fun wz hSw => ?_⟩) hS0 ?_
            rotate_left
            · go_simp
              with_reducible rfl
            simp only [Act.put, List.setIfInBounds_toArray, List.set_cons_zero, List.set_cons_succ]
            refine th_take (i := 8) (v := .int .i64 (m : Int)) rfl (by kernel_rfl) (by kernel_rfl) (by kernel_rfl) (Or.inl ⟨by rfl, fun wz hSw => ?_⟩) hS0 ?_
            · skip
              go_simp
            simp only [Act.put, List.setIfInBounds_toArray, List.set_cons_zero, List.set_cons_succ]
            refine th_take (i := 9) (v := ?_) rfl (by kernel_rfl) (by kernel_rfl) (by kernel_rfl) (Or.inl ⟨by rfl, fun wz hSw => ?_⟩) hS0 ?_
            rotate_left
            · go_simp
              with_reducible rfl
            simp only [Act.put, List.setIfInBounds_toArray, List.set_cons_zero, List.set_cons_succ]
            refine th_take (i := 10) (v := ?_) rfl (by kernel_rfl) (by kernel_rfl) (by kernel_rfl) (Or.inl ⟨by rfl, fun wz hSw => ?_⟩) hS0 ?_
            rotate_left
            · go_simp
              with_reducible rfl
            simp only [Act.put, List.setIfInBounds_toArray, List.set_cons_zero, List.set_cons_succ]
            refine th_take (i := 11) (v := .int .i64 p.number) rfl (by kernel_rfl) (by kernel_rfl) (by kernel_rfl) (Or.inl ⟨by rfl, fun wz hSw => ?_⟩) hS0 ?_
            · have hq := unhide CP wz hSw
              go_simp
            simp only [Act.put, List.setIfInBounds_toArray, List.set_cons_zero, List.set_cons_succ]
            refine th_take (i := 12) (v := .bool t) rfl (by kernel_rfl) (by kernel_rfl) (by kernel_rfl) (Or.inl ⟨by rfl, fun wz hSw => ?_⟩) hS0 ?_
            · have ht := unhide HT
              go_simp
            simp only [Act.put, List.setIfInBounds_toArray, List.set_cons_zero, List.set_cons_succ]
            refine th_take (i := 13) (v := .bool t) rfl (by kernel_rfl) (by kernel_rfl) (by kernel_rfl) (Or.inl ⟨by rfl, fun wz hSw => ?_⟩) hS0 ?_
            · skip
              go_simp
            simp only [Act.put, List.setIfInBounds_toArray, List.set_cons_zero, List.set_cons_succ]
            refine th_take (i := 14) (v := ?_) rfl (by kernel_rfl) (by kernel_rfl) (by kernel_rfl) (Or.inl ⟨by rfl, fun wz hSw => ?_⟩) hS0 ?_
            rotate_left
            · go_simp
              with_reducible rfl
            simp only [Act.put, List.setIfInBounds_toArray, List.set_cons_zero, List.set_cons_succ]
            refine wpAnyH_done (by kernel_rfl) (NoPanic.normal ?_) _
            have B6 : Hid (Below w.heap.size w w5.drew) := hide (unhide B5).drew
            have K6 : Hid (Blk w5.drew w.heap.size 45 #[.slice AU k cU, .slice (some ⟨g, oo, none⟩) nC cC]) := K5
            clear hS0
            cases t with
            | true =>
              obtain rfl : r = 7 := unhide HRK0 7 (unhide HE7 rfl) (by omega)
              go_wp2_with fail
              go_ret
              exact ⟨rfl, unhide B6⟩
            | false =>
              have HNX := hide (unhide HRK1 (unhide HE0 rfl))
              go_wp2_with fail
              go_roundw
              case rel => exact ⟨_, by omega, by go_num, HNX, K6, B6⟩
              case measure => simp [intOf]; omega
        · obtain rfl : q = nC := by omega
          have hz := unhide hrk
          rw [Nat.sub_self] at hz
          obtain rfl : r = 0 := by rw [unhide HRG, ← hz]; rfl
          clear hrk hz
          go_wp2_with fail
          go_ret
          exact ⟨rfl, unhide HB⟩
end Go.Proofs.Ytfbkkmnkpjgciaa
