/- session.Valid (printed by wip/gen_svalid.py). -/
import Derived.Test.YtfbkkmnkpjgciaaSSess
namespace Go.Proofs.Ytfbkkmnkpjgciaa
open Go.RowKit
set_option maxRecDepth 100000 in
set_option maxHeartbeats 8000000 in
theorem valid_sx (w : World) (A : Option Addr) (n c : Nat) (L : List Sess) (nx : Nat) (h : SessL w w.heap.size A n L) (hnm : n ≤ maxLen) (hnx : nx < 4294967296) (r : Bool) (hr : validF L nx = r) :
    Calls Try.prog 23 #[.agg #[.slice A n c, .int .u32 (nx : Int)]] w fun e w' => e = .returned (.bool r) ∧ Below w.heap.size w w' := by
  have hl := h.len
  unfold validF at hr
  unfold maxLen at hnm
  rw [hl] at hr
  have HB0 := hide ((Below.refl w.heap.size w).alloc (Nat.le_refl _) (.cells #[.slice A n c, .int .u32 (nx : Int)] 53))
  have HK0 := hide (Blk.new w 53 #[.slice A n c, .int .u32 (nx : Int)])
  by_cases h4 : n ≤ 4
  case neg =>
    obtain rfl : false = r := by rw [← hr]; simp; intro h; omega
    have e1 : ((4 : Int) < (n : Int)) = True := by simp; omega
    clear hr hl h
    go_enter Try.func23, Try.ntmps23
    go_wp2_with fail
    go_ret
    exact ⟨rfl, unhide HB0⟩
  have e1 : ((4 : Int) < (n : Int)) = False := by simp; omega
  by_cases h1 : 1 ≤ nx
  case neg =>
    obtain rfl : false = r := by rw [← hr]; simp; intro h; omega
    have e2 : ((nx : Int) < 1) = True := by simp; omega
    clear hr hl h
    go_enter Try.func23, Try.ntmps23
    go_wp2_with fail
    go_ret
    exact ⟨rfl, unhide HB0⟩
  have e2 : ((nx : Int) < 1) = False := by simp; omega
  have hr0 : validG (L.drop 0) nx 0 = r := by rw [← hr]; simp [h4, h1]
  have HR0 := hide hr0
  have HS := hide h
  clear hr hr0 hl h h4 h1
  go_enter Try.func23, Try.ntmps23
  go_wp2_with fail
  go_loopw [3, 18] (fun b i wr => ∃ k bk : Nat, k ≤ n ∧ i = .int .i64 k ∧ b = .int .u32 (bk : Int) ∧ Hid (validG (L.drop k) nx bk = r) ∧ Blk wr w.heap.size 53 #[.slice A n c, .int .u32 (nx : Int)] ∧ Below w.heap.size w wr) (fun _ i _ => n - (intOf i).toNat)
  case atStart => exact ⟨0, 0, by omega, rfl, rfl, HR0, unhide HK0, unhide HB0⟩
  case round =>
    obtain ⟨k, bk, hk, rfl, rfl, hrk, hK, hB⟩ := hrel
    have HK := hide hK
    have HB := hide hB
    clear hK hB
    by_cases hlt : k < n
    · obtain ⟨g, oo, x, rfl, hg, hx, hxo, hrg⟩ := ((unhide HS).below (unhide HB)).at_ hlt
      have hv := validG_drop hx nx bk
      rw [hv] at hrk
      have HRK := hide hrk
      have HX := hide hxo
      have HRG := hide hrg
      have HN := hide (Blk.new wr 84 zSess.cs.toArray)
      have HBn := hide ((unhide HB).alloc (unhide HB).size (.cells zSess.cs.toArray 84))
      have HKn := hide ((unhide HK).alloc (.cells zSess.cs.toArray 84))
      have HRn := hide (World.rangeAt_alloc (unhide HRG) (.cells zSess.cs.toArray 84))
      have hlt2 : (k : Int) < (n : Int) := by omega
      clear hrk hx hxo hrg hv
      go_upto_region 7 with (first
        | (refine wpList_load_mid rfl 84 (.tmp 20) rfl g (oo + k * 26) rfl _ _ (unhide HRG) Try.underlying84 rfl (sess_infoL (unhide HX)) ?_)
        | (refine wpList_alloc_to rfl 84 rfl _ wr.heap.size rfl (alloc_sess _) ?_)
        | (refine wpList_store_blk rfl 84 (.tmp 5) (.tmp 21) rfl wr.heap.size 84 _ x.cs.toArray rfl rfl (unhide HN) (Sess.size_eq (unhide HX)) (sess_info (unhide HX)) (fun v hv => Sess.one v (by simpa using hv)) ?_
           intro w5 hb5 hg5
           have X5 := hide hb5
           have K5 := hide ((unhide HKn).grown hg5 (fun e => by injection e with e; have := (unhide HK).lt; omega))
           have B5 := hide ((unhide HBn).grown hg5 (unhide HBn).size (fun j e => by injection e with e; have := (unhide HB).size; omega))
           clear hb5 hg5)
        | fail)
      have hat := (Sess.blk (unhide HX) (unhide X5))
      have c0 := hat.id
      have c1 := hat.user
      have c2 := hat.level
      have c25 := hat.last
      have c21 := hat.opn
      have c22 := hat.hi
      have c23 := hat.se
      have c24 := hat.out
      have d1 : w5.cell? ⟨w.heap.size, 1, none⟩ = some (.int .u32 (nx : Int)) := (unhide K5).cell 1
      have hux := (unhide HX).user
      have hidx := (unhide HX).id
      have HRK0 : Hid (okX x nx bk = false → false = r) := hide (fun e => by have := unhide HRK; rw [e] at this; exact this)
      have HRK1 : Hid (okX x nx bk = true → validG (L.drop (k + 1)) nx x.id = r) := hide (fun e => by have := unhide HRK; rwa [e, Bool.true_and] at this)
      clear hat HRK HRn HBn HKn HN HRG
      by_cases t1 : bk < x.id
      case neg =>
        have f1 : ((x.id : Int) ≤ (bk : Int)) = True := by simp; omega
        obtain rfl : false = r := unhide HRK0 (by unfold okX; simp [t1])
        go_wp2_with (first
          | (go_at_call 19; refine (name_any _ x.user hux _ (unhide HNM)).mono ?_; rintro e w' ⟨rfl, rfl⟩)
          | (go_at_call 25; refine (level_sx _ x.level _ (unhide HLV)).mono ?_; rintro e w' ⟨rfl, rfl⟩)
          | (go_at_call 24; refine (time_sx _ x.last _ (unhide HTM)).mono ?_; rintro e w' ⟨rfl, rfl⟩)
          | fail)
        go_ret
        exact ⟨rfl, unhide B5⟩
      have f1 : ((x.id : Int) ≤ (bk : Int)) = False := by simp; omega
      by_cases t2 : x.id < nx
      case neg =>
        have f2 : ((nx : Int) ≤ (x.id : Int)) = True := by simp; omega
        obtain rfl : false = r := unhide HRK0 (by unfold okX; simp [t2])
        go_wp2_with (first
          | (go_at_call 19; refine (name_any _ x.user hux _ (unhide HNM)).mono ?_; rintro e w' ⟨rfl, rfl⟩)
          | (go_at_call 25; refine (level_sx _ x.level _ (unhide HLV)).mono ?_; rintro e w' ⟨rfl, rfl⟩)
          | (go_at_call 24; refine (time_sx _ x.last _ (unhide HTM)).mono ?_; rintro e w' ⟨rfl, rfl⟩)
          | fail)
        go_ret
        exact ⟨rfl, unhide B5⟩
      have f2 : ((nx : Int) ≤ (x.id : Int)) = False := by simp; omega
      obtain ⟨t3, ht3⟩ : ∃ b, nameF x.user = b := ⟨_, rfl⟩
      have HNM := hide ht3
      cases t3
      case false =>
        obtain rfl : false = r := unhide HRK0 (by unfold okX; simp [ht3])
        go_wp2_with (first
          | (go_at_call 19; refine (name_any _ x.user hux _ (unhide HNM)).mono ?_; rintro e w' ⟨rfl, rfl⟩)
          | (go_at_call 25; refine (level_sx _ x.level _ (unhide HLV)).mono ?_; rintro e w' ⟨rfl, rfl⟩)
          | (go_at_call 24; refine (time_sx _ x.last _ (unhide HTM)).mono ?_; rintro e w' ⟨rfl, rfl⟩)
          | fail)
        go_ret
        exact ⟨rfl, unhide B5⟩
      obtain ⟨t4, ht4⟩ : ∃ b, decide (1 ≤ x.level ∧ x.level ≤ 3) = b := ⟨_, rfl⟩
      have HLV := hide ht4
      cases t4
      case false =>
        obtain rfl : false = r := unhide HRK0 (by unfold okX; rw [ht4]; simp)
        go_wp2_with (first
          | (go_at_call 19; refine (name_any _ x.user hux _ (unhide HNM)).mono ?_; rintro e w' ⟨rfl, rfl⟩)
          | (go_at_call 25; refine (level_sx _ x.level _ (unhide HLV)).mono ?_; rintro e w' ⟨rfl, rfl⟩)
          | (go_at_call 24; refine (time_sx _ x.last _ (unhide HTM)).mono ?_; rintro e w' ⟨rfl, rfl⟩)
          | fail)
        go_ret
        exact ⟨rfl, unhide B5⟩
      obtain ⟨t5, ht5⟩ : ∃ b, decide (0 ≤ x.last ∧ x.last ≤ 17179869184) = b := ⟨_, rfl⟩
      have HTM := hide ht5
      cases t5
      case false =>
        obtain rfl : false = r := unhide HRK0 (by unfold okX; rw [ht5]; simp)
        go_wp2_with (first
          | (go_at_call 19; refine (name_any _ x.user hux _ (unhide HNM)).mono ?_; rintro e w' ⟨rfl, rfl⟩)
          | (go_at_call 25; refine (level_sx _ x.level _ (unhide HLV)).mono ?_; rintro e w' ⟨rfl, rfl⟩)
          | (go_at_call 24; refine (time_sx _ x.last _ (unhide HTM)).mono ?_; rintro e w' ⟨rfl, rfl⟩)
          | fail)
        go_ret
        exact ⟨rfl, unhide B5⟩
      obtain ⟨t6, ht6⟩ : ∃ b, x.opn = b := ⟨_, rfl⟩
      rw [ht6] at c21
      have HOP := hide ht6
      have HT3 := hide ht3
      clear ht3 ht4 ht5 ht6
      cases t6
      case true =>
        have HNX := hide (unhide HRK1 (by unfold okX; rw [unhide HNM, unhide HLV, unhide HTM, unhide HOP]; simp [t1, t2]))
        go_wp2_with (first
          | (go_at_call 19; refine (name_any _ x.user hux _ (unhide HNM)).mono ?_; rintro e w' ⟨rfl, rfl⟩)
          | (go_at_call 25; refine (level_sx _ x.level _ (unhide HLV)).mono ?_; rintro e w' ⟨rfl, rfl⟩)
          | (go_at_call 24; refine (time_sx _ x.last _ (unhide HTM)).mono ?_; rintro e w' ⟨rfl, rfl⟩)
          | fail)
        go_roundw
        case rel => exact ⟨k + 1, x.id, by omega, by go_num, rfl, HNX, unhide K5, unhide B5⟩
        case measure => simp [intOf]; omega
      by_cases t7 : x.hi = 0
      case neg =>
        obtain rfl : false = r := unhide HRK0 (by unfold okX; rw [unhide HOP]; simp [t7])
        go_wp2_with (first
          | (go_at_call 19; refine (name_any _ x.user hux _ (unhide HNM)).mono ?_; rintro e w' ⟨rfl, rfl⟩)
          | (go_at_call 25; refine (level_sx _ x.level _ (unhide HLV)).mono ?_; rintro e w' ⟨rfl, rfl⟩)
          | (go_at_call 24; refine (time_sx _ x.last _ (unhide HTM)).mono ?_; rintro e w' ⟨rfl, rfl⟩)
          | fail)
        go_ret
        exact ⟨rfl, unhide B5⟩
      by_cases t9 : x.se = 0
      case neg =>
        obtain rfl : false = r := unhide HRK0 (by unfold okX; rw [unhide HOP]; simp [t9])
        go_wp2_with (first
          | (go_at_call 19; refine (name_any _ x.user hux _ (unhide HNM)).mono ?_; rintro e w' ⟨rfl, rfl⟩)
          | (go_at_call 25; refine (level_sx _ x.level _ (unhide HLV)).mono ?_; rintro e w' ⟨rfl, rfl⟩)
          | (go_at_call 24; refine (time_sx _ x.last _ (unhide HTM)).mono ?_; rintro e w' ⟨rfl, rfl⟩)
          | fail)
        go_ret
        exact ⟨rfl, unhide B5⟩
      by_cases t8 : x.out = 0
      case neg =>
        have f8 : ((x.out : Int) != 0) = true := by simp; omega
        obtain rfl : false = r := unhide HRK0 (by unfold okX; rw [unhide HOP]; simp [t8])
        go_wp2_with (first
          | (go_at_call 19; refine (name_any _ x.user hux _ (unhide HNM)).mono ?_; rintro e w' ⟨rfl, rfl⟩)
          | (go_at_call 25; refine (level_sx _ x.level _ (unhide HLV)).mono ?_; rintro e w' ⟨rfl, rfl⟩)
          | (go_at_call 24; refine (time_sx _ x.last _ (unhide HTM)).mono ?_; rintro e w' ⟨rfl, rfl⟩)
          | fail)
        go_ret
        exact ⟨rfl, unhide B5⟩
      have f8 : ((x.out : Int) != 0) = false := by simp; omega
      have HNX := hide (unhide HRK1 (by unfold okX; rw [unhide HNM, unhide HLV, unhide HTM, unhide HOP]; simp [t1, t2, t7, t9, t8]))
      go_wp2_with (first
        | (go_at_call 19; refine (name_any _ x.user hux _ (unhide HNM)).mono ?_; rintro e w' ⟨rfl, rfl⟩)
        | (go_at_call 25; refine (level_sx _ x.level _ (unhide HLV)).mono ?_; rintro e w' ⟨rfl, rfl⟩)
        | (go_at_call 24; refine (time_sx _ x.last _ (unhide HTM)).mono ?_; rintro e w' ⟨rfl, rfl⟩)
        | fail)
      go_roundw
      case rel => exact ⟨k + 1, x.id, by omega, by go_num, rfl, HNX, unhide K5, unhide B5⟩
      case measure => simp [intOf]; omega
    · obtain rfl : k = n := by omega
      have hdr : L.drop k = [] := List.drop_of_length_le (by have := (unhide HS).len; omega)
      have h0 := unhide hrk
      rw [hdr] at h0
      obtain rfl : true = r := h0
      clear hrk hdr
      go_wp2_with fail
      go_ret
      exact ⟨rfl, unhide HB⟩
end Go.Proofs.Ytfbkkmnkpjgciaa
