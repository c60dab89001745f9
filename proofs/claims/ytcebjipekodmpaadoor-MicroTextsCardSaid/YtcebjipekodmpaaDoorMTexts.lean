/- The law MicroTexts, walked: it returns true (printed by wip/gen_texts.py). -/
import Derived.Test.YtcebjipekodmpaaDoorMRFormat
import Derived.Test.YtcebjipekodmpaaDoorMRParse
namespace Go.Proofs.YtcebjipekodmpaaDoor
open Go.RowKit
set_option maxRecDepth 100000 in
set_option maxHeartbeats 4000000 in
theorem texts_walk (w : World) (hsh : w.ShapedOpen Tryd.prog) (s : ByteArray) (hs : s.size ≤ maxLen) (v : Int) (_wv : (Lit.int .i64 v).wf = true) (A : Option Addr) (n c : Nat) (zs : List Int) (_hn : n ≤ c) (_hc : c ≤ maxLen) (hr : Reads w w.heap.size 1 A n (intV zs)) (htab : Lib.TabIs Tryd.prog w "internal/strconv.uint64pow10" .u64 Lib.pow10Tab) :
    Calls Tryd.prog 10 #[.string s, .int .i64 v, .slice A n c] w fun e w' => e = .returned (.bool true) ∧ Below w.heap.size w w' := by
  have HT := hide htab
  have HSH := hide hsh
  clear htab hsh
  unfold maxLen at hs
  by_cases hl0 : s.size ≤ 200
  case neg =>
    have hl1 : 200 < s.size := by omega
    clear hr hl0
    go_enter Tryd.func10, Tryd.ntmps10
    go_wp2_with fail
    refine (awake_any _ (unhide HT)).mono ?_
    rintro e w3 ⟨rfl, hb⟩
    have HB := hide hb
    clear hb
    go_wp2_with fail
    go_ret
    exact ⟨rfl, unhide HB⟩
  by_cases hl : n ≤ 600
  · have HR := hide hr
    have hd : decide (n ≤ 600) = true := by simpa using hl
    have HDC := Lib.hid hd
    clear hr hd
    obtain ⟨sl, hsl⟩ : ∃ sl : List UInt8, s = ⟨sl.toArray⟩ := ⟨s.data.toList, by simp⟩
    subst hsl
    have hsll : sl.length ≤ 200 := by simpa [ByteArray.size] using hl0
    clear hl0 hs
    have hszl := size_list sl 200 hsll
    go_enter Tryd.func10, Tryd.ntmps10
    go_wp2_with fail
    refine (light_at _ A n c true HDC.out).mono ?_; rintro e w' ⟨rfl, rfl⟩; go_wp2_with fail
    refine (roll_at _ A n c).mono ?_; rintro e w' ⟨rfl, rfl⟩; go_wp2_with fail
    obtain ⟨W0, hW0⟩ : ∃ W0, w.alloc (.cells #[.slice A n c, .int .i64 0] 52) = W0 := ⟨_, rfl⟩
    have R0 : Hid (Reads W0 w.heap.size 1 A n (intV zs)) := hide (hW0 ▸ (unhide HR).alloc (Nat.le_refl _) (.cells #[.slice A n c, .int .i64 0] 52))
    have B0 : Hid (Below w.heap.size w W0) := hide (hW0 ▸ (Below.refl w.heap.size w).alloc (Nat.le_refl _) (.cells #[.slice A n c, .int .i64 0] 52))
    have D0 : Hid (Blk W0 w.heap.size 52 #[.slice A n c, .int .i64 ((0 : Nat) : Int)]) := hide (hW0 ▸ Blk.new w _ _)
    rw [hW0]
    clear hW0 HR
    refine (next_at W0 w.heap.size w.heap.size A n c 0 zs 2 (by omega) (by omega) (by omega) hl (unhide D0) (unhide R0) (Nat.le_refl _)).mono ?_
    rintro e W1 ⟨j1, k1, hj1, hk1, rfl, hb, hg⟩
    have R1 := hide ((unhide R0).grown hg (by have := (unhide D0).lt; omega) (fun g' e => by injection e with e; omega))
    have B1 := hide ((unhide B0).grown hg (by have := (unhide D0).lt; omega) (fun g' e => by injection e with e; omega))
    have D1 := hide hb
    clear hb hg
    go_wp2_with fail
    refine (text_at W1 w.heap.size w.heap.size A n c k1 zs _ [45, 48] rfl (by simp) (by simp) j1 (by omega) hk1 hl (unhide D1) (unhide R1) (Nat.le_refl _)).mono ?_
    rintro e W2 ⟨t1, k2, ht1, hk2, rfl, hb, hg⟩
    have R2 := hide ((unhide R1).grown hg (by have := (unhide D1).lt; omega) (fun g' e => by injection e with e; omega))
    have B2 := hide ((unhide B1).grown hg (by have := (unhide D1).lt; omega) (fun g' e => by injection e with e; omega))
    have D2 := hide hb
    clear hb hg
    have hz1 := size_list t1 10 (by omega)
    have hy1 : t1.length ≤ 10 := by omega
    go_wp2_with fail
    refine (next_at W2 w.heap.size w.heap.size A n c k2 zs 9 (by omega) (by omega) hk2 hl (unhide D2) (unhide R2) (Nat.le_refl _)).mono ?_
    rintro e W3 ⟨j2, k3, hj2, hk3, rfl, hb, hg⟩
    have R3 := hide ((unhide R2).grown hg (by have := (unhide D2).lt; omega) (fun g' e => by injection e with e; omega))
    have B3 := hide ((unhide B2).grown hg (by have := (unhide D2).lt; omega) (fun g' e => by injection e with e; omega))
    have D3 := hide hb
    clear hb hg
    go_wp2_with fail
    refine (text_at W3 w.heap.size w.heap.size A n c k3 zs _ [48, 48, 49, 57] rfl (by simp) (by simp) j2 (by omega) hk3 hl (unhide D3) (unhide R3) (Nat.le_refl _)).mono ?_
    rintro e W4 ⟨t2, k4, ht2, hk4, rfl, hb, hg⟩
    have R4 := hide ((unhide R3).grown hg (by have := (unhide D3).lt; omega) (fun g' e => by injection e with e; omega))
    have B4 := hide ((unhide B3).grown hg (by have := (unhide D3).lt; omega) (fun g' e => by injection e with e; omega))
    have D4 := hide hb
    clear hb hg
    have hz2 := size_list t2 10 (by omega)
    have hy2 : t2.length ≤ 10 := by omega
    go_wp2_with fail
    refine (next_at W4 w.heap.size w.heap.size A n c k4 zs 2 (by omega) (by omega) hk4 hl (unhide D4) (unhide R4) (Nat.le_refl _)).mono ?_
    rintro e W5 ⟨j3, k5, hj3, hk5, rfl, hb, hg⟩
    have R5 := hide ((unhide R4).grown hg (by have := (unhide D4).lt; omega) (fun g' e => by injection e with e; omega))
    have B5 := hide ((unhide B4).grown hg (by have := (unhide D4).lt; omega) (fun g' e => by injection e with e; omega))
    have D5 := hide hb
    clear hb hg
    go_wp2_with fail
    refine (text_at W5 w.heap.size w.heap.size A n c k5 zs _ [46] rfl (by simp) (by simp) j3 (by omega) hk5 hl (unhide D5) (unhide R5) (Nat.le_refl _)).mono ?_
    rintro e W6 ⟨t3, k6, ht3, hk6, rfl, hb, hg⟩
    have R6 := hide ((unhide R5).grown hg (by have := (unhide D5).lt; omega) (fun g' e => by injection e with e; omega))
    have B6 := hide ((unhide B5).grown hg (by have := (unhide D5).lt; omega) (fun g' e => by injection e with e; omega))
    have D6 := hide hb
    clear hb hg
    have hz3 := size_list t3 10 (by omega)
    have hy3 : t3.length ≤ 10 := by omega
    go_wp2_with fail
    refine (next_at W6 w.heap.size w.heap.size A n c k6 zs 8 (by omega) (by omega) hk6 hl (unhide D6) (unhide R6) (Nat.le_refl _)).mono ?_
    rintro e W7 ⟨j4, k7, hj4, hk7, rfl, hb, hg⟩
    have R7 := hide ((unhide R6).grown hg (by have := (unhide D6).lt; omega) (fun g' e => by injection e with e; omega))
    have B7 := hide ((unhide B6).grown hg (by have := (unhide D6).lt; omega) (fun g' e => by injection e with e; omega))
    have D7 := hide hb
    clear hb hg
    go_wp2_with fail
    refine (text_at W7 w.heap.size w.heap.size A n c k7 zs _ [48, 53, 120] rfl (by simp) (by simp) j4 (by omega) hk7 hl (unhide D7) (unhide R7) (Nat.le_refl _)).mono ?_
    rintro e W8 ⟨t4, k8, ht4, hk8, rfl, hb, hg⟩
    have R8 := hide ((unhide R7).grown hg (by have := (unhide D7).lt; omega) (fun g' e => by injection e with e; omega))
    have B8 := hide ((unhide B7).grown hg (by have := (unhide D7).lt; omega) (fun g' e => by injection e with e; omega))
    have D8 := hide hb
    clear hb hg
    have hz4 := size_list t4 10 (by omega)
    have hy4 : t4.length ≤ 10 := by omega
    go_wp2_with fail
    obtain ⟨l, hcat⟩ : ∃ l, t1 ++ t2 ++ t3 ++ t4 = l := ⟨_, rfl⟩
    have hll : l.length ≤ 30 := by rw [← hcat]; simp; omega
    rw [cat4 t1 t2 t3 t4 l hcat]
    clear hcat
    have hzl := size_list l 30 hll
    have H9 := hide (Blk.new W8 9 #[.string ⟨sl.toArray⟩, .string ⟨l.toArray⟩])
    have hlt8 := (unhide D8).lt
    have hle8 := (unhide B8).size
    have R9 := hide ((unhide R8).alloc hle8 (.cells #[.string ⟨sl.toArray⟩, .string ⟨l.toArray⟩] 9))
    have B9 := hide ((unhide B8).alloc hle8 (.cells #[.string ⟨sl.toArray⟩, .string ⟨l.toArray⟩] 9))
    have D9 := hide ((unhide D8).alloc (.cells #[.string ⟨sl.toArray⟩, .string ⟨l.toArray⟩] 9))
    have hsz9 : (W8.alloc (.cells #[.string ⟨sl.toArray⟩, .string ⟨l.toArray⟩] 9)).heap.size = W8.heap.size + 1 := size_alloc _ _
    generalize hW9 : W8.alloc (.cells #[.string ⟨sl.toArray⟩, .string ⟨l.toArray⟩] 9) = W9 at H9 R9 B9 D9 hsz9
    have hlt9 : W8.heap.size < W9.heap.size := by omega
    have HBR := hide (Below.refl W9.heap.size W9)
    clear hsz9 hW9
    go_loopw [50] (fun i wr => ∃ k : Nat, k ≤ 2 ∧ i = .int .i64 k ∧ Below W9.heap.size W9 wr) (fun i _ => 2 - (intOf i).toNat)
    case atStart => exact ⟨0, by omega, rfl, unhide HBR⟩
    case round =>
      obtain ⟨k, hk, rfl, hB⟩ := hrel
      have HBW := hide hB
      have hwr := hB.size
      clear hB
      by_cases hlt : k < 2
      · obtain ⟨q, hq, hql⟩ : ∃ q : List UInt8, (#[Value.string ⟨sl.toArray⟩, .string ⟨l.toArray⟩] : Array Value)[k]? = some (.string ⟨q.toArray⟩) ∧ q.length ≤ 200 := by
          have : k = 0 ∨ k = 1 := by omega
          rcases this with rfl | rfl
          · exact ⟨sl, rfl, hsll⟩
          · exact ⟨l, rfl, by omega⟩
        have c0 : wr.cell? ⟨W8.heap.size, k, none⟩ = some (.string ⟨q.toArray⟩) := (((unhide H9).below (unhide HBW) hlt9).cell _).trans hq
        have hzq := size_list q 200 hql
        obtain ⟨⟨pn, pe⟩, hp⟩ : ∃ r, parseF q = r := ⟨_, rfl⟩
        have HP := hide hp
        have HBA := hide ((unhide B9).trans ((unhide HBW).mono (unhide B9).size))
        clear hp hq
        go_wp2_with fail
        refine (parse_at wr (shape_below (unhide HSH) (unhide HBA)) _ q rfl (by omega) _ _ (unhide HP)).mono ?_
        rintro e w9 ⟨rfl, hb⟩
        have B10 := hide ((unhide HBW).trans (hb.mono hwr))
        clear hb
        go_wp2_with fail
        refine (rparse_at _ _ q rfl (by omega) _ _ (unhide HP)).mono ?_
        rintro e w' ⟨rfl, rfl⟩
        go_wp2_with fail
        go_roundw
        case rel => exact ⟨k + 1, by omega, by go_num, unhide B10⟩
        case measure => simp [intOf]; omega
      · obtain rfl : k = 2 := by omega
        have D10 := hide ((unhide D9).below (unhide HBW) (by omega))
        have R10 := hide ((unhide R9).below ((unhide HBW).mono (by omega)))
        have B10 := hide ((unhide B9).trans ((unhide HBW).mono (by omega)))
        go_wp2_with fail
        refine (micro_at wr w.heap.size w.heap.size A n c k8 zs hk8 hl (unhide D10) (unhide R10) (Nat.le_refl _)).mono ?_
        rintro e w11 ⟨y, k11, y1, y2, hk11, rfl, hb2, hg2⟩
        have B11 := hide ((unhide B10).grown hg2 (by omega) (fun g' e => by injection e with e; omega))
        clear hb2 hg2
        obtain ⟨lv, hlv⟩ : ∃ lv, fmtL v = lv := ⟨_, rfl⟩
        obtain ⟨ly, hly⟩ : ∃ ly, fmtL y = ly := ⟨_, rfl⟩
        have hlv20 := fmt_len v
        have hly20 := fmt_len y
        rw [hlv] at hlv20
        rw [hly] at hly20
        have HLV := hide hlv
        have HLY := hide hly
        clear hlv hly
        go_wp2_with fail
        refine (format_at _ (tab_below (unhide HT) (unhide B11)) v lv (unhide HLV)).mono ?_
        rintro e w12 ⟨rfl, hb⟩
        have B12 := hide ((unhide B11).trans (hb.mono (unhide B11).size))
        clear hb
        go_wp2_with fail
        refine (rformat_at _ v lv (unhide HLV)).mono ?_; rintro e w' ⟨rfl, rfl⟩; go_wp2_with fail
        refine (format_at _ (tab_below (unhide HT) (unhide B12)) y ly (unhide HLY)).mono ?_
        rintro e w13 ⟨rfl, hb⟩
        have B13 := hide ((unhide B12).trans (hb.mono (unhide B12).size))
        clear hb
        go_wp2_with fail
        refine (rformat_at _ y ly (unhide HLY)).mono ?_; rintro e w' ⟨rfl, rfl⟩; go_wp2_with fail
        refine (awake_below w w13 0 (unhide HT) (unhide B13)).mono ?_
        rintro e w14 ⟨rfl, hb⟩
        have HB := hide hb
        clear hb
        go_wp2_with fail
        go_ret
        exact ⟨rfl, unhide HB⟩
  · have HDC := Lib.hid (long_light n (by omega))
    have hl1 : s.size ≤ 200 := hl0
    clear hr
    go_enter Tryd.func10, Tryd.ntmps10
    go_wp2_with fail
    refine (light_at _ A n c false HDC.out).mono ?_; rintro e w' ⟨rfl, rfl⟩; go_wp2_with fail
    refine (awake_any _ (unhide HT)).mono ?_
    rintro e w3 ⟨rfl, hb⟩
    have HB := hide hb
    clear hb
    go_wp2_with fail
    go_ret
    exact ⟨rfl, unhide HB⟩
end Go.Proofs.YtcebjipekodmpaaDoor
