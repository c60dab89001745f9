/- event.Format returns fmtE (printed by wip/gen_efmt.py). No condition but the table of powers. -/
import Derived.Test.YtklffnfaigmjfaaDoorEValid
import Derived.Test.YtklffnfaigmjfaaDoorEUint
import Derived.Deep.RegionLaw
import Derived.Test.YtklffnfaigmjfaaDoorHHeld
import Derived.Deep.CutRange
namespace Go.Proofs.YtklffnfaigmjfaaDoor
open Go.RowKit
def strV (l : List UInt8) : Value := .string ⟨l.toArray⟩
def hexV (n : Nat) : Value := .int .u8 (hexD n : Int)
theorem hex_idx (h : Nat) (hh : h < 16) (W : World) : (Instr.index 9 (.string ⟨#[48, 49, 50, 51, 52, 53, 54, 55, 56, 57, 97, 98, 99, 100, 101, 102]⟩) (.int .u8 (h : Int))).run Tryd.prog W = .ok (.int .u8 (hexD h : Int)) W :=
  match h, hh with
  | 0, _ => by kernel_rfl
  | 1, _ => by kernel_rfl
  | 2, _ => by kernel_rfl
  | 3, _ => by kernel_rfl
  | 4, _ => by kernel_rfl
  | 5, _ => by kernel_rfl
  | 6, _ => by kernel_rfl
  | 7, _ => by kernel_rfl
  | 8, _ => by kernel_rfl
  | 9, _ => by kernel_rfl
  | 10, _ => by kernel_rfl
  | 11, _ => by kernel_rfl
  | 12, _ => by kernel_rfl
  | 13, _ => by kernel_rfl
  | 14, _ => by kernel_rfl
  | 15, _ => by kernel_rfl
  | n + 16, hh => absurd hh (by omega)
theorem and15 (x : Nat) (hx : x < 256) : bits .and .u8 (x : Int) 15 = ((x % 16 : Nat) : Int) := by
  have h : (List.range 256).all (fun x => bits .and .u8 (x : Int) 15 == ((x % 16 : Nat) : Int)) = true := by decide +kernel
  have := List.all_eq_true.1 h x (List.mem_range.2 hx)
  simpa using this
def FmtS (W3 wr : World) (gD : Nat) (W : World) : Prop := Below W3.heap.size W3 W ∧ W.heap[gD]? = wr.heap[gD]?
theorem reads_blk {w W : World} {B g n : Nat} {xs : List Value} (h : Reads w B 1 (some ⟨g, 0, none⟩) n xs) (he : W.heap[g]? = w.heap[g]?) : Reads W B 1 (some ⟨g, 0, none⟩) n xs :=
  ⟨h.1, fun hn => by
    obtain ⟨ad, e, hb, hc⟩ := h.2 hn
    injection e with e
    subst e
    exact ⟨_, rfl, hb, fun j u hu => (World.cell?_of_block (by rw [block_of_add]; exact he)).trans (hc j u hu)⟩⟩
def Ev.nums (e : Ev) : List Nat := [e.id.toNat, e.tm.toNat, e.gn.toNat, e.st.toNat, e.sn.toNat, e.ty.toNat]
theorem info_str : (Tryd.prog.info? 9).map (fun i => (i.zero, i.size, i.bytes)) = some (some (.string ⟨#[]⟩), 1, 16) := by kernel_rfl
theorem info_u8 : (Tryd.prog.info? 5).map (fun i => (i.zero, i.size, i.bytes)) = some (some (.int .u8 0), 1, 1) := by kernel_rfl
set_option maxHeartbeats 4000000 in
set_option maxRecDepth 100000 in
theorem format_ok (w : World) (htab : Lib.TabIs Tryd.prog w "internal/strconv.uint64pow10" .u64 Lib.pow10Tab) (e : Ev) (he : e.In) (hv : validE e = true) (l : List UInt8) (hl : fmtE e = l) :
    Calls Tryd.prog 25 #[.agg e.c] w fun z w' => z = .returned (.tuple #[.string ⟨l.toArray⟩, .int .i64 0]) ∧ Below w.heap.size w w' := by
  have HFL := hide hl
  clear hl
  have HE := hide he
  have HV := hide hv
  have HVA := hide fun W => valid_any W e true hv
  have h1 := he.id0
  have h2 := he.id1
  have h3 := he.tm0
  have h4 := he.tm1
  have h5 := he.gn0
  have h6 := he.gn1
  have h7 := he.st0
  have h8 := he.st1
  have h9 := he.sn0
  have h10 := he.sn1
  have h11 := he.ty0
  have h12 := he.ty1
  have h13 := he.d00
  have h14 := he.d01
  have h15 := he.d10
  have h16 := he.d11
  have h17 := he.d20
  have h18 := he.d21
  have HT := hide htab
  clear he hv htab
  obtain ⟨id, tm, gn, st, sn, ty, ds, d0, d1, d2⟩ := e
  dsimp only at h1 h2 h3 h4 h5 h6 h7 h8 h9 h10 h11 h12 h13 h14 h15 h16 h17 h18
  obtain ⟨id, rfl⟩ := Int.eq_ofNat_of_zero_le h1
  obtain ⟨tm, rfl⟩ := Int.eq_ofNat_of_zero_le h3
  obtain ⟨gn, rfl⟩ := Int.eq_ofNat_of_zero_le h5
  obtain ⟨st, rfl⟩ := Int.eq_ofNat_of_zero_le h7
  obtain ⟨sn, rfl⟩ := Int.eq_ofNat_of_zero_le h9
  obtain ⟨ty, rfl⟩ := Int.eq_ofNat_of_zero_le h11
  obtain ⟨d0, rfl⟩ := Int.eq_ofNat_of_zero_le h13
  obtain ⟨d1, rfl⟩ := Int.eq_ofNat_of_zero_le h15
  obtain ⟨d2, rfl⟩ := Int.eq_ofNat_of_zero_le h17
  obtain ⟨DD, hDD⟩ : ∃ DD : Nat → Nat, DD = fun k => [d0, d1, d2].getD k 0 := ⟨_, rfl⟩
  have HDD := hide hDD
  clear hDD
  obtain ⟨i0, hi, hz0, hz1, hz2⟩ := info_parts info_str
  have HI := hide hi
  have HI0 := hide hz0
  have HI1 := hide hz1
  have HI2 := hide hz2
  clear hi hz0 hz1 hz2
  obtain ⟨j0, hi, hz0, hz1, hz2⟩ := info_parts info_u8
  have HJ := hide hi
  have HJ0 := hide hz0
  have HJ1 := hide hz1
  have HJ2 := hide hz2
  clear hi hz0 hz1 hz2
  obtain ⟨W3, hW3⟩ : ∃ W3, ((w.alloc (.cells #[.int .u16 id, .int .u32 tm, .int .u16 gn, .int .u8 st, .int .u8 sn, .int .u8 ty, .bool ds, .int .u8 d0, .int .u8 d1, .int .u8 d2] 26)).alloc (.cells #[.int .u16 id, .int .u32 tm, .int .u16 gn, .int .u8 st, .int .u8 sn, .int .u8 ty, .bool ds, .int .u8 d0, .int .u8 d1, .int .u8 d2] 26)).alloc (.cells #[.int .u32 id, .int .u32 tm, .int .u32 gn, .int .u32 st, .int .u32 sn, .int .u32 ty] 23) = W3 := ⟨_, rfl⟩
  have K1 : Hid (Blk W3 w.heap.size 26 #[.int .u16 id, .int .u32 tm, .int .u16 gn, .int .u8 st, .int .u8 sn, .int .u8 ty, .bool ds, .int .u8 d0, .int .u8 d1, .int .u8 d2]) := hide (hW3 ▸ ((Blk.new w _ _).alloc _).alloc _)
  have K3 : Hid (Blk W3 (w.heap.size + 1 + 1) 23 #[.int .u32 id, .int .u32 tm, .int .u32 gn, .int .u32 st, .int .u32 sn, .int .u32 ty]) := hide (hW3 ▸ Blk.new' (by simp))
  have B3 : Hid (Below w.heap.size w W3) := hide (hW3 ▸ (below2 _ _ _).alloc (by simp only [size_alloc]; omega) _)
  have hs3 : W3.heap.size = w.heap.size + 1 + 1 + 1 := by rw [← hW3]; simp only [size_alloc]
  have HS3 := hide hs3
  have HW3 := hide hW3
  clear hW3 hs3
  obtain ⟨N, hN⟩ : ∃ N : Nat → Nat, N = fun k => [id, tm, gn, st, sn, ty].getD k 0 := ⟨_, rfl⟩
  have HN := hide hN
  have hN6 : ∀ k, k < 6 → N k < 4294967296 ∧ W3.cell? ⟨w.heap.size + 1 + 1, k, none⟩ = some (.int .u32 (N k : Int)) := by
    intro k hk
    have hb := (unhide K3).cell k
    rw [hb, hN]
    have : k = 0 ∨ k = 1 ∨ k = 2 ∨ k = 3 ∨ k = 4 ∨ k = 5 := by omega
    rcases this with rfl | rfl | rfl | rfl | rfl | rfl
    · exact ⟨by show id < _; omega, rfl⟩
    · exact ⟨by show tm < _; omega, rfl⟩
    · exact ⟨by show gn < _; omega, rfl⟩
    · exact ⟨by show st < _; omega, rfl⟩
    · exact ⟨by show sn < _; omega, rfl⟩
    · exact ⟨by show ty < _; omega, rfl⟩
  have HN6 := hide hN6
  clear hN hN6
  show Calls Tryd.prog 25 #[.agg #[.int .u16 id, .int .u32 tm, .int .u16 gn, .int .u8 st, .int .u8 sn, .int .u8 ty, .bool ds, .int .u8 d0, .int .u8 d1, .int .u8 d2]] w _
  go_enter Tryd.func25, Tryd.ntmps25
  go_wp2_with fail
  refine (unhide HVA _).mono ?_
  rintro e w1 ⟨rfl, rfl⟩
  simp only [Ev.c]
  go_wp2_with fail
  rw [unhide HW3]
  have B0 := hide (Below.refl W3.heap.size W3)
  go_loopw [4, 33] (fun v i wr => ∃ k : Nat, k ≤ 6 ∧ i = .int .i64 k ∧ wr.ownsRow W3.heap.size 9 1 v k ((List.range k).map fun j => strV (Lib.decDigits (N j))) ∧ Below W3.heap.size W3 wr) (fun _ i _ => 6 - (intOf i).toNat)
  case atStart => exact ⟨0, by omega, rfl, World.ownsRow_nil _ _ _ _, unhide B0⟩
  case round =>
    obtain ⟨k, hk, rfl, hown, hB⟩ := hrel
    have OWN := hide hown
    have BB := hide hB
    clear hown hB
    by_cases hlt : k < 6
    · obtain ⟨n, hn⟩ : ∃ n, N k = n := ⟨_, rfl⟩
      obtain ⟨hn4, hc⟩ := (unhide HN6) k hlt
      rw [hn] at hn4 hc
      have hc2 := ((unhide BB).cell (p := ⟨w.heap.size + 1 + 1, k, none⟩) (by rw [unhide HS3]; show w.heap.size + 1 + 1 < _; omega)).trans hc
      have hltB : w.heap.size + 1 + 1 < wr.heap.size := by have := (unhide BB).size; rw [unhide HS3] at this; omega
      have HNK := hide hn
      have hki : (k : Int) < 6 := by omega
      have hn64 : (n : Int) < 4294967296 := by omega
      have TAB := hide (Go.Joins.tab_stays gPow (unhide HT) ((unhide B3).trans ((unhide BB).mono (unhide B3).size)) (Nat.le_refl _))
      clear hc hn
      go_wp2_with fail
      refine (fmtuint_any n (by omega) _ (unhide TAB)).mono ?_
      rintro e w5 ⟨rfl, hb5⟩
      have OWN5 := hide ((unhide OWN).kept (only_of_below hb5 none) (by cases Value.ownBlock u4 <;> simp))
      have BB5 := hide ((unhide BB).trans (hb5.mono (unhide BB).size))
      have RD : Hid (Reads (w5.alloc (.cells #[strV (Lib.decDigits n)] 9)) (w5.heap.size + 1) 1 (some ⟨w5.heap.size, 0, none⟩) 1 [strV (Lib.decDigits n)]) := hide (by
        have := Reads.of_blk (Blk.new w5 9 [strV (Lib.decDigits n)].toArray) 0 1 (by simp) (by omega : w5.heap.size < w5.heap.size + 1)
        simpa using this)
      clear hb5 hc2
      go_wp2_with (first
        | (at_builtin; refine wpList_append_any (w5.alloc (.cells #[strV (Lib.decDigits n)] 9)) rfl (.tmp 37) (.tmp 41) 59 rfl W3.heap.size 9 i0 (.string ⟨#[]⟩) 1 16 Tryd.underlying59 (unhide HI) (unhide HI0) (unhide HI1) (unhide HI2) rfl (by decide) u4 k _ rfl ((unhide OWN5).alloc _) (w5.heap.size + 1) (some ⟨w5.heap.size, 0, none⟩) 1 1 [strV (Lib.decDigits n)] rfl (unhide RD) (by intro u hu; simp at hu; subst hu; rfl) (by unfold maxLen; omega) (by omega) (by have := (unhide BB5).size; rw [size_alloc]; omega) ?_
           intro v6 w6 hown6 hgr6 _
           have OWN6 := hide hown6
           have BB6 := hide (((unhide BB5).alloc (unhide BB5).size (.cells #[strV (Lib.decDigits n)] 9)).grown hgr6 (by have := (unhide BB5).size; rw [size_alloc]; omega) (fun g e => ((unhide OWN5).lt g e).1))
           clear hown6 hgr6)
        | fail)
      go_roundw
      case rel => exact ⟨k + 1, by omega, by go_num, by rw [List.range_succ, List.map_append, List.map_singleton, unhide HNK]; exact unhide OWN6, unhide BB6⟩
      case measure => simp [intOf]; omega
    · have hk6 : k = 6 := by omega
      have HK6 := hide hk6
      have hki : ((k : Int) < 6) = False := by simp; omega
      clear hk6 hlt hk
      have OWNP : Hid (wr.ownsRow W3.heap.size 9 1 u4 6 ([id, tm, gn, st, sn, ty].map fun n => strV (Lib.decDigits n))) := hide (by
        have := unhide OWN
        rw [unhide HK6] at this
        rw [unhide HN] at this
        exact this)
      have KB := hide ((unhide K1).below (unhide BB) (unhide K1).lt)
      have q6 : wr.cell? ⟨w.heap.size, 6, none⟩ = some (.bool ds) := (unhide KB).cell 6
      have q7 : wr.cell? ⟨w.heap.size, 7, none⟩ = some (.int .u8 d0) := (unhide KB).cell 7
      have q8 : wr.cell? ⟨w.heap.size, 8, none⟩ = some (.int .u8 d1) := (unhide KB).cell 8
      have q9 : wr.cell? ⟨w.heap.size, 9, none⟩ = some (.int .u8 d2) := (unhide KB).cell 9
      have hlw := (unhide KB).lt
      obtain ⟨wo, hwo⟩ : ∃ wo, wo = wr := ⟨_, rfl⟩
      subst hwo
      go_upto_region 9 with fail
      go_upto_region 10 with fail
      cases ds
      · go_upto_region 12 with fail
        go_wp2_with fail
        clear q6 q7 q8 q9
        have hd3 : ∀ j : Nat, j < 3 → ∀ W, (Instr.index 24 (.agg #[.int .u8 d0, .int .u8 d1, .int .u8 d2]) (.int .i64 (j : Int))).run Tryd.prog W = .ok (.int .u8 (DD j : Int)) W ∧ DD j < 256 := by
          intro j hj W
          rw [unhide HDD]
          have : j = 0 ∨ j = 1 ∨ j = 2 := by omega
          rcases this with rfl | rfl | rfl
          · exact ⟨by kernel_rfl, by show d0 < 256; omega⟩
          · exact ⟨by kernel_rfl, by show d1 < 256; omega⟩
          · exact ⟨by kernel_rfl, by show d2 < 256; omega⟩
        have HD3 := hide hd3
        have B1 := hide (Below.refl wo.heap.size wo)
        clear hd3
        go_loopw [8, 48] (fun v i wr => ∃ j : Nat, j ≤ 3 ∧ i = .int .i64 j ∧ wr.ownsRow wo.heap.size 5 1 v (2 * j) ((List.range j).flatMap fun q => [hexV (DD q / 16), hexV (DD q % 16)]) ∧ Below wo.heap.size wo wr) (fun _ i _ => 3 - (intOf i).toNat)
        case atStart => exact ⟨0, by omega, rfl, World.ownsRow_nil _ _ _ _, unhide B1⟩
        case round =>
          obtain ⟨j, hj, rfl, hown, hB⟩ := hrel
          have OWD := hide hown
          have BD := hide hB
          clear hown hB
          by_cases hlt : j < 3
          · obtain ⟨x, hx⟩ : ∃ x, DD j = x := ⟨_, rfl⟩
            have hidx := fun W => ((unhide HD3) j hlt W).1
            have hx256 := ((unhide HD3) j hlt w).2
            rw [hx] at hx256
            simp only [hx] at hidx
            have HX := hide hx
            have hj3 : (j : Int) < 3 := by omega
            clear hx
            go_upto_region 16 with fail
            obtain ⟨hi, hhi⟩ : ∃ hi, x / 16 = hi := ⟨_, rfl⟩
            obtain ⟨lo, hlo⟩ : ∃ lo, x % 16 = lo := ⟨_, rfl⟩
            have hh16 : hi < 16 := by omega
            have hl16 : lo < 16 := by omega
            have i0' : (x : Int) / 16 = (hi : Int) := by omega
            have i2 : bits .and .u8 (x : Int) 15 = (lo : Int) := by rw [and15 x hx256, hlo]
            have i1 := hex_idx hi hh16
            have i3 := hex_idx lo hl16
            have HHI := hide hhi
            have HLO := hide hlo
            clear hhi hlo
            have RD2 : Hid (∀ W : World, Reads (W.alloc (.cells #[.int .u8 (hexD hi : Int), .int .u8 (hexD lo : Int)] 5)) (W.heap.size + 1) 1 (some ⟨W.heap.size, 0, none⟩) 2 [.int .u8 (hexD hi : Int), .int .u8 (hexD lo : Int)]) := hide (fun W => by
              have := Reads.of_blk (Blk.new W 5 [.int .u8 (hexD hi : Int), .int .u8 (hexD lo : Int)].toArray) 0 2 (by simp) (by omega : W.heap.size < W.heap.size + 1)
              simpa using this)
            go_region_law ((refine step_append_any (wr.drew.alloc (.cells #[.int .u8 (hexD hi : Int), .int .u8 (hexD lo : Int)] 5)) rfl (.tmp 51) (.tmp 58) 45 rfl wo.heap.size 5 j0 (.int .u8 0) 1 1 Tryd.underlying45 (unhide HJ) (unhide HJ0) (unhide HJ1) (unhide HJ2) rfl (by decide) u8 (2 * j) _ rfl ((unhide OWD).alloc _) (wr.heap.size + 1) (some ⟨wr.heap.size, 0, none⟩) 2 2 [.int .u8 (hexD hi : Int), .int .u8 (hexD lo : Int)] rfl (unhide RD2 wr.drew) (by intro u hu; simp at hu; rcases hu with rfl | rfl <;> rfl) (by unfold maxLen; omega) (by omega) (by have := (unhide BD).size; rw [size_alloc]; show _ ≤ wr.heap.size + 1; omega) ?_; intro v7 w7 hown7 hgr7 _))
            all_goals
              have OWD7 := hide hown7
              have BD7 := hide (((unhide BD).drew.alloc (unhide BD).size (.cells #[.int .u8 (hexD hi : Int), .int .u8 (hexD lo : Int)] 5)).grown hgr7 (by have := (unhide BD).size; rw [size_alloc]; show _ ≤ wr.heap.size + 1; omega) (fun g e => ((unhide OWD).lt g e).1))
              clear hown7 hgr7 i0' i1 i2 i3 hidx
              go_wp2_with fail
              exact ⟨⟨j + 1, by omega, by go_num, by rw [List.range_succ, List.flatMap_append, List.flatMap_singleton, unhide HX, hexV, hexV, unhide HHI, unhide HLO]; exact unhide OWD7, unhide BD7⟩, by simp [intOf]; omega⟩
          · have hj3 : j = 3 := by omega
            have HJ3 := hide hj3
            have hjf : ((j : Int) < 3) = False := by simp; omega
            clear hj3 hlt hj
            have OWN8 := hide ((unhide OWNP).kept (only_of_below (unhide BD) none) (by cases Value.ownBlock u4 <;> simp))
            have OWD3 : wr.ownsRow wo.heap.size 5 1 u8 6 (bsV (dataL d0 d1 d2)) := by
              have h := unhide OWD
              rw [unhide HJ3, unhide HDD] at h
              have e : ((List.range 3).flatMap fun q => [hexV ((fun k => [d0, d1, d2].getD k 0) q / 16), hexV ((fun k => [d0, d1, d2].getD k 0) q % 16)]) = bsV (dataL d0 d1 d2) := by
                have a0 := hexB_val (d0 / 16) (by omega)
                have a1 := hexB_val (d0 % 16) (by omega)
                have a2 := hexB_val (d1 / 16) (by omega)
                have a3 := hexB_val (d1 % 16) (by omega)
                have a4 := hexB_val (d2 / 16) (by omega)
                have a5 := hexB_val (d2 % 16) (by omega)
                simp only [bsV, dataL, List.map_cons, List.map_nil, a0, a1, a2, a3, a4, a5]
                rfl
              rw [e] at h
              exact h
            obtain ⟨gD, cD, hu8, hgD0, hgD⟩ := OWD3.form (by omega)
            subst hu8
            have RDD : Hid (Reads wr wr.heap.size 1 (some ⟨gD, 0, none⟩) 6 (bsV (dataL d0 d1 d2))) := hide (Reads.of_own OWD3)
            have hgDu : Value.ownBlock u4 ≠ some gD := by
              intro e
              have := ((unhide OWNP).lt gD e).2
              omega
            have B9 := hide ((unhide BB).trans ((unhide BD).mono (unhide BB).size))
            have hk5 : w.heap.size < W3.heap.size := (unhide K1).lt
            have c5 : Hid (W3.cell? ⟨w.heap.size, 5, none⟩ = some (.int .u8 (ty : Int))) := hide ((unhide K1).cell 5)
            obtain ⟨WL, hWL⟩ : ∃ WL, wordL (ty : Int) = WL := ⟨_, rfl⟩
            have hWLl : WL.length ≤ 9 := by rw [← hWL]; exact wordL_len _
            have HWL := hide hWL
            have hfin : Lib.join ([(⟨(Lib.decDigits id).toArray⟩ : ByteArray), ⟨(Lib.decDigits tm).toArray⟩, ⟨(Lib.decDigits gn).toArray⟩, ⟨(Lib.decDigits st).toArray⟩, ⟨(Lib.decDigits sn).toArray⟩, ⟨(Lib.decDigits ty).toArray⟩, ⟨#[43]⟩, ⟨(dataL d0 d1 d2).toArray⟩, ⟨WL.toArray⟩].map (·.data.toList)) (⟨#[32]⟩ : ByteArray).data.toList = l := by
              have h := unhide HFL
              unfold fmtE partsE at h
              simp only [Int.toNat_natCast] at h
              rw [unhide HWL] at h
              exact h
            have HFIN := hide hfin
            have hlen : (Lib.join ([(⟨(Lib.decDigits id).toArray⟩ : ByteArray), ⟨(Lib.decDigits tm).toArray⟩, ⟨(Lib.decDigits gn).toArray⟩, ⟨(Lib.decDigits st).toArray⟩, ⟨(Lib.decDigits sn).toArray⟩, ⟨(Lib.decDigits ty).toArray⟩, ⟨#[43]⟩, ⟨(dataL d0 d1 d2).toArray⟩, ⟨WL.toArray⟩].map (·.data.toList)) (⟨#[32]⟩ : ByteArray).data.toList).length ≤ 140737488355328 := by
              have l0 := dd_len32 id (by omega)
              have l1 := dd_len32 tm (by omega)
              have l2 := dd_len32 gn (by omega)
              have l3 := dd_len32 st (by omega)
              have l4 := dd_len32 sn (by omega)
              have l5 := dd_len32 ty (by omega)
              simp [Lib.join, List.intercalate, dataL]
              omega
            have HLEN := hide hlen
            clear hWL hfin hlen OWD3
            have RD3 : Hid (∀ W : World, Reads (W.alloc (.cells #[.string ⟨#[43]⟩, .string ⟨(dataL d0 d1 d2).toArray⟩, .string ⟨WL.toArray⟩] 9)) (W.heap.size + 1) 1 (some ⟨W.heap.size, 0, none⟩) 3 [.string ⟨#[43]⟩, .string ⟨(dataL d0 d1 d2).toArray⟩, .string ⟨WL.toArray⟩]) := hide (fun W => by
              have := Reads.of_blk (Blk.new W 9 ([.string ⟨#[43]⟩, .string ⟨(dataL d0 d1 d2).toArray⟩, .string ⟨WL.toArray⟩] : List Value).toArray) 0 3 (by simp) (by omega : W.heap.size < W.heap.size + 1)
              simpa using this)
            go_upto_region 18 with fail
            have hS0 : FmtS W3 wr gD wr.drew := ⟨(unhide B9).drew, rfl⟩
            refine wp_region_noPanic (wp_region_held_drew (S := FmtS W3 wr gD) (by kernel_rfl) hS0 (fun _ => ?_))
            refine th_take (i := 0) (v := ?_) rfl (by kernel_rfl) (by kernel_rfl) (by kernel_rfl) (Or.inl ⟨by rfl, fun wz hSw => ?_⟩) hS0 ?_
            rotate_left
            · go_simp
              with_reducible rfl
            simp only [Act.put, List.setIfInBounds_toArray, List.set_cons_zero, List.set_cons_succ]
            refine th_take (i := 1) (v := ?_) rfl (by kernel_rfl) (by kernel_rfl) (by kernel_rfl) (Or.inl ⟨by rfl, fun wz hSw => ?_⟩) hS0 ?_
            rotate_left
            · go_simp
              with_reducible rfl
            simp only [Act.put, List.setIfInBounds_toArray, List.set_cons_zero, List.set_cons_succ]
            refine th_take (i := 2) (v := ?_) rfl (by kernel_rfl) (by kernel_rfl) (by kernel_rfl) (Or.inl ⟨by rfl, fun wz hSw => ?_⟩) hS0 ?_
            rotate_left
            · go_simp
              with_reducible rfl
            simp only [Act.put, List.setIfInBounds_toArray, List.set_cons_zero, List.set_cons_succ]
            refine th_take (i := 3) rfl (by kernel_rfl) (by kernel_rfl) (by kernel_rfl) (y_conv 45 9 5 (.tmp 63) (by rfl) rfl (some ⟨gD, 0, none⟩) 6 cD rfl wr.heap.size (dataL d0 d1 d2) (fun W hW => reads_blk (unhide RDD) hW.2) Tryd.underlying45 Tryd.underlying5 Tryd.underlying9) hS0 ?_
            simp only [Act.put, List.setIfInBounds_toArray, List.set_cons_zero, List.set_cons_succ]
            refine th_take (i := 4) (v := ?_) rfl (by kernel_rfl) (by kernel_rfl) (by kernel_rfl) (Or.inl ⟨by rfl, fun wz hSw => ?_⟩) hS0 ?_
            rotate_left
            · go_simp
              with_reducible rfl
            simp only [Act.put, List.setIfInBounds_toArray, List.set_cons_zero, List.set_cons_succ]
            refine th_take (i := 5) (v := .int .u8 (ty : Int)) rfl (by kernel_rfl) (by kernel_rfl) (by kernel_rfl) (Or.inl ⟨by rfl, fun wz hSw => ?_⟩) hS0 ?_
            · have hc := (hSw.1.cell (p := ⟨w.heap.size, _, none⟩) hk5).trans (unhide c5)
              go_simp
            simp only [Act.put, List.setIfInBounds_toArray, List.set_cons_zero, List.set_cons_succ]
            refine th_one (i := 6) rfl (by kernel_rfl) (fun K hK => ?_)
            rw [if_pos (by rfl)]
            go_simp
            refine (word_any _ (ty : Int) WL (unhide HWL)).mono ?_
            rintro e w5 ⟨rfl, rfl⟩
            refine hK.out _ _ hS0 (fun _ => ?_)
            clear hK K
            try simp only [Act.put, List.setIfInBounds_toArray, List.set_cons_zero, List.set_cons_succ]
            refine th_one (i := 7) rfl (by kernel_rfl) (fun K hK => ?_)
            rw [if_pos (by rfl)]
            go_simp
            have hS1 : FmtS W3 wr gD (wr.drew.alloc (.cells #[.string ⟨#[43]⟩, .string ⟨(dataL d0 d1 d2).toArray⟩, .string ⟨WL.toArray⟩] 9)) := ⟨hS0.1.alloc hS0.1.size _, Below.heap_alloc wr.drew _ gD hgD⟩
            refine hK.out _ _ hS1 (fun _ => ?_)
            clear hK K
            try simp only [Act.put, List.setIfInBounds_toArray, List.set_cons_zero, List.set_cons_succ]
            refine th_one (i := 8) rfl (by kernel_rfl) (fun K hK => ?_)
            refine step_append_any (wr.drew.alloc (.cells #[.string ⟨#[43]⟩, .string ⟨(dataL d0 d1 d2).toArray⟩, .string ⟨WL.toArray⟩] 9)) rfl (.tmp 61) (.tmp 68) 59 rfl W3.heap.size 9 i0 (.string ⟨#[]⟩) 1 16 Tryd.underlying59 (unhide HI) (unhide HI0) (unhide HI1) (unhide HI2) rfl (by decide) u4 6 _ rfl ((unhide OWN8).alloc _) (wr.heap.size + 1) (some ⟨wr.heap.size, 0, none⟩) 3 3 [.string ⟨#[43]⟩, .string ⟨(dataL d0 d1 d2).toArray⟩, .string ⟨WL.toArray⟩] rfl (unhide RD3 wr.drew) (by intro u hu; simp at hu; rcases hu with rfl | rfl | rfl <;> rfl) (by unfold maxLen; omega) (by omega) (by have := (unhide B9).size; rw [size_alloc]; show _ ≤ wr.heap.size + 1; omega) ?_
            intro v9 w9 hown9 hgr9 _
            have hS9 : FmtS W3 wr gD w9 := ⟨hS1.1.grown hgr9 hS1.1.size (fun g e => ((unhide OWN8).lt g e).1), (hgr9.block gD (by rw [size_alloc]; show gD < wr.heap.size + 1; omega) (fun e => hgDu e.symm)).trans hS1.2⟩
            refine hK.out _ _ hS9 (fun _ => ?_)
            clear hK K
            try simp only [Act.put, List.setIfInBounds_toArray, List.set_cons_zero, List.set_cons_succ]
            obtain ⟨gP, cP, hv9, _, hgP⟩ := hown9.form (by omega)
            subst hv9
            have hcP : 9 ≤ cP := by
              rcases hown9.2 with ⟨h, _⟩ | ⟨g, cap, cur, h, _, _, hnc, _⟩
              · cases h
              · injection h with _ _ h; omega
            refine th_one (i := 9) rfl (by kernel_rfl) (fun K hK => ?_)
            rw [if_pos (by rfl)]
            go_simp
            refine (Tryd.strings_Join gP 0 cP [(⟨(Lib.decDigits id).toArray⟩ : ByteArray), ⟨(Lib.decDigits tm).toArray⟩, ⟨(Lib.decDigits gn).toArray⟩, ⟨(Lib.decDigits st).toArray⟩, ⟨(Lib.decDigits sn).toArray⟩, ⟨(Lib.decDigits ty).toArray⟩, ⟨#[43]⟩, ⟨(dataL d0 d1 d2).toArray⟩, ⟨WL.toArray⟩] ⟨#[32]⟩ w9 (fun j x hx => by
              have h1 := hown9.cells rfl j (.string x) (by
                show (([(⟨(Lib.decDigits id).toArray⟩ : ByteArray), ⟨(Lib.decDigits tm).toArray⟩, ⟨(Lib.decDigits gn).toArray⟩, ⟨(Lib.decDigits st).toArray⟩, ⟨(Lib.decDigits sn).toArray⟩, ⟨(Lib.decDigits ty).toArray⟩, ⟨#[43]⟩, ⟨(dataL d0 d1 d2).toArray⟩, ⟨WL.toArray⟩].map Value.string)[j]?) = some (.string x)
                rw [List.getElem?_map, hx]; rfl)
              rwa [add_mk] at h1) hgP (by simp) hcP (unhide HLEN)).mono ?_
            rintro e w10 ⟨rfl, hb10⟩
            have hS10 : FmtS W3 wr gD w10 := ⟨hS9.1.trans (hb10.mono hS9.1.size), (hb10.block gD (by have := hgr9.size; rw [size_alloc] at this; have : wr.heap.size + 1 ≤ w9.heap.size := this; omega)).trans hS9.2⟩
            refine hK.out _ _ hS10 (fun _ => ?_)
            clear hK K
            refine th_take (i := 10) (v := ?_) rfl (by kernel_rfl) (by kernel_rfl) (by kernel_rfl) (Or.inl ⟨by rfl, fun wz hSw => ?_⟩) hS10 ?_
            rotate_left
            · go_simp
              with_reducible rfl
            simp only [Act.put, List.setIfInBounds_toArray, List.set_cons_zero, List.set_cons_succ]
            refine th_take (i := 11) (v := ?_) rfl (by kernel_rfl) (by kernel_rfl) (by kernel_rfl) (Or.inl ⟨by rfl, fun wz hSw => ?_⟩) hS10 ?_
            rotate_left
            · go_simp
              with_reducible rfl
            simp only [Act.put, List.setIfInBounds_toArray, List.set_cons_zero, List.set_cons_succ]
            refine wpAnyH_done (by kernel_rfl) (NoPanic.normal ?_) _
            go_wp2_with fail
            go_ret2
            exact ⟨by rw [← unhide HFIN]; rfl, (unhide B3).trans (hS10.1.mono (unhide B3).size)⟩
      · go_upto_region 12 with fail
        go_wp2_with fail
        clear q6 q7 q8 q9
        have hd3 : ∀ j : Nat, j < 3 → ∀ W, (Instr.index 24 (.agg #[.int .u8 d0, .int .u8 d1, .int .u8 d2]) (.int .i64 (j : Int))).run Tryd.prog W = .ok (.int .u8 (DD j : Int)) W ∧ DD j < 256 := by
          intro j hj W
          rw [unhide HDD]
          have : j = 0 ∨ j = 1 ∨ j = 2 := by omega
          rcases this with rfl | rfl | rfl
          · exact ⟨by kernel_rfl, by show d0 < 256; omega⟩
          · exact ⟨by kernel_rfl, by show d1 < 256; omega⟩
          · exact ⟨by kernel_rfl, by show d2 < 256; omega⟩
        have HD3 := hide hd3
        have B1 := hide (Below.refl wo.heap.size wo)
        clear hd3
        go_loopw [8, 48] (fun v i wr => ∃ j : Nat, j ≤ 3 ∧ i = .int .i64 j ∧ wr.ownsRow wo.heap.size 5 1 v (2 * j) ((List.range j).flatMap fun q => [hexV (DD q / 16), hexV (DD q % 16)]) ∧ Below wo.heap.size wo wr) (fun _ i _ => 3 - (intOf i).toNat)
        case atStart => exact ⟨0, by omega, rfl, World.ownsRow_nil _ _ _ _, unhide B1⟩
        case round =>
          obtain ⟨j, hj, rfl, hown, hB⟩ := hrel
          have OWD := hide hown
          have BD := hide hB
          clear hown hB
          by_cases hlt : j < 3
          · obtain ⟨x, hx⟩ : ∃ x, DD j = x := ⟨_, rfl⟩
            have hidx := fun W => ((unhide HD3) j hlt W).1
            have hx256 := ((unhide HD3) j hlt w).2
            rw [hx] at hx256
            simp only [hx] at hidx
            have HX := hide hx
            have hj3 : (j : Int) < 3 := by omega
            clear hx
            go_upto_region 16 with fail
            obtain ⟨hi, hhi⟩ : ∃ hi, x / 16 = hi := ⟨_, rfl⟩
            obtain ⟨lo, hlo⟩ : ∃ lo, x % 16 = lo := ⟨_, rfl⟩
            have hh16 : hi < 16 := by omega
            have hl16 : lo < 16 := by omega
            have i0' : (x : Int) / 16 = (hi : Int) := by omega
            have i2 : bits .and .u8 (x : Int) 15 = (lo : Int) := by rw [and15 x hx256, hlo]
            have i1 := hex_idx hi hh16
            have i3 := hex_idx lo hl16
            have HHI := hide hhi
            have HLO := hide hlo
            clear hhi hlo
            have RD2 : Hid (∀ W : World, Reads (W.alloc (.cells #[.int .u8 (hexD hi : Int), .int .u8 (hexD lo : Int)] 5)) (W.heap.size + 1) 1 (some ⟨W.heap.size, 0, none⟩) 2 [.int .u8 (hexD hi : Int), .int .u8 (hexD lo : Int)]) := hide (fun W => by
              have := Reads.of_blk (Blk.new W 5 [.int .u8 (hexD hi : Int), .int .u8 (hexD lo : Int)].toArray) 0 2 (by simp) (by omega : W.heap.size < W.heap.size + 1)
              simpa using this)
            go_region_law ((refine step_append_any (wr.drew.alloc (.cells #[.int .u8 (hexD hi : Int), .int .u8 (hexD lo : Int)] 5)) rfl (.tmp 51) (.tmp 58) 45 rfl wo.heap.size 5 j0 (.int .u8 0) 1 1 Tryd.underlying45 (unhide HJ) (unhide HJ0) (unhide HJ1) (unhide HJ2) rfl (by decide) u8 (2 * j) _ rfl ((unhide OWD).alloc _) (wr.heap.size + 1) (some ⟨wr.heap.size, 0, none⟩) 2 2 [.int .u8 (hexD hi : Int), .int .u8 (hexD lo : Int)] rfl (unhide RD2 wr.drew) (by intro u hu; simp at hu; rcases hu with rfl | rfl <;> rfl) (by unfold maxLen; omega) (by omega) (by have := (unhide BD).size; rw [size_alloc]; show _ ≤ wr.heap.size + 1; omega) ?_; intro v7 w7 hown7 hgr7 _))
            all_goals
              have OWD7 := hide hown7
              have BD7 := hide (((unhide BD).drew.alloc (unhide BD).size (.cells #[.int .u8 (hexD hi : Int), .int .u8 (hexD lo : Int)] 5)).grown hgr7 (by have := (unhide BD).size; rw [size_alloc]; show _ ≤ wr.heap.size + 1; omega) (fun g e => ((unhide OWD).lt g e).1))
              clear hown7 hgr7 i0' i1 i2 i3 hidx
              go_wp2_with fail
              exact ⟨⟨j + 1, by omega, by go_num, by rw [List.range_succ, List.flatMap_append, List.flatMap_singleton, unhide HX, hexV, hexV, unhide HHI, unhide HLO]; exact unhide OWD7, unhide BD7⟩, by simp [intOf]; omega⟩
          · have hj3 : j = 3 := by omega
            have HJ3 := hide hj3
            have hjf : ((j : Int) < 3) = False := by simp; omega
            clear hj3 hlt hj
            have OWN8 := hide ((unhide OWNP).kept (only_of_below (unhide BD) none) (by cases Value.ownBlock u4 <;> simp))
            have OWD3 : wr.ownsRow wo.heap.size 5 1 u8 6 (bsV (dataL d0 d1 d2)) := by
              have h := unhide OWD
              rw [unhide HJ3, unhide HDD] at h
              have e : ((List.range 3).flatMap fun q => [hexV ((fun k => [d0, d1, d2].getD k 0) q / 16), hexV ((fun k => [d0, d1, d2].getD k 0) q % 16)]) = bsV (dataL d0 d1 d2) := by
                have a0 := hexB_val (d0 / 16) (by omega)
                have a1 := hexB_val (d0 % 16) (by omega)
                have a2 := hexB_val (d1 / 16) (by omega)
                have a3 := hexB_val (d1 % 16) (by omega)
                have a4 := hexB_val (d2 / 16) (by omega)
                have a5 := hexB_val (d2 % 16) (by omega)
                simp only [bsV, dataL, List.map_cons, List.map_nil, a0, a1, a2, a3, a4, a5]
                rfl
              rw [e] at h
              exact h
            obtain ⟨gD, cD, hu8, hgD0, hgD⟩ := OWD3.form (by omega)
            subst hu8
            have RDD : Hid (Reads wr wr.heap.size 1 (some ⟨gD, 0, none⟩) 6 (bsV (dataL d0 d1 d2))) := hide (Reads.of_own OWD3)
            have hgDu : Value.ownBlock u4 ≠ some gD := by
              intro e
              have := ((unhide OWNP).lt gD e).2
              omega
            have B9 := hide ((unhide BB).trans ((unhide BD).mono (unhide BB).size))
            have hk5 : w.heap.size < W3.heap.size := (unhide K1).lt
            have c5 : Hid (W3.cell? ⟨w.heap.size, 5, none⟩ = some (.int .u8 (ty : Int))) := hide ((unhide K1).cell 5)
            obtain ⟨WL, hWL⟩ : ∃ WL, wordL (ty : Int) = WL := ⟨_, rfl⟩
            have hWLl : WL.length ≤ 9 := by rw [← hWL]; exact wordL_len _
            have HWL := hide hWL
            have hfin : Lib.join ([(⟨(Lib.decDigits id).toArray⟩ : ByteArray), ⟨(Lib.decDigits tm).toArray⟩, ⟨(Lib.decDigits gn).toArray⟩, ⟨(Lib.decDigits st).toArray⟩, ⟨(Lib.decDigits sn).toArray⟩, ⟨(Lib.decDigits ty).toArray⟩, ⟨#[45]⟩, ⟨(dataL d0 d1 d2).toArray⟩, ⟨WL.toArray⟩].map (·.data.toList)) (⟨#[32]⟩ : ByteArray).data.toList = l := by
              have h := unhide HFL
              unfold fmtE partsE at h
              simp only [Int.toNat_natCast] at h
              rw [unhide HWL] at h
              exact h
            have HFIN := hide hfin
            have hlen : (Lib.join ([(⟨(Lib.decDigits id).toArray⟩ : ByteArray), ⟨(Lib.decDigits tm).toArray⟩, ⟨(Lib.decDigits gn).toArray⟩, ⟨(Lib.decDigits st).toArray⟩, ⟨(Lib.decDigits sn).toArray⟩, ⟨(Lib.decDigits ty).toArray⟩, ⟨#[45]⟩, ⟨(dataL d0 d1 d2).toArray⟩, ⟨WL.toArray⟩].map (·.data.toList)) (⟨#[32]⟩ : ByteArray).data.toList).length ≤ 140737488355328 := by
              have l0 := dd_len32 id (by omega)
              have l1 := dd_len32 tm (by omega)
              have l2 := dd_len32 gn (by omega)
              have l3 := dd_len32 st (by omega)
              have l4 := dd_len32 sn (by omega)
              have l5 := dd_len32 ty (by omega)
              simp [Lib.join, List.intercalate, dataL]
              omega
            have HLEN := hide hlen
            clear hWL hfin hlen OWD3
            have RD3 : Hid (∀ W : World, Reads (W.alloc (.cells #[.string ⟨#[45]⟩, .string ⟨(dataL d0 d1 d2).toArray⟩, .string ⟨WL.toArray⟩] 9)) (W.heap.size + 1) 1 (some ⟨W.heap.size, 0, none⟩) 3 [.string ⟨#[45]⟩, .string ⟨(dataL d0 d1 d2).toArray⟩, .string ⟨WL.toArray⟩]) := hide (fun W => by
              have := Reads.of_blk (Blk.new W 9 ([.string ⟨#[45]⟩, .string ⟨(dataL d0 d1 d2).toArray⟩, .string ⟨WL.toArray⟩] : List Value).toArray) 0 3 (by simp) (by omega : W.heap.size < W.heap.size + 1)
              simpa using this)
            go_upto_region 18 with fail
            have hS0 : FmtS W3 wr gD wr.drew := ⟨(unhide B9).drew, rfl⟩
            refine wp_region_noPanic (wp_region_held_drew (S := FmtS W3 wr gD) (by kernel_rfl) hS0 (fun _ => ?_))
            refine th_take (i := 0) (v := ?_) rfl (by kernel_rfl) (by kernel_rfl) (by kernel_rfl) (Or.inl ⟨by rfl, fun wz hSw => ?_⟩) hS0 ?_
            rotate_left
            · go_simp
              with_reducible rfl
            simp only [Act.put, List.setIfInBounds_toArray, List.set_cons_zero, List.set_cons_succ]
            refine th_take (i := 1) (v := ?_) rfl (by kernel_rfl) (by kernel_rfl) (by kernel_rfl) (Or.inl ⟨by rfl, fun wz hSw => ?_⟩) hS0 ?_
            rotate_left
            · go_simp
              with_reducible rfl
            simp only [Act.put, List.setIfInBounds_toArray, List.set_cons_zero, List.set_cons_succ]
            refine th_take (i := 2) (v := ?_) rfl (by kernel_rfl) (by kernel_rfl) (by kernel_rfl) (Or.inl ⟨by rfl, fun wz hSw => ?_⟩) hS0 ?_
            rotate_left
            · go_simp
              with_reducible rfl
            simp only [Act.put, List.setIfInBounds_toArray, List.set_cons_zero, List.set_cons_succ]
            refine th_take (i := 3) rfl (by kernel_rfl) (by kernel_rfl) (by kernel_rfl) (y_conv 45 9 5 (.tmp 63) (by rfl) rfl (some ⟨gD, 0, none⟩) 6 cD rfl wr.heap.size (dataL d0 d1 d2) (fun W hW => reads_blk (unhide RDD) hW.2) Tryd.underlying45 Tryd.underlying5 Tryd.underlying9) hS0 ?_
            simp only [Act.put, List.setIfInBounds_toArray, List.set_cons_zero, List.set_cons_succ]
            refine th_take (i := 4) (v := ?_) rfl (by kernel_rfl) (by kernel_rfl) (by kernel_rfl) (Or.inl ⟨by rfl, fun wz hSw => ?_⟩) hS0 ?_
            rotate_left
            · go_simp
              with_reducible rfl
            simp only [Act.put, List.setIfInBounds_toArray, List.set_cons_zero, List.set_cons_succ]
            refine th_take (i := 5) (v := .int .u8 (ty : Int)) rfl (by kernel_rfl) (by kernel_rfl) (by kernel_rfl) (Or.inl ⟨by rfl, fun wz hSw => ?_⟩) hS0 ?_
            · have hc := (hSw.1.cell (p := ⟨w.heap.size, _, none⟩) hk5).trans (unhide c5)
              go_simp
            simp only [Act.put, List.setIfInBounds_toArray, List.set_cons_zero, List.set_cons_succ]
            refine th_one (i := 6) rfl (by kernel_rfl) (fun K hK => ?_)
            rw [if_pos (by rfl)]
            go_simp
            refine (word_any _ (ty : Int) WL (unhide HWL)).mono ?_
            rintro e w5 ⟨rfl, rfl⟩
            refine hK.out _ _ hS0 (fun _ => ?_)
            clear hK K
            try simp only [Act.put, List.setIfInBounds_toArray, List.set_cons_zero, List.set_cons_succ]
            refine th_one (i := 7) rfl (by kernel_rfl) (fun K hK => ?_)
            rw [if_pos (by rfl)]
            go_simp
            have hS1 : FmtS W3 wr gD (wr.drew.alloc (.cells #[.string ⟨#[45]⟩, .string ⟨(dataL d0 d1 d2).toArray⟩, .string ⟨WL.toArray⟩] 9)) := ⟨hS0.1.alloc hS0.1.size _, Below.heap_alloc wr.drew _ gD hgD⟩
            refine hK.out _ _ hS1 (fun _ => ?_)
            clear hK K
            try simp only [Act.put, List.setIfInBounds_toArray, List.set_cons_zero, List.set_cons_succ]
            refine th_one (i := 8) rfl (by kernel_rfl) (fun K hK => ?_)
            refine step_append_any (wr.drew.alloc (.cells #[.string ⟨#[45]⟩, .string ⟨(dataL d0 d1 d2).toArray⟩, .string ⟨WL.toArray⟩] 9)) rfl (.tmp 61) (.tmp 68) 59 rfl W3.heap.size 9 i0 (.string ⟨#[]⟩) 1 16 Tryd.underlying59 (unhide HI) (unhide HI0) (unhide HI1) (unhide HI2) rfl (by decide) u4 6 _ rfl ((unhide OWN8).alloc _) (wr.heap.size + 1) (some ⟨wr.heap.size, 0, none⟩) 3 3 [.string ⟨#[45]⟩, .string ⟨(dataL d0 d1 d2).toArray⟩, .string ⟨WL.toArray⟩] rfl (unhide RD3 wr.drew) (by intro u hu; simp at hu; rcases hu with rfl | rfl | rfl <;> rfl) (by unfold maxLen; omega) (by omega) (by have := (unhide B9).size; rw [size_alloc]; show _ ≤ wr.heap.size + 1; omega) ?_
            intro v9 w9 hown9 hgr9 _
            have hS9 : FmtS W3 wr gD w9 := ⟨hS1.1.grown hgr9 hS1.1.size (fun g e => ((unhide OWN8).lt g e).1), (hgr9.block gD (by rw [size_alloc]; show gD < wr.heap.size + 1; omega) (fun e => hgDu e.symm)).trans hS1.2⟩
            refine hK.out _ _ hS9 (fun _ => ?_)
            clear hK K
            try simp only [Act.put, List.setIfInBounds_toArray, List.set_cons_zero, List.set_cons_succ]
            obtain ⟨gP, cP, hv9, _, hgP⟩ := hown9.form (by omega)
            subst hv9
            have hcP : 9 ≤ cP := by
              rcases hown9.2 with ⟨h, _⟩ | ⟨g, cap, cur, h, _, _, hnc, _⟩
              · cases h
              · injection h with _ _ h; omega
            refine th_one (i := 9) rfl (by kernel_rfl) (fun K hK => ?_)
            rw [if_pos (by rfl)]
            go_simp
            refine (Tryd.strings_Join gP 0 cP [(⟨(Lib.decDigits id).toArray⟩ : ByteArray), ⟨(Lib.decDigits tm).toArray⟩, ⟨(Lib.decDigits gn).toArray⟩, ⟨(Lib.decDigits st).toArray⟩, ⟨(Lib.decDigits sn).toArray⟩, ⟨(Lib.decDigits ty).toArray⟩, ⟨#[45]⟩, ⟨(dataL d0 d1 d2).toArray⟩, ⟨WL.toArray⟩] ⟨#[32]⟩ w9 (fun j x hx => by
              have h1 := hown9.cells rfl j (.string x) (by
                show (([(⟨(Lib.decDigits id).toArray⟩ : ByteArray), ⟨(Lib.decDigits tm).toArray⟩, ⟨(Lib.decDigits gn).toArray⟩, ⟨(Lib.decDigits st).toArray⟩, ⟨(Lib.decDigits sn).toArray⟩, ⟨(Lib.decDigits ty).toArray⟩, ⟨#[45]⟩, ⟨(dataL d0 d1 d2).toArray⟩, ⟨WL.toArray⟩].map Value.string)[j]?) = some (.string x)
                rw [List.getElem?_map, hx]; rfl)
              rwa [add_mk] at h1) hgP (by simp) hcP (unhide HLEN)).mono ?_
            rintro e w10 ⟨rfl, hb10⟩
            have hS10 : FmtS W3 wr gD w10 := ⟨hS9.1.trans (hb10.mono hS9.1.size), (hb10.block gD (by have := hgr9.size; rw [size_alloc] at this; have : wr.heap.size + 1 ≤ w9.heap.size := this; omega)).trans hS9.2⟩
            refine hK.out _ _ hS10 (fun _ => ?_)
            clear hK K
            refine th_take (i := 10) (v := ?_) rfl (by kernel_rfl) (by kernel_rfl) (by kernel_rfl) (Or.inl ⟨by rfl, fun wz hSw => ?_⟩) hS10 ?_
            rotate_left
            · go_simp
              with_reducible rfl
            simp only [Act.put, List.setIfInBounds_toArray, List.set_cons_zero, List.set_cons_succ]
            refine th_take (i := 11) (v := ?_) rfl (by kernel_rfl) (by kernel_rfl) (by kernel_rfl) (Or.inl ⟨by rfl, fun wz hSw => ?_⟩) hS10 ?_
            rotate_left
            · go_simp
              with_reducible rfl
            simp only [Act.put, List.setIfInBounds_toArray, List.set_cons_zero, List.set_cons_succ]
            refine wpAnyH_done (by kernel_rfl) (NoPanic.normal ?_) _
            go_wp2_with fail
            go_ret2
            exact ⟨by rw [← unhide HFIN]; rfl, (unhide B3).trans (hS10.1.mono (unhide B3).size)⟩
end Go.Proofs.YtklffnfaigmjfaaDoor
