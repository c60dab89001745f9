/- event.Valid, Index and Severity return validE, idxR and sevR; nothing that was there turns. No condition. -/
import Derived.Test.YtklffnfaigmjfaaDoorEMake
import Derived.BigQuiet
namespace Go.Proofs.YtklffnfaigmjfaaDoor
open Go.RowKit
theorem off_at (k : Nat) (hk : k < 6) (x : Int) (h : offs.getD k 0 = x) : offIdx (x + 80) = k := by
  have : k = 0 ∨ k = 1 ∨ k = 2 ∨ k = 3 ∨ k = 4 ∨ k = 5 := by omega
  rcases this with rfl | rfl | rfl | rfl | rfl | rfl <;> subst h <;> rfl
theorem off_none (x : Int) (h : ∀ j, j < 6 → offs.getD j 0 ≠ x) : offIdx (x + 80) = -1 := by
  have h0 := h 0 (by omega)
  have h1 := h 1 (by omega)
  have h2 := h 2 (by omega)
  have h3 := h 3 (by omega)
  have h4 := h 4 (by omega)
  have h5 := h 5 (by omega)
  simp [offs] at h0 h1 h2 h3 h4 h5
  unfold offIdx
  rw [if_neg (by omega), if_neg (by omega), if_neg (by omega), if_neg (by omega), if_neg (by omega), if_neg (by omega)]
set_option maxHeartbeats 1000000 in
theorem slidx_any (w : World) (hO : OffAt w) (x r : Int) (hr : offIdx (x + 80) = r) :
    Calls Tryd.prog 38 #[.slice (some ⟨0, 0, none⟩) 6 6, .int .u8 x] w fun e w' => e = .returned (.int .i64 r) ∧ w = w' := by
  have HO := hide hO
  have HR := hide hr
  clear hr hO
  go_enter Tryd.func38, Tryd.ntmps38
  go_wp2_with fail
  go_loop [8] (fun i => ∃ k : Nat, k ≤ 6 ∧ i = .int .i64 k ∧ ∀ j, j < k → offs.getD j 0 ≠ x) (fun i => 6 - (intOf i).toNat)
  case atStart => exact ⟨0, by omega, rfl, fun j hj => by omega⟩
  case round =>
    obtain ⟨k, hk, rfl, hno⟩ := hrel
    have HN := hide hno
    clear hno
    by_cases hlt : k < 6
    · have hc := (unhide HO).cell k hlt
      obtain ⟨y, hy⟩ : ∃ y, offs.getD k 0 = y := ⟨_, rfl⟩
      rw [hy] at hc
      have HY := hide hy
      clear hy
      have hlti : (k : Int) < 6 := by omega
      by_cases he : x = y
      · have hb : (x == y) = true := by simpa using he
        have HE := hide he
        clear he
        go_wp2_with fail
        go_ret
        exact ⟨ret_int (by rw [← unhide HR, off_at k hlt x (by rw [unhide HE]; exact unhide HY)]), rfl⟩
      · have hb : (x == y) = false := by simpa using he
        go_wp2_with fail
        go_round
        case rel => exact ⟨k + 1, by omega, by go_num, fun j hj => by
          rcases Nat.lt_succ_iff_lt_or_eq.1 hj with h | rfl
          · exact unhide HN j h
          · rw [unhide HY]; exact fun e => he e.symm⟩
        case measure => simp [intOf]; omega
    · obtain rfl : k = 6 := by omega
      go_wp2_with fail
      go_ret
      exact ⟨ret_int (by rw [← unhide HR, off_none x (unhide HN)]), rfl⟩
theorem off_wrap (d : Int) (h0 : 0 ≤ d) (h1 : d < 256) : offIdx (IntKind.u8.wrap (d - 80) + 80) = offIdx d := by
  rw [IntKind.wrap_u8]
  by_cases h : 80 ≤ d
  · rw [show (d - 80) % 256 + 80 = d from by omega]
  · rw [show (d - 80) % 256 + 80 = d + 256 from by omega]
    unfold offIdx
    rw [if_neg (by omega), if_neg (by omega), if_neg (by omega), if_neg (by omega), if_neg (by omega), if_neg (by omega), if_neg (by omega), if_neg (by omega), if_neg (by omega), if_neg (by omega), if_neg (by omega), if_neg (by omega)]
/-- What Index leaves. -/
def IdxPost (w : World) (r : Int × Bool × Bool) (e : Ending) (w' : World) : Prop := e = .returned (.tuple #[.int .i64 r.1, .bool r.2.1, .bool r.2.2]) ∧ Below w.heap.size w w'
set_option maxHeartbeats 1000000 in
theorem idx_any (w : World) (hO : OffAt w) (e : Ev) (he : e.In) (r : Int × Bool × Bool) (hr : idxR e = r) : Calls Tryd.prog 15 #[.agg e.c] w (IdxPost w r) := by
  have e1 := he.d00
  have e2 := he.d01
  have e3 := he.ty0
  have e4 := he.ty1
  clear he
  obtain ⟨id, tm, gn, st, sn, ty, ds, d0, d1, d2⟩ := e
  dsimp only at e1 e2 e3 e4
  show Calls Tryd.prog 15 #[.agg #[.int .u16 id, .int .u32 tm, .int .u16 gn, .int .u8 st, .int .u8 sn, .int .u8 ty, .bool ds, .int .u8 d0, .int .u8 d1, .int .u8 d2]] w _
  have hb : Below w.heap.size w (w.alloc (.cells #[.int .u16 id, .int .u32 tm, .int .u16 gn, .int .u8 st, .int .u8 sn, .int .u8 ty, .bool ds, .int .u8 d0, .int .u8 d1, .int .u8 d2] 26)) := (Below.refl _ _).alloc (Nat.le_refl _) _
  have HO := hide (hO.below hb)
  have HB := hide hb
  obtain ⟨q, hq⟩ : ∃ q, offIdx d0 = q := ⟨_, rfl⟩
  obtain ⟨x, hx⟩ : ∃ x, IntKind.u8.wrap (d0 - 80) = x := ⟨_, rfl⟩
  have hxq : offIdx (x + 80) = q := by rw [← hx, off_wrap d0 e1 e2, hq]
  have HX := hide hx
  have HQ := hide hxq
  simp only [idxR, hq] at hr
  have HR := hide hr
  clear hb hO hq hx hxq hr
  by_cases h1 : ty = 1
  · have hb1 : (ty == 1) = true := by simpa using h1
    have HT := hide h1
    clear h1
    by_cases h2 : 0 ≤ q
    · have hb2 : decide (0 ≤ q) = true := by simpa using h2
      have HR2 : Hid (((q, true, true) : Int × Bool × Bool) = r) := hide (by have := unhide HR; rwa [if_pos (unhide HT), if_pos h2] at this)
      go_enter Tryd.func15, Tryd.ntmps15
      go_wp2_with fail
      have hx := unhide HX
      go_quiet ((go_at_call 38; exact Calls.quiet_of_same ((slidx_any _ (OffAt.drewN (unhide HO) _) _ _ (unhide HQ)).mono fun _ _ h => ⟨h.1, h.2.symm⟩)))
      go_wp2_with fail
      go_ret3
      exact ⟨by rw [← unhide HR2]; rfl, below_drewN (unhide HB) _⟩
    · have hb2 : decide (0 ≤ q) = false := by simpa using h2
      have HR2 : Hid (((0, false, false) : Int × Bool × Bool) = r) := hide (by have := unhide HR; rwa [if_pos (unhide HT), if_neg h2] at this)
      go_enter Tryd.func15, Tryd.ntmps15
      go_wp2_with fail
      have hx := unhide HX
      go_quiet ((go_at_call 38; exact Calls.quiet_of_same ((slidx_any _ (OffAt.drewN (unhide HO) _) _ _ (unhide HQ)).mono fun _ _ h => ⟨h.1, h.2.symm⟩)))
      go_wp2_with fail
      go_ret3
      exact ⟨by rw [← unhide HR2]; rfl, below_drewN (unhide HB) _⟩
  · have hb1 : (ty == 1) = false := by simpa using h1
    have HT := hide h1
    clear h1
    by_cases h3 : ty = 111
    · have hb3 : (ty == 111) = true := by simpa using h3
      have HT3 := hide h3
      clear h3
      by_cases h4 : d0 ≤ 14
      · have hb4 : decide (d0 ≤ 14) = true := by simpa using h4
        have HR2 : Hid (((d0, false, true) : Int × Bool × Bool) = r) := hide (by have := unhide HR; rwa [if_neg (unhide HT), if_pos ⟨unhide HT3, h4⟩] at this)
        have hw : IntKind.i64.wrap d0 = d0 := IntWalk.i64_in _ (by omega)
        go_enter Tryd.func15, Tryd.ntmps15
        go_wp2_with fail
        go_ret3
        exact ⟨by rw [← unhide HR2]; rfl, unhide HB⟩
      · have hb4 : decide (d0 ≤ 14) = false := by simpa using h4
        have HR2 : Hid (((0, false, false) : Int × Bool × Bool) = r) := hide (by have := unhide HR; rwa [if_neg (unhide HT), if_neg (fun h => h4 h.2)] at this)
        go_enter Tryd.func15, Tryd.ntmps15
        go_wp2_with fail
        go_ret3
        exact ⟨by rw [← unhide HR2]; rfl, unhide HB⟩
    · have hb3 : (ty == 111) = false := by simpa using h3
      have HR2 : Hid (((0, false, false) : Int × Bool × Bool) = r) := hide (by have := unhide HR; rwa [if_neg (unhide HT), if_neg (fun h => h3 h.1)] at this)
      clear h3
      go_enter Tryd.func15, Tryd.ntmps15
      go_wp2_with fail
      go_ret3
      exact ⟨by rw [← unhide HR2]; rfl, unhide HB⟩
theorem idx_range (e : Ev) (he : e.In) : 0 ≤ (idxR e).1 ∧ (idxR e).1 ≤ 14 := by
  have := he.d00
  unfold idxR offIdx
  split
  · repeat (first | split | (constructor <;> simp <;> done) | omega)
  · split <;> simp <;> omega
set_option maxHeartbeats 1000000 in
theorem sev_any (w : World) (hO : OffAt w) (e : Ev) (he : e.In) (s : Int) (hs : sevR e = s) :
    Calls Tryd.prog 17 #[.agg e.c] w fun z w' => z = .returned (.int .i64 s) ∧ Below w.heap.size w w' := by
  obtain ⟨⟨i, an, ok⟩, hq⟩ : ∃ q, idxR e = q := ⟨_, rfl⟩
  have hrg := idx_range e he
  rw [hq] at hrg
  dsimp only at hrg
  obtain ⟨hi0, hi1⟩ := hrg
  simp only [sevR, hq] at hs
  have HE := hide he
  obtain ⟨ei, hei⟩ : ∃ x, e = x := ⟨_, rfl⟩
  obtain ⟨id, tm, gn, st, sn, ty, ds, d0, d1, d2⟩ := e
  have hds : ei.ds = ds := by rw [← hei]
  dsimp only at hs
  rw [hei] at hq he
  show Calls Tryd.prog 17 #[.agg #[.int .u16 id, .int .u32 tm, .int .u16 gn, .int .u8 st, .int .u8 sn, .int .u8 ty, .bool ds, .int .u8 d0, .int .u8 d1, .int .u8 d2]] w _
  obtain ⟨W1, hW1⟩ : ∃ W1, w.alloc (.cells #[.int .u16 id, .int .u32 tm, .int .u16 gn, .int .u8 st, .int .u8 sn, .int .u8 ty, .bool ds, .int .u8 d0, .int .u8 d1, .int .u8 d2] 26) = W1 := ⟨_, rfl⟩
  have hb : Below w.heap.size w W1 := hW1 ▸ (Below.refl _ _).alloc (Nat.le_refl _) _
  have H1 : Hid (Blk W1 w.heap.size 26 #[.int .u16 id, .int .u32 tm, .int .u16 gn, .int .u8 st, .int .u8 sn, .int .u8 ty, .bool ds, .int .u8 d0, .int .u8 d1, .int .u8 d2]) := hide (hW1 ▸ Blk.new w _ _)
  have HI : Hid (Calls Tryd.prog 15 #[.agg #[.int .u16 id, .int .u32 tm, .int .u16 gn, .int .u8 st, .int .u8 sn, .int .u8 ty, .bool ds, .int .u8 d0, .int .u8 d1, .int .u8 d2]] W1 (IdxPost W1 (i, an, ok))) := hide (by
    have := idx_any W1 (hO.below hb) ei he _ hq
    rw [← hei] at this
    exact this)
  have HB := hide hb
  have HW := hide hW1
  have HS := hide hs
  clear hb hW1 hs hei hq he hO hds
  go_enter Tryd.func17, Tryd.ntmps17
  go_wp2_with fail
  rw [unhide HW]
  refine (unhide HI).mono ?_
  rintro e w2 ⟨rfl, hb2⟩
  have h2 := (unhide H1).below hb2 (unhide H1).lt
  have hds2 : w2.cell? ⟨w.heap.size, 6, none⟩ = some (.bool ds) := h2.cell 6
  have B2 := hide ((unhide HB).trans (hb2.mono (unhide HB).size))
  clear hb2 h2
  have hlt2 := lt_of_cell hds2
  have hm : IntKind.i64.wrap (i.tmod 3) = i % 3 := by rw [IntWalk.rem_in i 3 hi0]; exact IntWalk.i64_in _ (by omega)
  cases ok <;> cases an <;> cases ds
  all_goals
    go_wp2_with fail
    go_ret
    exact ⟨ret_int (by rw [← unhide HS]; simp), unhide B2⟩
end Go.Proofs.YtklffnfaigmjfaaDoor
