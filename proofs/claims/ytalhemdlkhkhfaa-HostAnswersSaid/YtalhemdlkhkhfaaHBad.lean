/- Act and Step, the program's and the reference's, at hosts that are not valid and at acts out of range (printed by wip/gen_hbad.py). No condition. -/
import Derived.Test.YtalhemdlkhkhfaaHRAct
import Derived.Test.YtalhemdlkhkhfaaHStep
namespace Go.Proofs.Ytalhemdlkhkhfaa
open Go.RowKit
def zeroH : HH := ⟨false, false, false, false, false, 0⟩
def actR (x : HH) (k : Int) : HH × Int := if validH x = true then (if 0 ≤ k ∧ k ≤ 6 then (actH x k.toNat, 0) else (zeroH, 2)) else (zeroH, 1)
theorem act_bad (w : World) (p r h s l : Bool) (b k : Int) (hx : validH ⟨p, r, h, s, l, b⟩ = false) :
    Calls Try.prog 7 #[.agg #[.bool p, .bool r, .bool h, .bool s, .bool l, .int .i64 b], .int .i64 k] w fun e w' => e = .returned (.tuple #[.agg #[.bool false, .bool false, .bool false, .bool false, .bool false, .int .i64 0], .int .i64 1]) ∧ Below w.heap.size w w' := by
  have HX := Lib.hid hx
  have HV := hide (valid_any · ⟨p, r, h, s, l, b⟩)
  clear hx
  go_enter Try.func7, Try.ntmps7
  go_wp2_with fail
  refine (unhide HV _).mono ?_
  rintro e w1 ⟨rfl, hb1⟩
  have h2 : Blk w1 w.heap.size 23 #[.bool p, .bool r, .bool h, .bool s, .bool l, .int .i64 b] := ((Blk.new w _ _).alloc _).below hb1 (by simp only [size_alloc]; omega)
  have h4 : Blk w1 (w.heap.size + 1) 23 #[.bool false, .bool false, .bool false, .bool false, .bool false, .int .i64 0] := (Blk.new' (by simp)).below hb1 (by simp)
  have hb : Below w.heap.size w w1 := (((Below.refl w.heap.size w).alloc (Nat.le_refl _) _).alloc (by simp only [size_alloc]; omega) _).trans (hb1.mono (by rw [size_alloc, size_alloc]; omega))
  have H2 := hide h2
  have H4 := hide h4
  have HB := hide hb
  clear h2 h4 hb hb1
  rw [HX.out]
  go_wp2_with (first
    | (refine wpList_load_row rfl 23 _ rfl w.heap.size rfl 23 _ _ _ (unhide H2) Try.underlying23 rfl (by kernel_rfl) ?_)
    | (refine wpList_store_blk rfl 23 (.tmp 4) (.tmp 9) rfl (w.heap.size + 1) 23 _ #[.bool false, .bool false, .bool false, .bool false, .bool false, .int .i64 0] rfl rfl (unhide H4) rfl (by kernel_rfl) (by intro v hv; simp at hv; rcases hv with rfl | rfl | rfl | rfl | rfl | rfl <;> rfl) ?_
       intro w2 hb2 hg2
       have K4 := hide hb2
       have KB := hide ((unhide HB).grown hg2 (unhide HB).size (fun g e => by injection e; omega))
       clear hb2 hg2)
    | fail)
  exact bodyPost_ret (v := .tuple #[.agg #[.bool false, .bool false, .bool false, .bool false, .bool false, .int .i64 0], .int .i64 1]) (res2 rfl _ (w.heap.size + 1) 23 #[.bool false, .bool false, .bool false, .bool false, .bool false, .int .i64 0] _ _ rfl rfl (unhide K4) Try.underlying23 rfl (by kernel_rfl)) rfl ⟨rfl, unhide KB⟩
theorem act_out (w : World) (p r h s l : Bool) (b k : Int) (hx : validH ⟨p, r, h, s, l, b⟩ = true) (hk : k < 0 ∨ 6 < k) :
    Calls Try.prog 7 #[.agg #[.bool p, .bool r, .bool h, .bool s, .bool l, .int .i64 b], .int .i64 k] w fun e w' => e = .returned (.tuple #[.agg #[.bool false, .bool false, .bool false, .bool false, .bool false, .int .i64 0], .int .i64 2]) ∧ Below w.heap.size w w' := by
  have HX := Lib.hid hx
  have HV := hide (valid_any · ⟨p, r, h, s, l, b⟩)
  clear hx
  have k0 : (k == 0) = false := by simp; omega
  have k1 : (k == 1) = false := by simp; omega
  have k2 : (k == 2) = false := by simp; omega
  have k3 : (k == 3) = false := by simp; omega
  have k4 : (k == 4) = false := by simp; omega
  have k5 : (k == 5) = false := by simp; omega
  have k6 : (k == 6) = false := by simp; omega
  go_enter Try.func7, Try.ntmps7
  go_wp2_with fail
  refine (unhide HV _).mono ?_
  rintro e w1 ⟨rfl, hb1⟩
  have h2 : Blk w1 w.heap.size 23 #[.bool p, .bool r, .bool h, .bool s, .bool l, .int .i64 b] := ((Blk.new w _ _).alloc _).below hb1 (by simp only [size_alloc]; omega)
  have h4 : Blk w1 (w.heap.size + 1) 23 #[.bool false, .bool false, .bool false, .bool false, .bool false, .int .i64 0] := (Blk.new' (by simp)).below hb1 (by simp)
  have hb : Below w.heap.size w w1 := (((Below.refl w.heap.size w).alloc (Nat.le_refl _) _).alloc (by simp only [size_alloc]; omega) _).trans (hb1.mono (by rw [size_alloc, size_alloc]; omega))
  have H2 := hide h2
  have H4 := hide h4
  have HB := hide hb
  clear h2 h4 hb hb1
  rw [HX.out]
  go_wp2_with (first
    | (refine wpList_load_row rfl 23 _ rfl w.heap.size rfl 23 _ _ _ (unhide H2) Try.underlying23 rfl (by kernel_rfl) ?_)
    | (refine wpList_store_blk rfl 23 (.tmp 4) (.tmp 11) rfl (w.heap.size + 1) 23 _ #[.bool false, .bool false, .bool false, .bool false, .bool false, .int .i64 0] rfl rfl (unhide H4) rfl (by kernel_rfl) (by intro v hv; simp at hv; rcases hv with rfl | rfl | rfl | rfl | rfl | rfl <;> rfl) ?_
       intro w2 hb2 hg2
       have K4 := hide hb2
       have KB := hide ((unhide HB).grown hg2 (unhide HB).size (fun g e => by injection e; omega))
       clear hb2 hg2)
    | fail)
  exact bodyPost_ret (v := .tuple #[.agg #[.bool false, .bool false, .bool false, .bool false, .bool false, .int .i64 0], .int .i64 2]) (res2 rfl _ (w.heap.size + 1) 23 #[.bool false, .bool false, .bool false, .bool false, .bool false, .int .i64 0] _ _ rfl rfl (unhide K4) Try.underlying23 rfl (by kernel_rfl)) rfl ⟨rfl, unhide KB⟩
theorem ract_bad (w : World) (p r h s l : Bool) (b k : Int) (hx : validH ⟨p, r, h, s, l, b⟩ = false) :
    Calls Try.prog 8 #[.agg #[.bool p, .bool r, .bool h, .bool s, .bool l, .int .i64 b], .int .i64 k] w fun e w' => e = .returned (.tuple #[.agg #[.bool false, .bool false, .bool false, .bool false, .bool false, .int .i64 0], .int .i64 1]) ∧ Below w.heap.size w w' := by
  have HX := Lib.hid hx
  have HV := hide (ref_valid_any · ⟨p, r, h, s, l, b⟩)
  clear hx
  go_enter Try.func8, Try.ntmps8
  go_wp2_with fail
  refine (unhide HV _).mono ?_
  rintro e w1 ⟨rfl, hb1⟩
  have h2 : Blk w1 w.heap.size 23 #[.bool p, .bool r, .bool h, .bool s, .bool l, .int .i64 b] := ((Blk.new w _ _).alloc _).below hb1 (by simp only [size_alloc]; omega)
  have h4 : Blk w1 (w.heap.size + 1) 23 #[.bool false, .bool false, .bool false, .bool false, .bool false, .int .i64 0] := (Blk.new' (by simp)).below hb1 (by simp)
  have hb : Below w.heap.size w w1 := (((Below.refl w.heap.size w).alloc (Nat.le_refl _) _).alloc (by simp only [size_alloc]; omega) _).trans (hb1.mono (by rw [size_alloc, size_alloc]; omega))
  have H2 := hide h2
  have H4 := hide h4
  have HB := hide hb
  clear h2 h4 hb hb1
  rw [HX.out]
  go_wp2_with (first
    | (refine wpList_load_row rfl 23 _ rfl w.heap.size rfl 23 _ _ _ (unhide H2) Try.underlying23 rfl (by kernel_rfl) ?_)
    | (refine wpList_store_blk rfl 23 (.tmp 4) (.tmp 9) rfl (w.heap.size + 1) 23 _ #[.bool false, .bool false, .bool false, .bool false, .bool false, .int .i64 0] rfl rfl (unhide H4) rfl (by kernel_rfl) (by intro v hv; simp at hv; rcases hv with rfl | rfl | rfl | rfl | rfl | rfl <;> rfl) ?_
       intro w2 hb2 hg2
       have K4 := hide hb2
       have KB := hide ((unhide HB).grown hg2 (unhide HB).size (fun g e => by injection e; omega))
       clear hb2 hg2)
    | fail)
  exact bodyPost_ret (v := .tuple #[.agg #[.bool false, .bool false, .bool false, .bool false, .bool false, .int .i64 0], .int .i64 1]) (res2 rfl _ (w.heap.size + 1) 23 #[.bool false, .bool false, .bool false, .bool false, .bool false, .int .i64 0] _ _ rfl rfl (unhide K4) Try.underlying23 rfl (by kernel_rfl)) rfl ⟨rfl, unhide KB⟩
theorem ract_out (w : World) (p r h s l : Bool) (b k : Int) (hx : validH ⟨p, r, h, s, l, b⟩ = true) (hk : k < 0 ∨ 6 < k) :
    Calls Try.prog 8 #[.agg #[.bool p, .bool r, .bool h, .bool s, .bool l, .int .i64 b], .int .i64 k] w fun e w' => e = .returned (.tuple #[.agg #[.bool false, .bool false, .bool false, .bool false, .bool false, .int .i64 0], .int .i64 2]) ∧ Below w.heap.size w w' := by
  have HX := Lib.hid hx
  have HV := hide (ref_valid_any · ⟨p, r, h, s, l, b⟩)
  clear hx
  have k0 : (k == 0) = false := by simp; omega
  have k1 : (k == 1) = false := by simp; omega
  have k2 : (k == 2) = false := by simp; omega
  have k3 : (k == 3) = false := by simp; omega
  have k4 : (k == 4) = false := by simp; omega
  have k5 : (k == 5) = false := by simp; omega
  have k6 : (k == 6) = false := by simp; omega
  go_enter Try.func8, Try.ntmps8
  go_wp2_with fail
  refine (unhide HV _).mono ?_
  rintro e w1 ⟨rfl, hb1⟩
  have h2 : Blk w1 w.heap.size 23 #[.bool p, .bool r, .bool h, .bool s, .bool l, .int .i64 b] := ((Blk.new w _ _).alloc _).below hb1 (by simp only [size_alloc]; omega)
  have h4 : Blk w1 (w.heap.size + 1) 23 #[.bool false, .bool false, .bool false, .bool false, .bool false, .int .i64 0] := (Blk.new' (by simp)).below hb1 (by simp)
  have hb : Below w.heap.size w w1 := (((Below.refl w.heap.size w).alloc (Nat.le_refl _) _).alloc (by simp only [size_alloc]; omega) _).trans (hb1.mono (by rw [size_alloc, size_alloc]; omega))
  have H2 := hide h2
  have H4 := hide h4
  have HB := hide hb
  clear h2 h4 hb hb1
  rw [HX.out]
  go_wp2_with (first
    | (refine wpList_load_row rfl 23 _ rfl w.heap.size rfl 23 _ _ _ (unhide H2) Try.underlying23 rfl (by kernel_rfl) ?_)
    | (refine wpList_store_blk rfl 23 (.tmp 4) (.tmp 11) rfl (w.heap.size + 1) 23 _ #[.bool false, .bool false, .bool false, .bool false, .bool false, .int .i64 0] rfl rfl (unhide H4) rfl (by kernel_rfl) (by intro v hv; simp at hv; rcases hv with rfl | rfl | rfl | rfl | rfl | rfl <;> rfl) ?_
       intro w2 hb2 hg2
       have K4 := hide hb2
       have KB := hide ((unhide HB).grown hg2 (unhide HB).size (fun g e => by injection e; omega))
       clear hb2 hg2)
    | fail)
  exact bodyPost_ret (v := .tuple #[.agg #[.bool false, .bool false, .bool false, .bool false, .bool false, .int .i64 0], .int .i64 2]) (res2 rfl _ (w.heap.size + 1) 23 #[.bool false, .bool false, .bool false, .bool false, .bool false, .int .i64 0] _ _ rfl rfl (unhide K4) Try.underlying23 rfl (by kernel_rfl)) rfl ⟨rfl, unhide KB⟩
theorem act_all (w : World) (x : HH) (k : Int) (y : HH) (e : Int) (h : actR x k = (y, e)) :
    Calls Try.prog 7 #[x.v, .int .i64 k] w fun z w' => z = .returned (.tuple #[y.v, .int .i64 e]) ∧ Below w.heap.size w w' := by
  unfold actR at h
  by_cases hx : validH x = true
  · rw [if_pos hx] at h
    by_cases hk : 0 ≤ k ∧ k ≤ 6
    · rw [if_pos hk] at h
      injection h with h1 h2
      subst h1 h2
      have := act_ok w x hx k.toNat (by omega)
      rwa [Int.toNat_of_nonneg hk.1] at this
    · rw [if_neg hk] at h
      injection h with h1 h2
      subst h1 h2
      obtain ⟨p, r, hh, s, l, b⟩ := x
      exact act_out w p r hh s l b k hx (by omega)
  · rw [if_neg hx] at h
    injection h with h1 h2
    subst h1 h2
    obtain ⟨p, r, hh, s, l, b⟩ := x
    exact act_bad w p r hh s l b k (by simpa using hx)
theorem ract_all (w : World) (x : HH) (k : Int) (y : HH) (e : Int) (h : actR x k = (y, e)) :
    Calls Try.prog 8 #[x.v, .int .i64 k] w fun z w' => z = .returned (.tuple #[y.v, .int .i64 e]) ∧ Below w.heap.size w w' := by
  unfold actR at h
  by_cases hx : validH x = true
  · rw [if_pos hx] at h
    by_cases hk : 0 ≤ k ∧ k ≤ 6
    · rw [if_pos hk] at h
      injection h with h1 h2
      subst h1 h2
      have := ract_ok w x hx k.toNat (by omega)
      rwa [Int.toNat_of_nonneg hk.1] at this
    · rw [if_neg hk] at h
      injection h with h1 h2
      subst h1 h2
      obtain ⟨p, r, hh, s, l, b⟩ := x
      exact ract_out w p r hh s l b k hx (by omega)
  · rw [if_neg hx] at h
    injection h with h1 h2
    subst h1 h2
    obtain ⟨p, r, hh, s, l, b⟩ := x
    exact ract_bad w p r hh s l b k (by simpa using hx)
theorem step_bad (w : World) (p r h s l : Bool) (b : Int) (hx : validH ⟨p, r, h, s, l, b⟩ = false) (on rs sf : Bool) :
    Calls Try.prog 9 #[.agg #[.bool p, .bool r, .bool h, .bool s, .bool l, .int .i64 b], .agg #[.bool on, .bool rs, .bool sf]] w fun e w' => e = .returned (.tuple #[.agg #[.bool false, .bool false, .bool false, .bool false, .bool false, .int .i64 0], .agg #[.bool false, .bool false, .bool false], .int .i64 1]) ∧ Below w.heap.size w w' := by
  have HX := Lib.hid hx
  have HV := hide (valid_any · ⟨p, r, h, s, l, b⟩)
  clear hx
  go_enter Try.func9, Try.ntmps9
  go_wp2_with fail
  refine (unhide HV _).mono ?_
  rintro e w1 ⟨rfl, hb1⟩
  have H4 : Hid (Blk w1 (w.heap.size + 2) 23 #[.bool false, .bool false, .bool false, .bool false, .bool false, .int .i64 0]) := hide (((Blk.new' (by simp)).alloc _).below hb1 (by simp))
  have H5 : Hid (Blk w1 (w.heap.size + 3) 35 #[.bool false, .bool false, .bool false]) := hide ((Blk.new' (by simp)).below hb1 (by simp))
  have HB : Hid (Below w.heap.size w w1) := hide ((((((Below.refl w.heap.size w).alloc (Nat.le_refl _) _).alloc (by simp only [size_alloc]; omega) _).alloc (by simp only [size_alloc]; omega) _).alloc (by simp only [size_alloc]; omega) _).trans (hb1.mono (by rw [size_alloc, size_alloc, size_alloc, size_alloc]; omega)))
  clear hb1
  rw [HX.out]
  go_wp2_with (first
    | (refine wpList_store_blk rfl 23 (.tmp 4) (.tmp 15) rfl (w.heap.size + 2) 23 _ #[.bool false, .bool false, .bool false, .bool false, .bool false, .int .i64 0] rfl rfl (unhide H4) rfl (by kernel_rfl) (by intro v hv; simp at hv; rcases hv with rfl | rfl | rfl | rfl | rfl | rfl <;> rfl) ?_
       intro w2 hb2 hg2
       have K4 := hide hb2
       have K5 := hide ((unhide H5).grown hg2 (fun e => by injection e; omega))
       have KB := hide ((unhide HB).grown hg2 (unhide HB).size (fun g e => by injection e; omega))
       clear hb2 hg2)
    | (refine wpList_store_blk rfl 35 (.tmp 5) (.tmp 16) rfl (w.heap.size + 3) 35 _ #[.bool false, .bool false, .bool false] rfl rfl (unhide K5) rfl (by kernel_rfl) (by intro v hv; simp at hv; rcases hv with rfl | rfl | rfl <;> rfl) ?_
       intro w3 hb3 hg3
       have J5 := hide hb3
       have J4 := hide ((unhide K4).grown hg3 (fun e => by injection e; omega))
       have JB := hide ((unhide KB).grown hg3 (unhide KB).size (fun g e => by injection e; omega))
       clear hb3 hg3)
    | fail)
  exact bodyPost_ret (v := .tuple #[.agg #[.bool false, .bool false, .bool false, .bool false, .bool false, .int .i64 0], .agg #[.bool false, .bool false, .bool false], .int .i64 1]) (res3 rfl _ (w.heap.size + 2) (w.heap.size + 3) 23 35 #[.bool false, .bool false, .bool false, .bool false, .bool false, .int .i64 0] #[.bool false, .bool false, .bool false] _ _ _ rfl rfl rfl (unhide J4) (unhide J5) Try.underlying23 rfl (by kernel_rfl) Try.underlying35 rfl (by kernel_rfl)) rfl ⟨rfl, unhide JB⟩
theorem rstep_bad (w : World) (p r h s l : Bool) (b : Int) (hx : validH ⟨p, r, h, s, l, b⟩ = false) (on rs sf : Bool) :
    Calls Try.prog 10 #[.agg #[.bool p, .bool r, .bool h, .bool s, .bool l, .int .i64 b], .agg #[.bool on, .bool rs, .bool sf]] w fun e w' => e = .returned (.tuple #[.agg #[.bool false, .bool false, .bool false, .bool false, .bool false, .int .i64 0], .agg #[.bool false, .bool false, .bool false], .int .i64 1]) ∧ Below w.heap.size w w' := by
  have HX := Lib.hid hx
  have HV := hide (ref_valid_any · ⟨p, r, h, s, l, b⟩)
  clear hx
  go_enter Try.func10, Try.ntmps10
  go_wp2_with fail
  refine (unhide HV _).mono ?_
  rintro e w1 ⟨rfl, hb1⟩
  have H4 : Hid (Blk w1 (w.heap.size + 2) 23 #[.bool false, .bool false, .bool false, .bool false, .bool false, .int .i64 0]) := hide (((Blk.new' (by simp)).alloc _).below hb1 (by simp))
  have H5 : Hid (Blk w1 (w.heap.size + 3) 35 #[.bool false, .bool false, .bool false]) := hide ((Blk.new' (by simp)).below hb1 (by simp))
  have HB : Hid (Below w.heap.size w w1) := hide ((((((Below.refl w.heap.size w).alloc (Nat.le_refl _) _).alloc (by simp only [size_alloc]; omega) _).alloc (by simp only [size_alloc]; omega) _).alloc (by simp only [size_alloc]; omega) _).trans (hb1.mono (by rw [size_alloc, size_alloc, size_alloc, size_alloc]; omega)))
  clear hb1
  rw [HX.out]
  go_wp2_with (first
    | (refine wpList_store_blk rfl 23 (.tmp 4) (.tmp 11) rfl (w.heap.size + 2) 23 _ #[.bool false, .bool false, .bool false, .bool false, .bool false, .int .i64 0] rfl rfl (unhide H4) rfl (by kernel_rfl) (by intro v hv; simp at hv; rcases hv with rfl | rfl | rfl | rfl | rfl | rfl <;> rfl) ?_
       intro w2 hb2 hg2
       have K4 := hide hb2
       have K5 := hide ((unhide H5).grown hg2 (fun e => by injection e; omega))
       have KB := hide ((unhide HB).grown hg2 (unhide HB).size (fun g e => by injection e; omega))
       clear hb2 hg2)
    | (refine wpList_store_blk rfl 35 (.tmp 5) (.tmp 12) rfl (w.heap.size + 3) 35 _ #[.bool false, .bool false, .bool false] rfl rfl (unhide K5) rfl (by kernel_rfl) (by intro v hv; simp at hv; rcases hv with rfl | rfl | rfl <;> rfl) ?_
       intro w3 hb3 hg3
       have J5 := hide hb3
       have J4 := hide ((unhide K4).grown hg3 (fun e => by injection e; omega))
       have JB := hide ((unhide KB).grown hg3 (unhide KB).size (fun g e => by injection e; omega))
       clear hb3 hg3)
    | fail)
  exact bodyPost_ret (v := .tuple #[.agg #[.bool false, .bool false, .bool false, .bool false, .bool false, .int .i64 0], .agg #[.bool false, .bool false, .bool false], .int .i64 1]) (res3 rfl _ (w.heap.size + 2) (w.heap.size + 3) 23 35 #[.bool false, .bool false, .bool false, .bool false, .bool false, .int .i64 0] #[.bool false, .bool false, .bool false] _ _ _ rfl rfl rfl (unhide J4) (unhide J5) Try.underlying23 rfl (by kernel_rfl) Try.underlying35 rfl (by kernel_rfl)) rfl ⟨rfl, unhide JB⟩
end Go.Proofs.Ytalhemdlkhkhfaa
