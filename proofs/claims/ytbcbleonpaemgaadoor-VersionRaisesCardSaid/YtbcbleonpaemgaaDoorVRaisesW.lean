/- The law VersionRaises, walked: it returns true. No condition. -/
import Derived.Test.YtbcbleonpaemgaaDoorVRaisePlain
import Derived.Test.YtbcbleonpaemgaaDoorVAwake
import Derived.Deep.CutRange
import Derived.Test.YtbcbleonpaemgaaDoorHHeld
import Derived.Outline
namespace Go.Proofs.YtbcbleonpaemgaaDoor
open Go.RowKit
theorem only_below_nil {a b : World} {n c : Nat} (h : a.grownBy b (Value.ownBlock (.slice none n c))) : Below a.heap.size a b := ⟨h.os, h.tape, h.output, h.size, fun i hi => h.block i hi (by intro e; cases e)⟩
set_option maxRecDepth 100000 in
set_option maxHeartbeats 16000000 in
theorem raises_walk (w : World) (A0 : Option Addr) (n0 c0 : Nat) (bs : List UInt8) (hn0 : n0 ≤ c0) (hc0 : c0 ≤ maxLen) (hr0 : Reads w w.heap.size 1 A0 n0 (bsV bs)) (wh : Int) (hwh : 0 ≤ wh ∧ wh < 256) (by_ : Int) (hby : 0 ≤ by_ ∧ by_ < 256) :
    Calls Tryd.prog 5 #[.slice A0 n0 c0, .int .u8 wh, .int .u8 by_] w fun e w' => e = .returned (.bool true) ∧ Below w.heap.size w w' := by
  obtain ⟨hwh0, hwh1⟩ := hwh
  obtain ⟨hby0, hby1⟩ := hby
  have HA := hide awake_any
  have HRD := hide hr0
  have HNEW := hide new_any
  have HIN := hide installed_any
  have HND := hide needs_any
  have HMT := hide met_any
  have HN0 := hide hn0
  have HC0 := hide hc0
  obtain ⟨i0, hi, hz0, hz1, hz2⟩ := info_parts info_inst
  have HI := hide hi
  have HI0 := hide hz0
  have HI1 := hide hz1
  have HI2 := hide hz2
  clear hr0 hn0 hc0 hi hz0 hz1 hz2
  go_enter Tryd.func5, Tryd.ntmps5
  go_wp2_with fail
  refine (unhide HA _).mono ?_
  rintro e w1 ⟨rfl, hb1⟩
  have B1 := hide hb1
  have RD1 := hide (((unhide HRD).below hb1).more hb1.size)
  clear hb1
  go_wp2_with fail
  refine (unhide HNEW _ A0 n0 c0 bs 120 (unhide RD1) (unhide HN0) (unhide HC0) (by omega)).mono ?_
  rintro e w2 ⟨rfl, hcod, hb2⟩
  have B2 := hide ((unhide B1).trans (hb2.mono (unhide B1).size))
  have COD := hide hcod
  have hgl : w1.heap.size < w2.heap.size := hcod.lt
  have hs1 : w.heap.size ≤ w1.heap.size := (unhide B1).size
  clear hcod hb2
  go_wp2_with fail
  refine (unhide HIN _ _ _ (unhide COD)).mono ?_
  rintro e w3 ⟨v, l, rfl, hl1, hl5, hln, hlv, hown, hc3, hg3⟩
  have C3 := hide hc3
  have OW3 := hide hown
  have G3 := hide hg3
  have LN := hide hln
  have LV := hide hlv
  clear hc3 hown hg3 hln hlv
  go_wp2_with fail
  refine (unhide HND _ _ _ 6 (by omega) (unhide C3)).mono ?_
  rintro e w4 ⟨v', l', rfl, hm8, hlo, hown', hc4, hg4⟩
  have hne : v.ownBlock = none ∨ v.ownBlock ≠ some w1.heap.size := by
    by_cases e : v.ownBlock = some w1.heap.size
    · have := own_ge (unhide OW3) _ e; omega
    · exact .inr e
  have OW4 := hide ((unhide OW3).kept hg4 hne)
  obtain ⟨A, A', c, d, rfl, rfl, hmade⟩ := Made.mk_ (unhide B2) hs1 hgl hl1 hl5 (unhide LN) (unhide LV) (unhide OW3) (unhide G3) hm8 hlo hown' hg4
  obtain ⟨n, hn⟩ : ∃ n, l.length = n := ⟨_, rfl⟩
  obtain ⟨m, hm⟩ : ∃ m, l'.length = m := ⟨_, rfl⟩
  obtain ⟨N, hN⟩ : ∃ N, needOf l' = N := ⟨_, rfl⟩
  rw [hn, hm, hN] at hmade
  rw [hn, hm]
  rw [hn] at OW4
  have MD := hide hmade
  have hm6 : m ≤ 6 := hmade.mm
  have hn1 : 1 ≤ n := hmade.n1
  have hn5 : n ≤ 5 := hmade.n5
  have AP := hide (made_apart hn hn5 (unhide MD).names)
  obtain ⟨gl, c', hA, hgl0, hgl1⟩ := (unhide OW4).form (by omega)
  injection hA with hA1 _ hA2
  subst hA1 hA2
  obtain ⟨k, hk⟩ : ∃ k : Nat, wh % (n : Int) = (k : Int) := ⟨(wh % (n : Int)).toNat, by have := Int.emod_nonneg wh (show (n : Int) ≠ 0 by omega); omega⟩
  have hkn : k < n := by have := Int.emod_lt_of_pos wh (show (0 : Int) < n by omega); omega
  have hnz : ((n : Int) == 0) = false := by simp; omega
  have hnz2 : ¬ (n : Int) = 0 := by omega
  have RDL := hide (Reads.of_own (unhide OW4))
  have HLN := hide hn
  have HK := hide hk
  have HN := hide hN
  clear hmade hN hn hm hown' hc4 hg4 hlo hm8 hl1 hl5 OW3 G3 LN LV hne hk hgl0
  have hwt : wh.tmod (n : Int) = (k : Int) := by rw [Int.tmod_eq_emod_of_nonneg hwh0]; exact unhide HK
  have HWT := hide hwt
  clear hwt
  go_upto_region 5 with fail
  have hwt := unhide HWT
  go_upto_region 6 with fail
  clear hwt
  -- HEADEND
  obtain ⟨cx, hcx1, hcx2⟩ := flat_at l k 1 (by rw [unhide HLN]; exact hkn) (by omega)
  obtain ⟨va, hva⟩ : ∃ z, (instOf l k).v.a = z := ⟨_, rfl⟩
  have hx1 : (l.flatMap Inst.cs)[k * 4 + 1]? = some (.int .i64 va) := by
    rw [hcx2, ← hva]
    simp [instOf, hcx1, Inst.cs]
  have hgood := (unhide MD).vers cx (List.mem_of_getElem? hcx1)
  have hva1 : 1 ≤ va ∧ va ≤ 3 := by rw [← hva]; simp only [instOf, List.getD_eq_getElem?_getD, hcx1, Option.getD_some]; exact ⟨hgood.1, hgood.2.1⟩
  obtain ⟨hva1, hva3⟩ := hva1
  obtain ⟨nk, hnk⟩ : ∃ z, (instOf l k).s = z := ⟨_, rfl⟩
  obtain ⟨dd, hdd⟩ : ∃ z, by_ % 100 = z := ⟨_, rfl⟩
  have hdd0 : 0 ≤ dd := by rw [← hdd]; exact Int.emod_nonneg _ (by omega)
  have hdd1 : dd < 100 := by rw [← hdd]; exact Int.emod_lt_of_pos _ (by omega)
  have hbt : by_.tmod 100 = dd := by rw [Int.tmod_eq_emod_of_nonneg hby0, hdd]
  have HX1 := hide hx1
  have HVA := hide hva
  have HNK := hide hnk
  have HBT := hide hbt
  have hca : n ≤ c := (unhide MD).nc
  have hcm := (unhide MD).cm
  have hcm2 : c ≤ 9223372036854775807 := by unfold maxLen at hcm; omega
  clear hx1 hcx1 hcx2 hva hnk hdd hbt hgood hcm
  go_wp2_with (first
    | (at_builtin; refine wpList_append_any w4 rfl (.const (.slice none 0 0)) (.tmp 28) 23 rfl w4.heap.size 42 i0 (.agg #[.string ⟨#[]⟩, .int .i64 0, .int .i64 0, .int .i64 0]) 4 40 Tryd.underlying23 (unhide HI) (unhide HI0) (unhide HI1) (unhide HI2) rfl (by decide) (.slice none 0 0) 0 [] rfl (World.ownsRow_nil _ _ _ _) w4.heap.size (some ⟨gl, 0, none⟩) n c (l.flatMap Inst.cs) rfl (unhide RDL) (by intro u hu; simp only [List.mem_flatMap, Inst.cs, List.mem_cons, List.not_mem_nil, or_false] at hu; obtain ⟨z, _, rfl | rfl | rfl | rfl⟩ := hu <;> rfl) (by unfold maxLen; omega) (by omega) (Nat.le_refl _) ?_
       intro v6 w6 hown6 hgr6 _
       simp only [Nat.zero_add, List.nil_append] at hown6
       obtain ⟨gu, cu, hv6, hgu0, hgu1⟩ := hown6.form (by omega)
       subst hv6
       have B6 := hide (only_below_nil hgr6)
       have cu1 : w6.cell? ⟨gu, k * 4 + 1, none⟩ = some (.int .i64 va) := by rw [hown6.cellAt (k * 4 + 1) (by omega)]; exact unhide HX1
       have fu1 : w6.frozen? ⟨gu, k * 4 + 1, none⟩ = false := hown6.frozenAt (k * 4 + 1)
       have hcu : n ≤ cu ∧ cu ≤ maxLen := by
         rcases hown6.2 with ⟨h, _⟩ | ⟨g', cap, cur, h, _, _, hnc, hcm, _⟩
         · cases h
         · injection h with _ _ h; subst h; exact ⟨hnc, hcm⟩
       obtain ⟨hcu1, hcu2⟩ := hcu
       have hcu3 : cu ≤ 9223372036854775807 := by unfold maxLen at hcu2; omega
       have OW6 := hide hown6
       have hbt := unhide HBT
       have hki1 : (k : Int) < (n : Int) := by omega
       have hws : IntKind.i64.wrap (va + dd) = va + dd := IntWalk.i64_in _ (by omega)
       clear hown6 hgr6 hcu2)
    | fail)
  clear hbt
  have STO := hide ((unhide OW6).stored (k * 4 + 1) (.int .i64 (va + dd)))
  obtain ⟨w7, hw7⟩ : ∃ w7, w6.setCell ⟨gu, k * 4 + 1, none⟩ (.int .i64 (va + dd)) = w7 := ⟨_, rfl⟩
  have HW7 := hide hw7
  clear hw7 cu1 fu1
  have OWU : Hid (w7.ownsRow w4.heap.size 42 4 (.slice (some ⟨gu, 0, none⟩) n cu) n ((l.set k ⟨(instOf l k).s, ⟨(instOf l k).v.a + dd, (instOf l k).v.b, (instOf l k).v.c⟩⟩).flatMap Inst.cs)) := hide (by
    have h := (unhide STO).1
    rw [unhide HW7, flat_set l k (by rw [unhide HLN]; exact hkn) (va + dd)] at h
    rw [unhide HVA]
    exact h)
  have B7 : Hid (Below w4.heap.size w4 w7) := hide (by
    have h := (unhide STO).2
    rw [unhide HW7] at h
    exact (unhide B6).grown h (unhide B6).size (fun j e => by injection e with e; omega))
  rw [unhide HW7]
  obtain ⟨A2, hA2⟩ : ∃ A2, (if c = k + 1 then some (⟨gl, 0, none⟩ : Addr) else some ⟨gl, (k + 1) * 4, none⟩) = A2 := ⟨_, rfl⟩
  have hsA : ∀ W, (Instr.sliceAt 23 (.slice (some ⟨gl, 0, none⟩) n c) none (some (.int .i64 (k : Int))) none).run Tryd.prog W = .ok (.slice (some ⟨gl, 0, none⟩) k c) W := fun W => by
    have h2 : (k : Int) ≤ (n : Int) := by omega
    have h3 : (n : Int) ≤ (c : Int) := by omega
    have h4 : k ≤ c := by omega
    go_simp
  have hsB : ∀ W, (Instr.sliceAt 23 (.slice (some ⟨gl, 0, none⟩) n c) (some (.int .i64 ((k : Int) + 1))) none none).run Tryd.prog W = .ok (.slice A2 (n - (k + 1)) (c - (k + 1))) W := fun W => by
    have h1 : (0 : Int) ≤ (k : Int) + 1 := by omega
    have h2 : (k : Int) + 1 ≤ (n : Int) := by omega
    have h3 : (n : Int) ≤ (c : Int) := by omega
    go_simp
  have RT : Hid (∀ W, Below w4.heap.size w4 W → Reads W w4.heap.size 4 (some ⟨gl, 0, none⟩) k ((l.take k).flatMap Inst.cs)) := hide (fun W hW => by
    have h := (unhide RDL).below hW
    rw [← flat_take]
    refine ⟨by have := h.1; rw [List.length_take]; omega, fun h0 => ?_⟩
    obtain ⟨ad, e, hb, hc⟩ := h.2 (by omega)
    exact ⟨ad, e, hb, fun j u hu => hc j u (by
      rw [List.getElem?_take] at hu
      split at hu
      · exact hu
      · cases hu)⟩)
  have RB : Hid (∀ W, Below w4.heap.size w4 W → Reads W w4.heap.size 4 A2 (n - (k + 1)) ((l.drop (k + 1)).flatMap Inst.cs)) := hide (fun W hW => by
    have h := ((unhide RDL).below hW).cut (k := k + 1) (cap := c) (by omega) hca
    rw [flat_drop] at h
    rw [← hA2]
    simpa [add_mk] using h)
  have HSA := hide hsA
  have HSB := hide hsB
  have hwk : IntKind.i64.wrap ((k : Int) + 1) = (k : Int) + 1 := IntWalk.i64_in _ (by omega)
  have hk00 : (0 : Int) ≤ (k : Int) := by omega
  clear hA2 STO HW7
  have hs47 : w4.heap.size ≤ w7.heap.size := (unhide B7).size
  go_upto_region 8 with fail
  have hT0 : (fun _ : World => True) w7.drew := trivial
  refine wp_region_noPanic (wp_region_held_drew (S := fun _ => True) (by kernel_rfl) hT0 (fun _ => ?_))
  refine th_take (i := 0) (v := ?_) rfl (by kernel_rfl) (by kernel_rfl) (by kernel_rfl) (Or.inl ⟨by rfl, fun wz hSw => ?_⟩) hT0 ?_
  rotate_left
  · go_simp
    with_reducible rfl
  simp only [Act.put, List.setIfInBounds_toArray, List.set_cons_zero, List.set_cons_succ]
  refine th_take (i := 1) (v := ?_) rfl (by kernel_rfl) (by kernel_rfl) (by kernel_rfl) (Or.inl ⟨by rfl, fun wz hSw => ?_⟩) hT0 ?_
  rotate_left
  · go_simp
    with_reducible rfl
  simp only [Act.put, List.setIfInBounds_toArray, List.set_cons_zero, List.set_cons_succ]
  refine th_take (i := 2) (v := ?_) rfl (by kernel_rfl) (by kernel_rfl) (by kernel_rfl) (Or.inl ⟨by rfl, fun wz hSw => ?_⟩) hT0 ?_
  rotate_left
  · go_simp
    with_reducible rfl
  simp only [Act.put, List.setIfInBounds_toArray, List.set_cons_zero, List.set_cons_succ]
  refine th_take (i := 4) (v := ?_) rfl (by kernel_rfl) (by kernel_rfl) (by kernel_rfl) (Or.inl ⟨by rfl, fun wz hSw => ?_⟩) hT0 ?_
  rotate_left
  · go_simp
    with_reducible rfl
  simp only [Act.put, List.setIfInBounds_toArray, List.set_cons_zero, List.set_cons_succ]
  refine th_take (i := 5) (v := ?_) rfl (by kernel_rfl) (by kernel_rfl) (by kernel_rfl) (Or.inl ⟨by rfl, fun wz hSw => ?_⟩) hT0 ?_
  rotate_left
  · go_simp
    with_reducible rfl
  simp only [Act.put, List.setIfInBounds_toArray, List.set_cons_zero, List.set_cons_succ]
  refine th_take (i := 6) (v := ?_) rfl (by kernel_rfl) (by kernel_rfl) (by kernel_rfl) (Or.inl ⟨by rfl, fun wz hSw => ?_⟩) hT0 ?_
  rotate_left
  · go_simp
    with_reducible rfl
  simp only [Act.put, List.setIfInBounds_toArray, List.set_cons_zero, List.set_cons_succ]
  refine th_take (i := 7) (v := ?_) rfl (by kernel_rfl) (by kernel_rfl) (by kernel_rfl) (Or.inl ⟨by rfl, fun wz hSw => ?_⟩) hT0 ?_
  rotate_left
  · go_simp
    with_reducible rfl
  simp only [Act.put, List.setIfInBounds_toArray, List.set_cons_zero, List.set_cons_succ]
  refine th_one (i := 3) rfl (by kernel_rfl) (fun K hK => ?_)
  refine step_append_any w7.drew rfl (.const (.slice none 0 0)) (.tmp 45) 23 rfl w7.heap.size 42 i0 (.agg #[.string ⟨#[]⟩, .int .i64 0, .int .i64 0, .int .i64 0]) 4 40 Tryd.underlying23 (unhide HI) (unhide HI0) (unhide HI1) (unhide HI2) rfl (by decide) (.slice none 0 0) 0 [] rfl (World.ownsRow_nil _ _ _ _) w4.heap.size (some ⟨gl, 0, none⟩) k c ((l.take k).flatMap Inst.cs) rfl (unhide RT _ (unhide B7).drew) (by intro u hu; simp only [List.mem_flatMap, Inst.cs, List.mem_cons, List.not_mem_nil, or_false] at hu; obtain ⟨z, _, rfl | rfl | rfl | rfl⟩ := hu <;> rfl) (by unfold maxLen; omega) (by omega) (Nat.le_refl _) ?_
  intro v8 w8 hown8 hgr8 _
  have hT8 : (fun _ : World => True) w8 := trivial
  simp only [Nat.zero_add, List.nil_append] at hown8
  refine hK.out _ _ hT8 (fun _ => ?_)
  clear hK K
  try simp only [Act.put, List.setIfInBounds_toArray, List.set_cons_zero, List.set_cons_succ]
  refine th_one (i := 8) rfl (by kernel_rfl) (fun K hK => ?_)
  refine step_append_any w8 rfl (.tmp 46) (.tmp 50) 23 rfl w7.heap.size 42 i0 (.agg #[.string ⟨#[]⟩, .int .i64 0, .int .i64 0, .int .i64 0]) 4 40 Tryd.underlying23 (unhide HI) (unhide HI0) (unhide HI1) (unhide HI2) rfl (by decide) v8 k _ rfl hown8 w4.heap.size A2 (n - (k + 1)) (c - (k + 1)) ((l.drop (k + 1)).flatMap Inst.cs) rfl (unhide RB _ ((unhide B7).drew.trans ((only_below_nil hgr8).mono hs47))) (by intro u hu; simp only [List.mem_flatMap, Inst.cs, List.mem_cons, List.not_mem_nil, or_false] at hu; obtain ⟨z, _, rfl | rfl | rfl | rfl⟩ := hu <;> rfl) (by unfold maxLen; omega) (by omega) (by have := hgr8.size; exact this) ?_
  intro v9 w9 hown9 hgr9 _
  have hT9 : (fun _ : World => True) w9 := trivial
  refine hK.out _ _ hT9 (fun _ => ?_)
  clear hK K
  try simp only [Act.put, List.setIfInBounds_toArray, List.set_cons_zero, List.set_cons_succ]
  refine th_take (i := 9) (v := ?_) rfl (by kernel_rfl) (by kernel_rfl) (by kernel_rfl) (Or.inl ⟨by rfl, fun wz hSw => ?_⟩) hT9 ?_
  rotate_left
  · go_simp
    with_reducible rfl
  simp only [Act.put, List.setIfInBounds_toArray, List.set_cons_zero, List.set_cons_succ]
  refine wpAnyH_done (by kernel_rfl) (NoPanic.normal ?_) _
  have hb9 : Below w7.heap.size w7 w9 := ((Below.refl _ _).drew.trans (only_below_nil hgr8)).grown hgr9 (by have := hgr8.size; exact this) (fun j e => (hown8.lt j e).1)
  have hlen : k + (n - (k + 1)) = (l.take k ++ l.drop (k + 1)).length := by
    have := unhide HLN
    rw [List.length_append, List.length_take, List.length_drop]
    omega
  rw [← List.flatMap_append, hlen] at hown9
  have hlo : ∀ x ∈ l.take k ++ l.drop (k + 1), x.s.length ≤ maxLen := fun x hx => inst_len l _ (unhide MD).names x (by
    rcases List.mem_append.1 hx with h | h
    · exact List.mem_of_mem_take h
    · exact List.mem_of_mem_drop h)
  obtain ⟨A9, c9, hv9, hnc9, hcm9, hI9⟩ := inst_of_own rfl hown9 hlo
  have hlen1 : (l.take k ++ l.drop (k + 1)).length = n - 1 := by rw [← hlen]; omega
  rw [hlen1] at hv9 hnc9 hI9
  rw [instOf_out l k (by rw [unhide HLN]; exact hkn)] at hI9
  subst hv9
  have hlu : ∀ x ∈ l.set k ⟨(instOf l k).s, ⟨(instOf l k).v.a + dd, (instOf l k).v.b, (instOf l k).v.c⟩⟩, x.s.length ≤ maxLen := fun x hx => by
    rcases List.mem_or_eq_of_mem_set hx with h | h
    · exact inst_len l _ (unhide MD).names x h
    · rw [h]
      have hkl : k < l.length := by rw [unhide HLN]; exact hkn
      have h3 := inst_len l _ (unhide MD).names l[k] (List.getElem_mem hkl)
      simpa [instOf, hkl] using h3
  obtain ⟨Au, cu', hvu, hncu, hcmu, hIu⟩ := inst_of_own (n := n) (by rw [List.length_set, unhide HLN]) (unhide OWU) hlu
  injection hvu with hvu1 _ hvu2
  subst hvu1 hvu2
  rw [instOf_set l k (by rw [unhide HLN]; exact hkn)] at hIu
  have B9 := hide ((unhide B7).trans (hb9.mono hs47))
  have I9 := hide (((unhide MD).inst.below (unhide B9)).more (unhide B9).size)
  have N9 := hide (((unhide MD).need.below (unhide B9)).more (unhide B9).size)
  have U9 := hide ((hIu.below hb9).more hb9.size)
  have O9 := hide hI9
  have BW9 := hide ((unhide MD).below.trans ((unhide B9).mono (unhide MD).below.size))
  have NC9 := hide hnc9
  have CM9 := hide hcm9
  have NCU := hide hncu
  have CMU := hide hcmu
  have NKC : Hid (w9.cell? ⟨gl, k * 4, none⟩ = some (.string ⟨nk.toArray⟩)) := hide (by
    obtain ⟨gb, go, e, _, _, h0, _⟩ := (unhide I9) k hkn
    injection e with e
    injection e with e1 e2
    subst e1 e2
    rw [Nat.zero_add, unhide HNK] at h0
    exact h0)
  have hgl9 : gl < w9.heap.size := by have := (unhide B9).size; omega
  obtain ⟨L, hL⟩ : ∃ L, instOf l = L := ⟨_, rfl⟩
  rw [hL] at I9 U9 O9 AP HNK
  clear hb9 hlen hlo hlen1 hlu hI9 hIu hown9 hgr9 hown8 hgr8 hT0 hT8 hT9 hnc9 hcm9 hncu hcmu hL hsA hsB RT RB OW6 OWU B6 B7 HSA HSB HX1 HVA
  go_wp2_with fail
  have BB0 := hide (Below.refl w9.heap.size w9)
  go_loopw [54] (fun i wr => ∃ j : Nat, j ≤ m ∧ i = .int .i64 j ∧ Below w9.heap.size w9 wr) (fun i _ => m - (intOf i).toNat)
  case atStart => exact ⟨0, by omega, rfl, unhide BB0⟩
  case round =>
    obtain ⟨j, hj, rfl, hB⟩ := hrel
    have BB := hide hB
    clear hB
    by_cases hlt : j < m
    · obtain ⟨gb, go, rfl, hgb, hl1, hl2, k0, k1, k2, k3, k4, k5, k6, k7⟩ := (unhide N9).below (unhide BB) j hlt
      obtain ⟨⟨xc, ⟨fa, fb, fc⟩, xo, ⟨ta, tb, tc⟩⟩, hs⟩ : ∃ x, N j = x := ⟨_, rfl⟩
      rw [hs] at hl1 hl2 k0 k1 k2 k3 k4 k5 k6 k7
      dsimp only at hl1 hl2 k0 k1 k2 k3 k4 k5 k6 k7
      have hji : (j : Int) < (m : Int) := by omega
      obtain ⟨wx, hwx⟩ : ∃ wx, wr.alloc (.cells #[.string ⟨xc.toArray⟩, .int .i64 fa, .int .i64 fb, .int .i64 fc, .string ⟨xo.toArray⟩, .int .i64 ta, .int .i64 tb, .int .i64 tc] 50) = wx := ⟨_, rfl⟩
      have BX : Hid (Below w9.heap.size w9 wx) := hide (hwx ▸ (unhide BB).alloc (unhide BB).size _)
      have KX : Hid (Blk wx wr.heap.size 50 #[.string ⟨xc.toArray⟩, .int .i64 fa, .int .i64 fb, .int .i64 fc, .string ⟨xo.toArray⟩, .int .i64 ta, .int .i64 tb, .int .i64 tc]) := hide (hwx ▸ Blk.new wr _ _)
      have HWX := hide hwx
      clear hs hwx
      go_upto_region 12 with fail
      rw [unhide HWX]
      clear k0 k1 k2 k3 k4 k5 k6 k7
      have IX := hide (((unhide I9).below (unhide BX)).more (unhide BX).size)
      have UX := hide (((unhide U9).below (unhide BX)).more (unhide BX).size)
      have OX := hide (((unhide O9).below (unhide BX)).more (unhide BX).size)
      have hin : Nonempty (InClass (fun W => Below wx.heap.size wx W)) := ⟨⟨_, Below.refl _ _⟩⟩
      have q0 : ∀ x' : InClass (fun W => Below wx.heap.size wx W), x'.val.cell? ⟨wr.heap.size, 0, none⟩ = some (.string ⟨xc.toArray⟩) := fun x' => ((unhide KX).below x'.ok (unhide KX).lt).cell 0
      have q1 : ∀ x' : InClass (fun W => Below wx.heap.size wx W), x'.val.cell? ⟨gl, k * 4, none⟩ = some (.string ⟨nk.toArray⟩) := fun x' => (x'.ok.cell (p := ⟨gl, k * 4, none⟩) (by have := (unhide BX).size; show gl < wx.heap.size; omega)).trans (((unhide BX).cell (p := ⟨gl, k * 4, none⟩) hgl9).trans (unhide NKC))
      have hk00 : (0 : Int) ≤ (k : Int) := by omega
      have hk01 : (k : Int) < (n : Int) := by omega
      have S0 := hide ((Below.refl wx.heap.size wx).drew)
      obtain ⟨e1, he1⟩ : ∃ b, (xc == nk) = b := ⟨_, rfl⟩
      have he2 : (xc != nk) = !e1 := by rw [← he1]; rfl
      obtain ⟨b1, hb1⟩ : ∃ b, metF L n ⟨xc, ⟨fa, fb, fc⟩, xo, ⟨ta, tb, tc⟩⟩ = b := ⟨_, rfl⟩
      obtain ⟨b2, hb2⟩ : ∃ b, metF (upI L k dd) n ⟨xc, ⟨fa, fb, fc⟩, xo, ⟨ta, tb, tc⟩⟩ = b := ⟨_, rfl⟩
      obtain ⟨b3, hb3⟩ : ∃ b, metF (outI L k) (n - 1) ⟨xc, ⟨fa, fb, fc⟩, xo, ⟨ta, tb, tc⟩⟩ = b := ⟨_, rfl⟩
      have IMP : Hid (e1 = false → b1 = true → b2 = true) := hide (fun h1 h2 => by
        rw [← hb2]
        exact met_raise (unhide AP) dd hdd0 ⟨xc, ⟨fa, fb, fc⟩, xo, ⟨ta, tb, tc⟩⟩ (by rw [unhide HNK]; rw [h1] at he1; exact ne_of_beq_false he1) (by rw [hb1, h2]))
      have IMP2 : Hid (e1 = true → b3 = true) := hide (fun h1 => by
        rw [← hb3]
        exact met_without (unhide AP) hkn ⟨xc, ⟨fa, fb, fc⟩, xo, ⟨ta, tb, tc⟩⟩ (by rw [unhide HNK]; rw [h1] at he1; exact eq_of_beq he1))
      have K1 : Hid (∀ x' : InClass (fun W => Below wx.heap.size wx W), Calls Tryd.prog 26 #[.slice (some ⟨gl, 0, none⟩) n c, .agg #[.string ⟨xc.toArray⟩, .int .i64 fa, .int .i64 fb, .int .i64 fc, .string ⟨xo.toArray⟩, .int .i64 ta, .int .i64 tb, .int .i64 tc]] x'.val fun e w'' => e = .returned (.bool b1) ∧ ∃ y' : InClass (fun W => Below wx.heap.size wx W), w'' = y'.val) := hide fun x' =>
        class_call (unhide HMT x'.val _ n c (unhide MD).nc (unhide MD).cm L (((unhide IX).below x'.ok).more x'.ok.size) ⟨xc, ⟨fa, fb, fc⟩, xo, ⟨ta, tb, tc⟩⟩ hl1 hl2 b1 hb1) fun w' h => x'.ok.trans (h.mono x'.ok.size)
      have K2 : Hid (∀ x' : InClass (fun W => Below wx.heap.size wx W), Calls Tryd.prog 26 #[.slice (some ⟨gu, 0, none⟩) n cu, .agg #[.string ⟨xc.toArray⟩, .int .i64 fa, .int .i64 fb, .int .i64 fc, .string ⟨xo.toArray⟩, .int .i64 ta, .int .i64 tb, .int .i64 tc]] x'.val fun e w'' => e = .returned (.bool b2) ∧ ∃ y' : InClass (fun W => Below wx.heap.size wx W), w'' = y'.val) := hide fun x' =>
        class_call (unhide HMT x'.val _ n cu (unhide NCU) (unhide CMU) (upI L k dd) (((unhide UX).below x'.ok).more x'.ok.size) ⟨xc, ⟨fa, fb, fc⟩, xo, ⟨ta, tb, tc⟩⟩ hl1 hl2 b2 hb2) fun w' h => x'.ok.trans (h.mono x'.ok.size)
      have HB3 := hide hb3
      have HL1 := hide hl1
      have HL2 := hide hl2
      clear hb1 hb2 hb3 hl1 hl2
      cases e1
      · have himp := unhide IMP rfl
        refine wp_region_class (fun W => Below wx.heap.size wx W) (by kernel_rfl) (by kernel_rfl) (unhide S0) ?_
        repeat (go_big_quiet_step (fail))
        refine BigFrame.wpQuiet_want rfl (fun K hK => quiet_load_row _ _ rfl wr.heap.size rfl 50 #[.string ⟨xc.toArray⟩, .int .i64 fa, .int .i64 fb, .int .i64 fc, .string ⟨xo.toArray⟩, .int .i64 ta, .int .i64 tb, .int .i64 tc] _ (fun W hW => by obtain ⟨z, rfl⟩ := hW; exact (unhide KX).below z.ok (unhide KX).lt) Tryd.underlying50 rfl (by kernel_rfl) (hK _ ?_))
        simp only [Act.put, List.setIfInBounds_toArray, List.set_cons_zero, List.set_cons_succ]
        go_big_quiet_step ((go_at_call 26; exact (unhide K1) _))
        cases b1
        · repeat (go_big_quiet_step (fail))
          refine wpQuiet_nil ?_
          intro _ hw'
          obtain ⟨x12, hw''⟩ := hw'
          subst hw''
          obtain ⟨w12, hw12⟩ : ∃ w12, w12 = x12.val := ⟨_, rfl⟩
          have B12 : Hid (Below wx.heap.size wx w12) := hide (hw12 ▸ x12.ok)
          rw [← hw12]
          clear hw12 q0 q1
          have S14 := hide ((Below.refl w12.heap.size w12).drew)
          have hin12 : Nonempty (InClass (fun W => Below w12.heap.size w12 W)) := ⟨⟨_, Below.refl _ _⟩⟩
          have KX12 := hide ((unhide KX).below (unhide B12) (unhide KX).lt)
          have q0 : ∀ x' : InClass (fun W => Below w12.heap.size w12 W), x'.val.cell? ⟨wr.heap.size, 0, none⟩ = some (.string ⟨xc.toArray⟩) := fun x' => ((unhide KX12).below x'.ok (unhide KX12).lt).cell 0
          have q1 : ∀ x' : InClass (fun W => Below w12.heap.size w12 W), x'.val.cell? ⟨gl, k * 4, none⟩ = some (.string ⟨nk.toArray⟩) := fun x' => (x'.ok.cell (p := ⟨gl, k * 4, none⟩) (by have := (unhide BX).size; have := (unhide B12).size; show gl < w12.heap.size; omega)).trans (((unhide B12).cell (p := ⟨gl, k * 4, none⟩) (by have := (unhide BX).size; show gl < wx.heap.size; omega)).trans (((unhide BX).cell (p := ⟨gl, k * 4, none⟩) hgl9).trans (unhide NKC)))
          go_upto_region 14 with fail
          refine wp_region_class (fun W => Below w12.heap.size w12 W) (by kernel_rfl) (by kernel_rfl) (unhide S14) ?_
          repeat (go_big_quiet_step (fail))
          refine wpQuiet_nil ?_
          intro _ hw'
          obtain ⟨x14, hw''⟩ := hw'
          subst hw''
          have B14 := hide (((unhide BX).trans ((unhide B12).mono (unhide BX).size)).trans (x14.ok.mono (by have := (unhide BX).size; have := (unhide B12).size; omega)))
          go_wp2_with fail
          go_roundw
          case rel => exact ⟨j + 1, by omega, by go_num, unhide B14⟩
          case measure => simp [intOf]; omega
        · obtain rfl : true = b2 := (himp rfl).symm
          repeat (go_big_quiet_step (fail))
          refine BigFrame.wpQuiet_want rfl (fun K hK => quiet_load_row _ _ rfl wr.heap.size rfl 50 #[.string ⟨xc.toArray⟩, .int .i64 fa, .int .i64 fb, .int .i64 fc, .string ⟨xo.toArray⟩, .int .i64 ta, .int .i64 tb, .int .i64 tc] _ (fun W hW => by obtain ⟨z, rfl⟩ := hW; exact (unhide KX).below z.ok (unhide KX).lt) Tryd.underlying50 rfl (by kernel_rfl) (hK _ ?_))
          simp only [Act.put, List.setIfInBounds_toArray, List.set_cons_zero, List.set_cons_succ]
          go_big_quiet_step ((go_at_call 26; exact (unhide K2) _))
          repeat (go_big_quiet_step (fail))
          refine wpQuiet_nil ?_
          intro _ hw'
          obtain ⟨x12, hw''⟩ := hw'
          subst hw''
          obtain ⟨w12, hw12⟩ : ∃ w12, w12 = x12.val := ⟨_, rfl⟩
          have B12 : Hid (Below wx.heap.size wx w12) := hide (hw12 ▸ x12.ok)
          rw [← hw12]
          clear hw12 q0 q1
          have S14 := hide ((Below.refl w12.heap.size w12).drew)
          have hin12 : Nonempty (InClass (fun W => Below w12.heap.size w12 W)) := ⟨⟨_, Below.refl _ _⟩⟩
          have KX12 := hide ((unhide KX).below (unhide B12) (unhide KX).lt)
          have q0 : ∀ x' : InClass (fun W => Below w12.heap.size w12 W), x'.val.cell? ⟨wr.heap.size, 0, none⟩ = some (.string ⟨xc.toArray⟩) := fun x' => ((unhide KX12).below x'.ok (unhide KX12).lt).cell 0
          have q1 : ∀ x' : InClass (fun W => Below w12.heap.size w12 W), x'.val.cell? ⟨gl, k * 4, none⟩ = some (.string ⟨nk.toArray⟩) := fun x' => (x'.ok.cell (p := ⟨gl, k * 4, none⟩) (by have := (unhide BX).size; have := (unhide B12).size; show gl < w12.heap.size; omega)).trans (((unhide B12).cell (p := ⟨gl, k * 4, none⟩) (by have := (unhide BX).size; show gl < wx.heap.size; omega)).trans (((unhide BX).cell (p := ⟨gl, k * 4, none⟩) hgl9).trans (unhide NKC)))
          go_upto_region 14 with fail
          refine wp_region_class (fun W => Below w12.heap.size w12 W) (by kernel_rfl) (by kernel_rfl) (unhide S14) ?_
          repeat (go_big_quiet_step (fail))
          refine wpQuiet_nil ?_
          intro _ hw'
          obtain ⟨x14, hw''⟩ := hw'
          subst hw''
          have B14 := hide (((unhide BX).trans ((unhide B12).mono (unhide BX).size)).trans (x14.ok.mono (by have := (unhide BX).size; have := (unhide B12).size; omega)))
          go_wp2_with fail
          go_roundw
          case rel => exact ⟨j + 1, by omega, by go_num, unhide B14⟩
          case measure => simp [intOf]; omega
      · obtain rfl : true = b3 := ((unhide IMP2) rfl).symm
        refine wp_region_class (fun W => Below wx.heap.size wx W) (by kernel_rfl) (by kernel_rfl) (unhide S0) ?_
        repeat (go_big_quiet_step (fail))
        refine wpQuiet_nil ?_
        intro _ hw'
        obtain ⟨x12, hw''⟩ := hw'
        subst hw''
        obtain ⟨w12, hw12⟩ : ∃ w12, w12 = x12.val := ⟨_, rfl⟩
        have B12 : Hid (Below wx.heap.size wx w12) := hide (hw12 ▸ x12.ok)
        rw [← hw12]
        clear hw12 q0 q1
        have S14 := hide ((Below.refl w12.heap.size w12).drew)
        have hin12 : Nonempty (InClass (fun W => Below w12.heap.size w12 W)) := ⟨⟨_, Below.refl _ _⟩⟩
        have KX12 := hide ((unhide KX).below (unhide B12) (unhide KX).lt)
        have q0 : ∀ x' : InClass (fun W => Below w12.heap.size w12 W), x'.val.cell? ⟨wr.heap.size, 0, none⟩ = some (.string ⟨xc.toArray⟩) := fun x' => ((unhide KX12).below x'.ok (unhide KX12).lt).cell 0
        have q1 : ∀ x' : InClass (fun W => Below w12.heap.size w12 W), x'.val.cell? ⟨gl, k * 4, none⟩ = some (.string ⟨nk.toArray⟩) := fun x' => (x'.ok.cell (p := ⟨gl, k * 4, none⟩) (by have := (unhide BX).size; have := (unhide B12).size; show gl < w12.heap.size; omega)).trans (((unhide B12).cell (p := ⟨gl, k * 4, none⟩) (by have := (unhide BX).size; show gl < wx.heap.size; omega)).trans (((unhide BX).cell (p := ⟨gl, k * 4, none⟩) hgl9).trans (unhide NKC)))
        have O12 := hide (((unhide OX).below (unhide B12)).more (unhide B12).size)
        have K3 : Hid (∀ x' : InClass (fun W => Below w12.heap.size w12 W), Calls Tryd.prog 26 #[.slice A9 (n - 1) c9, .agg #[.string ⟨xc.toArray⟩, .int .i64 fa, .int .i64 fb, .int .i64 fc, .string ⟨xo.toArray⟩, .int .i64 ta, .int .i64 tb, .int .i64 tc]] x'.val fun e w'' => e = .returned (.bool true) ∧ ∃ y' : InClass (fun W => Below w12.heap.size w12 W), w'' = y'.val) := hide fun x' =>
          class_call (unhide HMT x'.val _ (n - 1) c9 (unhide NC9) (unhide CM9) (outI L k) (((unhide O12).below x'.ok).more x'.ok.size) ⟨xc, ⟨fa, fb, fc⟩, xo, ⟨ta, tb, tc⟩⟩ (unhide HL1) (unhide HL2) true (unhide HB3)) fun w' h => x'.ok.trans (h.mono x'.ok.size)
        go_upto_region 14 with fail
        refine wp_region_class (fun W => Below w12.heap.size w12 W) (by kernel_rfl) (by kernel_rfl) (unhide S14) ?_
        repeat (go_big_quiet_step (fail))
        refine BigFrame.wpQuiet_want rfl (fun K hK => quiet_load_row _ _ rfl wr.heap.size rfl 50 #[.string ⟨xc.toArray⟩, .int .i64 fa, .int .i64 fb, .int .i64 fc, .string ⟨xo.toArray⟩, .int .i64 ta, .int .i64 tb, .int .i64 tc] _ (fun W hW => by obtain ⟨z, rfl⟩ := hW; exact (unhide KX12).below z.ok (unhide KX12).lt) Tryd.underlying50 rfl (by kernel_rfl) (hK _ ?_))
        simp only [Act.put, List.setIfInBounds_toArray, List.set_cons_zero, List.set_cons_succ]
        go_big_quiet_step ((go_at_call 26; exact (unhide K3) _))
        repeat (go_big_quiet_step (fail))
        refine wpQuiet_nil ?_
        intro _ hw'
        obtain ⟨x14, hw''⟩ := hw'
        subst hw''
        have B14 := hide (((unhide BX).trans ((unhide B12).mono (unhide BX).size)).trans (x14.ok.mono (by have := (unhide BX).size; have := (unhide B12).size; omega)))
        go_wp2_with fail
        go_roundw
        case rel => exact ⟨j + 1, by omega, by go_num, unhide B14⟩
        case measure => simp [intOf]; omega
    · have hjf : ((j : Int) < (m : Int)) = False := by simp; omega
      have B10 := hide ((unhide BW9).trans ((unhide BB).mono (unhide BW9).size))
      clear hlt hj
      go_wp2_with fail
      go_ret
      exact ⟨rfl, unhide B10⟩
end Go.Proofs.YtbcbleonpaemgaaDoor
