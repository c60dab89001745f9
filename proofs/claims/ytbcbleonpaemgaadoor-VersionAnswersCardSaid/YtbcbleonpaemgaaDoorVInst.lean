/- baseboardfield's Installed: a list of one to five components, whose names ascend. No condition. -/
import Derived.Test.YtbcbleonpaemgaaDoorVField
import Derived.Test.YtbcbleonpaemgaaDoorMem
namespace Go.Proofs.YtbcbleonpaemgaaDoor
open Go.RowKit
theorem grown_far {a b c : World} {g : Nat} {row : Option Nat} (h : a.grownBy b (some g)) (k : b.grownBy c row) (hr : ∀ j, row = some j → a.heap.size ≤ j) : a.grownBy c (some g) :=
  ⟨k.os.trans h.os, k.tape.trans h.tape, k.output.trans h.output, Nat.le_trans h.size k.size, fun i hi hn => (k.block i (Nat.lt_of_lt_of_le hi h.size) (fun e => by have := hr i e.symm; omega)).trans (h.block i hi hn)⟩
theorem codes_far {b c : World} {B g : Nat} {row : Option Nat} (h : CodesAt b B g) (k : b.grownBy c row) (hr : ∀ j, row = some j → g < j) : CodesAt c B g :=
  h.keep fun i hi => k.block i (by have := h.lt; omega) (fun e => by have := hr i e.symm; omega)
theorem info_inst : (Tryd.prog.info? 42).map (fun i => (i.zero, i.size, i.bytes)) = some (some (.agg #[.string ⟨#[]⟩, .int .i64 0, .int .i64 0, .int .i64 0]), 4, 40) := by kernel_rfl
def goodV (v : Ver) : Prop := 1 ≤ v.a ∧ v.a ≤ 3 ∧ 0 ≤ v.b ∧ v.b ≤ 1 ∧ v.c = 0
/-- What has been collected. -/
def InstRel (w : World) (B g base k : Nat) (v : Value) (wr : World) : Prop :=
  ∃ l : List Inst, l.length = k ∧ l.map (·.s) = nmL.take k ∧ (∀ x ∈ l, goodV x.v) ∧ wr.ownsRow base 42 4 v k (l.flatMap Inst.cs) ∧ CodesAt wr B g ∧ w.grownBy wr (some g) ∧ Blk wr w.heap.size 9 nmCs ∧ w.heap.size < base ∧ base ≤ wr.heap.size
theorem InstRel.step {w wr w5 w6 : World} {B g base k : Nat} {v v' : Value} {s : List UInt8} {a b : Int} {o : Obj} (h : InstRel w B g base k v wr) (hg : g < w.heap.size) (hk : k < 6) (hs : nmL.getD k [] = s)
    (hv : goodV ⟨a, b, 0⟩) (hc : CodesAt w5 B g) (h5 : wr.grownBy w5 (some g))
    (l : List Inst) (hl : l.length = k) (hm : l.map (·.s) = nmL.take k) (hgv : ∀ x ∈ l, goodV x.v) (hown : wr.ownsRow base 42 4 v k (l.flatMap Inst.cs))
    (hap : w6.ownsRow base 42 4 v' (k + 1) (l.flatMap Inst.cs ++ [.string ⟨s.toArray⟩, .int .i64 a, .int .i64 b, .int .i64 0])) (h6 : (w5.alloc o).grownBy w6 v.ownBlock) : InstRel w B g base (k + 1) v' w6 := by
  obtain ⟨_, _, _, _, _, _, hgr, hbl, hlt, hle⟩ := h
  have hge := own_ge hown
  refine ⟨l ++ [⟨s, ⟨a, b, 0⟩⟩], by simp [hl], ?_, ?_, ?_, ?_, ?_, ?_, hlt, by have h7 := h5.size; have h8 := h6.size; rw [size_alloc] at h8; omega⟩
  · rw [List.map_append, hm, List.take_add_one]
    have : nmL[k]? = some s := by
      rw [← hs, List.getD_eq_getElem?_getD, List.getElem?_eq_getElem (show k < nmL.length from hk)]
      rfl
    rw [this]
    rfl
  · intro x hx
    rcases List.mem_append.1 hx with h | h
    · exact hgv x h
    · obtain rfl := List.mem_singleton.1 h
      exact hv
  · rw [List.flatMap_append]
    exact hap
  · refine codes_far (codes_far hc (World.grownBy_alloc w5 o none) (fun j e => by cases e)) h6 (fun j e => by have := hge j e; omega)
  · exact grown_far (grown_far (grown_trans_some hgr h5) (World.grownBy_alloc w5 o none) (fun j e => by cases e)) h6 (fun j e => by have := hge j e; omega)
  · exact (((hbl.grown h5 (by intro e; injection e with e; omega)).alloc o).grown h6 (fun e => by have := hge _ e.symm; omega))
/-- What Installed leaves. -/
def InstPost (w : World) (B g : Nat) (e : Ending) (w' : World) : Prop :=
  ∃ (v : Value) (l : List Inst), e = .returned v ∧ 1 ≤ l.length ∧ l.length ≤ 5 ∧ l.map (·.s) = nmL.take l.length ∧ (∀ x ∈ l, goodV x.v) ∧ w'.ownsRow w.heap.size 42 4 v l.length (l.flatMap Inst.cs) ∧ CodesAt w' B g ∧ w.grownBy w' (some g)
set_option maxRecDepth 100000 in
set_option maxHeartbeats 4000000 in
theorem installed_any (w : World) (B g : Nat) (h : CodesAt w B g) : Calls Tryd.prog 18 #[.pointer (some ⟨g, 0, none⟩)] w (InstPost w B g) := by
  have hg := h.lt
  have HC : Hid (CodesAt (w.alloc (.cells nmCs 9)) B g) := hide (h.keep fun b hb => Below.heap_alloc w _ b (by omega))
  have HZ : Hid (Blk (w.alloc (.cells nmCs 9)) w.heap.size 9 nmCs) := hide (Blk.new w _ _)
  have G0 : Hid (w.grownBy (w.alloc (.cells nmCs 9)) (some g)) := hide (World.grownBy_alloc w _ _)
  obtain ⟨i0, hi, hz0, hz1, hz2⟩ := info_parts info_inst
  have HI := hide hi
  have HI0 := hide hz0
  have HI1 := hide hz1
  have HI2 := hide hz2
  clear h hi hz0 hz1 hz2
  go_enter Tryd.func18, Tryd.ntmps18
  go_wp2_with fail
  refine (names_any _).mono ?_
  rintro e w1 ⟨rfl, rfl⟩
  go_wp2_with fail
  refine (next_any _ B g 5 (unhide HC) (by omega) (by omega)).mono ?_
  rintro e w2 ⟨r, rfl, hr0, hr1, hc2, hg2⟩
  obtain ⟨r, rfl⟩ := Int.eq_ofNat_of_zero_le hr0
  have hr4 : r ≤ 4 := by omega
  have REL : Hid (InstRel w B g w2.heap.size 0 (.slice none 0 0) w2) := hide ⟨[], rfl, rfl, fun x hx => by simp at hx, World.ownsRow_nil _ _ _ _, hc2, grown_trans_some (unhide G0) hg2, (unhide HZ).grown hg2 (by intro e; injection e with e; omega), by have := hg2.size; rw [size_alloc] at this; omega, Nat.le_refl _⟩
  have hb2 : w.heap.size < w2.heap.size := by have := hg2.size; rw [size_alloc] at this; omega
  clear hc2 hg2 hr1
  go_wp2_with fail
  go_loopw [3, 12] (fun v i wr => ∃ k : Nat, k ≤ 1 + r ∧ i = .int .i64 k ∧ InstRel w B g w2.heap.size k v wr) (fun _ i _ => 1 + r - (intOf i).toNat)
  case atStart => exact ⟨0, by omega, rfl, unhide REL⟩
  case round =>
    obtain ⟨k, hk, rfl, hrel⟩ := hrel
    have HR := hide hrel
    by_cases hkl : k < 1 + r
    · obtain ⟨l0, hl0, hm0, hv0, hown, hcr, hgr, hbl, _, hbase⟩ := hrel
      obtain ⟨s, hs⟩ : ∃ s, nmL.getD k [] = s := ⟨_, rfl⟩
      obtain ⟨hcell, hsl⟩ := nm_at k (by omega)
      have hc := (hbl.cell k).trans hcell
      rw [hs] at hc hsl
      have hblt := hbl.lt
      have OWN := hide hown
      have CR := hide hcr
      have HS := hide hs
      have hsize := size_list s 4 hsl
      have hki : (k : Int) < 1 + (r : Int) := by omega
      have hgl := hown.lt
      have HGL := hide hgl
      have HL0 := hide hl0
      have HM0 := hide hm0
      have HV0 := hide hv0
      clear hl0 hm0 hv0 hown hcr hgr hbl hcell hs hsl hgl
      go_wp2_with fail
      refine (plain_any _ B g (unhide CR)).mono ?_
      rintro e w5 ⟨a, b, rfl, ha1, ha3, hb0, hb1, hc5, hg5⟩
      have hne5 : Value.ownBlock u3 = none ∨ Value.ownBlock u3 ≠ some g := by
        by_cases e : Value.ownBlock u3 = some g
        · have := own_ge (unhide OWN) g e; omega
        · exact .inr e
      have OWN5 := hide (((unhide OWN).kept hg5 hne5).alloc (.cells #[.string ⟨s.toArray⟩, .int .i64 a, .int .i64 b, .int .i64 0] 42))
      have C5 := hide hc5
      have G5 := hide hg5
      have RD : Hid (Reads (w5.alloc (.cells #[.string ⟨s.toArray⟩, .int .i64 a, .int .i64 b, .int .i64 0] 42)) (w5.heap.size + 1) 4 (some ⟨w5.heap.size, 0, none⟩) 1 [.string ⟨s.toArray⟩, .int .i64 a, .int .i64 b, .int .i64 0]) := hide ⟨rfl, fun _ => ⟨_, rfl, Nat.lt_succ_self _, fun j u hu => by
        rw [add_mk, Nat.zero_add]
        have := (Blk.new w5 42 #[.string ⟨s.toArray⟩, .int .i64 a, .int .i64 b, .int .i64 0]).cell j
        rw [this]
        simpa using hu⟩⟩
      have hbase5 : w2.heap.size ≤ w5.heap.size := by
        have h1 := hg5.size
        omega
      clear hc5 hg5 hc
      go_wp2_with (first
        | (at_builtin; refine wpList_append_any (w5.alloc (.cells #[.string ⟨s.toArray⟩, .int .i64 a, .int .i64 b, .int .i64 0] 42)) rfl (.tmp 16) (.tmp 21) 23 rfl w2.heap.size 42 i0 (.agg #[.string ⟨#[]⟩, .int .i64 0, .int .i64 0, .int .i64 0]) 4 40 Tryd.underlying23 (unhide HI) (unhide HI0) (unhide HI1) (unhide HI2) rfl (by decide) u3 k _ rfl (unhide OWN5) (w5.heap.size + 1) (some ⟨w5.heap.size, 0, none⟩) 1 1 [.string ⟨s.toArray⟩, .int .i64 a, .int .i64 b, .int .i64 0] rfl (unhide RD) (by intro u hu; simp at hu; rcases hu with rfl | rfl | rfl | rfl <;> rfl) (by unfold maxLen; omega) (by omega) (by rw [size_alloc]; omega) ?_
           intro v6 w6 hown6 hgr6 _
           have REL6 := hide (InstRel.step (unhide HR) hg (by omega) (unhide HS) ⟨ha1, ha3, hb0, hb1, rfl⟩ (unhide C5) (unhide G5) l0 (unhide HL0) (unhide HM0) (unhide HV0) (unhide OWN) hown6 hgr6)
           clear hown6 hgr6)
        | fail)
      go_roundw
      case rel => exact ⟨k + 1, by omega, by go_num, unhide REL6⟩
      case measure => simp [intOf]; omega
    · have hk1 : k = 1 + r := by omega
      have HK := hide hk1
      have hkf : ((k : Int) < 1 + (r : Int)) = False := by simp; omega
      clear hk1 hk hkl hrel
      go_wp2_with fail
      go_ret
      obtain ⟨l, hl, hm, hgv, hown, hcr, hgr, _, hlt, _⟩ := unhide HR
      rw [← hl] at hm hown
      have HK2 := unhide HK
      exact ⟨u3, l, rfl, by omega, by omega, hm, hgv, ⟨hown.1, by
        rcases hown.2 with h | ⟨g', cap, cur, h1, h2, h3⟩
        · exact .inl h
        · exact .inr ⟨g', cap, cur, h1, by omega, h3⟩⟩, hcr, hgr⟩
end Go.Proofs.YtbcbleonpaemgaaDoor
