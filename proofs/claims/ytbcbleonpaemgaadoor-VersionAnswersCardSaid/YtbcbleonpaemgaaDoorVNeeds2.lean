/- baseboardfield's Needs: a list of needs whose names are short. No condition. -/
import Derived.Test.YtbcbleonpaemgaaDoorVNeedM
namespace Go.Proofs.YtbcbleonpaemgaaDoor
open Go.RowKit
def NeedS.cs (x : NeedS) : List Value := [.string ⟨x.c.toArray⟩, .int .i64 x.f.a, .int .i64 x.f.b, .int .i64 x.f.c, .string ⟨x.o.toArray⟩, .int .i64 x.t.a, .int .i64 x.t.b, .int .i64 x.t.c]
theorem info_need : (Tryd.prog.info? 50).map (fun i => (i.zero, i.size, i.bytes)) = some (some (.agg #[.string ⟨#[]⟩, .int .i64 0, .int .i64 0, .int .i64 0, .string ⟨#[]⟩, .int .i64 0, .int .i64 0, .int .i64 0]), 8, 80) := by kernel_rfl
/-- What has been collected. -/
def NeedsRel (w : World) (B g base : Nat) (k : Nat) (v : Value) (wr : World) : Prop :=
  ∃ l : List NeedS, l.length = k ∧ (∀ x ∈ l, x.c.length ≤ 16 ∧ x.o.length ≤ 16) ∧ wr.ownsRow base 50 8 v k (l.flatMap NeedS.cs) ∧ CodesAt wr B g ∧ w.grownBy wr (some g) ∧ w.heap.size ≤ base ∧ base ≤ wr.heap.size
theorem NeedsRel.step {w wr w5 w6 : World} {B g base k : Nat} {v v' : Value} {x : NeedS} {o : Obj} (h : NeedsRel w B g base k v wr) (hg : g < w.heap.size)
    (hx : x.c.length ≤ 16 ∧ x.o.length ≤ 16) (hc : CodesAt w5 B g) (h5 : wr.grownBy w5 (some g))
    (l : List NeedS) (hl : l.length = k) (hgv : ∀ x ∈ l, x.c.length ≤ 16 ∧ x.o.length ≤ 16) (hown : wr.ownsRow base 50 8 v k (l.flatMap NeedS.cs))
    (hap : w6.ownsRow base 50 8 v' (k + 1) (l.flatMap NeedS.cs ++ x.cs)) (h6 : (w5.alloc o).grownBy w6 v.ownBlock) : NeedsRel w B g base (k + 1) v' w6 := by
  obtain ⟨_, _, _, _, _, hgr, hlt, hle⟩ := h
  have hge := own_ge hown
  refine ⟨l ++ [x], by simp [hl], ?_, ?_, ?_, ?_, hlt, by have h7 := h5.size; have h8 := h6.size; rw [size_alloc] at h8; omega⟩
  · intro y hy
    rcases List.mem_append.1 hy with h | h
    · exact hgv y h
    · obtain rfl := List.mem_singleton.1 h
      exact hx
  · rw [List.flatMap_append, List.flatMap_singleton]
    exact hap
  · exact codes_far (codes_far hc (World.grownBy_alloc w5 o none) (fun j e => by cases e)) h6 (fun j e => by have := hge j e; omega)
  · exact grown_far (grown_far (grown_trans_some hgr h5) (World.grownBy_alloc w5 o none) (fun j e => by cases e)) h6 (fun j e => by have := hge j e; omega)
/-- What Needs leaves. -/
def NeedsPost (w : World) (B g most : Nat) (e : Ending) (w' : World) : Prop :=
  ∃ (v : Value) (l : List NeedS), e = .returned v ∧ l.length ≤ most ∧ (∀ x ∈ l, x.c.length ≤ 16 ∧ x.o.length ≤ 16) ∧ w'.ownsRow w.heap.size 50 8 v l.length (l.flatMap NeedS.cs) ∧ CodesAt w' B g ∧ w.grownBy w' (some g)
set_option maxRecDepth 100000 in
set_option maxHeartbeats 4000000 in
theorem needs_any (w : World) (B g most : Nat) (hmost : most ≤ 1000) (h : CodesAt w B g) : Calls Tryd.prog 23 #[.pointer (some ⟨g, 0, none⟩), .int .i64 (most : Int)] w (NeedsPost w B g most) := by
  have hg := h.lt
  have HC := hide h
  obtain ⟨i0, hi, hz0, hz1, hz2⟩ := info_parts info_need
  have HI := hide hi
  have HI0 := hide hz0
  have HI1 := hide hz1
  have HI2 := hide hz2
  clear h hi hz0 hz1 hz2
  go_enter Tryd.func23, Tryd.ntmps23
  go_wp2_with fail
  refine (next_any _ B g ((most : Int) + 1) (unhide HC) (by omega) (by omega)).mono ?_
  rintro e w2 ⟨r, rfl, hr0, hr1, hc2, hg2⟩
  obtain ⟨r, rfl⟩ := Int.eq_ofNat_of_zero_le hr0
  have hrm : r ≤ most := by omega
  have REL : Hid (NeedsRel w B g w.heap.size 0 (.slice none 0 0) w2) := hide ⟨[], rfl, fun x hx => by simp at hx, World.ownsRow_nil _ _ _ _, hc2, hg2, Nat.le_refl _, hg2.size⟩
  clear hc2 hg2 hr1 hr0
  go_wp2_with fail
  go_loopw [5, 6] (fun v i wr => ∃ m k : Nat, k + m ≤ most ∧ i = .int .i64 m ∧ NeedsRel w B g w.heap.size k v wr) (fun _ i _ => (intOf i).toNat)
  case atStart => exact ⟨r, 0, by omega, rfl, unhide REL⟩
  case round =>
    obtain ⟨m, k, hk, rfl, hrel⟩ := hrel
    have HR := hide hrel
    by_cases hml : 0 < m
    · obtain ⟨l0, hl0, hv0, hown, hcr, hgr, _, hbase⟩ := hrel
      have OWN := hide hown
      have CR := hide hcr
      have HL0 := hide hl0
      have HV0 := hide hv0
      have hmi : (0 : Int) < (m : Int) := by omega
      clear hl0 hv0 hown hcr hgr
      go_wp2_with fail
      refine (need_any _ B g (unhide CR)).mono ?_
      rintro e w5 ⟨x, rfl, hx1, hx2, hc5, hg5⟩
      obtain ⟨xc, ⟨fa, fb, fc⟩, xo, ⟨ta, tb, tc⟩⟩ := x
      simp only [NeedS.cells]
      have HX := hide (⟨hx1, hx2⟩ : (NeedS.mk xc ⟨fa, fb, fc⟩ xo ⟨ta, tb, tc⟩).c.length ≤ 16 ∧ (NeedS.mk xc ⟨fa, fb, fc⟩ xo ⟨ta, tb, tc⟩).o.length ≤ 16)
      have hne5 : Value.ownBlock u5 = none ∨ Value.ownBlock u5 ≠ some g := by
        by_cases e : Value.ownBlock u5 = some g
        · have := own_ge (unhide OWN) g e; omega
        · exact .inr e
      have OWN5 := hide (((unhide OWN).kept hg5 hne5).alloc (.cells #[.string ⟨xc.toArray⟩, .int .i64 fa, .int .i64 fb, .int .i64 fc, .string ⟨xo.toArray⟩, .int .i64 ta, .int .i64 tb, .int .i64 tc] 50))
      have C5 := hide hc5
      have G5 := hide hg5
      have RD : Hid (Reads (w5.alloc (.cells #[.string ⟨xc.toArray⟩, .int .i64 fa, .int .i64 fb, .int .i64 fc, .string ⟨xo.toArray⟩, .int .i64 ta, .int .i64 tb, .int .i64 tc] 50)) (w5.heap.size + 1) 8 (some ⟨w5.heap.size, 0, none⟩) 1 [.string ⟨xc.toArray⟩, .int .i64 fa, .int .i64 fb, .int .i64 fc, .string ⟨xo.toArray⟩, .int .i64 ta, .int .i64 tb, .int .i64 tc]) := hide ⟨rfl, fun _ => ⟨_, rfl, Nat.lt_succ_self _, fun j u hu => by
        rw [add_mk, Nat.zero_add]
        have := (Blk.new w5 50 #[.string ⟨xc.toArray⟩, .int .i64 fa, .int .i64 fb, .int .i64 fc, .string ⟨xo.toArray⟩, .int .i64 ta, .int .i64 tb, .int .i64 tc]).cell j
        rw [this]
        simpa using hu⟩⟩
      have hbase5 : w.heap.size ≤ w5.heap.size := by
        have h1 := hg5.size
        omega
      clear hc5 hg5 hx1 hx2
      go_wp2_with (first
        | (at_builtin; refine wpList_append_any (w5.alloc (.cells #[.string ⟨xc.toArray⟩, .int .i64 fa, .int .i64 fb, .int .i64 fc, .string ⟨xo.toArray⟩, .int .i64 ta, .int .i64 tb, .int .i64 tc] 50)) rfl (.tmp 15) (.tmp 18) 24 rfl w.heap.size 50 i0 (.agg #[.string ⟨#[]⟩, .int .i64 0, .int .i64 0, .int .i64 0, .string ⟨#[]⟩, .int .i64 0, .int .i64 0, .int .i64 0]) 8 80 Tryd.underlying24 (unhide HI) (unhide HI0) (unhide HI1) (unhide HI2) rfl (by decide) u5 k _ rfl (unhide OWN5) (w5.heap.size + 1) (some ⟨w5.heap.size, 0, none⟩) 1 1 [.string ⟨xc.toArray⟩, .int .i64 fa, .int .i64 fb, .int .i64 fc, .string ⟨xo.toArray⟩, .int .i64 ta, .int .i64 tb, .int .i64 tc] rfl (unhide RD) (by intro u hu; simp at hu; rcases hu with rfl | rfl | rfl | rfl | rfl | rfl | rfl | rfl <;> rfl) (by unfold maxLen; omega) (by omega) (by rw [size_alloc]; omega) ?_
           intro v6 w6 hown6 hgr6 _
           have REL6 := hide (NeedsRel.step (x := ⟨xc, ⟨fa, fb, fc⟩, xo, ⟨ta, tb, tc⟩⟩) (unhide HR) hg (unhide HX) (unhide C5) (unhide G5) l0 (unhide HL0) (unhide HV0) (unhide OWN) hown6 hgr6)
           clear hown6 hgr6)
        | fail)
      go_roundw
      case rel => exact ⟨m - 1, k + 1, by omega, by first | go_num | (congr 1; omega), unhide REL6⟩
      case measure => simp [intOf]; omega
    · have hmi : (m : Int) ≤ 0 := by omega
      clear hml hrel
      go_wp2_with fail
      go_ret
      obtain ⟨l, hl, hgv, hown, hcr, hgr, _, _⟩ := unhide HR
      rw [← hl] at hown
      exact ⟨u5, l, rfl, by omega, hgv, hown, hcr, hgr⟩
end Go.Proofs.YtbcbleonpaemgaaDoor
