/- event.Valid, Threshold and State return what the plain functions say; nothing that was there turns. No condition. -/
import Derived.Test.YtklffnfaigmjfaaDoorEPlain
import Derived.Test.YtklffnfaigmjfaaDoorHEnd
import Derived.Test.YtklffnfaigmjfaaDoorRow
import Derived.Test.YtklffnfaigmjfaaDoorProg
import Derived.IntWalk
import Derived.Lib.LaidTab
import Derived.Lib.SmallJoins
namespace Go.Proofs.YtklffnfaigmjfaaDoor
open Go.RowKit
theorem lt_of_cell {W : World} {a : Addr} {v : Value} (h : W.cell? a = some v) : a.block < W.heap.size := by
  rcases Nat.lt_or_ge a.block W.heap.size with h1 | h1
  · exact h1
  · unfold World.cell? at h; rw [Array.getElem?_eq_none h1] at h; cases h
theorem blk10 {w : World} {g : Nat} {t : TypeId} {v0 v1 v2 v3 v4 v5 v6 v7 v8 v9 : Value} (h : Blk w g t #[v0, v1, v2, v3, v4, v5, v6, v7, v8, v9]) : w.cell? ⟨g, 0, none⟩ = some v0 ∧ w.cell? ⟨g, 1, none⟩ = some v1 ∧ w.cell? ⟨g, 2, none⟩ = some v2 ∧ w.cell? ⟨g, 3, none⟩ = some v3 ∧ w.cell? ⟨g, 4, none⟩ = some v4 ∧ w.cell? ⟨g, 5, none⟩ = some v5 ∧ w.cell? ⟨g, 6, none⟩ = some v6 ∧ w.cell? ⟨g, 7, none⟩ = some v7 ∧ w.cell? ⟨g, 8, none⟩ = some v8 ∧ w.cell? ⟨g, 9, none⟩ = some v9 ∧ g < w.heap.size :=
  ⟨h.cell 0, h.cell 1, h.cell 2, h.cell 3, h.cell 4, h.cell 5, h.cell 6, h.cell 7, h.cell 8, h.cell 9, h.lt⟩
/-- The table of offsets lies in memory. -/
def OffAt (w : World) : Prop := Lib.TabIs Tryd.prog w "baseboard/event.offsets" .u8 offs
theorem gOff : Tryd.prog.globalNamed "baseboard/event.offsets" = some 0 := by kernel_rfl
theorem gPow : Tryd.prog.globalNamed "internal/strconv.uint64pow10" = some 1 := by kernel_rfl
theorem OffAt.below {w w' : World} (h : OffAt w) (hb : Below w.heap.size w w') : OffAt w' := Go.Joins.tab_stays gOff h hb (Nat.le_refl _)
theorem OffAt.drewN {w : World} (h : OffAt w) (n : Nat) : OffAt (w.drewN n) := h
theorem OffAt.cell {w : World} (h : OffAt w) (i : Nat) (hi : i < 6) : w.cell? ⟨0, i, none⟩ = some (.int .u8 (offs.getD i 0)) := by
  have := Lib.TabIs.cell h gOff i (by simpa [offs] using hi)
  simpa [offs] using this
set_option maxHeartbeats 1000000 in
theorem thr_low (w : World) (st sn i : Int) (av : Bool) (rd lm : Int) (h0 : i < 0) :
    Calls Tryd.prog 11 #[.int .u8 st, .int .u8 sn, .int .i64 i, .bool av, .int .u8 rd, .int .u8 lm] w fun e w' => e = .returned (.tuple #[.agg zeroEv.c, .int .i64 2]) ∧ Below w.heap.size w w' := by
  have hd : decide (i < 0) = true := by simpa using h0
  go_enter Tryd.func11, Tryd.ntmps11
  go_wp2_with fail
  exact bodyPost_ret (v := .tuple #[.agg zeroEv.c, .int .i64 2]) (res2 rfl _ w.heap.size 26 zeroEv.c _ _ rfl rfl (Blk.new w _ _) Tryd.underlying26 rfl (by kernel_rfl)) rfl ⟨rfl, (Below.refl _ _).alloc (Nat.le_refl _) _⟩
set_option maxHeartbeats 1000000 in
theorem thr_high (w : World) (st sn i : Int) (av : Bool) (rd lm : Int) (h0 : 5 < i) :
    Calls Tryd.prog 11 #[.int .u8 st, .int .u8 sn, .int .i64 i, .bool av, .int .u8 rd, .int .u8 lm] w fun e w' => e = .returned (.tuple #[.agg zeroEv.c, .int .i64 2]) ∧ Below w.heap.size w w' := by
  have hd : decide (i < 0) = false := by simp; omega
  have h1 : ¬ i < 0 := by omega
  have h2 : 6 ≤ i := by omega
  have hd2 : decide (6 ≤ i) = true := by simpa using h2
  go_enter Tryd.func11, Tryd.ntmps11
  go_wp2_with fail
  exact bodyPost_ret (v := .tuple #[.agg zeroEv.c, .int .i64 2]) (res2 rfl _ w.heap.size 26 zeroEv.c _ _ rfl rfl (Blk.new w _ _) Tryd.underlying26 rfl (by kernel_rfl)) rfl ⟨rfl, (Below.refl _ _).alloc (Nat.le_refl _) _⟩
set_option maxHeartbeats 1000000 in
theorem thr_in (w : World) (hO : OffAt w) (st sn : Int) (i : Nat) (av : Bool) (rd lm : Int) (h0 : i < 6) (x : Int) (hx : offs.getD i 0 = x) (hx0 : 0 ≤ x) (hx1 : x ≤ 11) :
    Calls Tryd.prog 11 #[.int .u8 st, .int .u8 sn, .int .i64 (i : Int), .bool av, .int .u8 rd, .int .u8 lm] w fun e w' => e = .returned (.tuple #[.agg (Ev.mk 0 0 32 st sn 1 (!av) (80 + x) rd lm).c, .int .i64 0]) ∧ Below w.heap.size w w' := by
  have hc := hO.cell i h0
  rw [hx] at hc
  have HX := hide hx
  clear hx hO
  have hlt : 0 < w.heap.size := lt_of_cell hc
  have hd : decide ((i : Int) < 0) = false := by simp
  have hd2 : decide ((6 : Int) ≤ (i : Int)) = false := by simp; omega
  have h1 : ¬ (i : Int) < 0 := by omega
  have h2 : ¬ (6 : Int) ≤ (i : Int) := by omega
  have h3 : (i : Int) < 6 := by omega
  go_enter Tryd.func11, Tryd.ntmps11
  go_wp2_with fail
  exact bodyPost_ret (v := .tuple #[.agg (Ev.mk 0 0 32 st sn 1 (!av) (80 + x) rd lm).c, .int .i64 0]) (res2 rfl _ w.heap.size 26 (Ev.mk 0 0 32 st sn 1 (!av) (80 + x) rd lm).c _ _ rfl rfl (Blk.new w _ _) Tryd.underlying26 rfl (by kernel_rfl)) rfl ⟨rfl, (Below.refl _ _).alloc (Nat.le_refl _) _⟩
set_option maxHeartbeats 1000000 in
theorem sta_low (w : World) (st sn i : Int) (av : Bool) (h0 : i < 0) :
    Calls Tryd.prog 13 #[.int .u8 st, .int .u8 sn, .int .i64 i, .bool av] w fun e w' => e = .returned (.tuple #[.agg zeroEv.c, .int .i64 2]) ∧ Below w.heap.size w w' := by
  have hd : decide (i < 0) = true := by simpa using h0
  go_enter Tryd.func13, Tryd.ntmps13
  go_wp2_with fail
  exact bodyPost_ret (v := .tuple #[.agg zeroEv.c, .int .i64 2]) (res2 rfl _ w.heap.size 26 zeroEv.c _ _ rfl rfl (Blk.new w _ _) Tryd.underlying26 rfl (by kernel_rfl)) rfl ⟨rfl, (Below.refl _ _).alloc (Nat.le_refl _) _⟩
set_option maxHeartbeats 1000000 in
theorem sta_high (w : World) (st sn i : Int) (av : Bool) (h0 : 14 < i) :
    Calls Tryd.prog 13 #[.int .u8 st, .int .u8 sn, .int .i64 i, .bool av] w fun e w' => e = .returned (.tuple #[.agg zeroEv.c, .int .i64 2]) ∧ Below w.heap.size w w' := by
  have hd : decide (i < 0) = false := by simp; omega
  have h1 : ¬ i < 0 := by omega
  have hd2 : decide (14 < i) = true := by simpa using h0
  go_enter Tryd.func13, Tryd.ntmps13
  go_wp2_with fail
  exact bodyPost_ret (v := .tuple #[.agg zeroEv.c, .int .i64 2]) (res2 rfl _ w.heap.size 26 zeroEv.c _ _ rfl rfl (Blk.new w _ _) Tryd.underlying26 rfl (by kernel_rfl)) rfl ⟨rfl, (Below.refl _ _).alloc (Nat.le_refl _) _⟩
set_option maxHeartbeats 1000000 in
theorem sta_in (w : World) (st sn i : Int) (av : Bool) (h0 : 0 ≤ i) (h4 : i ≤ 14) :
    Calls Tryd.prog 13 #[.int .u8 st, .int .u8 sn, .int .i64 i, .bool av] w fun e w' => e = .returned (.tuple #[.agg (Ev.mk 0 0 32 st sn 111 (!av) i 255 255).c, .int .i64 0]) ∧ Below w.heap.size w w' := by
  have hd : decide (i < 0) = false := by simp; omega
  have hd2 : decide (14 < i) = false := by simp; omega
  have h1 : ¬ i < 0 := by omega
  have h2 : ¬ 14 < i := by omega
  have hw : IntKind.u8.wrap i = i := IntWalk.u8_in _ (by omega)
  go_enter Tryd.func13, Tryd.ntmps13
  go_wp2_with fail
  exact bodyPost_ret (v := .tuple #[.agg (Ev.mk 0 0 32 st sn 111 (!av) i 255 255).c, .int .i64 0]) (res2 rfl _ w.heap.size 26 (Ev.mk 0 0 32 st sn 111 (!av) i 255 255).c _ _ rfl rfl (Blk.new w _ _) Tryd.underlying26 rfl (by kernel_rfl)) rfl ⟨rfl, (Below.refl _ _).alloc (Nat.le_refl _) _⟩
end Go.Proofs.YtklffnfaigmjfaaDoor
