/- event.Decode: what any bytes are decoded to. No condition. -/
import Derived.Test.YtklffnfaigmjfaaDoorENum
import Derived.Test.YtklffnfaigmjfaaDoorEMake
import Derived.Test.YtklffnfaigmjfaaDoorHHeld
import Derived.Deep.CutRange
namespace Go.Proofs.YtklffnfaigmjfaaDoor
open Go.RowKit
def zc : Array Value := #[.int .u16 0, .int .u32 0, .int .u16 0, .int .u8 0, .int .u8 0, .int .u8 0, .bool false, .int .u8 0, .int .u8 0, .int .u8 0]
def decE (x0 x1 x3 x4 x5 x6 x7 x8 x10 x11 x12 x13 x14 x15 : Int) : Ev :=
  ⟨x0 + 256 * x1, x3 + 256 * x4 + 65536 * x5 + 16777216 * x6, x7 + 256 * x8, x10, x11, x12 % 128, decide (128 ≤ x12), x13, x14, x15⟩
def decR : List Int → Ev × Int
  | [x0, x1, x2, x3, x4, x5, x6, x7, x8, x9, x10, x11, x12, x13, x14, x15] =>
    if x2 = 2 ∧ x9 = 4 then (if validE (decE x0 x1 x3 x4 x5 x6 x7 x8 x10 x11 x12 x13 x14 x15) = true then (decE x0 x1 x3 x4 x5 x6 x7 x8 x10 x11 x12 x13 x14 x15, 0) else (zeroEv, 1)) else (zeroEv, 6)
  | l => if l.length < 16 then (zeroEv, 4) else (zeroEv, 6)
def DecPost (w : World) (X : Ev) (f : Int) (e : Ending) (w' : World) : Prop := e = .returned (.tuple #[.agg X.c, .int .i64 f]) ∧ Below w.heap.size w w'
set_option maxHeartbeats 1000000 in
theorem dec_short (w : World) (A : Option Addr) (n c : Nat) (h : n < 16) :
    Calls Tryd.prog 31 #[.slice A n c] w (DecPost w zeroEv 4) := by
  have h1 : (n : Int) < 16 := by omega
  go_enter Tryd.func31, Tryd.ntmps31
  go_wp2_with fail
  refine bodyPost_ret (v := .tuple #[.agg zeroEv.c, .int .i64 4]) ?_ rfl ?_
  · exact res2 rfl _ w.heap.size 26 zeroEv.c _ _ rfl rfl (Blk.new w _ _) Tryd.underlying26 rfl (by kernel_rfl)
  · exact ⟨rfl, (Below.refl _ _).alloc (Nat.le_refl _) _⟩
set_option maxHeartbeats 1000000 in
theorem dec_long (w : World) (A : Option Addr) (n c : Nat) (h : 16 < n) :
    Calls Tryd.prog 31 #[.slice A n c] w (DecPost w zeroEv 6) := by
  have h1 : ((n : Int) < 16) = False := by simp; omega
  have h2 : (16 : Int) < (n : Int) := by omega
  go_enter Tryd.func31, Tryd.ntmps31
  go_wp2_with fail
  refine bodyPost_ret (v := .tuple #[.agg zeroEv.c, .int .i64 6]) ?_ rfl ?_
  · exact res2 rfl _ w.heap.size 26 zeroEv.c _ _ rfl rfl (Blk.new w _ _) Tryd.underlying26 rfl (by kernel_rfl)
  · exact ⟨rfl, (Below.refl _ _).alloc (Nat.le_refl _) _⟩
set_option maxHeartbeats 1000000 in
theorem dec_form2 (w : World) (g o : Nat) (c : Nat) (x2 : Int) (hc2 : (w.alloc (.cells zc 26)).cell? ⟨g, o + 2, none⟩ = some (.int .u8 x2)) (h : x2 ≠ 2) :
    Calls Tryd.prog 31 #[.slice (some ⟨g, o, none⟩) 16 c] w (DecPost w zeroEv 6) := by
  unfold zc at hc2
  have hd : (x2 != 2) = true := by simpa using h
  go_enter Tryd.func31, Tryd.ntmps31
  go_wp2_with fail
  refine bodyPost_ret (v := .tuple #[.agg zeroEv.c, .int .i64 6]) ?_ rfl ?_
  · exact res2 rfl _ w.heap.size 26 zeroEv.c _ _ rfl rfl (Blk.new w _ _) Tryd.underlying26 rfl (by kernel_rfl)
  · exact ⟨rfl, (Below.refl _ _).alloc (Nat.le_refl _) _⟩
set_option maxHeartbeats 1000000 in
theorem dec_form9 (w : World) (g o : Nat) (c : Nat) (x9 : Int) (hc2 : (w.alloc (.cells zc 26)).cell? ⟨g, o + 2, none⟩ = some (.int .u8 2)) (hc9 : (w.alloc (.cells zc 26)).cell? ⟨g, o + 9, none⟩ = some (.int .u8 x9)) (h : x9 ≠ 4) :
    Calls Tryd.prog 31 #[.slice (some ⟨g, o, none⟩) 16 c] w (DecPost w zeroEv 6) := by
  unfold zc at hc2 hc9
  have hd : (x9 != 4) = true := by simpa using h
  go_enter Tryd.func31, Tryd.ntmps31
  go_wp2_with fail
  refine bodyPost_ret (v := .tuple #[.agg zeroEv.c, .int .i64 6]) ?_ rfl ?_
  · exact res2 rfl _ w.heap.size 26 zeroEv.c _ _ rfl rfl (Blk.new w _ _) Tryd.underlying26 rfl (by kernel_rfl)
  · exact ⟨rfl, (Below.refl _ _).alloc (Nat.le_refl _) _⟩
end Go.Proofs.YtklffnfaigmjfaaDoor
