/- version.Compare, version.Valid and the references' order: cmp3, validV; nothing that was there turns. No condition. -/
import Derived.Test.YtbcbleonpaemgaaDoorVCmp
namespace Go.Proofs.YtbcbleonpaemgaaDoor
open Go.RowKit
def Ver.v (x : Ver) : Value := .agg x.c3
set_option maxHeartbeats 1000000 in
theorem cmp_any (w : World) (x y : Ver) (r : Int) (hr : cmp3 x y = r) :
    Calls Tryd.prog 16 #[.agg #[.int .i64 x.a, .int .i64 x.b, .int .i64 x.c], .agg #[.int .i64 y.a, .int .i64 y.b, .int .i64 y.c]] w fun e w' => e = .returned (.int .i64 r) ∧ Below w.heap.size w w' := by
  have HR := hide hr
  clear hr
  obtain ⟨W2, hW2⟩ : ∃ W2, (w.alloc (.cells x.c3 26)).alloc (.cells y.c3 26) = W2 := ⟨_, rfl⟩
  have H1 : Hid (Blk W2 w.heap.size 26 x.c3) := hide (hW2 ▸ (Blk.new w _ _).alloc _)
  have H2 : Hid (Blk W2 (w.heap.size + 1) 26 y.c3) := hide (hW2 ▸ Blk.new' (by simp))
  have B0 : Hid (Below w.heap.size w W2) := hide (hW2 ▸ below2 _ _ _)
  have HW := hide hW2
  clear hW2
  have hin : Nonempty (InClass (fun W => Below W2.heap.size W2 W)) := ⟨⟨_, Below.refl _ _⟩⟩
  have K1 : Hid (∀ x' : InClass (fun W => Below W2.heap.size W2 W), Calls Tryd.prog 32 #[.agg #[.int .i64 x.a, .int .i64 x.b, .int .i64 x.c]] x'.val fun e w'' => e = .returned (.agg #[.int .i64 x.a, .int .i64 x.b, .int .i64 x.c]) ∧ ∃ y' : InClass (fun W => Below W2.heap.size W2 W), w'' = y'.val) :=
    hide fun x' => class_call (numbers_any _ _ _ _) fun w' h => x'.ok.trans (h.mono x'.ok.size)
  have K2 : Hid (∀ x' : InClass (fun W => Below W2.heap.size W2 W), Calls Tryd.prog 32 #[.agg #[.int .i64 y.a, .int .i64 y.b, .int .i64 y.c]] x'.val fun e w'' => e = .returned (.agg #[.int .i64 y.a, .int .i64 y.b, .int .i64 y.c]) ∧ ∃ y' : InClass (fun W => Below W2.heap.size W2 W), w'' = y'.val) :=
    hide fun x' => class_call (numbers_any _ _ _ _) fun w' h => x'.ok.trans (h.mono x'.ok.size)
  have K3 : Hid (∀ x' : InClass (fun W => Below W2.heap.size W2 W), Calls Tryd.prog 33 #[.agg #[.int .i64 x.a, .int .i64 x.b, .int .i64 x.c], .agg #[.int .i64 y.a, .int .i64 y.b, .int .i64 y.c]] x'.val fun e w'' => e = .returned (.int .i64 r) ∧ ∃ y' : InClass (fun W => Below W2.heap.size W2 W), w'' = y'.val) :=
    hide fun x' => class_call (compare_any _ x y r (unhide HR)) fun w' h => x'.ok.trans (h.mono x'.ok.size)
  go_enter Tryd.func16, Tryd.ntmps16
  go_wp2_with fail
  have hw2 := unhide HW
  simp only [Ver.c3] at hw2
  rw [hw2]
  clear hw2
  have hS0 := hide ((Below.refl W2.heap.size W2).drew)
  refine wp_region_class (fun W => Below W2.heap.size W2 W) (by kernel_rfl) (by kernel_rfl) (unhide hS0) ?_
  refine BigFrame.wpQuiet_want rfl (fun K hK => quiet_load_row _ _ rfl w.heap.size rfl 26 x.c3 _ (fun W hW => by obtain ⟨z, rfl⟩ := hW; exact (unhide H1).below z.ok (unhide H1).lt) Tryd.underlying26 rfl (by kernel_rfl) (hK _ ?_))
  simp only [Act.put, List.setIfInBounds_toArray, List.set_cons_zero, List.set_cons_succ, Ver.c3]
  repeat (go_big_quiet_step ((go_at_call 32; exact (unhide K1) _)))
  refine BigFrame.wpQuiet_want rfl (fun K hK => quiet_load_row _ _ rfl (w.heap.size + 1) rfl 26 y.c3 _ (fun W hW => by obtain ⟨z, rfl⟩ := hW; exact (unhide H2).below z.ok (unhide H2).lt) Tryd.underlying26 rfl (by kernel_rfl) (hK _ ?_))
  simp only [Act.put, List.setIfInBounds_toArray, List.set_cons_zero, List.set_cons_succ, Ver.c3]
  repeat (go_big_quiet_step (first | (go_at_call 32; exact (unhide K2) _) | (go_at_call 33; exact (unhide K3) _)))
  refine wpQuiet_nil ?_
  intro _ hw'
  obtain ⟨x13, hw''⟩ := hw'
  subst hw''
  have B3 := hide ((unhide B0).trans (x13.ok.mono (unhide B0).size))
  go_wp2_with fail
  go_ret
  exact ⟨rfl, unhide B3⟩
end Go.Proofs.YtbcbleonpaemgaaDoor
