/- A version that comes in, opened. No condition. -/
import Derived.Test.YtbcbleonpaemgaaDoorVCmp
import Derived.Lib.SmallJoins
import Derived.ChangeShapes
namespace Go.Proofs.YtbcbleonpaemgaaDoor
open Go.ChangeShapes Go.WideShapes Go.ChangeAt Go.RowKit Go.Deep
section
variable {H : Type} {enc : TypeId × Value → H} {W : World}
set_option maxRecDepth 100000 in
theorem open_ver {r : Reach} {b0 : Nat} {v : Value} {d : DataW H} {p : List MemPlace}
    (hv : Value.okWide Tryd.prog W r b0 26 v) (h : DataW.Trod enc Tryd.prog W 0 (fun _ => true) true 26 v d p) :
    ∃ x : Ver, v = .agg #[.int .i64 x.a, .int .i64 x.b, .int .i64 x.c] := by
  obtain ⟨v0, v1, v2, y0, y1, y2, n, rfl, _, _, h0, h1, h2⟩ := Go.Joins.open_agg3 Tryd.underlying26 (by kernel_rfl) (by kernel_rfl) hv h
  obtain ⟨z0, e0, _, _⟩ := DataW.trod_int Tryd.underlying3 h0
  obtain ⟨z1, e1, _, _⟩ := DataW.trod_int Tryd.underlying3 h1
  obtain ⟨z2, e2, _, _⟩ := DataW.trod_int Tryd.underlying3 h2
  simp at e0 e1 e2
  exact ⟨⟨z0, z1, z2⟩, by rw [e0, e1, e2]⟩
end
end Go.Proofs.YtbcbleonpaemgaaDoor
