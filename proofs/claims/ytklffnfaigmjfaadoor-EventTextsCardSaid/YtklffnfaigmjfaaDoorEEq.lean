/- '==' of two arrays of three bytes. No condition. -/
import Derived.Test.YtklffnfaigmjfaaDoorEMake
import Derived.ChangeKeysEq
import Derived.Laws.StructEq
namespace Go.Proofs.YtklffnfaigmjfaaDoor
open Go.RowKit
theorem eq3 (W : World) (a b c a' b' c' : Int) : (Op.equalIn 9999 24 (.agg #[.int .u8 a, .int .u8 b, .int .u8 c]) (.agg #[.int .u8 a', .int .u8 b', .int .u8 c'])).run Tryd.prog W = .ok (a == a' && (b == b' && c == c')) W := by
  obtain ⟨i, hi⟩ := info_of_underlying (P := Tryd.prog) Tryd.underlying5
  have hc : Tryd.prog.cellsOf 5 = 1 := by kernel_rfl
  have hpl : Tryd.prog.plainKey 5 = true := by kernel_rfl
  rw [run_equalIn_array W 9998 _ _ Tryd.underlying24 hi, hc]
  have p0 : ∀ x y z : Int, (#[Value.int .u8 x, .int .u8 y, .int .u8 z] : Array Value)[0]? = some (.int .u8 x) := fun _ _ _ => rfl
  have p1 : ∀ x y z : Int, (#[Value.int .u8 x, .int .u8 y, .int .u8 z] : Array Value)[1]? = some (.int .u8 y) := fun _ _ _ => rfl
  have p2 : ∀ x y z : Int, (#[Value.int .u8 x, .int .u8 y, .int .u8 z] : Array Value)[2]? = some (.int .u8 z) := fun _ _ _ => rfl
  rw [show List.range 3 = [0, 1, 2] from rfl]
  cases h0 : (a == a') <;> cases h1 : (b == b') <;> cases h2 : (c == c') <;>
    simp [Op.eqItems, run_part_plain W hpl (p0 _ _ _), run_part_plain W hpl (p1 _ _ _), run_part_plain W hpl (p2 _ _ _), run_equalIn_int W 9997 5 .u8 .u8 _ _ Tryd.underlying5, h0, h1, h2]
end Go.Proofs.YtklffnfaigmjfaaDoor
