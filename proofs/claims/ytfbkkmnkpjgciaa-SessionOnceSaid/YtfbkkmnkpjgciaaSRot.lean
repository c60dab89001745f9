/- Printed by wip/gen_s35.py from XRot: the same without the reference of chapter 33. -/
import Derived.Test.YtfbkkmnkpjgciaaLe
import Derived.Test.YtfbkkmnkpjgciaaProg
namespace Go.Proofs.Ytfbkkmnkpjgciaa
open Go.RowKit
def rotl (x : Int) (k : Nat) : Int := bits .or .u64 (IntKind.u64.wrap (x * 2 ^ k)) (x / 2 ^ (64 - k))
theorem rot_any (x : Int) (k : Int) (w : World) (hk : k = 13 ∨ k = 16 ∨ k = 17 ∨ k = 21 ∨ k = 32) :
    Calls Try.prog 57 #[.int .u64 x, .int .i64 k] w fun e w' => e = .returned (.int .u64 (rotl x k.toNat)) ∧ w = w' := by
  have b1 : bits .and .u64 13 63 = 13 := by decide
  have b2 : bits .and .u64 16 63 = 16 := by decide
  have b3 : bits .and .u64 17 63 = 17 := by decide
  have b4 : bits .and .u64 21 63 = 21 := by decide
  have b5 : bits .and .u64 32 63 = 32 := by decide
  rcases hk with rfl | rfl | rfl | rfl | rfl
  all_goals
    go_enter Try.func57, Try.ntmps57
    go_wp2
    go_ret
    exact ⟨by simp [rotl], rfl⟩
end Go.Proofs.Ytfbkkmnkpjgciaa
