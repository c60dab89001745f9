/- RotateLeft64 and the reference's turn return one rotation and leave the world as it was. -/
import Derived.Test.YtaopgieejgcbeaaLe
import Derived.Test.YtaopgieejgcbeaaProg
namespace Go.Proofs.Ytaopgieejgcbeaa
open Go.RowKit
def rotl (x : Int) (k : Nat) : Int := bits .or .u64 (IntKind.u64.wrap (x * 2 ^ k)) (x / 2 ^ (64 - k))
theorem rot_any (x : Int) (k : Int) (w : World) (hk : k = 13 ∨ k = 16 ∨ k = 17 ∨ k = 21 ∨ k = 32) :
    Calls Try.prog 26 #[.int .u64 x, .int .i64 k] w fun e w' => e = .returned (.int .u64 (rotl x k.toNat)) ∧ w = w' := by
  have b1 : bits .and .u64 13 63 = 13 := by decide
  have b2 : bits .and .u64 16 63 = 16 := by decide
  have b3 : bits .and .u64 17 63 = 17 := by decide
  have b4 : bits .and .u64 21 63 = 21 := by decide
  have b5 : bits .and .u64 32 63 = 32 := by decide
  rcases hk with rfl | rfl | rfl | rfl | rfl
  all_goals
    go_enter Try.func26, Try.ntmps26
    go_wp2
    go_ret
    exact ⟨by simp [rotl], rfl⟩
theorem turn_any (x : Int) (k : Int) (w : World) (hk : k = 13 ∨ k = 16 ∨ k = 17 ∨ k = 21 ∨ k = 32) :
    Calls Try.prog 27 #[.int .u64 x, .int .u64 k] w fun e w' => e = .returned (.int .u64 (rotl x k.toNat)) ∧ w = w' := by
  rcases hk with rfl | rfl | rfl | rfl | rfl
  all_goals
    go_enter Try.func27, Try.ntmps27
    go_wp2
    go_ret
    exact ⟨by simp [rotl], rfl⟩
end Go.Proofs.Ytaopgieejgcbeaa
