/- Joined of GRot. No condition. -/
import Derived.Test.YtfbkkmnkpjgciaaGreatPG02
namespace Go.Proofs.YtfbkkmnkpjgciaaGreat
open Go.RowKit
theorem Zcg (x:Int) (k:Int) (w:World) (hk:k=13∨k=16∨k=17∨k=21∨k=32) :
  Calls Tryz.prog 115 #[.int .u64 x,.int .u64 k] w fun e w'=>e=.returned (.int .u64 (rotl x k.toNat))∧w=w':=by
 rcases hk with rfl | rfl | rfl | rfl | rfl
 all_goals
  go_enter Tryz.func115,Tryz.ntmps115
  go_wp2
  go_ret
  exact ⟨by simp [rotl],rfl⟩
end Go.Proofs.YtfbkkmnkpjgciaaGreat
