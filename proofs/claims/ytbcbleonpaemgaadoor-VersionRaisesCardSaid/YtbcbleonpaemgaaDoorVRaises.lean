/- The law VersionRaises at its parameters. No condition. -/
import Derived.Test.YtbcbleonpaemgaaDoorVRaisesW
import Derived.OpenShut
namespace Go.Proofs.YtbcbleonpaemgaaDoor
open Go.RowKit
theorem raises_law (w : World) (A0 : Option Addr) (n0 c0 : Nat) (bs : List UInt8) (hn0 : n0 ≤ c0) (hc0 : c0 ≤ maxLen) (hr0 : Reads w w.heap.size 1 A0 n0 (bsV bs)) (wh : Int) (hwh : (Lit.int .u8 wh).wf = true) (by_ : Int) (hby : (Lit.int .u8 by_).wf = true) :
    Calls Tryd.prog 5 #[.slice A0 n0 c0, .int .u8 wh, .int .u8 by_] w fun e w' => e = .returned (.bool true) ∧ Below w.heap.size w w' :=
  raises_walk w A0 n0 c0 bs hn0 hc0 hr0 wh ⟨(bounds_u8 hwh).1, by have := (bounds_u8 hwh).2; omega⟩ by_ ⟨(bounds_u8 hby).1, by have := (bounds_u8 hby).2; omega⟩
end Go.Proofs.YtbcbleonpaemgaaDoor
