/- Joined of TPrivL. No condition. -/
import Derived.Test.YtfbkkmnkpjgciaaGreatPA40
import Derived.Test.YtfbkkmnkpjgciaaGreatPA37
namespace Go.Proofs.YtfbkkmnkpjgciaaGreat
open Go.RowKit
theorem priv_law (w:World) (A:Option Addr) (n c:Nat) (bs:List UInt8) (hn:n≤c) (hc:c≤maxLen) (h:Reads w w.heap.size 1 A n (bsV bs)) :
 Calls Tryz.prog 3 #[.slice A n c] w fun e w'=>e=.returned (.bool true)∧Below w.heap.size w w':=priv_any step_all w A n c bs hn hc h
end Go.Proofs.YtfbkkmnkpjgciaaGreat
