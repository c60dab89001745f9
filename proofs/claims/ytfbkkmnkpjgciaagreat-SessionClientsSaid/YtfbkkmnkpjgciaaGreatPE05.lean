/- Joined of TClL. No condition. -/
import Derived.Test.YtfbkkmnkpjgciaaGreatPE04
import Derived.Test.YtfbkkmnkpjgciaaGreatPD37
namespace Go.Proofs.YtfbkkmnkpjgciaaGreat
open Go.RowKit
theorem cli_law (w:World) (A:Option Addr) (n c:Nat) (bs:List UInt8) (hn:n≤c) (hc:c≤maxLen) (h:Reads w w.heap.size 1 A n (bsV bs)) (Ar:Option Addr) (nr cr:Nat) (rs:List UInt8) (hnr:nr≤cr) (hcr:cr≤maxLen) (hr:Reads w w.heap.size 1 Ar nr (bsV rs))
  (Ad:Option Addr) (nd cd:Nat) (ds:List UInt8) (hnd:nd≤cd) (hcd:cd≤maxLen) (hd:Reads w w.heap.size 1 Ad nd (bsV ds)) (s:ByteArray) (_:s.size≤maxLen) (lv:Int) :
  Calls Tryz.prog 5 #[.slice A n c,.slice Ar nr cr,.slice Ad nd cd,.string s,.int .i64 lv] w fun e w'=>e=.returned (.bool true)∧Below w.heap.size w w':=by
 obtain ⟨⟨l⟩⟩:=s
 exact cli_any step_all w A n c bs hn hc h Ar nr cr rs hnr hcr hr Ad nd cd ds hnd hcd hd l lv
end Go.Proofs.YtfbkkmnkpjgciaaGreat
