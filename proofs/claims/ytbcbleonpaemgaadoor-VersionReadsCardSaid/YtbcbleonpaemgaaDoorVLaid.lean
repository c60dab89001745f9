/- What the listed variable gives: the table of powers of ten. No condition. -/
import Derived.Test.YtbcbleonpaemgaaDoorRows
import Derived.Test.YtbcbleonpaemgaaDoorVFormat
import Derived.Lib.LaidU8
import Derived.Lib.LaidTab
namespace Go.Proofs.YtbcbleonpaemgaaDoor
open Go.RowKit
theorem tPow : (Tryd.prog.globals[0]?).map (·.type) = some 97 := by kernel_rfl
theorem pow_data : (Rows.laid_internal_strconv_uint64pow10 : DataW Unit) = Lib.tabData .u64 Lib.pow10Tab := by rfl
theorem tab_of {W : World} {l : List (String × DataW Unit)} (h : laidMet Tryd.prog l W) (hm : ("internal/strconv.uint64pow10", Rows.laid_internal_strconv_uint64pow10) ∈ l) : Pow10At W := by
  obtain ⟨g', t', cs, fuel, p, hg', ht', hvar, hd⟩ := Lib.laidMet.reads h hm
  obtain rfl := Option.some.inj (gPow.symm.trans hg')
  obtain rfl := Option.some.inj (tPow.symm.trans ht')
  rw [pow_data] at hd
  unfold Pow10At Lib.TabIs
  rw [hvar, ← Lib.cells_of_tab Tryd.underlying97 Tryd.underlying87 (by kernel_rfl) (by kernel_rfl) hd]
end Go.Proofs.YtbcbleonpaemgaaDoor
