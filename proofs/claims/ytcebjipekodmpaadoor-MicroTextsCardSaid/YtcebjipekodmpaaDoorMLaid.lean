/- What the listed variables give: the table of powers of ten. No condition. -/
import Derived.Test.YtcebjipekodmpaaDoorRows
import Derived.Test.YtcebjipekodmpaaDoorMAwake
import Derived.Lib.LaidU8
import Derived.Lib.LaidTab
namespace Go.Proofs.YtcebjipekodmpaaDoor
open Go.RowKit
theorem gPow : Tryd.prog.globalNamed "internal/strconv.uint64pow10" = some 6 := by kernel_rfl
theorem tPow : (Tryd.prog.globals[6]?).map (·.type) = some 125 := by kernel_rfl
theorem pow_data : (Rows.laid_internal_strconv_uint64pow10 : DataW Unit) = Lib.tabData .u64 Lib.pow10Tab := by rfl
theorem tab_of {W : World} {l : List (String × DataW Unit)} (h : laidMet Tryd.prog l W) (hm : ("internal/strconv.uint64pow10", Rows.laid_internal_strconv_uint64pow10) ∈ l) : Lib.TabIs Tryd.prog W "internal/strconv.uint64pow10" .u64 Lib.pow10Tab := by
  obtain ⟨g', t', cs, fuel, p, hg', ht', hvar, hd⟩ := Lib.laidMet.reads h hm
  obtain rfl := Option.some.inj (gPow.symm.trans hg')
  obtain rfl := Option.some.inj (tPow.symm.trans ht')
  rw [pow_data] at hd
  unfold Lib.TabIs
  rw [hvar, ← Lib.cells_of_tab Tryd.underlying125 Tryd.underlying56 (by kernel_rfl) (by kernel_rfl) hd]
end Go.Proofs.YtcebjipekodmpaaDoor
