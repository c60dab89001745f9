/- What the listed variables give: the table of powers of ten, the offsets of the thresholds. No condition. -/
import Derived.Test.YtklffnfaigmjfaaDoorRows
import Derived.Test.YtklffnfaigmjfaaDoorEAwake
import Derived.Lib.LaidU8
import Derived.Lib.LaidTab
namespace Go.Proofs.YtklffnfaigmjfaaDoor
open Go.RowKit
theorem tPow : (Tryd.prog.globals[1]?).map (·.type) = some 122 := by kernel_rfl
theorem tOff : (Tryd.prog.globals[0]?).map (·.type) = some 62 := by kernel_rfl
theorem pow_data : (Rows.laid_internal_strconv_uint64pow10 : DataW Unit) = Lib.tabData .u64 Lib.pow10Tab := by rfl
theorem off_data : (Rows.laid_baseboard_event_offsets : DataW Unit) = Lib.tabData .u8 offs := by rfl
theorem tab_of {W : World} {l : List (String × DataW Unit)} (h : laidMet Tryd.prog l W) (hm : ("internal/strconv.uint64pow10", Rows.laid_internal_strconv_uint64pow10) ∈ l) : Pow10At W := by
  obtain ⟨g', t', cs, fuel, p, hg', ht', hvar, hd⟩ := Lib.laidMet.reads h hm
  obtain rfl := Option.some.inj (gPow.symm.trans hg')
  obtain rfl := Option.some.inj (tPow.symm.trans ht')
  rw [pow_data] at hd
  unfold Pow10At Lib.TabIs
  rw [hvar, ← Lib.cells_of_tab Tryd.underlying122 Tryd.underlying72 (by kernel_rfl) (by kernel_rfl) hd]
theorem off_of {W : World} {l : List (String × DataW Unit)} (h : laidMet Tryd.prog l W) (hm : ("baseboard/event.offsets", Rows.laid_baseboard_event_offsets) ∈ l) : OffAt W := by
  obtain ⟨g', t', cs, fuel, p, hg', ht', hvar, hd⟩ := Lib.laidMet.reads h hm
  obtain rfl := Option.some.inj (gOff.symm.trans hg')
  obtain rfl := Option.some.inj (tOff.symm.trans ht')
  rw [off_data] at hd
  unfold OffAt Lib.TabIs
  rw [hvar, ← Lib.cells_of_tab Tryd.underlying62 Tryd.underlying5 (by kernel_rfl) (by kernel_rfl) hd]
end Go.Proofs.YtklffnfaigmjfaaDoor
