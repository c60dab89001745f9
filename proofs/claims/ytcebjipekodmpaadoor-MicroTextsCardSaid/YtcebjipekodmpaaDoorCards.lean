/-
  DERIVED. GIVEN WITH THE SEED: THE CARDS: each row of YtcebjipekodmpaaDoorRows.lean that lists a variable, with what it lists TIED to the program's text (the seventh form; the later family's looks); each row that meets fmt, with fmt's text TOLD by the authors' own Lean function (tested against real Go, not proved from fmt's source: count such statements apart). THE CARD IS WHAT COUNTS. Prove the row's statement (the work); the ties are given (YtcebjipekodmpaaDoorTie.lean); close each card by the builder's one call (the guide's Derived/Test/ToyasCard.lean, 'card_holds'). Laid BY PROGRAM, IN A SANDBOX (cutbox-door.mjs). By AI agents, Wed Nov 11 2026. No macro, syntax, notation, axiom, sorry.
-/
import Derived.Test.YtcebjipekodmpaaDoorRows
import GoSem.ClaimSeven
namespace Go.Proofs.YtcebjipekodmpaaDoor
namespace Rows

/-- THE TIED CARD OF 'baseboardlaw03.MicroQuotients'. -/
def microQuotientsCard : Claim7 := { stood := { row := microQuotientsRow, standIns := [], harness := (true, "2d5d564d6347ccc23de2c15f1ac38a93e42301fb028f5a2c1329373c0f5b11af"), looks := true }, kinds := [], alts := [], laidByText := true, laidKinds := [.data, .data, .data, .data, .pinned], laidTests := true, laidLooks := .later }
def MicroQuotientsCardSaid : Prop := Claim7.holds Tryd.pinned (.plain (OpenSpec.ofChange microQuotientsSpec)) microQuotientsCard

/-- THE TIED CARD OF 'baseboardlaw03.MicroFloors'. -/
def microFloorsCard : Claim7 := { stood := { row := microFloorsRow, standIns := [], harness := (true, "2d5d564d6347ccc23de2c15f1ac38a93e42301fb028f5a2c1329373c0f5b11af"), looks := true }, kinds := [], alts := [], laidByText := true, laidKinds := [.data, .data, .data, .data, .pinned], laidTests := true, laidLooks := .later }
def MicroFloorsCardSaid : Prop := Claim7.holds Tryd.pinned (.plain (OpenSpec.ofChange microFloorsSpec)) microFloorsCard

/-- THE TIED CARD OF 'baseboardlaw03.MicroRoots'. -/
def microRootsCard : Claim7 := { stood := { row := microRootsRow, standIns := [], harness := (true, "2d5d564d6347ccc23de2c15f1ac38a93e42301fb028f5a2c1329373c0f5b11af"), looks := true }, kinds := [], alts := [], laidByText := true, laidKinds := [.data, .data, .data, .data, .pinned], laidTests := true, laidLooks := .later }
def MicroRootsCardSaid : Prop := Claim7.holds Tryd.pinned (.plain (OpenSpec.ofChange microRootsSpec)) microRootsCard

/-- THE TIED CARD OF 'baseboardlaw03.MicroSums'. -/
def microSumsCard : Claim7 := { stood := { row := microSumsRow, standIns := [], harness := (true, "2d5d564d6347ccc23de2c15f1ac38a93e42301fb028f5a2c1329373c0f5b11af"), looks := true }, kinds := [], alts := [], laidByText := true, laidKinds := [.data, .data, .data, .data, .pinned], laidTests := true, laidLooks := .later }
def MicroSumsCardSaid : Prop := Claim7.holds Tryd.pinned (.plain (OpenSpec.ofChange microSumsSpec)) microSumsCard

/-- THE TIED CARD OF 'baseboardlaw03.MicroOrder'. -/
def microOrderCard : Claim7 := { stood := { row := microOrderRow, standIns := [], harness := (true, "2d5d564d6347ccc23de2c15f1ac38a93e42301fb028f5a2c1329373c0f5b11af"), looks := true }, kinds := [], alts := [], laidByText := true, laidKinds := [.data, .data, .data, .data, .pinned], laidTests := true, laidLooks := .later }
def MicroOrderCardSaid : Prop := Claim7.holds Tryd.pinned (.plain (OpenSpec.ofChange microOrderSpec)) microOrderCard

/-- THE TIED CARD OF 'baseboardlaw03.MicroMonotone'. -/
def microMonotoneCard : Claim7 := { stood := { row := microMonotoneRow, standIns := [], harness := (true, "2d5d564d6347ccc23de2c15f1ac38a93e42301fb028f5a2c1329373c0f5b11af"), looks := true }, kinds := [], alts := [], laidByText := true, laidKinds := [.data, .data, .data, .data, .pinned], laidTests := true, laidLooks := .later }
def MicroMonotoneCardSaid : Prop := Claim7.holds Tryd.pinned (.plain (OpenSpec.ofChange microMonotoneSpec)) microMonotoneCard

/-- THE TIED CARD OF 'baseboardlaw03.MicroWithin'. -/
def microWithinCard : Claim7 := { stood := { row := microWithinRow, standIns := [], harness := (true, "2d5d564d6347ccc23de2c15f1ac38a93e42301fb028f5a2c1329373c0f5b11af"), looks := true }, kinds := [], alts := [], laidByText := true, laidKinds := [.data, .data, .data, .data, .pinned], laidTests := true, laidLooks := .later }
def MicroWithinCardSaid : Prop := Claim7.holds Tryd.pinned (.plain (OpenSpec.ofChange microWithinSpec)) microWithinCard

/-- THE TIED CARD OF 'baseboardlaw03.MicroTexts'. -/
def microTextsCard : Claim7 := { stood := { row := microTextsRow, standIns := [], harness := (true, "2d5d564d6347ccc23de2c15f1ac38a93e42301fb028f5a2c1329373c0f5b11af"), looks := true }, kinds := [], alts := [], laidByText := true, laidKinds := [.data, .data, .data, .data, .sentinel, .sentinel, .pinned], laidTests := true, laidLooks := .later }
def MicroTextsCardSaid : Prop := Claim7.holds Tryd.pinned (.plain (OpenSpec.ofChange microTextsSpec)) microTextsCard

/-- THE TIED CARD OF 'baseboardlaw03.MicroReturns'. -/
def microReturnsCard : Claim7 := { stood := { row := microReturnsRow, standIns := [], harness := (true, "2d5d564d6347ccc23de2c15f1ac38a93e42301fb028f5a2c1329373c0f5b11af"), looks := true }, kinds := [], alts := [], laidByText := true, laidKinds := [.data, .data, .data, .data, .sentinel, .sentinel, .pinned], laidTests := true, laidLooks := .later }
def MicroReturnsCardSaid : Prop := Claim7.holds Tryd.pinned (.plain (OpenSpec.ofChange microReturnsSpec)) microReturnsCard

/-- THE TIED CARD OF 'baseboardlaw03.MicroDecimals'. -/
def microDecimalsCard : Claim7 := { stood := { row := microDecimalsRow, standIns := [], harness := (true, "2d5d564d6347ccc23de2c15f1ac38a93e42301fb028f5a2c1329373c0f5b11af"), looks := true }, kinds := [], alts := [], laidByText := true, laidKinds := [.data, .data, .data, .data, .sentinel, .sentinel, .pinned], laidTests := true, laidLooks := .later }
def MicroDecimalsCardSaid : Prop := Claim7.holds Tryd.pinned (.plain (OpenSpec.ofChange microDecimalsSpec)) microDecimalsCard

/-- THE SECOND FORM's CARD OF 'baseboardlaw03.MicroQuotients'. -/
def microQuotientsUptoCard : Claim7 := { stood := { row := microQuotientsUptoRow, standIns := [], harness := (true, "2d5d564d6347ccc23de2c15f1ac38a93e42301fb028f5a2c1329373c0f5b11af"), looks := true }, kinds := [], alts := [], laidByText := true, laidKinds := [.data, .data, .data, .data, .pinned], laidTests := true, laidLooks := .later }
def MicroQuotientsUptoCardSaid : Prop := Claim7.holds Tryd.pinned (.plain (OpenSpec.upto microQuotientsSpec)) microQuotientsUptoCard

/-- THE SECOND FORM's CARD OF 'baseboardlaw03.MicroFloors'. -/
def microFloorsUptoCard : Claim7 := { stood := { row := microFloorsUptoRow, standIns := [], harness := (true, "2d5d564d6347ccc23de2c15f1ac38a93e42301fb028f5a2c1329373c0f5b11af"), looks := true }, kinds := [], alts := [], laidByText := true, laidKinds := [.data, .data, .data, .data, .pinned], laidTests := true, laidLooks := .later }
def MicroFloorsUptoCardSaid : Prop := Claim7.holds Tryd.pinned (.plain (OpenSpec.upto microFloorsSpec)) microFloorsUptoCard

/-- THE SECOND FORM's CARD OF 'baseboardlaw03.MicroRoots'. -/
def microRootsUptoCard : Claim7 := { stood := { row := microRootsUptoRow, standIns := [], harness := (true, "2d5d564d6347ccc23de2c15f1ac38a93e42301fb028f5a2c1329373c0f5b11af"), looks := true }, kinds := [], alts := [], laidByText := true, laidKinds := [.data, .data, .data, .data, .pinned], laidTests := true, laidLooks := .later }
def MicroRootsUptoCardSaid : Prop := Claim7.holds Tryd.pinned (.plain (OpenSpec.upto microRootsSpec)) microRootsUptoCard

/-- THE SECOND FORM's CARD OF 'baseboardlaw03.MicroSums'. -/
def microSumsUptoCard : Claim7 := { stood := { row := microSumsUptoRow, standIns := [], harness := (true, "2d5d564d6347ccc23de2c15f1ac38a93e42301fb028f5a2c1329373c0f5b11af"), looks := true }, kinds := [], alts := [], laidByText := true, laidKinds := [.data, .data, .data, .data, .pinned], laidTests := true, laidLooks := .later }
def MicroSumsUptoCardSaid : Prop := Claim7.holds Tryd.pinned (.plain (OpenSpec.upto microSumsSpec)) microSumsUptoCard

/-- THE SECOND FORM's CARD OF 'baseboardlaw03.MicroOrder'. -/
def microOrderUptoCard : Claim7 := { stood := { row := microOrderUptoRow, standIns := [], harness := (true, "2d5d564d6347ccc23de2c15f1ac38a93e42301fb028f5a2c1329373c0f5b11af"), looks := true }, kinds := [], alts := [], laidByText := true, laidKinds := [.data, .data, .data, .data, .pinned], laidTests := true, laidLooks := .later }
def MicroOrderUptoCardSaid : Prop := Claim7.holds Tryd.pinned (.plain (OpenSpec.upto microOrderSpec)) microOrderUptoCard

/-- THE SECOND FORM's CARD OF 'baseboardlaw03.MicroMonotone'. -/
def microMonotoneUptoCard : Claim7 := { stood := { row := microMonotoneUptoRow, standIns := [], harness := (true, "2d5d564d6347ccc23de2c15f1ac38a93e42301fb028f5a2c1329373c0f5b11af"), looks := true }, kinds := [], alts := [], laidByText := true, laidKinds := [.data, .data, .data, .data, .pinned], laidTests := true, laidLooks := .later }
def MicroMonotoneUptoCardSaid : Prop := Claim7.holds Tryd.pinned (.plain (OpenSpec.upto microMonotoneSpec)) microMonotoneUptoCard

/-- THE SECOND FORM's CARD OF 'baseboardlaw03.MicroWithin'. -/
def microWithinUptoCard : Claim7 := { stood := { row := microWithinUptoRow, standIns := [], harness := (true, "2d5d564d6347ccc23de2c15f1ac38a93e42301fb028f5a2c1329373c0f5b11af"), looks := true }, kinds := [], alts := [], laidByText := true, laidKinds := [.data, .data, .data, .data, .pinned], laidTests := true, laidLooks := .later }
def MicroWithinUptoCardSaid : Prop := Claim7.holds Tryd.pinned (.plain (OpenSpec.upto microWithinSpec)) microWithinUptoCard

/-- THE SECOND FORM's CARD OF 'baseboardlaw03.MicroTexts'. -/
def microTextsUptoCard : Claim7 := { stood := { row := microTextsUptoRow, standIns := [], harness := (true, "2d5d564d6347ccc23de2c15f1ac38a93e42301fb028f5a2c1329373c0f5b11af"), looks := true }, kinds := [], alts := [], laidByText := true, laidKinds := [.data, .data, .data, .data, .sentinel, .sentinel, .pinned], laidTests := true, laidLooks := .later }
def MicroTextsUptoCardSaid : Prop := Claim7.holds Tryd.pinned (.plain (OpenSpec.upto microTextsSpec)) microTextsUptoCard

/-- THE SECOND FORM's CARD OF 'baseboardlaw03.MicroReturns'. -/
def microReturnsUptoCard : Claim7 := { stood := { row := microReturnsUptoRow, standIns := [], harness := (true, "2d5d564d6347ccc23de2c15f1ac38a93e42301fb028f5a2c1329373c0f5b11af"), looks := true }, kinds := [], alts := [], laidByText := true, laidKinds := [.data, .data, .data, .data, .sentinel, .sentinel, .pinned], laidTests := true, laidLooks := .later }
def MicroReturnsUptoCardSaid : Prop := Claim7.holds Tryd.pinned (.plain (OpenSpec.upto microReturnsSpec)) microReturnsUptoCard

/-- THE SECOND FORM's CARD OF 'baseboardlaw03.MicroDecimals'. -/
def microDecimalsUptoCard : Claim7 := { stood := { row := microDecimalsUptoRow, standIns := [], harness := (true, "2d5d564d6347ccc23de2c15f1ac38a93e42301fb028f5a2c1329373c0f5b11af"), looks := true }, kinds := [], alts := [], laidByText := true, laidKinds := [.data, .data, .data, .data, .sentinel, .sentinel, .pinned], laidTests := true, laidLooks := .later }
def MicroDecimalsUptoCardSaid : Prop := Claim7.holds Tryd.pinned (.plain (OpenSpec.upto microDecimalsSpec)) microDecimalsUptoCard
end Rows
end Go.Proofs.YtcebjipekodmpaaDoor
