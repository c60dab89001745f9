/-
  DERIVED. GIVEN WITH THE SEED: THE CARDS: each row of YtklffnfaigmjfaaDoorRows.lean that lists a variable, with what it lists TIED to the program's text (the seventh form; the later family's looks); each row that meets fmt, with fmt's text TOLD by the authors' own Lean function (tested against real Go, not proved from fmt's source: count such statements apart). THE CARD IS WHAT COUNTS. Prove the row's statement (the work); the ties are given (YtklffnfaigmjfaaDoorTie.lean); close each card by the builder's one call (the guide's Derived/Test/ToyasCard.lean, 'card_holds'). Laid BY PROGRAM, IN A SANDBOX (cutbox-door.mjs). By AI agents, Wed Nov 11 2026. No macro, syntax, notation, axiom, sorry.
-/
import Derived.Test.YtklffnfaigmjfaaDoorRows
import GoSem.ClaimSeven
namespace Go.Proofs.YtklffnfaigmjfaaDoor
namespace Rows

/-- THE TIED CARD OF 'baseboardlaw07.EventMade'. -/
def eventMadeCard : Claim7 := { stood := { row := eventMadeRow, standIns := [], harness := (true, "0ad48d794948ba8f5b95bda45746d0d22695817c6650c03a29d3aba441ccbfa7"), looks := true }, kinds := [], alts := [], laidByText := true, laidKinds := [.data, .data, .data, .widerDeep], laidTests := true, laidLooks := .later }
def EventMadeCardSaid : Prop := Claim7.holds Tryd.pinned (.plain (OpenSpec.ofChange eventMadeSpec)) eventMadeCard

/-- THE TIED CARD OF 'baseboardlaw07.EventIndexes'. -/
def eventIndexesCard : Claim7 := { stood := { row := eventIndexesRow, standIns := [], harness := (true, "0ad48d794948ba8f5b95bda45746d0d22695817c6650c03a29d3aba441ccbfa7"), looks := true }, kinds := [], alts := [], laidByText := true, laidKinds := [.data, .data, .data, .widerDeep], laidTests := true, laidLooks := .later }
def EventIndexesCardSaid : Prop := Claim7.holds Tryd.pinned (.plain (OpenSpec.ofChange eventIndexesSpec)) eventIndexesCard

/-- THE TIED CARD OF 'baseboardlaw07.EventRefuses'. -/
def eventRefusesCard : Claim7 := { stood := { row := eventRefusesRow, standIns := [], harness := (true, "0ad48d794948ba8f5b95bda45746d0d22695817c6650c03a29d3aba441ccbfa7"), looks := true }, kinds := [], alts := [], laidByText := true, laidKinds := [.data, .data, .data, .widerDeep], laidTests := true, laidLooks := .later }
def EventRefusesCardSaid : Prop := Claim7.holds Tryd.pinned (.plain (OpenSpec.ofChange eventRefusesSpec)) eventRefusesCard

/-- THE TIED CARD OF 'baseboardlaw07.EventDistinct'. -/
def eventDistinctCard : Claim7 := { stood := { row := eventDistinctRow, standIns := [], harness := (true, "0ad48d794948ba8f5b95bda45746d0d22695817c6650c03a29d3aba441ccbfa7"), looks := true }, kinds := [], alts := [], laidByText := true, laidKinds := [.data, .data, .data, .widerDeep], laidTests := true, laidLooks := .later }
def EventDistinctCardSaid : Prop := Claim7.holds Tryd.pinned (.plain (OpenSpec.ofChange eventDistinctSpec)) eventDistinctCard

/-- THE TIED CARD OF 'baseboardlaw07.EventBytes'. -/
def eventBytesCard : Claim7 := { stood := { row := eventBytesRow, standIns := [], harness := (true, "0ad48d794948ba8f5b95bda45746d0d22695817c6650c03a29d3aba441ccbfa7"), looks := true }, kinds := [], alts := [], laidByText := true, laidKinds := [.data, .data, .data, .widerDeep], laidTests := true, laidLooks := .later }
def EventBytesCardSaid : Prop := Claim7.holds Tryd.pinned (.plain (OpenSpec.ofChange eventBytesSpec)) eventBytesCard

/-- THE TIED CARD OF 'baseboardlaw07.EventTexts'. -/
def eventTextsCard : Claim7 := { stood := { row := eventTextsRow, standIns := [], harness := (true, "0ad48d794948ba8f5b95bda45746d0d22695817c6650c03a29d3aba441ccbfa7"), looks := true }, kinds := [], alts := [], laidByText := true, laidKinds := [.data, .data, .data, .data, .sentinel, .sentinel, .widerDeep, .pinned], laidTests := true, laidLooks := .later }
def EventTextsCardSaid : Prop := Claim7.holds Tryd.pinned (.plain (OpenSpec.ofChange eventTextsSpec)) eventTextsCard

/-- THE TIED CARD OF 'baseboardlaw07.EventReturns'. -/
def eventReturnsCard : Claim7 := { stood := { row := eventReturnsRow, standIns := [], harness := (true, "0ad48d794948ba8f5b95bda45746d0d22695817c6650c03a29d3aba441ccbfa7"), looks := true }, kinds := [], alts := [], laidByText := true, laidKinds := [.data, .data, .data, .data, .sentinel, .sentinel, .widerDeep, .pinned], laidTests := true, laidLooks := .later }
def EventReturnsCardSaid : Prop := Claim7.holds Tryd.pinned (.plain (OpenSpec.ofChange eventReturnsSpec)) eventReturnsCard

/-- THE SECOND FORM's CARD OF 'baseboardlaw07.EventMade'. -/
def eventMadeUptoCard : Claim7 := { stood := { row := eventMadeUptoRow, standIns := [], harness := (true, "0ad48d794948ba8f5b95bda45746d0d22695817c6650c03a29d3aba441ccbfa7"), looks := true }, kinds := [], alts := [], laidByText := true, laidKinds := [.data, .data, .data, .widerDeep], laidTests := true, laidLooks := .later }
def EventMadeUptoCardSaid : Prop := Claim7.holds Tryd.pinned (.plain (OpenSpec.upto eventMadeSpec)) eventMadeUptoCard

/-- THE SECOND FORM's CARD OF 'baseboardlaw07.EventIndexes'. -/
def eventIndexesUptoCard : Claim7 := { stood := { row := eventIndexesUptoRow, standIns := [], harness := (true, "0ad48d794948ba8f5b95bda45746d0d22695817c6650c03a29d3aba441ccbfa7"), looks := true }, kinds := [], alts := [], laidByText := true, laidKinds := [.data, .data, .data, .widerDeep], laidTests := true, laidLooks := .later }
def EventIndexesUptoCardSaid : Prop := Claim7.holds Tryd.pinned (.plain (OpenSpec.upto eventIndexesSpec)) eventIndexesUptoCard

/-- THE SECOND FORM's CARD OF 'baseboardlaw07.EventRefuses'. -/
def eventRefusesUptoCard : Claim7 := { stood := { row := eventRefusesUptoRow, standIns := [], harness := (true, "0ad48d794948ba8f5b95bda45746d0d22695817c6650c03a29d3aba441ccbfa7"), looks := true }, kinds := [], alts := [], laidByText := true, laidKinds := [.data, .data, .data, .widerDeep], laidTests := true, laidLooks := .later }
def EventRefusesUptoCardSaid : Prop := Claim7.holds Tryd.pinned (.plain (OpenSpec.upto eventRefusesSpec)) eventRefusesUptoCard

/-- THE SECOND FORM's CARD OF 'baseboardlaw07.EventDistinct'. -/
def eventDistinctUptoCard : Claim7 := { stood := { row := eventDistinctUptoRow, standIns := [], harness := (true, "0ad48d794948ba8f5b95bda45746d0d22695817c6650c03a29d3aba441ccbfa7"), looks := true }, kinds := [], alts := [], laidByText := true, laidKinds := [.data, .data, .data, .widerDeep], laidTests := true, laidLooks := .later }
def EventDistinctUptoCardSaid : Prop := Claim7.holds Tryd.pinned (.plain (OpenSpec.upto eventDistinctSpec)) eventDistinctUptoCard

/-- THE SECOND FORM's CARD OF 'baseboardlaw07.EventBytes'. -/
def eventBytesUptoCard : Claim7 := { stood := { row := eventBytesUptoRow, standIns := [], harness := (true, "0ad48d794948ba8f5b95bda45746d0d22695817c6650c03a29d3aba441ccbfa7"), looks := true }, kinds := [], alts := [], laidByText := true, laidKinds := [.data, .data, .data, .widerDeep], laidTests := true, laidLooks := .later }
def EventBytesUptoCardSaid : Prop := Claim7.holds Tryd.pinned (.plain (OpenSpec.upto eventBytesSpec)) eventBytesUptoCard

/-- THE SECOND FORM's CARD OF 'baseboardlaw07.EventTexts'. -/
def eventTextsUptoCard : Claim7 := { stood := { row := eventTextsUptoRow, standIns := [], harness := (true, "0ad48d794948ba8f5b95bda45746d0d22695817c6650c03a29d3aba441ccbfa7"), looks := true }, kinds := [], alts := [], laidByText := true, laidKinds := [.data, .data, .data, .data, .sentinel, .sentinel, .widerDeep, .pinned], laidTests := true, laidLooks := .later }
def EventTextsUptoCardSaid : Prop := Claim7.holds Tryd.pinned (.plain (OpenSpec.upto eventTextsSpec)) eventTextsUptoCard

/-- THE SECOND FORM's CARD OF 'baseboardlaw07.EventReturns'. -/
def eventReturnsUptoCard : Claim7 := { stood := { row := eventReturnsUptoRow, standIns := [], harness := (true, "0ad48d794948ba8f5b95bda45746d0d22695817c6650c03a29d3aba441ccbfa7"), looks := true }, kinds := [], alts := [], laidByText := true, laidKinds := [.data, .data, .data, .data, .sentinel, .sentinel, .widerDeep, .pinned], laidTests := true, laidLooks := .later }
def EventReturnsUptoCardSaid : Prop := Claim7.holds Tryd.pinned (.plain (OpenSpec.upto eventReturnsSpec)) eventReturnsUptoCard
end Rows
end Go.Proofs.YtklffnfaigmjfaaDoor
