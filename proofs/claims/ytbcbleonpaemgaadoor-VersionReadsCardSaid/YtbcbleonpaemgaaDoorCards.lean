/-
  DERIVED. GIVEN WITH THE SEED: THE CARDS: each row of YtbcbleonpaemgaaDoorRows.lean that lists a variable, with what it lists TIED to the program's text (the seventh form; the later family's looks); each row that meets fmt, with fmt's text TOLD by the authors' own Lean function (tested against real Go, not proved from fmt's source: count such statements apart). THE CARD IS WHAT COUNTS. Prove the row's statement (the work); the ties are given (YtbcbleonpaemgaaDoorTie.lean); close each card by the builder's one call (the guide's Derived/Test/ToyasCard.lean, 'card_holds'). Laid BY PROGRAM, IN A SANDBOX (cutbox-door.mjs). By AI agents, Wed Nov 11 2026. No macro, syntax, notation, axiom, sorry.
-/
import Derived.Test.YtbcbleonpaemgaaDoorRows
import GoSem.ClaimSeven
namespace Go.Proofs.YtbcbleonpaemgaaDoor
namespace Rows

/-- THE TIED CARD OF 'baseboardlaw27.VersionAnswers'. -/
def versionAnswersCard : Claim7 := { stood := { row := versionAnswersRow, standIns := [], harness := (true, "b35453757beddf5290908a88de07c87c725f3bcc16b1c206997d72c18332bc83"), looks := false }, kinds := [], alts := [], laidByText := true, laidKinds := [.data, .data, .data], laidTests := true, laidLooks := .later }
def VersionAnswersCardSaid : Prop := Claim7.holds Tryd.pinned (.plain (OpenSpec.ofChange versionAnswersSpec)) versionAnswersCard

/-- THE TIED CARD OF 'baseboardlaw27.VersionOrders'. -/
def versionOrdersCard : Claim7 := { stood := { row := versionOrdersRow, standIns := [], harness := (true, "b35453757beddf5290908a88de07c87c725f3bcc16b1c206997d72c18332bc83"), looks := false }, kinds := [], alts := [], laidByText := true, laidKinds := [.data, .data, .data], laidTests := true, laidLooks := .later }
def VersionOrdersCardSaid : Prop := Claim7.holds Tryd.pinned (.plain (OpenSpec.ofChange versionOrdersSpec)) versionOrdersCard

/-- THE TIED CARD OF 'baseboardlaw27.VersionRaises'. -/
def versionRaisesCard : Claim7 := { stood := { row := versionRaisesRow, standIns := [], harness := (true, "b35453757beddf5290908a88de07c87c725f3bcc16b1c206997d72c18332bc83"), looks := false }, kinds := [], alts := [], laidByText := true, laidKinds := [.data, .data, .data], laidTests := true, laidLooks := .later }
def VersionRaisesCardSaid : Prop := Claim7.holds Tryd.pinned (.plain (OpenSpec.ofChange versionRaisesSpec)) versionRaisesCard

/-- THE TIED CARD OF 'baseboardlaw27.VersionFirst'. -/
def versionFirstCard : Claim7 := { stood := { row := versionFirstRow, standIns := [], harness := (true, "b35453757beddf5290908a88de07c87c725f3bcc16b1c206997d72c18332bc83"), looks := false }, kinds := [], alts := [], laidByText := true, laidKinds := [.data, .data, .data], laidTests := true, laidLooks := .later }
def VersionFirstCardSaid : Prop := Claim7.holds Tryd.pinned (.plain (OpenSpec.ofChange versionFirstSpec)) versionFirstCard

/-- THE TIED CARD OF 'baseboardlaw27.VersionNeeds'. -/
def versionNeedsCard : Claim7 := { stood := { row := versionNeedsRow, standIns := [], harness := (true, "b35453757beddf5290908a88de07c87c725f3bcc16b1c206997d72c18332bc83"), looks := false }, kinds := [], alts := [], laidByText := true, laidKinds := [.data, .data, .data], laidTests := true, laidLooks := .later }
def VersionNeedsCardSaid : Prop := Claim7.holds Tryd.pinned (.plain (OpenSpec.ofChange versionNeedsSpec)) versionNeedsCard

/-- THE TIED CARD OF 'baseboardlaw27.VersionReads'. -/
def versionReadsCard : Claim7 := { stood := { row := versionReadsRow, standIns := [], harness := (true, "b35453757beddf5290908a88de07c87c725f3bcc16b1c206997d72c18332bc83"), looks := false }, kinds := [], alts := [], laidByText := true, laidKinds := [.data, .data, .data, .data, .pinned], laidTests := true, laidLooks := .later }
def VersionReadsCardSaid : Prop := Claim7.holds Tryd.pinned (.plain (OpenSpec.ofChange versionReadsSpec)) versionReadsCard

/-- THE SECOND FORM's CARD OF 'baseboardlaw27.VersionAnswers'. -/
def versionAnswersUptoCard : Claim7 := { stood := { row := versionAnswersUptoRow, standIns := [], harness := (true, "b35453757beddf5290908a88de07c87c725f3bcc16b1c206997d72c18332bc83"), looks := false }, kinds := [], alts := [], laidByText := true, laidKinds := [.data, .data, .data], laidTests := true, laidLooks := .later }
def VersionAnswersUptoCardSaid : Prop := Claim7.holds Tryd.pinned (.plain (OpenSpec.upto versionAnswersSpec)) versionAnswersUptoCard

/-- THE SECOND FORM's CARD OF 'baseboardlaw27.VersionOrders'. -/
def versionOrdersUptoCard : Claim7 := { stood := { row := versionOrdersUptoRow, standIns := [], harness := (true, "b35453757beddf5290908a88de07c87c725f3bcc16b1c206997d72c18332bc83"), looks := false }, kinds := [], alts := [], laidByText := true, laidKinds := [.data, .data, .data], laidTests := true, laidLooks := .later }
def VersionOrdersUptoCardSaid : Prop := Claim7.holds Tryd.pinned (.plain (OpenSpec.upto versionOrdersSpec)) versionOrdersUptoCard

/-- THE SECOND FORM's CARD OF 'baseboardlaw27.VersionRaises'. -/
def versionRaisesUptoCard : Claim7 := { stood := { row := versionRaisesUptoRow, standIns := [], harness := (true, "b35453757beddf5290908a88de07c87c725f3bcc16b1c206997d72c18332bc83"), looks := false }, kinds := [], alts := [], laidByText := true, laidKinds := [.data, .data, .data], laidTests := true, laidLooks := .later }
def VersionRaisesUptoCardSaid : Prop := Claim7.holds Tryd.pinned (.plain (OpenSpec.upto versionRaisesSpec)) versionRaisesUptoCard

/-- THE SECOND FORM's CARD OF 'baseboardlaw27.VersionFirst'. -/
def versionFirstUptoCard : Claim7 := { stood := { row := versionFirstUptoRow, standIns := [], harness := (true, "b35453757beddf5290908a88de07c87c725f3bcc16b1c206997d72c18332bc83"), looks := false }, kinds := [], alts := [], laidByText := true, laidKinds := [.data, .data, .data], laidTests := true, laidLooks := .later }
def VersionFirstUptoCardSaid : Prop := Claim7.holds Tryd.pinned (.plain (OpenSpec.upto versionFirstSpec)) versionFirstUptoCard

/-- THE SECOND FORM's CARD OF 'baseboardlaw27.VersionNeeds'. -/
def versionNeedsUptoCard : Claim7 := { stood := { row := versionNeedsUptoRow, standIns := [], harness := (true, "b35453757beddf5290908a88de07c87c725f3bcc16b1c206997d72c18332bc83"), looks := false }, kinds := [], alts := [], laidByText := true, laidKinds := [.data, .data, .data], laidTests := true, laidLooks := .later }
def VersionNeedsUptoCardSaid : Prop := Claim7.holds Tryd.pinned (.plain (OpenSpec.upto versionNeedsSpec)) versionNeedsUptoCard

/-- THE SECOND FORM's CARD OF 'baseboardlaw27.VersionReads'. -/
def versionReadsUptoCard : Claim7 := { stood := { row := versionReadsUptoRow, standIns := [], harness := (true, "b35453757beddf5290908a88de07c87c725f3bcc16b1c206997d72c18332bc83"), looks := false }, kinds := [], alts := [], laidByText := true, laidKinds := [.data, .data, .data, .data, .pinned], laidTests := true, laidLooks := .later }
def VersionReadsUptoCardSaid : Prop := Claim7.holds Tryd.pinned (.plain (OpenSpec.upto versionReadsSpec)) versionReadsUptoCard
end Rows
end Go.Proofs.YtbcbleonpaemgaaDoor
