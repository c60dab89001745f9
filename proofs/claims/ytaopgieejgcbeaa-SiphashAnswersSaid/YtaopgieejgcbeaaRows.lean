/-
  No cell of these rows narrows 'for every input' (looked for: loops, veiled, ifaces, maps, wideKeys, modest, calm, conditions, laid).
  DERIVED. THE GIVEN ROWS OF THIS SEAT. 4 by the template 'for every input the law returns true; each argument reads behind the call as it read before'; 0 by the template 'total and deterministic' (their statements: YtaopgieejgcbeaaTotals.lean).
  GIVEN WITH THE SEED: the statements are not yours to turn. If you find one false, say at which input.
  Laid BY PROGRAM, IN A SANDBOX (cutbox-rows.mjs): the forced cells as the released guide's own fill.sh prints them over the translation 37c36678b2f093a6… (all of the seat's roots in one cut). By AI agents, Wed Nov 11 2026. No macro, syntax, notation, axiom, sorry.
-/
import Derived.Test.YtaopgieejgcbeaaChecked
import GoSem.Claim
import GoSem.ClaimJoined
import GoSem.ClaimMapViews
import Derived.JoinedTies
import Derived.KernelRfl
namespace Go.Proofs.Ytaopgieejgcbeaa
/- THE CELL 'sum', in the pinned program and in every row, IS THE sha256 OF THE DUMP (.gsa) THAT YtaopgieejgcbeaaProg.lean LOADS. Nothing in Lean hashes anything: it is a label: what it is worth is what the hold of that sum in a sandbox is worth. -/
noncomputable def Try.pinned : Pinned := { name := "ytaopgieejgcbeaa", sum := "37c36678b2f093a616c04b380e9ecfa08e2cf006bbbbc802a16809c91f2c64fa", checked := Try.checked }
namespace Rows
def none {H : Type} : Left H := { results := [], args := [] }

/-- 'baseboardlaw33.SiphashLengths': WHATEVER THE INPUT: true; the input reads as it did. -/
def siphashLengthsSpec : ChangeSpec := { name := "siphashLengths", fn := fun _ => fun
  | [d1, d2] => { results := [.lit (.bool true)], args := [d1, d2] }
  | _ => none }
def siphashLengthsRow : OpenClaim := { program := "ytaopgieejgcbeaa", sum := "37c36678b2f093a616c04b380e9ecfa08e2cf006bbbbc802a16809c91f2c64fa", func := "baseboard/baseboardlaw33.SiphashLengths", spec := "siphashLengths", unfollowed := true, recurses := true, apart := false }
def SiphashLengthsSaid : Prop := siphashLengthsRow.holds Try.pinned (OpenSpec.ofChange siphashLengthsSpec)

/-- ITS FALSE NEIGHBOUR: 'it returns false'. Refute it at one input. -/
def siphashLengthsWrong : ChangeSpec := { name := "siphashLengths", fn := fun _ => fun
  | [d1, d2] => { results := [.lit (.bool false)], args := [d1, d2] }
  | _ => none }
def SiphashLengthsWrongFalsely : Prop := siphashLengthsRow.holds Try.pinned (OpenSpec.ofChange siphashLengthsWrong)

/-- 'baseboardlaw33.SiphashDerives': WHATEVER THE INPUT: true; the input reads as it did. -/
def siphashDerivesSpec : ChangeSpec := { name := "siphashDerives", fn := fun _ => fun
  | [d1, d2, d3, d4] => { results := [.lit (.bool true)], args := [d1, d2, d3, d4] }
  | _ => none }
def siphashDerivesRow : OpenClaim := { program := "ytaopgieejgcbeaa", sum := "37c36678b2f093a616c04b380e9ecfa08e2cf006bbbbc802a16809c91f2c64fa", func := "baseboard/baseboardlaw33.SiphashDerives", spec := "siphashDerives", unfollowed := true, recurses := true, apart := false }
def SiphashDerivesSaid : Prop := siphashDerivesRow.holds Try.pinned (OpenSpec.ofChange siphashDerivesSpec)

/-- ITS FALSE NEIGHBOUR: 'it returns false'. Refute it at one input. -/
def siphashDerivesWrong : ChangeSpec := { name := "siphashDerives", fn := fun _ => fun
  | [d1, d2, d3, d4] => { results := [.lit (.bool false)], args := [d1, d2, d3, d4] }
  | _ => none }
def SiphashDerivesWrongFalsely : Prop := siphashDerivesRow.holds Try.pinned (OpenSpec.ofChange siphashDerivesWrong)

/-- 'baseboardlaw33.SiphashReturns': WHATEVER THE INPUT: true; the input reads as it did. -/
def siphashReturnsSpec : ChangeSpec := { name := "siphashReturns", fn := fun _ => fun
  | [d1, d2, d3, d4] => { results := [.lit (.bool true)], args := [d1, d2, d3, d4] }
  | _ => none }
def siphashReturnsRow : OpenClaim := { program := "ytaopgieejgcbeaa", sum := "37c36678b2f093a616c04b380e9ecfa08e2cf006bbbbc802a16809c91f2c64fa", func := "baseboard/baseboardlaw33.SiphashReturns", spec := "siphashReturns", unfollowed := true, recurses := true, apart := false }
def SiphashReturnsSaid : Prop := siphashReturnsRow.holds Try.pinned (OpenSpec.ofChange siphashReturnsSpec)

/-- ITS FALSE NEIGHBOUR: 'it returns false'. Refute it at one input. -/
def siphashReturnsWrong : ChangeSpec := { name := "siphashReturns", fn := fun _ => fun
  | [d1, d2, d3, d4] => { results := [.lit (.bool false)], args := [d1, d2, d3, d4] }
  | _ => none }
def SiphashReturnsWrongFalsely : Prop := siphashReturnsRow.holds Try.pinned (OpenSpec.ofChange siphashReturnsWrong)

/-- 'baseboardlaw33.SiphashAnswers': WHATEVER THE INPUT: true; the input reads as it did. -/
def siphashAnswersSpec : ChangeSpec := { name := "siphashAnswers", fn := fun _ => fun
  | [d1, d2, d3, d4, d5, d6, d7] => { results := [.lit (.bool true)], args := [d1, d2, d3, d4, d5, d6, d7] }
  | _ => none }
def siphashAnswersRow : OpenClaim := { program := "ytaopgieejgcbeaa", sum := "37c36678b2f093a616c04b380e9ecfa08e2cf006bbbbc802a16809c91f2c64fa", func := "baseboard/baseboardlaw33.SiphashAnswers", spec := "siphashAnswers", unfollowed := true, recurses := true, apart := false }
def SiphashAnswersSaid : Prop := siphashAnswersRow.holds Try.pinned (OpenSpec.ofChange siphashAnswersSpec)

/-- ITS FALSE NEIGHBOUR: 'it returns false'. Refute it at one input. -/
def siphashAnswersWrong : ChangeSpec := { name := "siphashAnswers", fn := fun _ => fun
  | [d1, d2, d3, d4, d5, d6, d7] => { results := [.lit (.bool false)], args := [d1, d2, d3, d4, d5, d6, d7] }
  | _ => none }
def SiphashAnswersWrongFalsely : Prop := siphashAnswersRow.holds Try.pinned (OpenSpec.ofChange siphashAnswersWrong)

/- THE SECOND FORM. 'bulk': how many values and letters a reading holds, each counted each time it is reached (what is shared counts as often as it is met; a slice's spare places count too). A statement '..UptoSaid' is the law's where the arguments, and the package variables that the reading takes, are together of bulk at most 1048576: NARROWER than '..Said'. Prove '..Said' where nothing that the law and all that it calls make is longer than what came in: it says more and counts as full. Else prove '..UptoSaid'. A law counts once. -/
mutual
def uptoBulk {H : Type} : DataW H → Nat
  | .lit (.string bytes) => bytes.length + 1
  | .lit _ => 1
  | .nil => 1
  | .ptr d => uptoBulk d + 1
  | .slice elems spare => uptoBulkAll elems + uptoBulkAll spare + 1
  | .agg parts => uptoBulkAll parts + 1
  | .iface _ d => uptoBulk d + 1
  | .map entries => uptoBulkEntries entries + 1
  | .held _ => 1
def uptoBulkAll {H : Type} : List (DataW H) → Nat
  | [] => 0
  | d :: r => uptoBulk d + uptoBulkAll r
def uptoBulkEntries {H : Type} : List (Lit × DataW H) → Nat
  | [] => 0
  | x :: r => uptoBulkEntry x + uptoBulkEntries r
def uptoBulkEntry {H : Type} : Lit × DataW H → Nat
  | (.string bytes, d) => bytes.length + uptoBulk d + 1
  | (_, d) => uptoBulk d + 1
 end
def uptoSmall : (H : Type) → List (DataW H) → Bool := fun _ ds => decide (uptoBulkAll ds ≤ 1048576)
def OpenSpec.upto (s : _root_.Go.ChangeSpec) : _root_.Go.OpenSpec := { _root_.Go.OpenSpec.ofChange s with cond := some uptoSmall }

/-- 'baseboardlaw33.SiphashLengths', WHERE WHAT IT READS IS OF BULK AT MOST 1048576: true; the input reads as it did. -/
def siphashLengthsUptoRow : OpenClaim := { program := "ytaopgieejgcbeaa", sum := "37c36678b2f093a616c04b380e9ecfa08e2cf006bbbbc802a16809c91f2c64fa", func := "baseboard/baseboardlaw33.SiphashLengths", spec := "siphashLengths", unfollowed := true, recurses := true, apart := false, narrowed := true }
def SiphashLengthsUptoSaid : Prop := siphashLengthsUptoRow.holds Try.pinned (OpenSpec.upto siphashLengthsSpec)

/-- 'baseboardlaw33.SiphashDerives', WHERE WHAT IT READS IS OF BULK AT MOST 1048576: true; the input reads as it did. -/
def siphashDerivesUptoRow : OpenClaim := { program := "ytaopgieejgcbeaa", sum := "37c36678b2f093a616c04b380e9ecfa08e2cf006bbbbc802a16809c91f2c64fa", func := "baseboard/baseboardlaw33.SiphashDerives", spec := "siphashDerives", unfollowed := true, recurses := true, apart := false, narrowed := true }
def SiphashDerivesUptoSaid : Prop := siphashDerivesUptoRow.holds Try.pinned (OpenSpec.upto siphashDerivesSpec)

/-- 'baseboardlaw33.SiphashReturns', WHERE WHAT IT READS IS OF BULK AT MOST 1048576: true; the input reads as it did. -/
def siphashReturnsUptoRow : OpenClaim := { program := "ytaopgieejgcbeaa", sum := "37c36678b2f093a616c04b380e9ecfa08e2cf006bbbbc802a16809c91f2c64fa", func := "baseboard/baseboardlaw33.SiphashReturns", spec := "siphashReturns", unfollowed := true, recurses := true, apart := false, narrowed := true }
def SiphashReturnsUptoSaid : Prop := siphashReturnsUptoRow.holds Try.pinned (OpenSpec.upto siphashReturnsSpec)

/-- 'baseboardlaw33.SiphashAnswers', WHERE WHAT IT READS IS OF BULK AT MOST 1048576: true; the input reads as it did. -/
def siphashAnswersUptoRow : OpenClaim := { program := "ytaopgieejgcbeaa", sum := "37c36678b2f093a616c04b380e9ecfa08e2cf006bbbbc802a16809c91f2c64fa", func := "baseboard/baseboardlaw33.SiphashAnswers", spec := "siphashAnswers", unfollowed := true, recurses := true, apart := false, narrowed := true }
def SiphashAnswersUptoSaid : Prop := siphashAnswersUptoRow.holds Try.pinned (OpenSpec.upto siphashAnswersSpec)

end Rows
end Go.Proofs.Ytaopgieejgcbeaa
