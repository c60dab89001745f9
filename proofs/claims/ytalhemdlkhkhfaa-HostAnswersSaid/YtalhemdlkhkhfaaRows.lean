/-
  No cell of these rows narrows 'for every input' (looked for: loops, veiled, ifaces, maps, wideKeys, modest, calm, conditions, laid).
  DERIVED. THE GIVEN ROWS OF THIS SEAT. 3 by the template 'for every input the law returns true; each argument reads behind the call as it read before'; 0 by the template 'total and deterministic' (their statements: YtalhemdlkhkhfaaTotals.lean).
  GIVEN WITH THE SEED: the statements are not yours to turn. If you find one false, say at which input.
  Laid BY PROGRAM, IN A SANDBOX (cutbox-rows.mjs): the forced cells as the released guide's own fill.sh prints them over the translation 9324e87390d71976… (all of the seat's roots in one cut). By AI agents, Wed Nov 11 2026. No macro, syntax, notation, axiom, sorry.
-/
import Derived.Test.YtalhemdlkhkhfaaChecked
import GoSem.Claim
import GoSem.ClaimJoined
import GoSem.ClaimMapViews
import Derived.JoinedTies
import Derived.KernelRfl
namespace Go.Proofs.Ytalhemdlkhkhfaa
/- THE CELL 'sum', in the pinned program and in every row, IS THE sha256 OF THE DUMP (.gsa) THAT YtalhemdlkhkhfaaProg.lean LOADS. Nothing in Lean hashes anything: it is a label: what it is worth is what the hold of that sum in a sandbox is worth. -/
noncomputable def Try.pinned : Pinned := { name := "ytalhemdlkhkhfaa", sum := "9324e87390d71976ae3f6b2f87b8b7e351be51d26e513531e6a322ab5010b824", checked := Try.checked }
namespace Rows
def none {H : Type} : Left H := { results := [], args := [] }

/-- 'baseboardlaw42.HostAnswers': WHATEVER THE INPUT: true; the input reads as it did. -/
def hostAnswersSpec : ChangeSpec := { name := "hostAnswers", fn := fun _ => fun
  | [d1, d2, d3] => { results := [.lit (.bool true)], args := [d1, d2, d3] }
  | _ => none }
def hostAnswersRow : OpenClaim := { program := "ytalhemdlkhkhfaa", sum := "9324e87390d71976ae3f6b2f87b8b7e351be51d26e513531e6a322ab5010b824", func := "baseboard/baseboardlaw42.HostAnswers", spec := "hostAnswers", unfollowed := true, recurses := true, apart := false }
def HostAnswersSaid : Prop := hostAnswersRow.holds Try.pinned (OpenSpec.ofChange hostAnswersSpec)

/-- ITS FALSE NEIGHBOUR: 'it returns false'. Refute it at one input. -/
def hostAnswersWrong : ChangeSpec := { name := "hostAnswers", fn := fun _ => fun
  | [d1, d2, d3] => { results := [.lit (.bool false)], args := [d1, d2, d3] }
  | _ => none }
def HostAnswersWrongFalsely : Prop := hostAnswersRow.holds Try.pinned (OpenSpec.ofChange hostAnswersWrong)

/-- 'baseboardlaw42.HostPower': WHATEVER THE INPUT: true; the input reads as it did. -/
def hostPowerSpec : ChangeSpec := { name := "hostPower", fn := fun _ => fun
  | [d] => { results := [.lit (.bool true)], args := [d] }
  | _ => none }
def hostPowerRow : OpenClaim := { program := "ytalhemdlkhkhfaa", sum := "9324e87390d71976ae3f6b2f87b8b7e351be51d26e513531e6a322ab5010b824", func := "baseboard/baseboardlaw42.HostPower", spec := "hostPower", unfollowed := true, recurses := true, apart := false }
def HostPowerSaid : Prop := hostPowerRow.holds Try.pinned (OpenSpec.ofChange hostPowerSpec)

/-- ITS FALSE NEIGHBOUR: 'it returns false'. Refute it at one input. -/
def hostPowerWrong : ChangeSpec := { name := "hostPower", fn := fun _ => fun
  | [d] => { results := [.lit (.bool false)], args := [d] }
  | _ => none }
def HostPowerWrongFalsely : Prop := hostPowerRow.holds Try.pinned (OpenSpec.ofChange hostPowerWrong)

/-- 'baseboardlaw42.HostBoots': WHATEVER THE INPUT: true; the input reads as it did. -/
def hostBootsSpec : ChangeSpec := { name := "hostBoots", fn := fun _ => fun
  | [d1, d2, d3] => { results := [.lit (.bool true)], args := [d1, d2, d3] }
  | _ => none }
def hostBootsRow : OpenClaim := { program := "ytalhemdlkhkhfaa", sum := "9324e87390d71976ae3f6b2f87b8b7e351be51d26e513531e6a322ab5010b824", func := "baseboard/baseboardlaw42.HostBoots", spec := "hostBoots", unfollowed := true, recurses := true, apart := false }
def HostBootsSaid : Prop := hostBootsRow.holds Try.pinned (OpenSpec.ofChange hostBootsSpec)

/-- ITS FALSE NEIGHBOUR: 'it returns false'. Refute it at one input. -/
def hostBootsWrong : ChangeSpec := { name := "hostBoots", fn := fun _ => fun
  | [d1, d2, d3] => { results := [.lit (.bool false)], args := [d1, d2, d3] }
  | _ => none }
def HostBootsWrongFalsely : Prop := hostBootsRow.holds Try.pinned (OpenSpec.ofChange hostBootsWrong)

/- THE SECOND FORM. 'bulk': how many values and letters a reading holds, each counted each time it is reached (what is shared counts as often as it is met; a slice's spare places count too). A statement '..UptoSaid' is the law's where the arguments, and the package variables that the reading takes, are together of bulk at most 1048576: NARROWER than '..Said'. Prove '..Said' where nothing that the law and all that it calls make is longer than what came in: it says more and counts as full. Else prove '..UptoSaid'. A law counts once. -/
mutual
def uptoBulk {H : Type} : DataW H → Nat
  | .lit (.string bytes) => bytes.length + 1
  | .lit _ => 1
  | .nil => 1
  | .ptr d => uptoBulk d + 1
  | .slice elems spare => uptoBulkAll elems + uptoBulkAll spare + 1
  | .agg parts => uptoBulkAll parts + 1
  | .iface _ d => uptoBulk d + 1
  | .map entries => uptoBulkEntries entries + 1
  | .held _ => 1
def uptoBulkAll {H : Type} : List (DataW H) → Nat
  | [] => 0
  | d :: r => uptoBulk d + uptoBulkAll r
def uptoBulkEntries {H : Type} : List (Lit × DataW H) → Nat
  | [] => 0
  | x :: r => uptoBulkEntry x + uptoBulkEntries r
def uptoBulkEntry {H : Type} : Lit × DataW H → Nat
  | (.string bytes, d) => bytes.length + uptoBulk d + 1
  | (_, d) => uptoBulk d + 1
 end
def uptoSmall : (H : Type) → List (DataW H) → Bool := fun _ ds => decide (uptoBulkAll ds ≤ 1048576)
def OpenSpec.upto (s : _root_.Go.ChangeSpec) : _root_.Go.OpenSpec := { _root_.Go.OpenSpec.ofChange s with cond := some uptoSmall }

/-- 'baseboardlaw42.HostAnswers', WHERE WHAT IT READS IS OF BULK AT MOST 1048576: true; the input reads as it did. -/
def hostAnswersUptoRow : OpenClaim := { program := "ytalhemdlkhkhfaa", sum := "9324e87390d71976ae3f6b2f87b8b7e351be51d26e513531e6a322ab5010b824", func := "baseboard/baseboardlaw42.HostAnswers", spec := "hostAnswers", unfollowed := true, recurses := true, apart := false, narrowed := true }
def HostAnswersUptoSaid : Prop := hostAnswersUptoRow.holds Try.pinned (OpenSpec.upto hostAnswersSpec)

/-- 'baseboardlaw42.HostPower', WHERE WHAT IT READS IS OF BULK AT MOST 1048576: true; the input reads as it did. -/
def hostPowerUptoRow : OpenClaim := { program := "ytalhemdlkhkhfaa", sum := "9324e87390d71976ae3f6b2f87b8b7e351be51d26e513531e6a322ab5010b824", func := "baseboard/baseboardlaw42.HostPower", spec := "hostPower", unfollowed := true, recurses := true, apart := false, narrowed := true }
def HostPowerUptoSaid : Prop := hostPowerUptoRow.holds Try.pinned (OpenSpec.upto hostPowerSpec)

/-- 'baseboardlaw42.HostBoots', WHERE WHAT IT READS IS OF BULK AT MOST 1048576: true; the input reads as it did. -/
def hostBootsUptoRow : OpenClaim := { program := "ytalhemdlkhkhfaa", sum := "9324e87390d71976ae3f6b2f87b8b7e351be51d26e513531e6a322ab5010b824", func := "baseboard/baseboardlaw42.HostBoots", spec := "hostBoots", unfollowed := true, recurses := true, apart := false, narrowed := true }
def HostBootsUptoSaid : Prop := hostBootsUptoRow.holds Try.pinned (OpenSpec.upto hostBootsSpec)

end Rows
end Go.Proofs.Ytalhemdlkhkhfaa
