/-
  No cell of these rows narrows 'for every input' (looked for: loops, veiled, ifaces, maps, wideKeys, modest, calm, conditions, laid).
  DERIVED. THE GIVEN ROWS OF THIS SEAT. 4 by the template 'for every input the law returns true; each argument reads behind the call as it read before'; 0 by the template 'total and deterministic' (their statements: YtfbkkmnkpjgciaaGreatTotals.lean).
  GIVEN WITH THE SEED: the statements are not yours to turn. If you find one false, say at which input.
  Laid BY PROGRAM, IN A SANDBOX (cutbox-rows.mjs): the forced cells as the released guide's own fill.sh prints them over the translation bd9ee359b23d014a… (all of the seat's roots in one cut). By AI agents, Wed Nov 11 2026. No macro, syntax, notation, axiom, sorry.
-/
import Derived.Test.YtfbkkmnkpjgciaaGreatChecked
import GoSem.Claim
import GoSem.ClaimJoined
import GoSem.ClaimMapViews
import Derived.JoinedTies
import Derived.KernelRfl
namespace Go.Proofs.YtfbkkmnkpjgciaaGreat
/- THE CELL 'sum', in the pinned program and in every row, IS THE sha256 OF THE DUMP (.gsa) THAT YtfbkkmnkpjgciaaGreatProg.lean LOADS. Nothing in Lean hashes anything: it is a label: what it is worth is what the hold of that sum in a sandbox is worth. -/
noncomputable def Tryz.pinned : Pinned := { name := "ytfbkkmnkpjgciaagreat", sum := "bd9ee359b23d014a4cfc2a4d8d7946ff08557c4fceea55e0d02efa3f16d6bf70", checked := Tryz.checked }
namespace Rows
def none {H : Type} : Left H := { results := [], args := [] }

/-- 'baseboardlaw35.SessionPrivileges': WHATEVER THE INPUT: true; the input reads as it did. -/
def sessionPrivilegesSpec : ChangeSpec := { name := "sessionPrivileges", fn := fun _ => fun
  | [d] => { results := [.lit (.bool true)], args := [d] }
  | _ => none }
def sessionPrivilegesRow : OpenClaim := { program := "ytfbkkmnkpjgciaagreat", sum := "bd9ee359b23d014a4cfc2a4d8d7946ff08557c4fceea55e0d02efa3f16d6bf70", func := "baseboard/baseboardlaw35.SessionPrivileges", spec := "sessionPrivileges", unfollowed := true, recurses := true, apart := false }
def SessionPrivilegesSaid : Prop := sessionPrivilegesRow.holds Tryz.pinned (OpenSpec.ofChange sessionPrivilegesSpec)

/-- ITS FALSE NEIGHBOUR: 'it returns false'. Refute it at one input. -/
def sessionPrivilegesWrong : ChangeSpec := { name := "sessionPrivileges", fn := fun _ => fun
  | [d] => { results := [.lit (.bool false)], args := [d] }
  | _ => none }
def SessionPrivilegesWrongFalsely : Prop := sessionPrivilegesRow.holds Tryz.pinned (OpenSpec.ofChange sessionPrivilegesWrong)

/-- 'baseboardlaw35.SessionExpires': WHATEVER THE INPUT: true; the input reads as it did. -/
def sessionExpiresSpec : ChangeSpec := { name := "sessionExpires", fn := fun _ => fun
  | [d1, d2] => { results := [.lit (.bool true)], args := [d1, d2] }
  | _ => none }
def sessionExpiresRow : OpenClaim := { program := "ytfbkkmnkpjgciaagreat", sum := "bd9ee359b23d014a4cfc2a4d8d7946ff08557c4fceea55e0d02efa3f16d6bf70", func := "baseboard/baseboardlaw35.SessionExpires", spec := "sessionExpires", unfollowed := true, recurses := true, apart := false }
def SessionExpiresSaid : Prop := sessionExpiresRow.holds Tryz.pinned (OpenSpec.ofChange sessionExpiresSpec)

/-- ITS FALSE NEIGHBOUR: 'it returns false'. Refute it at one input. -/
def sessionExpiresWrong : ChangeSpec := { name := "sessionExpires", fn := fun _ => fun
  | [d1, d2] => { results := [.lit (.bool false)], args := [d1, d2] }
  | _ => none }
def SessionExpiresWrongFalsely : Prop := sessionExpiresRow.holds Tryz.pinned (OpenSpec.ofChange sessionExpiresWrong)

/-- 'baseboardlaw35.SessionClients': WHATEVER THE INPUT: true; the input reads as it did. -/
def sessionClientsSpec : ChangeSpec := { name := "sessionClients", fn := fun _ => fun
  | [d1, d2, d3, d4, d5] => { results := [.lit (.bool true)], args := [d1, d2, d3, d4, d5] }
  | _ => none }
def sessionClientsRow : OpenClaim := { program := "ytfbkkmnkpjgciaagreat", sum := "bd9ee359b23d014a4cfc2a4d8d7946ff08557c4fceea55e0d02efa3f16d6bf70", func := "baseboard/baseboardlaw35.SessionClients", spec := "sessionClients", unfollowed := true, recurses := true, apart := false }
def SessionClientsSaid : Prop := sessionClientsRow.holds Tryz.pinned (OpenSpec.ofChange sessionClientsSpec)

/-- ITS FALSE NEIGHBOUR: 'it returns false'. Refute it at one input. -/
def sessionClientsWrong : ChangeSpec := { name := "sessionClients", fn := fun _ => fun
  | [d1, d2, d3, d4, d5] => { results := [.lit (.bool false)], args := [d1, d2, d3, d4, d5] }
  | _ => none }
def SessionClientsWrongFalsely : Prop := sessionClientsRow.holds Tryz.pinned (OpenSpec.ofChange sessionClientsWrong)

/-- 'baseboardlaw35.SessionAnswers': WHATEVER THE INPUT: true; the input reads as it did. -/
def sessionAnswersSpec : ChangeSpec := { name := "sessionAnswers", fn := fun _ => fun
  | [d1, d2, d3, d4, d5] => { results := [.lit (.bool true)], args := [d1, d2, d3, d4, d5] }
  | _ => none }
def sessionAnswersRow : OpenClaim := { program := "ytfbkkmnkpjgciaagreat", sum := "bd9ee359b23d014a4cfc2a4d8d7946ff08557c4fceea55e0d02efa3f16d6bf70", func := "baseboard/baseboardlaw35.SessionAnswers", spec := "sessionAnswers", unfollowed := true, recurses := true, apart := false }
def SessionAnswersSaid : Prop := sessionAnswersRow.holds Tryz.pinned (OpenSpec.ofChange sessionAnswersSpec)

/-- ITS FALSE NEIGHBOUR: 'it returns false'. Refute it at one input. -/
def sessionAnswersWrong : ChangeSpec := { name := "sessionAnswers", fn := fun _ => fun
  | [d1, d2, d3, d4, d5] => { results := [.lit (.bool false)], args := [d1, d2, d3, d4, d5] }
  | _ => none }
def SessionAnswersWrongFalsely : Prop := sessionAnswersRow.holds Tryz.pinned (OpenSpec.ofChange sessionAnswersWrong)

/- THE SECOND FORM. 'bulk': how many values and letters a reading holds, each counted each time it is reached (what is shared counts as often as it is met; a slice's spare places count too). A statement '..UptoSaid' is the law's where the arguments, and the package variables that the reading takes, are together of bulk at most 1048576: NARROWER than '..Said'. Prove '..Said' where nothing that the law and all that it calls make is longer than what came in: it says more and counts as full. Else prove '..UptoSaid'. A law counts once. -/
mutual
def uptoBulk {H : Type} : DataW H → Nat
  | .lit (.string bytes) => bytes.length + 1
  | .lit _ => 1
  | .nil => 1
  | .ptr d => uptoBulk d + 1
  | .slice elems spare => uptoBulkAll elems + uptoBulkAll spare + 1
  | .agg parts => uptoBulkAll parts + 1
  | .iface _ d => uptoBulk d + 1
  | .map entries => uptoBulkEntries entries + 1
  | .held _ => 1
def uptoBulkAll {H : Type} : List (DataW H) → Nat
  | [] => 0
  | d :: r => uptoBulk d + uptoBulkAll r
def uptoBulkEntries {H : Type} : List (Lit × DataW H) → Nat
  | [] => 0
  | x :: r => uptoBulkEntry x + uptoBulkEntries r
def uptoBulkEntry {H : Type} : Lit × DataW H → Nat
  | (.string bytes, d) => bytes.length + uptoBulk d + 1
  | (_, d) => uptoBulk d + 1
 end
def uptoSmall : (H : Type) → List (DataW H) → Bool := fun _ ds => decide (uptoBulkAll ds ≤ 1048576)
def OpenSpec.upto (s : _root_.Go.ChangeSpec) : _root_.Go.OpenSpec := { _root_.Go.OpenSpec.ofChange s with cond := some uptoSmall }

/-- 'baseboardlaw35.SessionPrivileges', WHERE WHAT IT READS IS OF BULK AT MOST 1048576: true; the input reads as it did. -/
def sessionPrivilegesUptoRow : OpenClaim := { program := "ytfbkkmnkpjgciaagreat", sum := "bd9ee359b23d014a4cfc2a4d8d7946ff08557c4fceea55e0d02efa3f16d6bf70", func := "baseboard/baseboardlaw35.SessionPrivileges", spec := "sessionPrivileges", unfollowed := true, recurses := true, apart := false, narrowed := true }
def SessionPrivilegesUptoSaid : Prop := sessionPrivilegesUptoRow.holds Tryz.pinned (OpenSpec.upto sessionPrivilegesSpec)

/-- 'baseboardlaw35.SessionExpires', WHERE WHAT IT READS IS OF BULK AT MOST 1048576: true; the input reads as it did. -/
def sessionExpiresUptoRow : OpenClaim := { program := "ytfbkkmnkpjgciaagreat", sum := "bd9ee359b23d014a4cfc2a4d8d7946ff08557c4fceea55e0d02efa3f16d6bf70", func := "baseboard/baseboardlaw35.SessionExpires", spec := "sessionExpires", unfollowed := true, recurses := true, apart := false, narrowed := true }
def SessionExpiresUptoSaid : Prop := sessionExpiresUptoRow.holds Tryz.pinned (OpenSpec.upto sessionExpiresSpec)

/-- 'baseboardlaw35.SessionClients', WHERE WHAT IT READS IS OF BULK AT MOST 1048576: true; the input reads as it did. -/
def sessionClientsUptoRow : OpenClaim := { program := "ytfbkkmnkpjgciaagreat", sum := "bd9ee359b23d014a4cfc2a4d8d7946ff08557c4fceea55e0d02efa3f16d6bf70", func := "baseboard/baseboardlaw35.SessionClients", spec := "sessionClients", unfollowed := true, recurses := true, apart := false, narrowed := true }
def SessionClientsUptoSaid : Prop := sessionClientsUptoRow.holds Tryz.pinned (OpenSpec.upto sessionClientsSpec)

/-- 'baseboardlaw35.SessionAnswers', WHERE WHAT IT READS IS OF BULK AT MOST 1048576: true; the input reads as it did. -/
def sessionAnswersUptoRow : OpenClaim := { program := "ytfbkkmnkpjgciaagreat", sum := "bd9ee359b23d014a4cfc2a4d8d7946ff08557c4fceea55e0d02efa3f16d6bf70", func := "baseboard/baseboardlaw35.SessionAnswers", spec := "sessionAnswers", unfollowed := true, recurses := true, apart := false, narrowed := true }
def SessionAnswersUptoSaid : Prop := sessionAnswersUptoRow.holds Tryz.pinned (OpenSpec.upto sessionAnswersSpec)

end Rows
end Go.Proofs.YtfbkkmnkpjgciaaGreat
