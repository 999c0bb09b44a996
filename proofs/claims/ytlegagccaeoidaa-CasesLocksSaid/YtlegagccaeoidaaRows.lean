/-
  No cell of these rows narrows 'for every input' (looked for: loops, veiled, ifaces, maps, wideKeys, modest, calm, conditions, laid).
  DERIVED. THE GIVEN ROWS OF THIS SEAT. 4 by the template 'for every input the law returns true; each argument reads behind the call as it read before'; 0 by the template 'total and deterministic' (their statements: YtlegagccaeoidaaTotals.lean).
  GIVEN WITH THE SEED: the statements are not yours to turn. If you find one false, say at which input.
  Laid BY PROGRAM, IN A SANDBOX (cutbox-rows.mjs): the forced cells as the released guide's own fill.sh prints them over the translation 459296ebd5f05577… (all of the seat's roots in one cut). By AI agents, Wed Nov 11 2026. No macro, syntax, notation, axiom, sorry.
-/
import Derived.Test.YtlegagccaeoidaaChecked
import GoSem.Claim
import GoSem.ClaimJoined
import GoSem.ClaimMapViews
import Derived.JoinedTies
import Derived.KernelRfl
namespace Go.Proofs.Ytlegagccaeoidaa
/- THE CELL 'sum', in the pinned program and in every row, IS THE sha256 OF THE DUMP (.gsa) THAT YtlegagccaeoidaaProg.lean LOADS. Nothing in Lean hashes anything: it is a label: what it is worth is what the hold of that sum in a sandbox is worth. -/
noncomputable def Try.pinned : Pinned := { name := "ytlegagccaeoidaa", sum := "459296ebd5f055774d99313027ab0895b71faa60fb8cef12bca8f159a33c0711", checked := Try.checked }
namespace Rows
def none {H : Type} : Left H := { results := [], args := [] }

/-- 'chanfabriclaw3.CasesChecks': WHATEVER THE INPUT: true; the input reads as it did. -/
def casesChecksSpec : ChangeSpec := { name := "casesChecks", fn := fun _ => fun
  | [d1, d2] => { results := [.lit (.bool true)], args := [d1, d2] }
  | _ => none }
def casesChecksRow : OpenClaim := { program := "ytlegagccaeoidaa", sum := "459296ebd5f055774d99313027ab0895b71faa60fb8cef12bca8f159a33c0711", func := "chanfabric/chanfabriclaw3.CasesChecks", spec := "casesChecks", unfollowed := true, recurses := true, apart := false }
def CasesChecksSaid : Prop := casesChecksRow.holds Try.pinned (OpenSpec.ofChange casesChecksSpec)

/-- ITS FALSE NEIGHBOUR: 'it returns false'. Refute it at one input. -/
def casesChecksWrong : ChangeSpec := { name := "casesChecks", fn := fun _ => fun
  | [d1, d2] => { results := [.lit (.bool false)], args := [d1, d2] }
  | _ => none }
def CasesChecksWrongFalsely : Prop := casesChecksRow.holds Try.pinned (OpenSpec.ofChange casesChecksWrong)

/-- 'chanfabriclaw3.CasesLocks': WHATEVER THE INPUT: true; the input reads as it did. -/
def casesLocksSpec : ChangeSpec := { name := "casesLocks", fn := fun _ => fun
  | [d1, d2, d3] => { results := [.lit (.bool true)], args := [d1, d2, d3] }
  | _ => none }
def casesLocksRow : OpenClaim := { program := "ytlegagccaeoidaa", sum := "459296ebd5f055774d99313027ab0895b71faa60fb8cef12bca8f159a33c0711", func := "chanfabric/chanfabriclaw3.CasesLocks", spec := "casesLocks", unfollowed := true, recurses := true, apart := false }
def CasesLocksSaid : Prop := casesLocksRow.holds Try.pinned (OpenSpec.ofChange casesLocksSpec)

/-- ITS FALSE NEIGHBOUR: 'it returns false'. Refute it at one input. -/
def casesLocksWrong : ChangeSpec := { name := "casesLocks", fn := fun _ => fun
  | [d1, d2, d3] => { results := [.lit (.bool false)], args := [d1, d2, d3] }
  | _ => none }
def CasesLocksWrongFalsely : Prop := casesLocksRow.holds Try.pinned (OpenSpec.ofChange casesLocksWrong)

/-- 'chanfabriclaw3.CasesFair': WHATEVER THE INPUT: true; the input reads as it did. -/
def casesFairSpec : ChangeSpec := { name := "casesFair", fn := fun _ => fun
  | [d1, d2] => { results := [.lit (.bool true)], args := [d1, d2] }
  | _ => none }
def casesFairRow : OpenClaim := { program := "ytlegagccaeoidaa", sum := "459296ebd5f055774d99313027ab0895b71faa60fb8cef12bca8f159a33c0711", func := "chanfabric/chanfabriclaw3.CasesFair", spec := "casesFair", unfollowed := true, recurses := true, apart := false }
def CasesFairSaid : Prop := casesFairRow.holds Try.pinned (OpenSpec.ofChange casesFairSpec)

/-- ITS FALSE NEIGHBOUR: 'it returns false'. Refute it at one input. -/
def casesFairWrong : ChangeSpec := { name := "casesFair", fn := fun _ => fun
  | [d1, d2] => { results := [.lit (.bool false)], args := [d1, d2] }
  | _ => none }
def CasesFairWrongFalsely : Prop := casesFairRow.holds Try.pinned (OpenSpec.ofChange casesFairWrong)

/-- 'chanfabriclaw3.CasesOrders': WHATEVER THE INPUT: true; the input reads as it did. -/
def casesOrdersSpec : ChangeSpec := { name := "casesOrders", fn := fun _ => fun
  | [d1, d2] => { results := [.lit (.bool true)], args := [d1, d2] }
  | _ => none }
def casesOrdersRow : OpenClaim := { program := "ytlegagccaeoidaa", sum := "459296ebd5f055774d99313027ab0895b71faa60fb8cef12bca8f159a33c0711", func := "chanfabric/chanfabriclaw3.CasesOrders", spec := "casesOrders", unfollowed := true, recurses := true, apart := false }
def CasesOrdersSaid : Prop := casesOrdersRow.holds Try.pinned (OpenSpec.ofChange casesOrdersSpec)

/-- ITS FALSE NEIGHBOUR: 'it returns false'. Refute it at one input. -/
def casesOrdersWrong : ChangeSpec := { name := "casesOrders", fn := fun _ => fun
  | [d1, d2] => { results := [.lit (.bool false)], args := [d1, d2] }
  | _ => none }
def CasesOrdersWrongFalsely : Prop := casesOrdersRow.holds Try.pinned (OpenSpec.ofChange casesOrdersWrong)

/- THE SECOND FORM. 'bulk': how many values and letters a reading holds, each counted each time it is reached (what is shared counts as often as it is met; a slice's spare places count too). A statement '..UptoSaid' is the law's where the arguments, and the package variables that the reading takes, are together of bulk at most 1048576: NARROWER than '..Said'. Prove '..Said' where nothing that the law and all that it calls make is longer than what came in: it says more and counts as full. Else prove '..UptoSaid'. A law counts once. -/
mutual
def uptoBulk {H : Type} : DataW H → Nat
  | .lit (.string bytes) => bytes.length + 1
  | .lit _ => 1
  | .nil => 1
  | .ptr d => uptoBulk d + 1
  | .slice elems spare => uptoBulkAll elems + uptoBulkAll spare + 1
  | .agg parts => uptoBulkAll parts + 1
  | .iface _ d => uptoBulk d + 1
  | .map entries => uptoBulkEntries entries + 1
  | .held _ => 1
def uptoBulkAll {H : Type} : List (DataW H) → Nat
  | [] => 0
  | d :: r => uptoBulk d + uptoBulkAll r
def uptoBulkEntries {H : Type} : List (Lit × DataW H) → Nat
  | [] => 0
  | x :: r => uptoBulkEntry x + uptoBulkEntries r
def uptoBulkEntry {H : Type} : Lit × DataW H → Nat
  | (.string bytes, d) => bytes.length + uptoBulk d + 1
  | (_, d) => uptoBulk d + 1
 end
def uptoSmall : (H : Type) → List (DataW H) → Bool := fun _ ds => decide (uptoBulkAll ds ≤ 1048576)
def OpenSpec.upto (s : _root_.Go.ChangeSpec) : _root_.Go.OpenSpec := { _root_.Go.OpenSpec.ofChange s with cond := some uptoSmall }

/-- 'chanfabriclaw3.CasesChecks', WHERE WHAT IT READS IS OF BULK AT MOST 1048576: true; the input reads as it did. -/
def casesChecksUptoRow : OpenClaim := { program := "ytlegagccaeoidaa", sum := "459296ebd5f055774d99313027ab0895b71faa60fb8cef12bca8f159a33c0711", func := "chanfabric/chanfabriclaw3.CasesChecks", spec := "casesChecks", unfollowed := true, recurses := true, apart := false, narrowed := true }
def CasesChecksUptoSaid : Prop := casesChecksUptoRow.holds Try.pinned (OpenSpec.upto casesChecksSpec)

/-- 'chanfabriclaw3.CasesLocks', WHERE WHAT IT READS IS OF BULK AT MOST 1048576: true; the input reads as it did. -/
def casesLocksUptoRow : OpenClaim := { program := "ytlegagccaeoidaa", sum := "459296ebd5f055774d99313027ab0895b71faa60fb8cef12bca8f159a33c0711", func := "chanfabric/chanfabriclaw3.CasesLocks", spec := "casesLocks", unfollowed := true, recurses := true, apart := false, narrowed := true }
def CasesLocksUptoSaid : Prop := casesLocksUptoRow.holds Try.pinned (OpenSpec.upto casesLocksSpec)

/-- 'chanfabriclaw3.CasesFair', WHERE WHAT IT READS IS OF BULK AT MOST 1048576: true; the input reads as it did. -/
def casesFairUptoRow : OpenClaim := { program := "ytlegagccaeoidaa", sum := "459296ebd5f055774d99313027ab0895b71faa60fb8cef12bca8f159a33c0711", func := "chanfabric/chanfabriclaw3.CasesFair", spec := "casesFair", unfollowed := true, recurses := true, apart := false, narrowed := true }
def CasesFairUptoSaid : Prop := casesFairUptoRow.holds Try.pinned (OpenSpec.upto casesFairSpec)

/-- 'chanfabriclaw3.CasesOrders', WHERE WHAT IT READS IS OF BULK AT MOST 1048576: true; the input reads as it did. -/
def casesOrdersUptoRow : OpenClaim := { program := "ytlegagccaeoidaa", sum := "459296ebd5f055774d99313027ab0895b71faa60fb8cef12bca8f159a33c0711", func := "chanfabric/chanfabriclaw3.CasesOrders", spec := "casesOrders", unfollowed := true, recurses := true, apart := false, narrowed := true }
def CasesOrdersUptoSaid : Prop := casesOrdersUptoRow.holds Try.pinned (OpenSpec.upto casesOrdersSpec)

end Rows
end Go.Proofs.Ytlegagccaeoidaa
