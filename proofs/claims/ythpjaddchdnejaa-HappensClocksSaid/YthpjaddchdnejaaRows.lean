/-
  No cell of these rows narrows 'for every input' (looked for: loops, veiled, ifaces, maps, wideKeys, modest, calm, conditions, laid).
  DERIVED. THE GIVEN ROWS OF THIS SEAT. 11 by the template 'for every input the law returns true; each argument reads behind the call as it read before'; 0 by the template 'total and deterministic' (their statements: YthpjaddchdnejaaTotals.lean).
  GIVEN WITH THE SEED: the statements are not yours to turn. If you find one false, say at which input.
  Laid BY PROGRAM, IN A SANDBOX (cutbox-rows.mjs): the forced cells as the released guide's own fill.sh prints them over the translation ba9763c6da2e9489… (all of the seat's roots in one cut). By AI agents, Wed Nov 11 2026. No macro, syntax, notation, axiom, sorry.
-/
import Derived.Test.YthpjaddchdnejaaChecked
import GoSem.Claim
import GoSem.ClaimJoined
import GoSem.ClaimMapViews
import Derived.JoinedTies
import Derived.KernelRfl
namespace Go.Proofs.Ythpjaddchdnejaa
/- THE CELL 'sum', in the pinned program and in every row, IS THE sha256 OF THE DUMP (.gsa) THAT YthpjaddchdnejaaProg.lean LOADS. Nothing in Lean hashes anything: it is a label: what it is worth is what the hold of that sum in a sandbox is worth. -/
noncomputable def Try.pinned : Pinned := { name := "ythpjaddchdnejaa", sum := "ba9763c6da2e9489ddebeaeb9528b947e24e7c23d9f788254eaa01d19c66ed24", checked := Try.checked }
namespace Rows
def none {H : Type} : Left H := { results := [], args := [] }

/-- 'chanfabriclaw16.HistoryChecks': WHATEVER THE INPUT: true; the input reads as it did. -/
def historyChecksSpec : ChangeSpec := { name := "historyChecks", fn := fun _ => fun
  | [d1, d2, d3, d4, d5] => { results := [.lit (.bool true)], args := [d1, d2, d3, d4, d5] }
  | _ => none }
def historyChecksRow : OpenClaim := { program := "ythpjaddchdnejaa", sum := "ba9763c6da2e9489ddebeaeb9528b947e24e7c23d9f788254eaa01d19c66ed24", func := "chanfabric/chanfabriclaw16.HistoryChecks", spec := "historyChecks", apart := false }
def HistoryChecksSaid : Prop := historyChecksRow.holds Try.pinned (OpenSpec.ofChange historyChecksSpec)

/-- ITS FALSE NEIGHBOUR: 'it returns false'. Refute it at one input. -/
def historyChecksWrong : ChangeSpec := { name := "historyChecks", fn := fun _ => fun
  | [d1, d2, d3, d4, d5] => { results := [.lit (.bool false)], args := [d1, d2, d3, d4, d5] }
  | _ => none }
def HistoryChecksWrongFalsely : Prop := historyChecksRow.holds Try.pinned (OpenSpec.ofChange historyChecksWrong)

/-- 'chanfabriclaw16.HistoryPrecedes': WHATEVER THE INPUT: true; the input reads as it did. -/
def historyPrecedesSpec : ChangeSpec := { name := "historyPrecedes", fn := fun _ => fun
  | [d1, d2, d3, d4] => { results := [.lit (.bool true)], args := [d1, d2, d3, d4] }
  | _ => none }
def historyPrecedesRow : OpenClaim := { program := "ythpjaddchdnejaa", sum := "ba9763c6da2e9489ddebeaeb9528b947e24e7c23d9f788254eaa01d19c66ed24", func := "chanfabric/chanfabriclaw16.HistoryPrecedes", spec := "historyPrecedes", apart := false }
def HistoryPrecedesSaid : Prop := historyPrecedesRow.holds Try.pinned (OpenSpec.ofChange historyPrecedesSpec)

/-- ITS FALSE NEIGHBOUR: 'it returns false'. Refute it at one input. -/
def historyPrecedesWrong : ChangeSpec := { name := "historyPrecedes", fn := fun _ => fun
  | [d1, d2, d3, d4] => { results := [.lit (.bool false)], args := [d1, d2, d3, d4] }
  | _ => none }
def HistoryPrecedesWrongFalsely : Prop := historyPrecedesRow.holds Try.pinned (OpenSpec.ofChange historyPrecedesWrong)

/-- 'chanfabriclaw16.HistoryOrders': WHATEVER THE INPUT: true; the input reads as it did. -/
def historyOrdersSpec : ChangeSpec := { name := "historyOrders", fn := fun _ => fun
  | [d] => { results := [.lit (.bool true)], args := [d] }
  | _ => none }
def historyOrdersRow : OpenClaim := { program := "ythpjaddchdnejaa", sum := "ba9763c6da2e9489ddebeaeb9528b947e24e7c23d9f788254eaa01d19c66ed24", func := "chanfabric/chanfabriclaw16.HistoryOrders", spec := "historyOrders", apart := false }
def HistoryOrdersSaid : Prop := historyOrdersRow.holds Try.pinned (OpenSpec.ofChange historyOrdersSpec)

/-- ITS FALSE NEIGHBOUR: 'it returns false'. Refute it at one input. -/
def historyOrdersWrong : ChangeSpec := { name := "historyOrders", fn := fun _ => fun
  | [d] => { results := [.lit (.bool false)], args := [d] }
  | _ => none }
def HistoryOrdersWrongFalsely : Prop := historyOrdersRow.holds Try.pinned (OpenSpec.ofChange historyOrdersWrong)

/-- 'chanfabriclaw16.HistoryOpen': WHATEVER THE INPUT: true; the input reads as it did. -/
def historyOpenSpec : ChangeSpec := { name := "historyOpen", fn := fun _ => fun
  | [d] => { results := [.lit (.bool true)], args := [d] }
  | _ => none }
def historyOpenRow : OpenClaim := { program := "ythpjaddchdnejaa", sum := "ba9763c6da2e9489ddebeaeb9528b947e24e7c23d9f788254eaa01d19c66ed24", func := "chanfabric/chanfabriclaw16.HistoryOpen", spec := "historyOpen", apart := false }
def HistoryOpenSaid : Prop := historyOpenRow.holds Try.pinned (OpenSpec.ofChange historyOpenSpec)

/-- ITS FALSE NEIGHBOUR: 'it returns false'. Refute it at one input. -/
def historyOpenWrong : ChangeSpec := { name := "historyOpen", fn := fun _ => fun
  | [d] => { results := [.lit (.bool false)], args := [d] }
  | _ => none }
def HistoryOpenWrongFalsely : Prop := historyOpenRow.holds Try.pinned (OpenSpec.ofChange historyOpenWrong)

/-- 'chanfabriclaw16.HistoryAsks': WHATEVER THE INPUT: true; the input reads as it did. -/
def historyAsksSpec : ChangeSpec := { name := "historyAsks", fn := fun _ => fun
  | [d1, d2, d3, d4] => { results := [.lit (.bool true)], args := [d1, d2, d3, d4] }
  | _ => none }
def historyAsksRow : OpenClaim := { program := "ythpjaddchdnejaa", sum := "ba9763c6da2e9489ddebeaeb9528b947e24e7c23d9f788254eaa01d19c66ed24", func := "chanfabric/chanfabriclaw16.HistoryAsks", spec := "historyAsks", apart := false }
def HistoryAsksSaid : Prop := historyAsksRow.holds Try.pinned (OpenSpec.ofChange historyAsksSpec)

/-- ITS FALSE NEIGHBOUR: 'it returns false'. Refute it at one input. -/
def historyAsksWrong : ChangeSpec := { name := "historyAsks", fn := fun _ => fun
  | [d1, d2, d3, d4] => { results := [.lit (.bool false)], args := [d1, d2, d3, d4] }
  | _ => none }
def HistoryAsksWrongFalsely : Prop := historyAsksRow.holds Try.pinned (OpenSpec.ofChange historyAsksWrong)

/-- 'chanfabriclaw18.HappensClocks': WHATEVER THE INPUT: true; the input reads as it did. -/
def happensClocksSpec : ChangeSpec := { name := "happensClocks", fn := fun _ => fun
  | [d1, d2, d3] => { results := [.lit (.bool true)], args := [d1, d2, d3] }
  | _ => none }
def happensClocksRow : OpenClaim := { program := "ythpjaddchdnejaa", sum := "ba9763c6da2e9489ddebeaeb9528b947e24e7c23d9f788254eaa01d19c66ed24", func := "chanfabric/chanfabriclaw18.HappensClocks", spec := "happensClocks", apart := false }
def HappensClocksSaid : Prop := happensClocksRow.holds Try.pinned (OpenSpec.ofChange happensClocksSpec)

/-- ITS FALSE NEIGHBOUR: 'it returns false'. Refute it at one input. -/
def happensClocksWrong : ChangeSpec := { name := "happensClocks", fn := fun _ => fun
  | [d1, d2, d3] => { results := [.lit (.bool false)], args := [d1, d2, d3] }
  | _ => none }
def HappensClocksWrongFalsely : Prop := happensClocksRow.holds Try.pinned (OpenSpec.ofChange happensClocksWrong)

/-- 'chanfabriclaw18.HappensPrefixes': WHATEVER THE INPUT: true; the input reads as it did. -/
def happensPrefixesSpec : ChangeSpec := { name := "happensPrefixes", fn := fun _ => fun
  | [d1, d2, d3] => { results := [.lit (.bool true)], args := [d1, d2, d3] }
  | _ => none }
def happensPrefixesRow : OpenClaim := { program := "ythpjaddchdnejaa", sum := "ba9763c6da2e9489ddebeaeb9528b947e24e7c23d9f788254eaa01d19c66ed24", func := "chanfabric/chanfabriclaw18.HappensPrefixes", spec := "happensPrefixes", apart := false }
def HappensPrefixesSaid : Prop := happensPrefixesRow.holds Try.pinned (OpenSpec.ofChange happensPrefixesSpec)

/-- ITS FALSE NEIGHBOUR: 'it returns false'. Refute it at one input. -/
def happensPrefixesWrong : ChangeSpec := { name := "happensPrefixes", fn := fun _ => fun
  | [d1, d2, d3] => { results := [.lit (.bool false)], args := [d1, d2, d3] }
  | _ => none }
def HappensPrefixesWrongFalsely : Prop := happensPrefixesRow.holds Try.pinned (OpenSpec.ofChange happensPrefixesWrong)

/-- 'chanfabriclaw18.HappensLocks': WHATEVER THE INPUT: true; the input reads as it did. -/
def happensLocksSpec : ChangeSpec := { name := "happensLocks", fn := fun _ => fun
  | [d] => { results := [.lit (.bool true)], args := [d] }
  | _ => none }
def happensLocksRow : OpenClaim := { program := "ythpjaddchdnejaa", sum := "ba9763c6da2e9489ddebeaeb9528b947e24e7c23d9f788254eaa01d19c66ed24", func := "chanfabric/chanfabriclaw18.HappensLocks", spec := "happensLocks", apart := false }
def HappensLocksSaid : Prop := happensLocksRow.holds Try.pinned (OpenSpec.ofChange happensLocksSpec)

/-- ITS FALSE NEIGHBOUR: 'it returns false'. Refute it at one input. -/
def happensLocksWrong : ChangeSpec := { name := "happensLocks", fn := fun _ => fun
  | [d] => { results := [.lit (.bool false)], args := [d] }
  | _ => none }
def HappensLocksWrongFalsely : Prop := happensLocksRow.holds Try.pinned (OpenSpec.ofChange happensLocksWrong)

/-- 'chanfabriclaw18.HappensBefore': WHATEVER THE INPUT: true; the input reads as it did. -/
def happensBeforeSpec : ChangeSpec := { name := "happensBefore", fn := fun _ => fun
  | [d1, d2, d3, d4] => { results := [.lit (.bool true)], args := [d1, d2, d3, d4] }
  | _ => none }
def happensBeforeRow : OpenClaim := { program := "ythpjaddchdnejaa", sum := "ba9763c6da2e9489ddebeaeb9528b947e24e7c23d9f788254eaa01d19c66ed24", func := "chanfabric/chanfabriclaw18.HappensBefore", spec := "happensBefore", apart := false }
def HappensBeforeSaid : Prop := happensBeforeRow.holds Try.pinned (OpenSpec.ofChange happensBeforeSpec)

/-- ITS FALSE NEIGHBOUR: 'it returns false'. Refute it at one input. -/
def happensBeforeWrong : ChangeSpec := { name := "happensBefore", fn := fun _ => fun
  | [d1, d2, d3, d4] => { results := [.lit (.bool false)], args := [d1, d2, d3, d4] }
  | _ => none }
def HappensBeforeWrongFalsely : Prop := happensBeforeRow.holds Try.pinned (OpenSpec.ofChange happensBeforeWrong)

/-- 'chanfabriclaw18.HappensTransitive': WHATEVER THE INPUT: true; the input reads as it did. -/
def happensTransitiveSpec : ChangeSpec := { name := "happensTransitive", fn := fun _ => fun
  | [d1, d2] => { results := [.lit (.bool true)], args := [d1, d2] }
  | _ => none }
def happensTransitiveRow : OpenClaim := { program := "ythpjaddchdnejaa", sum := "ba9763c6da2e9489ddebeaeb9528b947e24e7c23d9f788254eaa01d19c66ed24", func := "chanfabric/chanfabriclaw18.HappensTransitive", spec := "happensTransitive", apart := false }
def HappensTransitiveSaid : Prop := happensTransitiveRow.holds Try.pinned (OpenSpec.ofChange happensTransitiveSpec)

/-- ITS FALSE NEIGHBOUR: 'it returns false'. Refute it at one input. -/
def happensTransitiveWrong : ChangeSpec := { name := "happensTransitive", fn := fun _ => fun
  | [d1, d2] => { results := [.lit (.bool false)], args := [d1, d2] }
  | _ => none }
def HappensTransitiveWrongFalsely : Prop := happensTransitiveRow.holds Try.pinned (OpenSpec.ofChange happensTransitiveWrong)

/-- 'chanfabriclaw18.HappensReads': WHATEVER THE INPUT: true; the input reads as it did. -/
def happensReadsSpec : ChangeSpec := { name := "happensReads", fn := fun _ => fun
  | [d1, d2] => { results := [.lit (.bool true)], args := [d1, d2] }
  | _ => none }
def happensReadsRow : OpenClaim := { program := "ythpjaddchdnejaa", sum := "ba9763c6da2e9489ddebeaeb9528b947e24e7c23d9f788254eaa01d19c66ed24", func := "chanfabric/chanfabriclaw18.HappensReads", spec := "happensReads", apart := false }
def HappensReadsSaid : Prop := happensReadsRow.holds Try.pinned (OpenSpec.ofChange happensReadsSpec)

/-- ITS FALSE NEIGHBOUR: 'it returns false'. Refute it at one input. -/
def happensReadsWrong : ChangeSpec := { name := "happensReads", fn := fun _ => fun
  | [d1, d2] => { results := [.lit (.bool false)], args := [d1, d2] }
  | _ => none }
def HappensReadsWrongFalsely : Prop := happensReadsRow.holds Try.pinned (OpenSpec.ofChange happensReadsWrong)

/- THE SECOND FORM. 'bulk': how many values and letters a reading holds, each counted each time it is reached (what is shared counts as often as it is met; a slice's spare places count too). A statement '..UptoSaid' is the law's where the arguments, and the package variables that the reading takes, are together of bulk at most 1048576: NARROWER than '..Said'. Prove '..Said' where nothing that the law and all that it calls make is longer than what came in: it says more and counts as full. Else prove '..UptoSaid'. A law counts once. -/
mutual
def uptoBulk {H : Type} : DataW H → Nat
  | .lit (.string bytes) => bytes.length + 1
  | .lit _ => 1
  | .nil => 1
  | .ptr d => uptoBulk d + 1
  | .slice elems spare => uptoBulkAll elems + uptoBulkAll spare + 1
  | .agg parts => uptoBulkAll parts + 1
  | .iface _ d => uptoBulk d + 1
  | .map entries => uptoBulkEntries entries + 1
  | .held _ => 1
def uptoBulkAll {H : Type} : List (DataW H) → Nat
  | [] => 0
  | d :: r => uptoBulk d + uptoBulkAll r
def uptoBulkEntries {H : Type} : List (Lit × DataW H) → Nat
  | [] => 0
  | x :: r => uptoBulkEntry x + uptoBulkEntries r
def uptoBulkEntry {H : Type} : Lit × DataW H → Nat
  | (.string bytes, d) => bytes.length + uptoBulk d + 1
  | (_, d) => uptoBulk d + 1
 end
def uptoSmall : (H : Type) → List (DataW H) → Bool := fun _ ds => decide (uptoBulkAll ds ≤ 1048576)
def OpenSpec.upto (s : _root_.Go.ChangeSpec) : _root_.Go.OpenSpec := { _root_.Go.OpenSpec.ofChange s with cond := some uptoSmall }

/-- 'chanfabriclaw16.HistoryChecks', WHERE WHAT IT READS IS OF BULK AT MOST 1048576: true; the input reads as it did. -/
def historyChecksUptoRow : OpenClaim := { program := "ythpjaddchdnejaa", sum := "ba9763c6da2e9489ddebeaeb9528b947e24e7c23d9f788254eaa01d19c66ed24", func := "chanfabric/chanfabriclaw16.HistoryChecks", spec := "historyChecks", apart := false, narrowed := true }
def HistoryChecksUptoSaid : Prop := historyChecksUptoRow.holds Try.pinned (OpenSpec.upto historyChecksSpec)

/-- 'chanfabriclaw16.HistoryPrecedes', WHERE WHAT IT READS IS OF BULK AT MOST 1048576: true; the input reads as it did. -/
def historyPrecedesUptoRow : OpenClaim := { program := "ythpjaddchdnejaa", sum := "ba9763c6da2e9489ddebeaeb9528b947e24e7c23d9f788254eaa01d19c66ed24", func := "chanfabric/chanfabriclaw16.HistoryPrecedes", spec := "historyPrecedes", apart := false, narrowed := true }
def HistoryPrecedesUptoSaid : Prop := historyPrecedesUptoRow.holds Try.pinned (OpenSpec.upto historyPrecedesSpec)

/-- 'chanfabriclaw16.HistoryOrders', WHERE WHAT IT READS IS OF BULK AT MOST 1048576: true; the input reads as it did. -/
def historyOrdersUptoRow : OpenClaim := { program := "ythpjaddchdnejaa", sum := "ba9763c6da2e9489ddebeaeb9528b947e24e7c23d9f788254eaa01d19c66ed24", func := "chanfabric/chanfabriclaw16.HistoryOrders", spec := "historyOrders", apart := false, narrowed := true }
def HistoryOrdersUptoSaid : Prop := historyOrdersUptoRow.holds Try.pinned (OpenSpec.upto historyOrdersSpec)

/-- 'chanfabriclaw16.HistoryOpen', WHERE WHAT IT READS IS OF BULK AT MOST 1048576: true; the input reads as it did. -/
def historyOpenUptoRow : OpenClaim := { program := "ythpjaddchdnejaa", sum := "ba9763c6da2e9489ddebeaeb9528b947e24e7c23d9f788254eaa01d19c66ed24", func := "chanfabric/chanfabriclaw16.HistoryOpen", spec := "historyOpen", apart := false, narrowed := true }
def HistoryOpenUptoSaid : Prop := historyOpenUptoRow.holds Try.pinned (OpenSpec.upto historyOpenSpec)

/-- 'chanfabriclaw16.HistoryAsks', WHERE WHAT IT READS IS OF BULK AT MOST 1048576: true; the input reads as it did. -/
def historyAsksUptoRow : OpenClaim := { program := "ythpjaddchdnejaa", sum := "ba9763c6da2e9489ddebeaeb9528b947e24e7c23d9f788254eaa01d19c66ed24", func := "chanfabric/chanfabriclaw16.HistoryAsks", spec := "historyAsks", apart := false, narrowed := true }
def HistoryAsksUptoSaid : Prop := historyAsksUptoRow.holds Try.pinned (OpenSpec.upto historyAsksSpec)

/-- 'chanfabriclaw18.HappensClocks', WHERE WHAT IT READS IS OF BULK AT MOST 1048576: true; the input reads as it did. -/
def happensClocksUptoRow : OpenClaim := { program := "ythpjaddchdnejaa", sum := "ba9763c6da2e9489ddebeaeb9528b947e24e7c23d9f788254eaa01d19c66ed24", func := "chanfabric/chanfabriclaw18.HappensClocks", spec := "happensClocks", apart := false, narrowed := true }
def HappensClocksUptoSaid : Prop := happensClocksUptoRow.holds Try.pinned (OpenSpec.upto happensClocksSpec)

/-- 'chanfabriclaw18.HappensPrefixes', WHERE WHAT IT READS IS OF BULK AT MOST 1048576: true; the input reads as it did. -/
def happensPrefixesUptoRow : OpenClaim := { program := "ythpjaddchdnejaa", sum := "ba9763c6da2e9489ddebeaeb9528b947e24e7c23d9f788254eaa01d19c66ed24", func := "chanfabric/chanfabriclaw18.HappensPrefixes", spec := "happensPrefixes", apart := false, narrowed := true }
def HappensPrefixesUptoSaid : Prop := happensPrefixesUptoRow.holds Try.pinned (OpenSpec.upto happensPrefixesSpec)

/-- 'chanfabriclaw18.HappensLocks', WHERE WHAT IT READS IS OF BULK AT MOST 1048576: true; the input reads as it did. -/
def happensLocksUptoRow : OpenClaim := { program := "ythpjaddchdnejaa", sum := "ba9763c6da2e9489ddebeaeb9528b947e24e7c23d9f788254eaa01d19c66ed24", func := "chanfabric/chanfabriclaw18.HappensLocks", spec := "happensLocks", apart := false, narrowed := true }
def HappensLocksUptoSaid : Prop := happensLocksUptoRow.holds Try.pinned (OpenSpec.upto happensLocksSpec)

/-- 'chanfabriclaw18.HappensBefore', WHERE WHAT IT READS IS OF BULK AT MOST 1048576: true; the input reads as it did. -/
def happensBeforeUptoRow : OpenClaim := { program := "ythpjaddchdnejaa", sum := "ba9763c6da2e9489ddebeaeb9528b947e24e7c23d9f788254eaa01d19c66ed24", func := "chanfabric/chanfabriclaw18.HappensBefore", spec := "happensBefore", apart := false, narrowed := true }
def HappensBeforeUptoSaid : Prop := happensBeforeUptoRow.holds Try.pinned (OpenSpec.upto happensBeforeSpec)

/-- 'chanfabriclaw18.HappensTransitive', WHERE WHAT IT READS IS OF BULK AT MOST 1048576: true; the input reads as it did. -/
def happensTransitiveUptoRow : OpenClaim := { program := "ythpjaddchdnejaa", sum := "ba9763c6da2e9489ddebeaeb9528b947e24e7c23d9f788254eaa01d19c66ed24", func := "chanfabric/chanfabriclaw18.HappensTransitive", spec := "happensTransitive", apart := false, narrowed := true }
def HappensTransitiveUptoSaid : Prop := happensTransitiveUptoRow.holds Try.pinned (OpenSpec.upto happensTransitiveSpec)

/-- 'chanfabriclaw18.HappensReads', WHERE WHAT IT READS IS OF BULK AT MOST 1048576: true; the input reads as it did. -/
def happensReadsUptoRow : OpenClaim := { program := "ythpjaddchdnejaa", sum := "ba9763c6da2e9489ddebeaeb9528b947e24e7c23d9f788254eaa01d19c66ed24", func := "chanfabric/chanfabriclaw18.HappensReads", spec := "happensReads", apart := false, narrowed := true }
def HappensReadsUptoSaid : Prop := happensReadsUptoRow.holds Try.pinned (OpenSpec.upto happensReadsSpec)

end Rows
end Go.Proofs.Ythpjaddchdnejaa
