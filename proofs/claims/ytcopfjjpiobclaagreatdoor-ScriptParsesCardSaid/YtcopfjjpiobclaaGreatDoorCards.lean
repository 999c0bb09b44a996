/-
  DERIVED. GIVEN WITH THE SEED: THE CARDS: each row of YtcopfjjpiobclaaGreatDoorRows.lean that lists a variable, with what it lists TIED to the program's text (the seventh form; the later family's looks); each row that meets fmt, with fmt's text TOLD by the authors' own Lean function (tested against real Go, not proved from fmt's source: count such statements apart). THE CARD IS WHAT COUNTS. Prove the row's statement (the work); the ties are given (YtcopfjjpiobclaaGreatDoorTie.lean); close each card by the builder's one call (the guide's Derived/Test/ToyasCard.lean, 'card_holds'). Laid BY PROGRAM, IN A SANDBOX (cutbox-door.mjs). By AI agents, Wed Nov 11 2026. No macro, syntax, notation, axiom, sorry.
-/
import Derived.Test.YtcopfjjpiobclaaGreatDoorRows
import GoSem.ClaimSeven
namespace Go.Proofs.YtcopfjjpiobclaaGreatDoor
namespace Rows

/-- THE TIED CARD OF 'chanfabriclaw20.ScriptParses'. -/
def scriptParsesCard : Claim7 := { stood := { row := scriptParsesRow, standIns := [], harness := (true, "a25e6b9f37d70d185230bc2aa6c39162e72674f2fe7613ebfac4b47e170902e0"), looks := true }, kinds := [], alts := [], laidByText := true, laidKinds := [.data, .data, .data, .data, .sentinel, .sentinel, .mapped, .pinned], laidTests := true, laidLooks := .later }
def ScriptParsesCardSaid : Prop := Claim7.holds Tryz.pinned (.plain (OpenSpec.ofChange scriptParsesSpec)) scriptParsesCard

/-- THE TIED CARD OF 'chanfabriclaw20.ScriptLines'. -/
def scriptLinesCard : Claim7 := { stood := { row := scriptLinesRow, standIns := [], harness := (true, "a25e6b9f37d70d185230bc2aa6c39162e72674f2fe7613ebfac4b47e170902e0"), looks := true }, kinds := [], alts := [], laidByText := true, laidKinds := [.data, .data, .data, .data, .sentinel, .sentinel, .mapped, .pinned], laidTests := true, laidLooks := .later }
def ScriptLinesCardSaid : Prop := Claim7.holds Tryz.pinned (.plain (OpenSpec.ofChange scriptLinesSpec)) scriptLinesCard

/-- THE TIED CARD OF 'chanfabriclaw20.ScriptChecks'. -/
def scriptChecksCard : Claim7 := { stood := { row := scriptChecksRow, standIns := [], harness := (true, "a25e6b9f37d70d185230bc2aa6c39162e72674f2fe7613ebfac4b47e170902e0"), looks := true }, kinds := [], alts := [], laidByText := true, laidKinds := [.data, .data, .data, .data, .sentinel, .sentinel, .mapped, .pinned], laidTests := true, laidLooks := .later }
def ScriptChecksCardSaid : Prop := Claim7.holds Tryz.pinned (.plain (OpenSpec.ofChange scriptChecksSpec)) scriptChecksCard

/-- THE TIED CARD OF 'chanfabriclaw20.ScriptPrints'. -/
def scriptPrintsCard : Claim7 := { stood := { row := scriptPrintsRow, standIns := [], harness := (true, "a25e6b9f37d70d185230bc2aa6c39162e72674f2fe7613ebfac4b47e170902e0"), looks := true }, kinds := [], alts := [], laidByText := true, laidKinds := [.data, .data, .data, .data, .sentinel, .sentinel, .mapped, .pinned], laidTests := true, laidLooks := .later }
def ScriptPrintsCardSaid : Prop := Claim7.holds Tryz.pinned (.plain (OpenSpec.ofChange scriptPrintsSpec)) scriptPrintsCard

/-- THE TIED CARD OF 'chanfabriclaw20.ScriptTrip'. -/
def scriptTripCard : Claim7 := { stood := { row := scriptTripRow, standIns := [], harness := (true, "a25e6b9f37d70d185230bc2aa6c39162e72674f2fe7613ebfac4b47e170902e0"), looks := true }, kinds := [], alts := [], laidByText := true, laidKinds := [.data, .data, .data, .data, .sentinel, .sentinel, .mapped, .pinned], laidTests := true, laidLooks := .later }
def ScriptTripCardSaid : Prop := Claim7.holds Tryz.pinned (.plain (OpenSpec.ofChange scriptTripSpec)) scriptTripCard

/-- THE SECOND FORM's CARD OF 'chanfabriclaw20.ScriptParses'. -/
def scriptParsesUptoCard : Claim7 := { stood := { row := scriptParsesUptoRow, standIns := [], harness := (true, "a25e6b9f37d70d185230bc2aa6c39162e72674f2fe7613ebfac4b47e170902e0"), looks := true }, kinds := [], alts := [], laidByText := true, laidKinds := [.data, .data, .data, .data, .sentinel, .sentinel, .mapped, .pinned], laidTests := true, laidLooks := .later }
def ScriptParsesUptoCardSaid : Prop := Claim7.holds Tryz.pinned (.plain (OpenSpec.upto scriptParsesSpec)) scriptParsesUptoCard

/-- THE SECOND FORM's CARD OF 'chanfabriclaw20.ScriptLines'. -/
def scriptLinesUptoCard : Claim7 := { stood := { row := scriptLinesUptoRow, standIns := [], harness := (true, "a25e6b9f37d70d185230bc2aa6c39162e72674f2fe7613ebfac4b47e170902e0"), looks := true }, kinds := [], alts := [], laidByText := true, laidKinds := [.data, .data, .data, .data, .sentinel, .sentinel, .mapped, .pinned], laidTests := true, laidLooks := .later }
def ScriptLinesUptoCardSaid : Prop := Claim7.holds Tryz.pinned (.plain (OpenSpec.upto scriptLinesSpec)) scriptLinesUptoCard

/-- THE SECOND FORM's CARD OF 'chanfabriclaw20.ScriptChecks'. -/
def scriptChecksUptoCard : Claim7 := { stood := { row := scriptChecksUptoRow, standIns := [], harness := (true, "a25e6b9f37d70d185230bc2aa6c39162e72674f2fe7613ebfac4b47e170902e0"), looks := true }, kinds := [], alts := [], laidByText := true, laidKinds := [.data, .data, .data, .data, .sentinel, .sentinel, .mapped, .pinned], laidTests := true, laidLooks := .later }
def ScriptChecksUptoCardSaid : Prop := Claim7.holds Tryz.pinned (.plain (OpenSpec.upto scriptChecksSpec)) scriptChecksUptoCard

/-- THE SECOND FORM's CARD OF 'chanfabriclaw20.ScriptPrints'. -/
def scriptPrintsUptoCard : Claim7 := { stood := { row := scriptPrintsUptoRow, standIns := [], harness := (true, "a25e6b9f37d70d185230bc2aa6c39162e72674f2fe7613ebfac4b47e170902e0"), looks := true }, kinds := [], alts := [], laidByText := true, laidKinds := [.data, .data, .data, .data, .sentinel, .sentinel, .mapped, .pinned], laidTests := true, laidLooks := .later }
def ScriptPrintsUptoCardSaid : Prop := Claim7.holds Tryz.pinned (.plain (OpenSpec.upto scriptPrintsSpec)) scriptPrintsUptoCard

/-- THE SECOND FORM's CARD OF 'chanfabriclaw20.ScriptTrip'. -/
def scriptTripUptoCard : Claim7 := { stood := { row := scriptTripUptoRow, standIns := [], harness := (true, "a25e6b9f37d70d185230bc2aa6c39162e72674f2fe7613ebfac4b47e170902e0"), looks := true }, kinds := [], alts := [], laidByText := true, laidKinds := [.data, .data, .data, .data, .sentinel, .sentinel, .mapped, .pinned], laidTests := true, laidLooks := .later }
def ScriptTripUptoCardSaid : Prop := Claim7.holds Tryz.pinned (.plain (OpenSpec.upto scriptTripSpec)) scriptTripUptoCard
end Rows
end Go.Proofs.YtcopfjjpiobclaaGreatDoor
