/-
  DERIVED. GIVEN WITH THE SEED: THE CARDS: each row of YtphoeijgpmlbpaaDoorRows.lean that lists a variable, with what it lists TIED to the program's text (the seventh form; the later family's looks); each row that meets fmt, with fmt's text TOLD by the authors' own Lean function (tested against real Go, not proved from fmt's source: count such statements apart). THE CARD IS WHAT COUNTS. Prove the row's statement (the work); the ties are given (YtphoeijgpmlbpaaDoorTie.lean); close each card by the builder's one call (the guide's Derived/Test/ToyasCard.lean, 'card_holds'). Laid BY PROGRAM, IN A SANDBOX (cutbox-door.mjs). By AI agents, Wed Nov 11 2026. No macro, syntax, notation, axiom, sorry.
-/
import Derived.Test.YtphoeijgpmlbpaaDoorRows
import GoSem.ClaimSeven
namespace Go.Proofs.YtphoeijgpmlbpaaDoor
namespace Rows

/-- THE TIED CARD OF 'chanfabriclaw17.LinearPrefixes'. -/
def linearPrefixesCard : Claim7 := { stood := { row := linearPrefixesRow, standIns := [], harness := (true, "656c6416594150a8b7df368cb45b44813493f0e02d2cae40a44aef13830a36d3"), looks := false }, kinds := [], alts := [], laidByText := true, laidKinds := [.data, .data, .data], laidTests := true, laidLooks := .later }
def LinearPrefixesCardSaid : Prop := Claim7.holds Tryd.pinned (.plain (OpenSpec.ofChange linearPrefixesSpec)) linearPrefixesCard

/-- THE TIED CARD OF 'chanfabriclaw17.LinearTime'. -/
def linearTimeCard : Claim7 := { stood := { row := linearTimeRow, standIns := [], harness := (true, "656c6416594150a8b7df368cb45b44813493f0e02d2cae40a44aef13830a36d3"), looks := false }, kinds := [], alts := [], laidByText := true, laidKinds := [.data, .data, .data], laidTests := true, laidLooks := .later }
def LinearTimeCardSaid : Prop := Claim7.holds Tryd.pinned (.plain (OpenSpec.ofChange linearTimeSpec)) linearTimeCard

/-- THE TIED CARD OF 'chanfabriclaw17.LinearSteps'. -/
def linearStepsCard : Claim7 := { stood := { row := linearStepsRow, standIns := [], harness := (true, "656c6416594150a8b7df368cb45b44813493f0e02d2cae40a44aef13830a36d3"), looks := false }, kinds := [], alts := [], laidByText := true, laidKinds := [.data, .data, .data], laidTests := true, laidLooks := .later }
def LinearStepsCardSaid : Prop := Claim7.holds Tryd.pinned (.plain (OpenSpec.ofChange linearStepsSpec)) linearStepsCard

/-- THE SECOND FORM's CARD OF 'chanfabriclaw17.LinearPrefixes'. -/
def linearPrefixesUptoCard : Claim7 := { stood := { row := linearPrefixesUptoRow, standIns := [], harness := (true, "656c6416594150a8b7df368cb45b44813493f0e02d2cae40a44aef13830a36d3"), looks := false }, kinds := [], alts := [], laidByText := true, laidKinds := [.data, .data, .data], laidTests := true, laidLooks := .later }
def LinearPrefixesUptoCardSaid : Prop := Claim7.holds Tryd.pinned (.plain (OpenSpec.upto linearPrefixesSpec)) linearPrefixesUptoCard

/-- THE SECOND FORM's CARD OF 'chanfabriclaw17.LinearTime'. -/
def linearTimeUptoCard : Claim7 := { stood := { row := linearTimeUptoRow, standIns := [], harness := (true, "656c6416594150a8b7df368cb45b44813493f0e02d2cae40a44aef13830a36d3"), looks := false }, kinds := [], alts := [], laidByText := true, laidKinds := [.data, .data, .data], laidTests := true, laidLooks := .later }
def LinearTimeUptoCardSaid : Prop := Claim7.holds Tryd.pinned (.plain (OpenSpec.upto linearTimeSpec)) linearTimeUptoCard

/-- THE SECOND FORM's CARD OF 'chanfabriclaw17.LinearSteps'. -/
def linearStepsUptoCard : Claim7 := { stood := { row := linearStepsUptoRow, standIns := [], harness := (true, "656c6416594150a8b7df368cb45b44813493f0e02d2cae40a44aef13830a36d3"), looks := false }, kinds := [], alts := [], laidByText := true, laidKinds := [.data, .data, .data], laidTests := true, laidLooks := .later }
def LinearStepsUptoCardSaid : Prop := Claim7.holds Tryd.pinned (.plain (OpenSpec.upto linearStepsSpec)) linearStepsUptoCard
end Rows
end Go.Proofs.YtphoeijgpmlbpaaDoor
