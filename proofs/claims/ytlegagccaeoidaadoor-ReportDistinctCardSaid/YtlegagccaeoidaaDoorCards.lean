/-
  DERIVED. GIVEN WITH THE SEED: THE CARDS: each row of YtlegagccaeoidaaDoorRows.lean that lists a variable, with what it lists TIED to the program's text (the seventh form; the later family's looks); each row that meets fmt, with fmt's text TOLD by the authors' own Lean function (tested against real Go, not proved from fmt's source: count such statements apart). THE CARD IS WHAT COUNTS. Prove the row's statement (the work); the ties are given (YtlegagccaeoidaaDoorTie.lean); close each card by the builder's one call (the guide's Derived/Test/ToyasCard.lean, 'card_holds'). Laid BY PROGRAM, IN A SANDBOX (cutbox-door.mjs). By AI agents, Wed Nov 11 2026. No macro, syntax, notation, axiom, sorry.
-/
import Derived.Test.YtlegagccaeoidaaDoorRows
import GoSem.ClaimSeven
namespace Go.Proofs.YtlegagccaeoidaaDoor
namespace Rows

/-- THE TIED CARD OF 'chanfabriclaw26.ReportResults'. -/
def reportResultsCard : Claim7 := { stood := { row := reportResultsRow, standIns := [], harness := (true, "182934ee89c63e2f6739d38769e5ca881e66a0a262e5e2f9404212b4122d83ac"), looks := false }, kinds := [], alts := [], laidByText := true, laidKinds := [.data, .data, .data], laidTests := true, laidLooks := .later }
def ReportResultsCardSaid : Prop := Claim7.holds Tryd.pinned (.plain (OpenSpec.ofChange reportResultsSpec)) reportResultsCard

/-- THE TIED CARD OF 'chanfabriclaw26.ReportDistinct'. -/
def reportDistinctCard : Claim7 := { stood := { row := reportDistinctRow, standIns := [], harness := (true, "182934ee89c63e2f6739d38769e5ca881e66a0a262e5e2f9404212b4122d83ac"), looks := false }, kinds := [], alts := [], laidByText := true, laidKinds := [.data, .data, .data], laidTests := true, laidLooks := .later }
def ReportDistinctCardSaid : Prop := Claim7.holds Tryd.pinned (.plain (OpenSpec.ofChange reportDistinctSpec)) reportDistinctCard

/-- THE TIED CARD OF 'chanfabriclaw26.ReportEvents'. -/
def reportEventsCard : Claim7 := { stood := { row := reportEventsRow, standIns := [], harness := (true, "182934ee89c63e2f6739d38769e5ca881e66a0a262e5e2f9404212b4122d83ac"), looks := false }, kinds := [], alts := [], laidByText := true, laidKinds := [.data, .data, .data], laidTests := true, laidLooks := .later }
def ReportEventsCardSaid : Prop := Claim7.holds Tryd.pinned (.plain (OpenSpec.ofChange reportEventsSpec)) reportEventsCard

/-- THE SECOND FORM's CARD OF 'chanfabriclaw26.ReportResults'. -/
def reportResultsUptoCard : Claim7 := { stood := { row := reportResultsUptoRow, standIns := [], harness := (true, "182934ee89c63e2f6739d38769e5ca881e66a0a262e5e2f9404212b4122d83ac"), looks := false }, kinds := [], alts := [], laidByText := true, laidKinds := [.data, .data, .data], laidTests := true, laidLooks := .later }
def ReportResultsUptoCardSaid : Prop := Claim7.holds Tryd.pinned (.plain (OpenSpec.upto reportResultsSpec)) reportResultsUptoCard

/-- THE SECOND FORM's CARD OF 'chanfabriclaw26.ReportDistinct'. -/
def reportDistinctUptoCard : Claim7 := { stood := { row := reportDistinctUptoRow, standIns := [], harness := (true, "182934ee89c63e2f6739d38769e5ca881e66a0a262e5e2f9404212b4122d83ac"), looks := false }, kinds := [], alts := [], laidByText := true, laidKinds := [.data, .data, .data], laidTests := true, laidLooks := .later }
def ReportDistinctUptoCardSaid : Prop := Claim7.holds Tryd.pinned (.plain (OpenSpec.upto reportDistinctSpec)) reportDistinctUptoCard

/-- THE SECOND FORM's CARD OF 'chanfabriclaw26.ReportEvents'. -/
def reportEventsUptoCard : Claim7 := { stood := { row := reportEventsUptoRow, standIns := [], harness := (true, "182934ee89c63e2f6739d38769e5ca881e66a0a262e5e2f9404212b4122d83ac"), looks := false }, kinds := [], alts := [], laidByText := true, laidKinds := [.data, .data, .data], laidTests := true, laidLooks := .later }
def ReportEventsUptoCardSaid : Prop := Claim7.holds Tryd.pinned (.plain (OpenSpec.upto reportEventsSpec)) reportEventsUptoCard
end Rows
end Go.Proofs.YtlegagccaeoidaaDoor
