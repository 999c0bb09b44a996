/-
  DERIVED. GIVEN WITH THE SEED: THE CARDS: each row of YtphoeijgpmlbpaaGreatDoorRows.lean that lists a variable, with what it lists TIED to the program's text (the seventh form; the later family's looks); each row that meets fmt, with fmt's text TOLD by the authors' own Lean function (tested against real Go, not proved from fmt's source: count such statements apart). THE CARD IS WHAT COUNTS. Prove the row's statement (the work); the ties are given (YtphoeijgpmlbpaaGreatDoorTie.lean); close each card by the builder's one call (the guide's Derived/Test/ToyasCard.lean, 'card_holds'). Laid BY PROGRAM, IN A SANDBOX (cutbox-door.mjs). By AI agents, Wed Nov 11 2026. No macro, syntax, notation, axiom, sorry.
-/
import Derived.Test.YtphoeijgpmlbpaaGreatDoorRows
import GoSem.ClaimSeven
namespace Go.Proofs.YtphoeijgpmlbpaaGreatDoor
namespace Rows

/-- THE TIED CARD OF 'chanfabriclaw17.LinearChecks'. -/
def linearChecksCard : Claim7 := { stood := { row := linearChecksRow, standIns := [], harness := (true, "cecc7ad5bfa6b3dea69ef1e37e056dd15f742ec1a65b9fbdc7c66399d51f3b46"), looks := false }, kinds := [], alts := [], laidByText := true, laidKinds := [.data, .data, .data], laidTests := true, laidLooks := .later }
def LinearChecksCardSaid : Prop := Claim7.holds Tryz.pinned (.plain (OpenSpec.ofChange linearChecksSpec)) linearChecksCard

/-- THE TIED CARD OF 'chanfabriclaw17.LinearSwaps'. -/
def linearSwapsCard : Claim7 := { stood := { row := linearSwapsRow, standIns := [], harness := (true, "cecc7ad5bfa6b3dea69ef1e37e056dd15f742ec1a65b9fbdc7c66399d51f3b46"), looks := false }, kinds := [], alts := [], laidByText := true, laidKinds := [.data, .data, .data], laidTests := true, laidLooks := .later }
def LinearSwapsCardSaid : Prop := Claim7.holds Tryz.pinned (.plain (OpenSpec.ofChange linearSwapsSpec)) linearSwapsCard

/-- THE TIED CARD OF 'chanfabriclaw17.LinearWitnesses'. -/
def linearWitnessesCard : Claim7 := { stood := { row := linearWitnessesRow, standIns := [], harness := (true, "cecc7ad5bfa6b3dea69ef1e37e056dd15f742ec1a65b9fbdc7c66399d51f3b46"), looks := false }, kinds := [], alts := [], laidByText := true, laidKinds := [.data, .data, .data], laidTests := true, laidLooks := .later }
def LinearWitnessesCardSaid : Prop := Claim7.holds Tryz.pinned (.plain (OpenSpec.ofChange linearWitnessesSpec)) linearWitnessesCard

/-- THE TIED CARD OF 'chanfabriclaw17.LinearSettles'. -/
def linearSettlesCard : Claim7 := { stood := { row := linearSettlesRow, standIns := [], harness := (true, "cecc7ad5bfa6b3dea69ef1e37e056dd15f742ec1a65b9fbdc7c66399d51f3b46"), looks := false }, kinds := [], alts := [], laidByText := true, laidKinds := [.data, .data, .data], laidTests := true, laidLooks := .later }
def LinearSettlesCardSaid : Prop := Claim7.holds Tryz.pinned (.plain (OpenSpec.ofChange linearSettlesSpec)) linearSettlesCard

/-- THE SECOND FORM's CARD OF 'chanfabriclaw17.LinearChecks'. -/
def linearChecksUptoCard : Claim7 := { stood := { row := linearChecksUptoRow, standIns := [], harness := (true, "cecc7ad5bfa6b3dea69ef1e37e056dd15f742ec1a65b9fbdc7c66399d51f3b46"), looks := false }, kinds := [], alts := [], laidByText := true, laidKinds := [.data, .data, .data], laidTests := true, laidLooks := .later }
def LinearChecksUptoCardSaid : Prop := Claim7.holds Tryz.pinned (.plain (OpenSpec.upto linearChecksSpec)) linearChecksUptoCard

/-- THE SECOND FORM's CARD OF 'chanfabriclaw17.LinearSwaps'. -/
def linearSwapsUptoCard : Claim7 := { stood := { row := linearSwapsUptoRow, standIns := [], harness := (true, "cecc7ad5bfa6b3dea69ef1e37e056dd15f742ec1a65b9fbdc7c66399d51f3b46"), looks := false }, kinds := [], alts := [], laidByText := true, laidKinds := [.data, .data, .data], laidTests := true, laidLooks := .later }
def LinearSwapsUptoCardSaid : Prop := Claim7.holds Tryz.pinned (.plain (OpenSpec.upto linearSwapsSpec)) linearSwapsUptoCard

/-- THE SECOND FORM's CARD OF 'chanfabriclaw17.LinearWitnesses'. -/
def linearWitnessesUptoCard : Claim7 := { stood := { row := linearWitnessesUptoRow, standIns := [], harness := (true, "cecc7ad5bfa6b3dea69ef1e37e056dd15f742ec1a65b9fbdc7c66399d51f3b46"), looks := false }, kinds := [], alts := [], laidByText := true, laidKinds := [.data, .data, .data], laidTests := true, laidLooks := .later }
def LinearWitnessesUptoCardSaid : Prop := Claim7.holds Tryz.pinned (.plain (OpenSpec.upto linearWitnessesSpec)) linearWitnessesUptoCard

/-- THE SECOND FORM's CARD OF 'chanfabriclaw17.LinearSettles'. -/
def linearSettlesUptoCard : Claim7 := { stood := { row := linearSettlesUptoRow, standIns := [], harness := (true, "cecc7ad5bfa6b3dea69ef1e37e056dd15f742ec1a65b9fbdc7c66399d51f3b46"), looks := false }, kinds := [], alts := [], laidByText := true, laidKinds := [.data, .data, .data], laidTests := true, laidLooks := .later }
def LinearSettlesUptoCardSaid : Prop := Claim7.holds Tryz.pinned (.plain (OpenSpec.upto linearSettlesSpec)) linearSettlesUptoCard
end Rows
end Go.Proofs.YtphoeijgpmlbpaaGreatDoor
