/-
  DERIVED. GIVEN WITH THE SEED: THE CARDS: each row of YtonmgcebhhdplabDoorRows.lean that lists a variable, with what it lists TIED to the program's text (the seventh form; the later family's looks); each row that meets fmt, with fmt's text TOLD by the authors' own Lean function (tested against real Go, not proved from fmt's source: count such statements apart). THE CARD IS WHAT COUNTS. Prove the row's statement (the work); the ties are given (YtonmgcebhhdplabDoorTie.lean); close each card by the builder's one call (the guide's Derived/Test/ToyasCard.lean, 'card_holds'). Laid BY PROGRAM, IN A SANDBOX (cutbox-door.mjs). By AI agents, Wed Nov 11 2026. No macro, syntax, notation, axiom, sorry.
-/
import Derived.Test.YtonmgcebhhdplabDoorRows
import GoSem.ClaimSeven
namespace Go.Proofs.YtonmgcebhhdplabDoor
namespace Rows

/-- THE TIED CARD OF 'cuneiformlaw25.TallyMerges'. -/
def tallyMergesCard : Claim7 := { stood := { row := tallyMergesRow, standIns := [], harness := (true, "09a34aa2e8e74f8c3e6a36b98b284e3017b726ba49faeeb0cc0fc01d11ab4acd"), looks := true }, kinds := [], alts := [], laidByText := true, laidKinds := [.data, .data, .data], laidTests := true, laidLooks := .later }
def TallyMergesCardSaid : Prop := Claim7.holds Tryd.pinned (.plain (OpenSpec.ofChange tallyMergesSpec)) tallyMergesCard

/-- THE TIED CARD OF 'cuneiformlaw30.FleetOrder'. -/
def fleetOrderCard : Claim7 := { stood := { row := fleetOrderRow, standIns := [], harness := (true, "09a34aa2e8e74f8c3e6a36b98b284e3017b726ba49faeeb0cc0fc01d11ab4acd"), looks := true }, kinds := [], alts := [], laidByText := true, laidKinds := [.data, .data, .data], laidTests := true, laidLooks := .later }
def FleetOrderCardSaid : Prop := Claim7.holds Tryd.pinned (.plain (OpenSpec.ofChange fleetOrderSpec)) fleetOrderCard

/-- THE SECOND FORM's CARD OF 'cuneiformlaw25.TallyMerges'. -/
def tallyMergesUptoCard : Claim7 := { stood := { row := tallyMergesUptoRow, standIns := [], harness := (true, "09a34aa2e8e74f8c3e6a36b98b284e3017b726ba49faeeb0cc0fc01d11ab4acd"), looks := true }, kinds := [], alts := [], laidByText := true, laidKinds := [.data, .data, .data], laidTests := true, laidLooks := .later }
def TallyMergesUptoCardSaid : Prop := Claim7.holds Tryd.pinned (.plain (OpenSpec.upto tallyMergesSpec)) tallyMergesUptoCard

/-- THE SECOND FORM's CARD OF 'cuneiformlaw30.FleetOrder'. -/
def fleetOrderUptoCard : Claim7 := { stood := { row := fleetOrderUptoRow, standIns := [], harness := (true, "09a34aa2e8e74f8c3e6a36b98b284e3017b726ba49faeeb0cc0fc01d11ab4acd"), looks := true }, kinds := [], alts := [], laidByText := true, laidKinds := [.data, .data, .data], laidTests := true, laidLooks := .later }
def FleetOrderUptoCardSaid : Prop := Claim7.holds Tryd.pinned (.plain (OpenSpec.upto fleetOrderSpec)) fleetOrderUptoCard
end Rows
end Go.Proofs.YtonmgcebhhdplabDoor
