/-
  DERIVED. GIVEN WITH THE SEED: THE CARDS: each row of YtonmgcebhhdplabGreatDoorRows.lean that lists a variable, with what it lists TIED to the program's text (the seventh form; the later family's looks); each row that meets fmt, with fmt's text TOLD by the authors' own Lean function (tested against real Go, not proved from fmt's source: count such statements apart). THE CARD IS WHAT COUNTS. Prove the row's statement (the work); the ties are given (YtonmgcebhhdplabGreatDoorTie.lean); close each card by the builder's one call (the guide's Derived/Test/ToyasCard.lean, 'card_holds'). Laid BY PROGRAM, IN A SANDBOX (cutbox-door.mjs). By AI agents, Wed Nov 11 2026. No macro, syntax, notation, axiom, sorry.
-/
import Derived.Test.YtonmgcebhhdplabGreatDoorRows
import GoSem.ClaimSeven
namespace Go.Proofs.YtonmgcebhhdplabGreatDoor
namespace Rows

/-- THE TIED CARD OF 'cuneiformlaw30.FleetPlays'. -/
def fleetPlaysCard : Claim7 := { stood := { row := fleetPlaysRow, standIns := [], harness := (true, "91703fae027d2ee82337049127d31340a3f8210fe45adb4909dc571d05463617"), looks := true }, kinds := [], alts := [], laidByText := true, laidKinds := [.data, .data, .data], laidTests := true, laidLooks := .later }
def FleetPlaysCardSaid : Prop := Claim7.holds Tryz.pinned (.plain (OpenSpec.ofChange fleetPlaysSpec)) fleetPlaysCard

/-- THE TIED CARD OF 'cuneiformlaw30.FleetNil'. -/
def fleetNilCard : Claim7 := { stood := { row := fleetNilRow, standIns := [], harness := (true, "91703fae027d2ee82337049127d31340a3f8210fe45adb4909dc571d05463617"), looks := true }, kinds := [], alts := [], laidByText := true, laidKinds := [.data, .data, .data], laidTests := true, laidLooks := .later }
def FleetNilCardSaid : Prop := Claim7.holds Tryz.pinned (.plain (OpenSpec.ofChange fleetNilSpec)) fleetNilCard

/-- THE SECOND FORM's CARD OF 'cuneiformlaw30.FleetPlays'. -/
def fleetPlaysUptoCard : Claim7 := { stood := { row := fleetPlaysUptoRow, standIns := [], harness := (true, "91703fae027d2ee82337049127d31340a3f8210fe45adb4909dc571d05463617"), looks := true }, kinds := [], alts := [], laidByText := true, laidKinds := [.data, .data, .data], laidTests := true, laidLooks := .later }
def FleetPlaysUptoCardSaid : Prop := Claim7.holds Tryz.pinned (.plain (OpenSpec.upto fleetPlaysSpec)) fleetPlaysUptoCard

/-- THE SECOND FORM's CARD OF 'cuneiformlaw30.FleetNil'. -/
def fleetNilUptoCard : Claim7 := { stood := { row := fleetNilUptoRow, standIns := [], harness := (true, "91703fae027d2ee82337049127d31340a3f8210fe45adb4909dc571d05463617"), looks := true }, kinds := [], alts := [], laidByText := true, laidKinds := [.data, .data, .data], laidTests := true, laidLooks := .later }
def FleetNilUptoCardSaid : Prop := Claim7.holds Tryz.pinned (.plain (OpenSpec.upto fleetNilSpec)) fleetNilUptoCard
end Rows
end Go.Proofs.YtonmgcebhhdplabGreatDoor
