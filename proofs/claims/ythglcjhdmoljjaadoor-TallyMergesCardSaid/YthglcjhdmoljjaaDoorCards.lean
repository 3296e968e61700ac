/-
  DERIVED. GIVEN WITH THE SEED: THE CARDS: each row of YthglcjhdmoljjaaDoorRows.lean that lists a variable, with what it lists TIED to the program's text (the seventh form; the later family's looks); each row that meets fmt, with fmt's text TOLD by the authors' own Lean function (tested against real Go, not proved from fmt's source: count such statements apart). THE CARD IS WHAT COUNTS. Prove the row's statement (the work); the ties are given (YthglcjhdmoljjaaDoorTie.lean); close each card by the builder's one call (the guide's Derived/Test/ToyasCard.lean, 'card_holds'). Laid BY PROGRAM, IN A SANDBOX (cutbox-door.mjs). By AI agents, Wed Nov 11 2026. No macro, syntax, notation, axiom, sorry.
-/
import Derived.Test.YthglcjhdmoljjaaDoorRows
import GoSem.ClaimSeven
namespace Go.Proofs.YthglcjhdmoljjaaDoor
namespace Rows

/-- THE TIED CARD OF 'cuneiformlaw23.EventMakes'. -/
def eventMakesCard : Claim7 := { stood := { row := eventMakesRow, standIns := [], harness := (true, "e852d360dc803576a0cd26b93d11286a93c3537e0f095a183b49a57b23961e27"), looks := true }, kinds := [], alts := [], laidByText := true, laidKinds := [.data, .data, .data], laidTests := true, laidLooks := .later }
def EventMakesCardSaid : Prop := Claim7.holds Tryd.pinned (.plain (OpenSpec.ofChange eventMakesSpec)) eventMakesCard

/-- THE TIED CARD OF 'cuneiformlaw25.TallyNil'. -/
def tallyNilCard : Claim7 := { stood := { row := tallyNilRow, standIns := [], harness := (true, "e852d360dc803576a0cd26b93d11286a93c3537e0f095a183b49a57b23961e27"), looks := true }, kinds := [], alts := [], laidByText := true, laidKinds := [.data, .data, .data], laidTests := true, laidLooks := .later }
def TallyNilCardSaid : Prop := Claim7.holds Tryd.pinned (.plain (OpenSpec.ofChange tallyNilSpec)) tallyNilCard

/-- THE TIED CARD OF 'cuneiformlaw25.TallyMerges'. -/
def tallyMergesCard : Claim7 := { stood := { row := tallyMergesRow, standIns := [], harness := (true, "e852d360dc803576a0cd26b93d11286a93c3537e0f095a183b49a57b23961e27"), looks := true }, kinds := [], alts := [], laidByText := true, laidKinds := [.data, .data, .data], laidTests := true, laidLooks := .later }
def TallyMergesCardSaid : Prop := Claim7.holds Tryd.pinned (.plain (OpenSpec.ofChange tallyMergesSpec)) tallyMergesCard

/-- THE TIED CARD OF 'cuneiformlaw30.FleetOrder'. -/
def fleetOrderCard : Claim7 := { stood := { row := fleetOrderRow, standIns := [], harness := (true, "e852d360dc803576a0cd26b93d11286a93c3537e0f095a183b49a57b23961e27"), looks := true }, kinds := [], alts := [], laidByText := true, laidKinds := [.data, .data, .data], laidTests := true, laidLooks := .later }
def FleetOrderCardSaid : Prop := Claim7.holds Tryd.pinned (.plain (OpenSpec.ofChange fleetOrderSpec)) fleetOrderCard

/-- THE SECOND FORM's CARD OF 'cuneiformlaw23.EventMakes'. -/
def eventMakesUptoCard : Claim7 := { stood := { row := eventMakesUptoRow, standIns := [], harness := (true, "e852d360dc803576a0cd26b93d11286a93c3537e0f095a183b49a57b23961e27"), looks := true }, kinds := [], alts := [], laidByText := true, laidKinds := [.data, .data, .data], laidTests := true, laidLooks := .later }
def EventMakesUptoCardSaid : Prop := Claim7.holds Tryd.pinned (.plain (OpenSpec.upto eventMakesSpec)) eventMakesUptoCard

/-- THE SECOND FORM's CARD OF 'cuneiformlaw25.TallyNil'. -/
def tallyNilUptoCard : Claim7 := { stood := { row := tallyNilUptoRow, standIns := [], harness := (true, "e852d360dc803576a0cd26b93d11286a93c3537e0f095a183b49a57b23961e27"), looks := true }, kinds := [], alts := [], laidByText := true, laidKinds := [.data, .data, .data], laidTests := true, laidLooks := .later }
def TallyNilUptoCardSaid : Prop := Claim7.holds Tryd.pinned (.plain (OpenSpec.upto tallyNilSpec)) tallyNilUptoCard

/-- THE SECOND FORM's CARD OF 'cuneiformlaw25.TallyMerges'. -/
def tallyMergesUptoCard : Claim7 := { stood := { row := tallyMergesUptoRow, standIns := [], harness := (true, "e852d360dc803576a0cd26b93d11286a93c3537e0f095a183b49a57b23961e27"), looks := true }, kinds := [], alts := [], laidByText := true, laidKinds := [.data, .data, .data], laidTests := true, laidLooks := .later }
def TallyMergesUptoCardSaid : Prop := Claim7.holds Tryd.pinned (.plain (OpenSpec.upto tallyMergesSpec)) tallyMergesUptoCard

/-- THE SECOND FORM's CARD OF 'cuneiformlaw30.FleetOrder'. -/
def fleetOrderUptoCard : Claim7 := { stood := { row := fleetOrderUptoRow, standIns := [], harness := (true, "e852d360dc803576a0cd26b93d11286a93c3537e0f095a183b49a57b23961e27"), looks := true }, kinds := [], alts := [], laidByText := true, laidKinds := [.data, .data, .data], laidTests := true, laidLooks := .later }
def FleetOrderUptoCardSaid : Prop := Claim7.holds Tryd.pinned (.plain (OpenSpec.upto fleetOrderSpec)) fleetOrderUptoCard
end Rows
end Go.Proofs.YthglcjhdmoljjaaDoor
