/-
  DERIVED. GIVEN WITH THE SEED: THE CARDS: each row of YtnlghjmngfgmcabDoorRows.lean that lists a variable, with what it lists TIED to the program's text (the seventh form; the later family's looks); each row that meets fmt, with fmt's text TOLD by the authors' own Lean function (tested against real Go, not proved from fmt's source: count such statements apart). THE CARD IS WHAT COUNTS. Prove the row's statement (the work); the ties are given (YtnlghjmngfgmcabDoorTie.lean); close each card by the builder's one call (the guide's Derived/Test/ToyasCard.lean, 'card_holds'). Laid BY PROGRAM, IN A SANDBOX (cutbox-door.mjs). By AI agents, Wed Nov 11 2026. No macro, syntax, notation, axiom, sorry.
-/
import Derived.Test.YtnlghjmngfgmcabDoorRows
import GoSem.ClaimSeven
namespace Go.Proofs.YtnlghjmngfgmcabDoor
namespace Rows

/-- THE TIED CARD OF 'cuneiformlaw26.NoiseParses'. -/
def noiseParsesCard : Claim7 := { stood := { row := noiseParsesRow, standIns := [], harness := (true, "b02d9384019c2ef88b3d6ec05195ccb9e24e17714966f2c1351a2e33c5104849"), looks := true }, kinds := [], alts := [], laidByText := true, laidKinds := [.data, .data, .data, .data, .sentinel, .sentinel, .pinned], laidTests := true, laidLooks := .later }
def NoiseParsesCardSaid : Prop := Claim7.holds Tryd.pinned (.plain (OpenSpec.ofChange noiseParsesSpec)) noiseParsesCard

/-- THE TIED CARD OF 'cuneiformlaw20.SayNumbers'. -/
def sayNumbersCard : Claim7 := { stood := { row := sayNumbersRow, standIns := [], harness := (true, "b02d9384019c2ef88b3d6ec05195ccb9e24e17714966f2c1351a2e33c5104849"), looks := true }, kinds := [], alts := [], laidByText := true, laidKinds := [.data, .data, .data, .data, .sentinel, .sentinel, .pinned], laidTests := true, laidLooks := .later }
def SayNumbersCardSaid : Prop := Claim7.holds Tryd.pinned (.plain (OpenSpec.ofChange sayNumbersSpec)) sayNumbersCard

/-- THE SECOND FORM's CARD OF 'cuneiformlaw26.NoiseParses'. -/
def noiseParsesUptoCard : Claim7 := { stood := { row := noiseParsesUptoRow, standIns := [], harness := (true, "b02d9384019c2ef88b3d6ec05195ccb9e24e17714966f2c1351a2e33c5104849"), looks := true }, kinds := [], alts := [], laidByText := true, laidKinds := [.data, .data, .data, .data, .sentinel, .sentinel, .pinned], laidTests := true, laidLooks := .later }
def NoiseParsesUptoCardSaid : Prop := Claim7.holds Tryd.pinned (.plain (OpenSpec.upto noiseParsesSpec)) noiseParsesUptoCard

/-- THE SECOND FORM's CARD OF 'cuneiformlaw20.SayNumbers'. -/
def sayNumbersUptoCard : Claim7 := { stood := { row := sayNumbersUptoRow, standIns := [], harness := (true, "b02d9384019c2ef88b3d6ec05195ccb9e24e17714966f2c1351a2e33c5104849"), looks := true }, kinds := [], alts := [], laidByText := true, laidKinds := [.data, .data, .data, .data, .sentinel, .sentinel, .pinned], laidTests := true, laidLooks := .later }
def SayNumbersUptoCardSaid : Prop := Claim7.holds Tryd.pinned (.plain (OpenSpec.upto sayNumbersSpec)) sayNumbersUptoCard
end Rows
end Go.Proofs.YtnlghjmngfgmcabDoor
