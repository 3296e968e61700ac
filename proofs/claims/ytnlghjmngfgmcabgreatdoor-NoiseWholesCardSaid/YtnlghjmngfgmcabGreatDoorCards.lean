/-
  DERIVED. GIVEN WITH THE SEED: THE CARDS: each row of YtnlghjmngfgmcabGreatDoorRows.lean that lists a variable, with what it lists TIED to the program's text (the seventh form; the later family's looks); each row that meets fmt, with fmt's text TOLD by the authors' own Lean function (tested against real Go, not proved from fmt's source: count such statements apart). THE CARD IS WHAT COUNTS. Prove the row's statement (the work); the ties are given (YtnlghjmngfgmcabGreatDoorTie.lean); close each card by the builder's one call (the guide's Derived/Test/ToyasCard.lean, 'card_holds'). Laid BY PROGRAM, IN A SANDBOX (cutbox-door.mjs). By AI agents, Wed Nov 11 2026. No macro, syntax, notation, axiom, sorry.
-/
import Derived.Test.YtnlghjmngfgmcabGreatDoorRows
import GoSem.ClaimSeven
namespace Go.Proofs.YtnlghjmngfgmcabGreatDoor
namespace Rows

/-- THE TIED CARD OF 'cuneiformlaw26.NoiseForged'. -/
def noiseForgedCard : Claim7 := { stood := { row := noiseForgedRow, standIns := [], harness := (true, "a952e38ff803466de2271adf95e62128a141d5c30f34b5dcaacf02e3aca425b5"), looks := true }, kinds := [], alts := [], laidByText := true, laidKinds := [.data, .data, .data, .data, .sentinel, .sentinel, .pinned], laidTests := true, laidLooks := .later }
def NoiseForgedCardSaid : Prop := Claim7.holds Tryz.pinned (.plain (OpenSpec.ofChange noiseForgedSpec)) noiseForgedCard

/-- THE TIED CARD OF 'cuneiformlaw20.SayLines'. -/
def sayLinesCard : Claim7 := { stood := { row := sayLinesRow, standIns := [], harness := (true, "a952e38ff803466de2271adf95e62128a141d5c30f34b5dcaacf02e3aca425b5"), looks := true }, kinds := [], alts := [], laidByText := true, laidKinds := [.data, .data, .data, .data, .sentinel, .sentinel, .pinned], laidTests := true, laidLooks := .later }
def SayLinesCardSaid : Prop := Claim7.holds Tryz.pinned (.plain (OpenSpec.ofChange sayLinesSpec)) sayLinesCard

/-- THE TIED CARD OF 'cuneiformlaw20.SayParses'. -/
def sayParsesCard : Claim7 := { stood := { row := sayParsesRow, standIns := [], harness := (true, "a952e38ff803466de2271adf95e62128a141d5c30f34b5dcaacf02e3aca425b5"), looks := true }, kinds := [], alts := [], laidByText := true, laidKinds := [.data, .data, .data, .data, .sentinel, .sentinel, .pinned], laidTests := true, laidLooks := .later }
def SayParsesCardSaid : Prop := Claim7.holds Tryz.pinned (.plain (OpenSpec.ofChange sayParsesSpec)) sayParsesCard

/-- THE TIED CARD OF 'cuneiformlaw26.NoiseWholes'. -/
def noiseWholesCard : Claim7 := { stood := { row := noiseWholesRow, standIns := [], harness := (true, "a952e38ff803466de2271adf95e62128a141d5c30f34b5dcaacf02e3aca425b5"), looks := true }, kinds := [], alts := [], laidByText := true, laidKinds := [.data, .data, .data, .data, .sentinel, .sentinel, .pinned], laidTests := true, laidLooks := .later }
def NoiseWholesCardSaid : Prop := Claim7.holds Tryz.pinned (.plain (OpenSpec.ofChange noiseWholesSpec)) noiseWholesCard

/-- THE SECOND FORM's CARD OF 'cuneiformlaw26.NoiseForged'. -/
def noiseForgedUptoCard : Claim7 := { stood := { row := noiseForgedUptoRow, standIns := [], harness := (true, "a952e38ff803466de2271adf95e62128a141d5c30f34b5dcaacf02e3aca425b5"), looks := true }, kinds := [], alts := [], laidByText := true, laidKinds := [.data, .data, .data, .data, .sentinel, .sentinel, .pinned], laidTests := true, laidLooks := .later }
def NoiseForgedUptoCardSaid : Prop := Claim7.holds Tryz.pinned (.plain (OpenSpec.upto noiseForgedSpec)) noiseForgedUptoCard

/-- THE SECOND FORM's CARD OF 'cuneiformlaw20.SayLines'. -/
def sayLinesUptoCard : Claim7 := { stood := { row := sayLinesUptoRow, standIns := [], harness := (true, "a952e38ff803466de2271adf95e62128a141d5c30f34b5dcaacf02e3aca425b5"), looks := true }, kinds := [], alts := [], laidByText := true, laidKinds := [.data, .data, .data, .data, .sentinel, .sentinel, .pinned], laidTests := true, laidLooks := .later }
def SayLinesUptoCardSaid : Prop := Claim7.holds Tryz.pinned (.plain (OpenSpec.upto sayLinesSpec)) sayLinesUptoCard

/-- THE SECOND FORM's CARD OF 'cuneiformlaw20.SayParses'. -/
def sayParsesUptoCard : Claim7 := { stood := { row := sayParsesUptoRow, standIns := [], harness := (true, "a952e38ff803466de2271adf95e62128a141d5c30f34b5dcaacf02e3aca425b5"), looks := true }, kinds := [], alts := [], laidByText := true, laidKinds := [.data, .data, .data, .data, .sentinel, .sentinel, .pinned], laidTests := true, laidLooks := .later }
def SayParsesUptoCardSaid : Prop := Claim7.holds Tryz.pinned (.plain (OpenSpec.upto sayParsesSpec)) sayParsesUptoCard

/-- THE SECOND FORM's CARD OF 'cuneiformlaw26.NoiseWholes'. -/
def noiseWholesUptoCard : Claim7 := { stood := { row := noiseWholesUptoRow, standIns := [], harness := (true, "a952e38ff803466de2271adf95e62128a141d5c30f34b5dcaacf02e3aca425b5"), looks := true }, kinds := [], alts := [], laidByText := true, laidKinds := [.data, .data, .data, .data, .sentinel, .sentinel, .pinned], laidTests := true, laidLooks := .later }
def NoiseWholesUptoCardSaid : Prop := Claim7.holds Tryz.pinned (.plain (OpenSpec.upto noiseWholesSpec)) noiseWholesUptoCard
end Rows
end Go.Proofs.YtnlghjmngfgmcabGreatDoor
