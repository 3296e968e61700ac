/-
  DERIVED. GIVEN WITH THE SEED: THE CARDS: each row of YtnlghjmngfgmcaaDoorRows.lean that lists a variable, with what it lists TIED to the program's text (the seventh form; the later family's looks); each row that meets fmt, with fmt's text TOLD by the authors' own Lean function (tested against real Go, not proved from fmt's source: count such statements apart). THE CARD IS WHAT COUNTS. Prove the row's statement (the work); the ties are given (YtnlghjmngfgmcaaDoorTie.lean); close each card by the builder's one call (the guide's Derived/Test/ToyasCard.lean, 'card_holds'). Laid BY PROGRAM, IN A SANDBOX (cutbox-door.mjs). By AI agents, Wed Nov 11 2026. No macro, syntax, notation, axiom, sorry.
-/
import Derived.Test.YtnlghjmngfgmcaaDoorRows
import GoSem.ClaimSeven
namespace Go.Proofs.YtnlghjmngfgmcaaDoor
namespace Rows

/-- THE TIED CARD OF 'cuneiformlaw29.DumpTexts'. -/
def dumpTextsCard : Claim7 := { stood := { row := dumpTextsRow, standIns := [], harness := (true, "2c992a7d28123e16ae42ea99c71004df6c5f903f2dbfbdbd1ec9aa13390fcabd"), looks := true }, kinds := [], alts := [], laidByText := true, laidKinds := [.data, .data, .data, .data, .pinned], laidTests := true, laidLooks := .later }
def DumpTextsCardSaid : Prop := Claim7.holds Tryd.pinned (.plain (OpenSpec.ofChange dumpTextsSpec)) dumpTextsCard

/-- THE TIED CARD OF 'cuneiformlaw29.DumpParses'. -/
def dumpParsesCard : Claim7 := { stood := { row := dumpParsesRow, standIns := [], harness := (true, "2c992a7d28123e16ae42ea99c71004df6c5f903f2dbfbdbd1ec9aa13390fcabd"), looks := true }, kinds := [], alts := [], laidByText := true, laidKinds := [.data, .data, .data, .data, .pinned], laidTests := true, laidLooks := .later }
def DumpParsesCardSaid : Prop := Claim7.holds Tryd.pinned (.plain (OpenSpec.ofChange dumpParsesSpec)) dumpParsesCard

/-- THE TIED CARD OF 'cuneiformlaw21.ConfParses'. -/
def confParsesCard : Claim7 := { stood := { row := confParsesRow, standIns := [], harness := (true, "2c992a7d28123e16ae42ea99c71004df6c5f903f2dbfbdbd1ec9aa13390fcabd"), looks := true }, kinds := [], alts := [], laidByText := true, laidKinds := [.data, .data, .data, .data, .sentinel, .sentinel, .pinned], laidTests := true, laidLooks := .later }
def ConfParsesCardSaid : Prop := Claim7.holds Tryd.pinned (.plain (OpenSpec.ofChange confParsesSpec)) confParsesCard

/-- THE TIED CARD OF 'cuneiformlaw26.NoiseRuns'. -/
def noiseRunsCard : Claim7 := { stood := { row := noiseRunsRow, standIns := [], harness := (true, "2c992a7d28123e16ae42ea99c71004df6c5f903f2dbfbdbd1ec9aa13390fcabd"), looks := true }, kinds := [], alts := [], laidByText := true, laidKinds := [.data, .data, .data, .data, .sentinel, .sentinel, .pinned], laidTests := true, laidLooks := .later }
def NoiseRunsCardSaid : Prop := Claim7.holds Tryd.pinned (.plain (OpenSpec.ofChange noiseRunsSpec)) noiseRunsCard

/-- THE TIED CARD OF 'cuneiformlaw21.ConfTells'. -/
def confTellsCard : Claim7 := { stood := { row := confTellsRow, standIns := [], harness := (true, "2c992a7d28123e16ae42ea99c71004df6c5f903f2dbfbdbd1ec9aa13390fcabd"), looks := true }, kinds := [], alts := [], laidByText := true, laidKinds := [.data, .data, .data, .data, .sentinel, .sentinel, .pinned], laidTests := true, laidLooks := .later }
def ConfTellsCardSaid : Prop := Claim7.holds Tryd.pinned (.plain (OpenSpec.ofChange confTellsSpec)) confTellsCard

/-- THE TIED CARD OF 'cuneiformlaw26.NoiseLines'. -/
def noiseLinesCard : Claim7 := { stood := { row := noiseLinesRow, standIns := [], harness := (true, "2c992a7d28123e16ae42ea99c71004df6c5f903f2dbfbdbd1ec9aa13390fcabd"), looks := true }, kinds := [], alts := [], laidByText := true, laidKinds := [.data, .data, .data, .data, .sentinel, .sentinel, .pinned], laidTests := true, laidLooks := .later }
def NoiseLinesCardSaid : Prop := Claim7.holds Tryd.pinned (.plain (OpenSpec.ofChange noiseLinesSpec)) noiseLinesCard

/-- THE SECOND FORM's CARD OF 'cuneiformlaw29.DumpTexts'. -/
def dumpTextsUptoCard : Claim7 := { stood := { row := dumpTextsUptoRow, standIns := [], harness := (true, "2c992a7d28123e16ae42ea99c71004df6c5f903f2dbfbdbd1ec9aa13390fcabd"), looks := true }, kinds := [], alts := [], laidByText := true, laidKinds := [.data, .data, .data, .data, .pinned], laidTests := true, laidLooks := .later }
def DumpTextsUptoCardSaid : Prop := Claim7.holds Tryd.pinned (.plain (OpenSpec.upto dumpTextsSpec)) dumpTextsUptoCard

/-- THE SECOND FORM's CARD OF 'cuneiformlaw29.DumpParses'. -/
def dumpParsesUptoCard : Claim7 := { stood := { row := dumpParsesUptoRow, standIns := [], harness := (true, "2c992a7d28123e16ae42ea99c71004df6c5f903f2dbfbdbd1ec9aa13390fcabd"), looks := true }, kinds := [], alts := [], laidByText := true, laidKinds := [.data, .data, .data, .data, .pinned], laidTests := true, laidLooks := .later }
def DumpParsesUptoCardSaid : Prop := Claim7.holds Tryd.pinned (.plain (OpenSpec.upto dumpParsesSpec)) dumpParsesUptoCard

/-- THE SECOND FORM's CARD OF 'cuneiformlaw21.ConfParses'. -/
def confParsesUptoCard : Claim7 := { stood := { row := confParsesUptoRow, standIns := [], harness := (true, "2c992a7d28123e16ae42ea99c71004df6c5f903f2dbfbdbd1ec9aa13390fcabd"), looks := true }, kinds := [], alts := [], laidByText := true, laidKinds := [.data, .data, .data, .data, .sentinel, .sentinel, .pinned], laidTests := true, laidLooks := .later }
def ConfParsesUptoCardSaid : Prop := Claim7.holds Tryd.pinned (.plain (OpenSpec.upto confParsesSpec)) confParsesUptoCard

/-- THE SECOND FORM's CARD OF 'cuneiformlaw26.NoiseRuns'. -/
def noiseRunsUptoCard : Claim7 := { stood := { row := noiseRunsUptoRow, standIns := [], harness := (true, "2c992a7d28123e16ae42ea99c71004df6c5f903f2dbfbdbd1ec9aa13390fcabd"), looks := true }, kinds := [], alts := [], laidByText := true, laidKinds := [.data, .data, .data, .data, .sentinel, .sentinel, .pinned], laidTests := true, laidLooks := .later }
def NoiseRunsUptoCardSaid : Prop := Claim7.holds Tryd.pinned (.plain (OpenSpec.upto noiseRunsSpec)) noiseRunsUptoCard

/-- THE SECOND FORM's CARD OF 'cuneiformlaw21.ConfTells'. -/
def confTellsUptoCard : Claim7 := { stood := { row := confTellsUptoRow, standIns := [], harness := (true, "2c992a7d28123e16ae42ea99c71004df6c5f903f2dbfbdbd1ec9aa13390fcabd"), looks := true }, kinds := [], alts := [], laidByText := true, laidKinds := [.data, .data, .data, .data, .sentinel, .sentinel, .pinned], laidTests := true, laidLooks := .later }
def ConfTellsUptoCardSaid : Prop := Claim7.holds Tryd.pinned (.plain (OpenSpec.upto confTellsSpec)) confTellsUptoCard

/-- THE SECOND FORM's CARD OF 'cuneiformlaw26.NoiseLines'. -/
def noiseLinesUptoCard : Claim7 := { stood := { row := noiseLinesUptoRow, standIns := [], harness := (true, "2c992a7d28123e16ae42ea99c71004df6c5f903f2dbfbdbd1ec9aa13390fcabd"), looks := true }, kinds := [], alts := [], laidByText := true, laidKinds := [.data, .data, .data, .data, .sentinel, .sentinel, .pinned], laidTests := true, laidLooks := .later }
def NoiseLinesUptoCardSaid : Prop := Claim7.holds Tryd.pinned (.plain (OpenSpec.upto noiseLinesSpec)) noiseLinesUptoCard
end Rows
end Go.Proofs.YtnlghjmngfgmcaaDoor
