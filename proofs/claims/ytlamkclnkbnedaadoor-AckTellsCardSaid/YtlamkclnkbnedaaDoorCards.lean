/-
  DERIVED. GIVEN WITH THE SEED: THE CARDS: each row of YtlamkclnkbnedaaDoorRows.lean that lists a variable, with what it lists TIED to the program's text (the seventh form; the later family's looks); each row that meets fmt, with fmt's text TOLD by the authors' own Lean function (tested against real Go, not proved from fmt's source: count such statements apart). THE CARD IS WHAT COUNTS. Prove the row's statement (the work); the ties are given (YtlamkclnkbnedaaDoorTie.lean); close each card by the builder's one call (the guide's Derived/Test/ToyasCard.lean, 'card_holds'). Laid BY PROGRAM, IN A SANDBOX (cutbox-door.mjs). By AI agents, Wed Nov 11 2026. No macro, syntax, notation, axiom, sorry.
-/
import Derived.Test.YtlamkclnkbnedaaDoorRows
import GoSem.ClaimSeven
namespace Go.Proofs.YtlamkclnkbnedaaDoor
namespace Rows

/-- THE TIED CARD OF 'cuneiformlaw07.HeadMates'. -/
def headMatesCard : Claim7 := { stood := { row := headMatesRow, standIns := [], harness := (true, "3429a9331c7f9723b4b1fc74fb9c56ca9e35b1dacc7b8caaa4270692f3420b90"), looks := false }, kinds := [], alts := [], laidByText := true, laidKinds := [.data, .data, .data], laidTests := true, laidLooks := .later }
def HeadMatesCardSaid : Prop := Claim7.holds Tryd.pinned (.plain (OpenSpec.ofChange headMatesSpec)) headMatesCard

/-- THE TIED CARD OF 'cuneiformlaw21.ConfRooms'. -/
def confRoomsCard : Claim7 := { stood := { row := confRoomsRow, standIns := [], harness := (true, "3429a9331c7f9723b4b1fc74fb9c56ca9e35b1dacc7b8caaa4270692f3420b90"), looks := false }, kinds := [], alts := [], laidByText := true, laidKinds := [.data, .data, .data], laidTests := true, laidLooks := .later }
def ConfRoomsCardSaid : Prop := Claim7.holds Tryd.pinned (.plain (OpenSpec.ofChange confRoomsSpec)) confRoomsCard

/-- THE TIED CARD OF 'cuneiformlaw07.HeadParses'. -/
def headParsesCard : Claim7 := { stood := { row := headParsesRow, standIns := [], harness := (true, "3429a9331c7f9723b4b1fc74fb9c56ca9e35b1dacc7b8caaa4270692f3420b90"), looks := false }, kinds := [], alts := [], laidByText := true, laidKinds := [.data, .data, .data], laidTests := true, laidLooks := .later }
def HeadParsesCardSaid : Prop := Claim7.holds Tryd.pinned (.plain (OpenSpec.ofChange headParsesSpec)) headParsesCard

/-- THE TIED CARD OF 'cuneiformlaw07.HeadTells'. -/
def headTellsCard : Claim7 := { stood := { row := headTellsRow, standIns := [], harness := (true, "3429a9331c7f9723b4b1fc74fb9c56ca9e35b1dacc7b8caaa4270692f3420b90"), looks := false }, kinds := [], alts := [], laidByText := true, laidKinds := [.data, .data, .data], laidTests := true, laidLooks := .later }
def HeadTellsCardSaid : Prop := Claim7.holds Tryd.pinned (.plain (OpenSpec.ofChange headTellsSpec)) headTellsCard

/-- THE TIED CARD OF 'cuneiformlaw32.AckTells'. -/
def ackTellsCard : Claim7 := { stood := { row := ackTellsRow, standIns := [], harness := (true, "3429a9331c7f9723b4b1fc74fb9c56ca9e35b1dacc7b8caaa4270692f3420b90"), looks := false }, kinds := [], alts := [], laidByText := true, laidKinds := [.data, .data, .data], laidTests := true, laidLooks := .later }
def AckTellsCardSaid : Prop := Claim7.holds Tryd.pinned (.plain (OpenSpec.ofChange ackTellsSpec)) ackTellsCard

/-- THE SECOND FORM's CARD OF 'cuneiformlaw07.HeadMates'. -/
def headMatesUptoCard : Claim7 := { stood := { row := headMatesUptoRow, standIns := [], harness := (true, "3429a9331c7f9723b4b1fc74fb9c56ca9e35b1dacc7b8caaa4270692f3420b90"), looks := false }, kinds := [], alts := [], laidByText := true, laidKinds := [.data, .data, .data], laidTests := true, laidLooks := .later }
def HeadMatesUptoCardSaid : Prop := Claim7.holds Tryd.pinned (.plain (OpenSpec.upto headMatesSpec)) headMatesUptoCard

/-- THE SECOND FORM's CARD OF 'cuneiformlaw21.ConfRooms'. -/
def confRoomsUptoCard : Claim7 := { stood := { row := confRoomsUptoRow, standIns := [], harness := (true, "3429a9331c7f9723b4b1fc74fb9c56ca9e35b1dacc7b8caaa4270692f3420b90"), looks := false }, kinds := [], alts := [], laidByText := true, laidKinds := [.data, .data, .data], laidTests := true, laidLooks := .later }
def ConfRoomsUptoCardSaid : Prop := Claim7.holds Tryd.pinned (.plain (OpenSpec.upto confRoomsSpec)) confRoomsUptoCard

/-- THE SECOND FORM's CARD OF 'cuneiformlaw07.HeadParses'. -/
def headParsesUptoCard : Claim7 := { stood := { row := headParsesUptoRow, standIns := [], harness := (true, "3429a9331c7f9723b4b1fc74fb9c56ca9e35b1dacc7b8caaa4270692f3420b90"), looks := false }, kinds := [], alts := [], laidByText := true, laidKinds := [.data, .data, .data], laidTests := true, laidLooks := .later }
def HeadParsesUptoCardSaid : Prop := Claim7.holds Tryd.pinned (.plain (OpenSpec.upto headParsesSpec)) headParsesUptoCard

/-- THE SECOND FORM's CARD OF 'cuneiformlaw07.HeadTells'. -/
def headTellsUptoCard : Claim7 := { stood := { row := headTellsUptoRow, standIns := [], harness := (true, "3429a9331c7f9723b4b1fc74fb9c56ca9e35b1dacc7b8caaa4270692f3420b90"), looks := false }, kinds := [], alts := [], laidByText := true, laidKinds := [.data, .data, .data], laidTests := true, laidLooks := .later }
def HeadTellsUptoCardSaid : Prop := Claim7.holds Tryd.pinned (.plain (OpenSpec.upto headTellsSpec)) headTellsUptoCard

/-- THE SECOND FORM's CARD OF 'cuneiformlaw32.AckTells'. -/
def ackTellsUptoCard : Claim7 := { stood := { row := ackTellsUptoRow, standIns := [], harness := (true, "3429a9331c7f9723b4b1fc74fb9c56ca9e35b1dacc7b8caaa4270692f3420b90"), looks := false }, kinds := [], alts := [], laidByText := true, laidKinds := [.data, .data, .data], laidTests := true, laidLooks := .later }
def AckTellsUptoCardSaid : Prop := Claim7.holds Tryd.pinned (.plain (OpenSpec.upto ackTellsSpec)) ackTellsUptoCard
end Rows
end Go.Proofs.YtlamkclnkbnedaaDoor
