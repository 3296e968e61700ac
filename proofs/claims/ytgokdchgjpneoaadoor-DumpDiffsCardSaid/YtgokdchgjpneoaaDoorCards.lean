/-
  DERIVED. GIVEN WITH THE SEED: THE CARDS: each row of YtgokdchgjpneoaaDoorRows.lean that lists a variable, with what it lists TIED to the program's text (the seventh form; the later family's looks); each row that meets fmt, with fmt's text TOLD by the authors' own Lean function (tested against real Go, not proved from fmt's source: count such statements apart). THE CARD IS WHAT COUNTS. Prove the row's statement (the work); the ties are given (YtgokdchgjpneoaaDoorTie.lean); close each card by the builder's one call (the guide's Derived/Test/ToyasCard.lean, 'card_holds'). Laid BY PROGRAM, IN A SANDBOX (cutbox-door.mjs). By AI agents, Wed Nov 11 2026. No macro, syntax, notation, axiom, sorry.
-/
import Derived.Test.YtgokdchgjpneoaaDoorRows
import GoSem.ClaimSeven
namespace Go.Proofs.YtgokdchgjpneoaaDoor
namespace Rows

/-- THE TIED CARD OF 'cuneiformlaw20.SayTwins'. -/
def sayTwinsCard : Claim7 := { stood := { row := sayTwinsRow, standIns := [], harness := (true, "ea14998ee8126dbde5e735dadf404859bf5dacd824776a143a140c32d6cbe6b2"), looks := true }, kinds := [], alts := [], laidByText := true, laidKinds := [.data, .data, .data], laidTests := true, laidLooks := .later }
def SayTwinsCardSaid : Prop := Claim7.holds Tryd.pinned (.plain (OpenSpec.ofChange sayTwinsSpec)) sayTwinsCard

/-- THE TIED CARD OF 'cuneiformlaw23.EventMakes'. -/
def eventMakesCard : Claim7 := { stood := { row := eventMakesRow, standIns := [], harness := (true, "ea14998ee8126dbde5e735dadf404859bf5dacd824776a143a140c32d6cbe6b2"), looks := true }, kinds := [], alts := [], laidByText := true, laidKinds := [.data, .data, .data], laidTests := true, laidLooks := .later }
def EventMakesCardSaid : Prop := Claim7.holds Tryd.pinned (.plain (OpenSpec.ofChange eventMakesSpec)) eventMakesCard

/-- THE TIED CARD OF 'cuneiformlaw23.EventLines'. -/
def eventLinesCard : Claim7 := { stood := { row := eventLinesRow, standIns := [], harness := (true, "ea14998ee8126dbde5e735dadf404859bf5dacd824776a143a140c32d6cbe6b2"), looks := true }, kinds := [], alts := [], laidByText := true, laidKinds := [.data, .data, .data], laidTests := true, laidLooks := .later }
def EventLinesCardSaid : Prop := Claim7.holds Tryd.pinned (.plain (OpenSpec.ofChange eventLinesSpec)) eventLinesCard

/-- THE TIED CARD OF 'cuneiformlaw23.EventLists'. -/
def eventListsCard : Claim7 := { stood := { row := eventListsRow, standIns := [], harness := (true, "ea14998ee8126dbde5e735dadf404859bf5dacd824776a143a140c32d6cbe6b2"), looks := true }, kinds := [], alts := [], laidByText := true, laidKinds := [.data, .data, .data], laidTests := true, laidLooks := .later }
def EventListsCardSaid : Prop := Claim7.holds Tryd.pinned (.plain (OpenSpec.ofChange eventListsSpec)) eventListsCard

/-- THE TIED CARD OF 'cuneiformlaw29.DumpDescribes'. -/
def dumpDescribesCard : Claim7 := { stood := { row := dumpDescribesRow, standIns := [], harness := (true, "ea14998ee8126dbde5e735dadf404859bf5dacd824776a143a140c32d6cbe6b2"), looks := true }, kinds := [], alts := [], laidByText := true, laidKinds := [.data, .data, .data], laidTests := true, laidLooks := .later }
def DumpDescribesCardSaid : Prop := Claim7.holds Tryd.pinned (.plain (OpenSpec.ofChange dumpDescribesSpec)) dumpDescribesCard

/-- THE TIED CARD OF 'cuneiformlaw29.DumpDiffs'. -/
def dumpDiffsCard : Claim7 := { stood := { row := dumpDiffsRow, standIns := [], harness := (true, "ea14998ee8126dbde5e735dadf404859bf5dacd824776a143a140c32d6cbe6b2"), looks := true }, kinds := [], alts := [], laidByText := true, laidKinds := [.data, .data, .data], laidTests := true, laidLooks := .later }
def DumpDiffsCardSaid : Prop := Claim7.holds Tryd.pinned (.plain (OpenSpec.ofChange dumpDiffsSpec)) dumpDiffsCard

/-- THE TIED CARD OF 'cuneiformlaw08.FramePacks'. -/
def framePacksCard : Claim7 := { stood := { row := framePacksRow, standIns := [], harness := (true, "ea14998ee8126dbde5e735dadf404859bf5dacd824776a143a140c32d6cbe6b2"), looks := true }, kinds := [], alts := [], laidByText := true, laidKinds := [.data, .data, .data], laidTests := true, laidLooks := .later }
def FramePacksCardSaid : Prop := Claim7.holds Tryd.pinned (.plain (OpenSpec.ofChange framePacksSpec)) framePacksCard

/-- THE TIED CARD OF 'cuneiformlaw25.TallyNil'. -/
def tallyNilCard : Claim7 := { stood := { row := tallyNilRow, standIns := [], harness := (true, "ea14998ee8126dbde5e735dadf404859bf5dacd824776a143a140c32d6cbe6b2"), looks := true }, kinds := [], alts := [], laidByText := true, laidKinds := [.data, .data, .data], laidTests := true, laidLooks := .later }
def TallyNilCardSaid : Prop := Claim7.holds Tryd.pinned (.plain (OpenSpec.ofChange tallyNilSpec)) tallyNilCard

/-- THE SECOND FORM's CARD OF 'cuneiformlaw20.SayTwins'. -/
def sayTwinsUptoCard : Claim7 := { stood := { row := sayTwinsUptoRow, standIns := [], harness := (true, "ea14998ee8126dbde5e735dadf404859bf5dacd824776a143a140c32d6cbe6b2"), looks := true }, kinds := [], alts := [], laidByText := true, laidKinds := [.data, .data, .data], laidTests := true, laidLooks := .later }
def SayTwinsUptoCardSaid : Prop := Claim7.holds Tryd.pinned (.plain (OpenSpec.upto sayTwinsSpec)) sayTwinsUptoCard

/-- THE SECOND FORM's CARD OF 'cuneiformlaw23.EventMakes'. -/
def eventMakesUptoCard : Claim7 := { stood := { row := eventMakesUptoRow, standIns := [], harness := (true, "ea14998ee8126dbde5e735dadf404859bf5dacd824776a143a140c32d6cbe6b2"), looks := true }, kinds := [], alts := [], laidByText := true, laidKinds := [.data, .data, .data], laidTests := true, laidLooks := .later }
def EventMakesUptoCardSaid : Prop := Claim7.holds Tryd.pinned (.plain (OpenSpec.upto eventMakesSpec)) eventMakesUptoCard

/-- THE SECOND FORM's CARD OF 'cuneiformlaw23.EventLines'. -/
def eventLinesUptoCard : Claim7 := { stood := { row := eventLinesUptoRow, standIns := [], harness := (true, "ea14998ee8126dbde5e735dadf404859bf5dacd824776a143a140c32d6cbe6b2"), looks := true }, kinds := [], alts := [], laidByText := true, laidKinds := [.data, .data, .data], laidTests := true, laidLooks := .later }
def EventLinesUptoCardSaid : Prop := Claim7.holds Tryd.pinned (.plain (OpenSpec.upto eventLinesSpec)) eventLinesUptoCard

/-- THE SECOND FORM's CARD OF 'cuneiformlaw23.EventLists'. -/
def eventListsUptoCard : Claim7 := { stood := { row := eventListsUptoRow, standIns := [], harness := (true, "ea14998ee8126dbde5e735dadf404859bf5dacd824776a143a140c32d6cbe6b2"), looks := true }, kinds := [], alts := [], laidByText := true, laidKinds := [.data, .data, .data], laidTests := true, laidLooks := .later }
def EventListsUptoCardSaid : Prop := Claim7.holds Tryd.pinned (.plain (OpenSpec.upto eventListsSpec)) eventListsUptoCard

/-- THE SECOND FORM's CARD OF 'cuneiformlaw29.DumpDescribes'. -/
def dumpDescribesUptoCard : Claim7 := { stood := { row := dumpDescribesUptoRow, standIns := [], harness := (true, "ea14998ee8126dbde5e735dadf404859bf5dacd824776a143a140c32d6cbe6b2"), looks := true }, kinds := [], alts := [], laidByText := true, laidKinds := [.data, .data, .data], laidTests := true, laidLooks := .later }
def DumpDescribesUptoCardSaid : Prop := Claim7.holds Tryd.pinned (.plain (OpenSpec.upto dumpDescribesSpec)) dumpDescribesUptoCard

/-- THE SECOND FORM's CARD OF 'cuneiformlaw29.DumpDiffs'. -/
def dumpDiffsUptoCard : Claim7 := { stood := { row := dumpDiffsUptoRow, standIns := [], harness := (true, "ea14998ee8126dbde5e735dadf404859bf5dacd824776a143a140c32d6cbe6b2"), looks := true }, kinds := [], alts := [], laidByText := true, laidKinds := [.data, .data, .data], laidTests := true, laidLooks := .later }
def DumpDiffsUptoCardSaid : Prop := Claim7.holds Tryd.pinned (.plain (OpenSpec.upto dumpDiffsSpec)) dumpDiffsUptoCard

/-- THE SECOND FORM's CARD OF 'cuneiformlaw08.FramePacks'. -/
def framePacksUptoCard : Claim7 := { stood := { row := framePacksUptoRow, standIns := [], harness := (true, "ea14998ee8126dbde5e735dadf404859bf5dacd824776a143a140c32d6cbe6b2"), looks := true }, kinds := [], alts := [], laidByText := true, laidKinds := [.data, .data, .data], laidTests := true, laidLooks := .later }
def FramePacksUptoCardSaid : Prop := Claim7.holds Tryd.pinned (.plain (OpenSpec.upto framePacksSpec)) framePacksUptoCard

/-- THE SECOND FORM's CARD OF 'cuneiformlaw25.TallyNil'. -/
def tallyNilUptoCard : Claim7 := { stood := { row := tallyNilUptoRow, standIns := [], harness := (true, "ea14998ee8126dbde5e735dadf404859bf5dacd824776a143a140c32d6cbe6b2"), looks := true }, kinds := [], alts := [], laidByText := true, laidKinds := [.data, .data, .data], laidTests := true, laidLooks := .later }
def TallyNilUptoCardSaid : Prop := Claim7.holds Tryd.pinned (.plain (OpenSpec.upto tallyNilSpec)) tallyNilUptoCard
end Rows
end Go.Proofs.YtgokdchgjpneoaaDoor
