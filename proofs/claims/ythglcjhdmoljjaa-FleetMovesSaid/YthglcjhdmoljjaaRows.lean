/-
  No cell of these rows narrows 'for every input' (looked for: loops, veiled, ifaces, maps, wideKeys, modest, calm, conditions, laid).
  DERIVED. THE GIVEN ROWS OF THIS SEAT. 1 by the template 'for every input the law returns true; each argument reads behind the call as it read before'; 0 by the template 'total and deterministic' (their statements: YthglcjhdmoljjaaTotals.lean).
  GIVEN WITH THE SEED: the statements are not yours to turn. If you find one false, say at which input.
  Laid BY PROGRAM, IN A SANDBOX (cutbox-rows.mjs): the forced cells as the released guide's own fill.sh prints them over the translation 8ff9cf278c40ce51… (all of the seat's roots in one cut). By AI agents, Wed Nov 11 2026. No macro, syntax, notation, axiom, sorry.
-/
import Derived.Test.YthglcjhdmoljjaaChecked
import GoSem.Claim
import GoSem.ClaimJoined
import GoSem.ClaimMapViews
import Derived.JoinedTies
import Derived.KernelRfl
namespace Go.Proofs.Ythglcjhdmoljjaa
/- THE CELL 'sum', in the pinned program and in every row, IS THE sha256 OF THE DUMP (.gsa) THAT YthglcjhdmoljjaaProg.lean LOADS. Nothing in Lean hashes anything: it is a label: what it is worth is what the hold of that sum in a sandbox is worth. -/
noncomputable def Try.pinned : Pinned := { name := "ythglcjhdmoljjaa", sum := "8ff9cf278c40ce5180d27bafdbde56a17a6a71e4842d008b1659266a4831d0b8", checked := Try.checked }
namespace Rows
def none {H : Type} : Left H := { results := [], args := [] }

/-- 'cuneiformlaw30.FleetMoves': WHATEVER THE INPUT: true; the input reads as it did. -/
def fleetMovesSpec : ChangeSpec := { name := "fleetMoves", fn := fun _ => fun
  | [d] => { results := [.lit (.bool true)], args := [d] }
  | _ => none }
def fleetMovesRow : OpenClaim := { program := "ythglcjhdmoljjaa", sum := "8ff9cf278c40ce5180d27bafdbde56a17a6a71e4842d008b1659266a4831d0b8", func := "cuneiform/cuneiformlaw30.FleetMoves", spec := "fleetMoves", unfollowed := true, recurses := true, plainKeys := false, apart := false }
def FleetMovesSaid : Prop := fleetMovesRow.holds Try.pinned (OpenSpec.ofChange fleetMovesSpec)

/-- ITS FALSE NEIGHBOUR: 'it returns false'. Refute it at one input. -/
def fleetMovesWrong : ChangeSpec := { name := "fleetMoves", fn := fun _ => fun
  | [d] => { results := [.lit (.bool false)], args := [d] }
  | _ => none }
def FleetMovesWrongFalsely : Prop := fleetMovesRow.holds Try.pinned (OpenSpec.ofChange fleetMovesWrong)

/- THE SECOND FORM. 'bulk': how many values and letters a reading holds, each counted each time it is reached (what is shared counts as often as it is met; a slice's spare places count too). A statement '..UptoSaid' is the law's where the arguments, and the package variables that the reading takes, are together of bulk at most 1048576: NARROWER than '..Said'. Prove '..Said' where nothing that the law and all that it calls make is longer than what came in: it says more and counts as full. Else prove '..UptoSaid'. A law counts once. -/
mutual
def uptoBulk {H : Type} : DataW H → Nat
  | .lit (.string bytes) => bytes.length + 1
  | .lit _ => 1
  | .nil => 1
  | .ptr d => uptoBulk d + 1
  | .slice elems spare => uptoBulkAll elems + uptoBulkAll spare + 1
  | .agg parts => uptoBulkAll parts + 1
  | .iface _ d => uptoBulk d + 1
  | .map entries => uptoBulkEntries entries + 1
  | .held _ => 1
def uptoBulkAll {H : Type} : List (DataW H) → Nat
  | [] => 0
  | d :: r => uptoBulk d + uptoBulkAll r
def uptoBulkEntries {H : Type} : List (Lit × DataW H) → Nat
  | [] => 0
  | x :: r => uptoBulkEntry x + uptoBulkEntries r
def uptoBulkEntry {H : Type} : Lit × DataW H → Nat
  | (.string bytes, d) => bytes.length + uptoBulk d + 1
  | (_, d) => uptoBulk d + 1
 end
def uptoSmall : (H : Type) → List (DataW H) → Bool := fun _ ds => decide (uptoBulkAll ds ≤ 1048576)
def OpenSpec.upto (s : _root_.Go.ChangeSpec) : _root_.Go.OpenSpec := { _root_.Go.OpenSpec.ofChange s with cond := some uptoSmall }

/-- 'cuneiformlaw30.FleetMoves', WHERE WHAT IT READS IS OF BULK AT MOST 1048576: true; the input reads as it did. -/
def fleetMovesUptoRow : OpenClaim := { program := "ythglcjhdmoljjaa", sum := "8ff9cf278c40ce5180d27bafdbde56a17a6a71e4842d008b1659266a4831d0b8", func := "cuneiform/cuneiformlaw30.FleetMoves", spec := "fleetMoves", unfollowed := true, recurses := true, plainKeys := false, apart := false, narrowed := true }
def FleetMovesUptoSaid : Prop := fleetMovesUptoRow.holds Try.pinned (OpenSpec.upto fleetMovesSpec)

end Rows
end Go.Proofs.Ythglcjhdmoljjaa
