/-
  No cell of these rows narrows 'for every input' (looked for: loops, veiled, ifaces, maps, wideKeys, modest, calm, conditions, laid).
  DERIVED. THE GIVEN ROWS OF THIS SEAT. 7 by the template 'for every input the law returns true; each argument reads behind the call as it read before'; 0 by the template 'total and deterministic' (their statements: YtlamkclnkbnedaaTotals.lean).
  GIVEN WITH THE SEED: the statements are not yours to turn. If you find one false, say at which input.
  Laid BY PROGRAM, IN A SANDBOX (cutbox-rows.mjs): the forced cells as the released guide's own fill.sh prints them over the translation b32701898cf3acdd… (all of the seat's roots in one cut). By AI agents, Wed Nov 11 2026. No macro, syntax, notation, axiom, sorry.
-/
import Derived.Test.YtlamkclnkbnedaaChecked
import GoSem.Claim
import GoSem.ClaimJoined
import GoSem.ClaimMapViews
import Derived.JoinedTies
import Derived.KernelRfl
namespace Go.Proofs.Ytlamkclnkbnedaa
/- THE CELL 'sum', in the pinned program and in every row, IS THE sha256 OF THE DUMP (.gsa) THAT YtlamkclnkbnedaaProg.lean LOADS. Nothing in Lean hashes anything: it is a label: what it is worth is what the hold of that sum in a sandbox is worth. -/
noncomputable def Try.pinned : Pinned := { name := "ytlamkclnkbnedaa", sum := "b32701898cf3acdde0bae289f3b3263d43f5a9a34eb8213a4505be0f6b06e251", checked := Try.checked }
namespace Rows
def none {H : Type} : Left H := { results := [], args := [] }

/-- 'cuneiformlaw32.AckMissing': WHATEVER THE INPUT: true; the input reads as it did. -/
def ackMissingSpec : ChangeSpec := { name := "ackMissing", fn := fun _ => fun
  | [d1, d2, d3, d4] => { results := [.lit (.bool true)], args := [d1, d2, d3, d4] }
  | _ => none }
def ackMissingRow : OpenClaim := { program := "ytlamkclnkbnedaa", sum := "b32701898cf3acdde0bae289f3b3263d43f5a9a34eb8213a4505be0f6b06e251", func := "cuneiform/cuneiformlaw32.AckMissing", spec := "ackMissing", unfollowed := true, recurses := true, apart := false }
def AckMissingSaid : Prop := ackMissingRow.holds Try.pinned (OpenSpec.ofChange ackMissingSpec)

/-- ITS FALSE NEIGHBOUR: 'it returns false'. Refute it at one input. -/
def ackMissingWrong : ChangeSpec := { name := "ackMissing", fn := fun _ => fun
  | [d1, d2, d3, d4] => { results := [.lit (.bool false)], args := [d1, d2, d3, d4] }
  | _ => none }
def AckMissingWrongFalsely : Prop := ackMissingRow.holds Try.pinned (OpenSpec.ofChange ackMissingWrong)

/-- 'cuneiformlaw32.AckWindow': WHATEVER THE INPUT: true; the input reads as it did. -/
def ackWindowSpec : ChangeSpec := { name := "ackWindow", fn := fun _ => fun
  | [d1, d2, d3] => { results := [.lit (.bool true)], args := [d1, d2, d3] }
  | _ => none }
def ackWindowRow : OpenClaim := { program := "ytlamkclnkbnedaa", sum := "b32701898cf3acdde0bae289f3b3263d43f5a9a34eb8213a4505be0f6b06e251", func := "cuneiform/cuneiformlaw32.AckWindow", spec := "ackWindow", apart := false }
def AckWindowSaid : Prop := ackWindowRow.holds Try.pinned (OpenSpec.ofChange ackWindowSpec)

/-- ITS FALSE NEIGHBOUR: 'it returns false'. Refute it at one input. -/
def ackWindowWrong : ChangeSpec := { name := "ackWindow", fn := fun _ => fun
  | [d1, d2, d3] => { results := [.lit (.bool false)], args := [d1, d2, d3] }
  | _ => none }
def AckWindowWrongFalsely : Prop := ackWindowRow.holds Try.pinned (OpenSpec.ofChange ackWindowWrong)

/-- 'cuneiformlaw08.FrameSizes': WHATEVER THE INPUT: true; the input reads as it did. -/
def frameSizesSpec : ChangeSpec := { name := "frameSizes", fn := fun _ => fun
  | [d1, d2, d3] => { results := [.lit (.bool true)], args := [d1, d2, d3] }
  | _ => none }
def frameSizesRow : OpenClaim := { program := "ytlamkclnkbnedaa", sum := "b32701898cf3acdde0bae289f3b3263d43f5a9a34eb8213a4505be0f6b06e251", func := "cuneiform/cuneiformlaw08.FrameSizes", spec := "frameSizes", unfollowed := true, recurses := true, apart := false }
def FrameSizesSaid : Prop := frameSizesRow.holds Try.pinned (OpenSpec.ofChange frameSizesSpec)

/-- ITS FALSE NEIGHBOUR: 'it returns false'. Refute it at one input. -/
def frameSizesWrong : ChangeSpec := { name := "frameSizes", fn := fun _ => fun
  | [d1, d2, d3] => { results := [.lit (.bool false)], args := [d1, d2, d3] }
  | _ => none }
def FrameSizesWrongFalsely : Prop := frameSizesRow.holds Try.pinned (OpenSpec.ofChange frameSizesWrong)

/-- 'cuneiformlaw32.AckParses': WHATEVER THE INPUT: true; the input reads as it did. -/
def ackParsesSpec : ChangeSpec := { name := "ackParses", fn := fun _ => fun
  | [d] => { results := [.lit (.bool true)], args := [d] }
  | _ => none }
def ackParsesRow : OpenClaim := { program := "ytlamkclnkbnedaa", sum := "b32701898cf3acdde0bae289f3b3263d43f5a9a34eb8213a4505be0f6b06e251", func := "cuneiform/cuneiformlaw32.AckParses", spec := "ackParses", unfollowed := true, recurses := true, apart := false }
def AckParsesSaid : Prop := ackParsesRow.holds Try.pinned (OpenSpec.ofChange ackParsesSpec)

/-- ITS FALSE NEIGHBOUR: 'it returns false'. Refute it at one input. -/
def ackParsesWrong : ChangeSpec := { name := "ackParses", fn := fun _ => fun
  | [d] => { results := [.lit (.bool false)], args := [d] }
  | _ => none }
def AckParsesWrongFalsely : Prop := ackParsesRow.holds Try.pinned (OpenSpec.ofChange ackParsesWrong)

/-- 'cuneiformlaw08.FrameUnpacks': WHATEVER THE INPUT: true; the input reads as it did. -/
def frameUnpacksSpec : ChangeSpec := { name := "frameUnpacks", fn := fun _ => fun
  | [d] => { results := [.lit (.bool true)], args := [d] }
  | _ => none }
def frameUnpacksRow : OpenClaim := { program := "ytlamkclnkbnedaa", sum := "b32701898cf3acdde0bae289f3b3263d43f5a9a34eb8213a4505be0f6b06e251", func := "cuneiform/cuneiformlaw08.FrameUnpacks", spec := "frameUnpacks", unfollowed := true, recurses := true, apart := false }
def FrameUnpacksSaid : Prop := frameUnpacksRow.holds Try.pinned (OpenSpec.ofChange frameUnpacksSpec)

/-- ITS FALSE NEIGHBOUR: 'it returns false'. Refute it at one input. -/
def frameUnpacksWrong : ChangeSpec := { name := "frameUnpacks", fn := fun _ => fun
  | [d] => { results := [.lit (.bool false)], args := [d] }
  | _ => none }
def FrameUnpacksWrongFalsely : Prop := frameUnpacksRow.holds Try.pinned (OpenSpec.ofChange frameUnpacksWrong)

/-- 'cuneiformlaw08.FrameStream': WHATEVER THE INPUT: true; the input reads as it did. -/
def frameStreamSpec : ChangeSpec := { name := "frameStream", fn := fun _ => fun
  | [d1, d2] => { results := [.lit (.bool true)], args := [d1, d2] }
  | _ => none }
def frameStreamRow : OpenClaim := { program := "ytlamkclnkbnedaa", sum := "b32701898cf3acdde0bae289f3b3263d43f5a9a34eb8213a4505be0f6b06e251", func := "cuneiform/cuneiformlaw08.FrameStream", spec := "frameStream", unfollowed := true, recurses := true, apart := false }
def FrameStreamSaid : Prop := frameStreamRow.holds Try.pinned (OpenSpec.ofChange frameStreamSpec)

/-- ITS FALSE NEIGHBOUR: 'it returns false'. Refute it at one input. -/
def frameStreamWrong : ChangeSpec := { name := "frameStream", fn := fun _ => fun
  | [d1, d2] => { results := [.lit (.bool false)], args := [d1, d2] }
  | _ => none }
def FrameStreamWrongFalsely : Prop := frameStreamRow.holds Try.pinned (OpenSpec.ofChange frameStreamWrong)

/-- 'cuneiformlaw08.FrameNil': WHATEVER THE INPUT: true; the input reads as it did. -/
def frameNilSpec : ChangeSpec := { name := "frameNil", fn := fun _ => fun
  | [d1, d2] => { results := [.lit (.bool true)], args := [d1, d2] }
  | _ => none }
def frameNilRow : OpenClaim := { program := "ytlamkclnkbnedaa", sum := "b32701898cf3acdde0bae289f3b3263d43f5a9a34eb8213a4505be0f6b06e251", func := "cuneiform/cuneiformlaw08.FrameNil", spec := "frameNil", unfollowed := true, recurses := true, apart := false }
def FrameNilSaid : Prop := frameNilRow.holds Try.pinned (OpenSpec.ofChange frameNilSpec)

/-- ITS FALSE NEIGHBOUR: 'it returns false'. Refute it at one input. -/
def frameNilWrong : ChangeSpec := { name := "frameNil", fn := fun _ => fun
  | [d1, d2] => { results := [.lit (.bool false)], args := [d1, d2] }
  | _ => none }
def FrameNilWrongFalsely : Prop := frameNilRow.holds Try.pinned (OpenSpec.ofChange frameNilWrong)

/- THE SECOND FORM. 'bulk': how many values and letters a reading holds, each counted each time it is reached (what is shared counts as often as it is met; a slice's spare places count too). A statement '..UptoSaid' is the law's where the arguments, and the package variables that the reading takes, are together of bulk at most 1048576: NARROWER than '..Said'. Prove '..Said' where nothing that the law and all that it calls make is longer than what came in: it says more and counts as full. Else prove '..UptoSaid'. A law counts once. -/
mutual
def uptoBulk {H : Type} : DataW H → Nat
  | .lit (.string bytes) => bytes.length + 1
  | .lit _ => 1
  | .nil => 1
  | .ptr d => uptoBulk d + 1
  | .slice elems spare => uptoBulkAll elems + uptoBulkAll spare + 1
  | .agg parts => uptoBulkAll parts + 1
  | .iface _ d => uptoBulk d + 1
  | .map entries => uptoBulkEntries entries + 1
  | .held _ => 1
def uptoBulkAll {H : Type} : List (DataW H) → Nat
  | [] => 0
  | d :: r => uptoBulk d + uptoBulkAll r
def uptoBulkEntries {H : Type} : List (Lit × DataW H) → Nat
  | [] => 0
  | x :: r => uptoBulkEntry x + uptoBulkEntries r
def uptoBulkEntry {H : Type} : Lit × DataW H → Nat
  | (.string bytes, d) => bytes.length + uptoBulk d + 1
  | (_, d) => uptoBulk d + 1
 end
def uptoSmall : (H : Type) → List (DataW H) → Bool := fun _ ds => decide (uptoBulkAll ds ≤ 1048576)
def OpenSpec.upto (s : _root_.Go.ChangeSpec) : _root_.Go.OpenSpec := { _root_.Go.OpenSpec.ofChange s with cond := some uptoSmall }

/-- 'cuneiformlaw32.AckMissing', WHERE WHAT IT READS IS OF BULK AT MOST 1048576: true; the input reads as it did. -/
def ackMissingUptoRow : OpenClaim := { program := "ytlamkclnkbnedaa", sum := "b32701898cf3acdde0bae289f3b3263d43f5a9a34eb8213a4505be0f6b06e251", func := "cuneiform/cuneiformlaw32.AckMissing", spec := "ackMissing", unfollowed := true, recurses := true, apart := false, narrowed := true }
def AckMissingUptoSaid : Prop := ackMissingUptoRow.holds Try.pinned (OpenSpec.upto ackMissingSpec)

/-- 'cuneiformlaw32.AckWindow', WHERE WHAT IT READS IS OF BULK AT MOST 1048576: true; the input reads as it did. -/
def ackWindowUptoRow : OpenClaim := { program := "ytlamkclnkbnedaa", sum := "b32701898cf3acdde0bae289f3b3263d43f5a9a34eb8213a4505be0f6b06e251", func := "cuneiform/cuneiformlaw32.AckWindow", spec := "ackWindow", apart := false, narrowed := true }
def AckWindowUptoSaid : Prop := ackWindowUptoRow.holds Try.pinned (OpenSpec.upto ackWindowSpec)

/-- 'cuneiformlaw08.FrameSizes', WHERE WHAT IT READS IS OF BULK AT MOST 1048576: true; the input reads as it did. -/
def frameSizesUptoRow : OpenClaim := { program := "ytlamkclnkbnedaa", sum := "b32701898cf3acdde0bae289f3b3263d43f5a9a34eb8213a4505be0f6b06e251", func := "cuneiform/cuneiformlaw08.FrameSizes", spec := "frameSizes", unfollowed := true, recurses := true, apart := false, narrowed := true }
def FrameSizesUptoSaid : Prop := frameSizesUptoRow.holds Try.pinned (OpenSpec.upto frameSizesSpec)

/-- 'cuneiformlaw32.AckParses', WHERE WHAT IT READS IS OF BULK AT MOST 1048576: true; the input reads as it did. -/
def ackParsesUptoRow : OpenClaim := { program := "ytlamkclnkbnedaa", sum := "b32701898cf3acdde0bae289f3b3263d43f5a9a34eb8213a4505be0f6b06e251", func := "cuneiform/cuneiformlaw32.AckParses", spec := "ackParses", unfollowed := true, recurses := true, apart := false, narrowed := true }
def AckParsesUptoSaid : Prop := ackParsesUptoRow.holds Try.pinned (OpenSpec.upto ackParsesSpec)

/-- 'cuneiformlaw08.FrameUnpacks', WHERE WHAT IT READS IS OF BULK AT MOST 1048576: true; the input reads as it did. -/
def frameUnpacksUptoRow : OpenClaim := { program := "ytlamkclnkbnedaa", sum := "b32701898cf3acdde0bae289f3b3263d43f5a9a34eb8213a4505be0f6b06e251", func := "cuneiform/cuneiformlaw08.FrameUnpacks", spec := "frameUnpacks", unfollowed := true, recurses := true, apart := false, narrowed := true }
def FrameUnpacksUptoSaid : Prop := frameUnpacksUptoRow.holds Try.pinned (OpenSpec.upto frameUnpacksSpec)

/-- 'cuneiformlaw08.FrameStream', WHERE WHAT IT READS IS OF BULK AT MOST 1048576: true; the input reads as it did. -/
def frameStreamUptoRow : OpenClaim := { program := "ytlamkclnkbnedaa", sum := "b32701898cf3acdde0bae289f3b3263d43f5a9a34eb8213a4505be0f6b06e251", func := "cuneiform/cuneiformlaw08.FrameStream", spec := "frameStream", unfollowed := true, recurses := true, apart := false, narrowed := true }
def FrameStreamUptoSaid : Prop := frameStreamUptoRow.holds Try.pinned (OpenSpec.upto frameStreamSpec)

/-- 'cuneiformlaw08.FrameNil', WHERE WHAT IT READS IS OF BULK AT MOST 1048576: true; the input reads as it did. -/
def frameNilUptoRow : OpenClaim := { program := "ytlamkclnkbnedaa", sum := "b32701898cf3acdde0bae289f3b3263d43f5a9a34eb8213a4505be0f6b06e251", func := "cuneiform/cuneiformlaw08.FrameNil", spec := "frameNil", unfollowed := true, recurses := true, apart := false, narrowed := true }
def FrameNilUptoSaid : Prop := frameNilUptoRow.holds Try.pinned (OpenSpec.upto frameNilSpec)

end Rows
end Go.Proofs.Ytlamkclnkbnedaa
