/- Two lists are the same up to the place that is told, and not there. -/
import Derived.Test.YtgokdchgjpneoaaDoorRows
import Derived.Test.YtgokdchgjpneoaaDoorCards
import Derived.Test.YtgokdchgjpneoaaDoorTie
import Derived.LaidMore
import Derived.SevenTiedAt
import Derived.Stop.Joined
import Derived.Test.YtgokdchgjpneoaaDoorUWalk
import Derived.Test.YtgokdchgjpneoaaDoorPlDumpDiffs
import Derived.Test.YtgokdchgjpneoaaDoorEngR
import Derived.ProofKit
import Derived.MakeChecks
import Derived.Stop.LaidErr
import Derived.Lib.LaidTab
import Derived.OpenShut
import Derived.ShutString
import Derived.ChangeOld
import Derived.Below
import Derived.Lib.SmallJoins
namespace Go.Proofs.YtgokdchgjpneoaaDoor.DumpDiffsDone
open Go.ChangeShapes Go.WideShapes Go.ChangeAt Go.RowKit Go.Joins Go.Eng
open Go.ChangeMaps (open_string shut_string)
set_option linter.unusedVariables false

theorem own : ownKnob Tryd.prog.godebug = none := by kernel_rfl
theorem laidOut : laidOutB Tryd.prog = true := by kernel_rfl
theorem rd5 {H : Type} {enc : TypeId × Value → H} {W : World} : Reads enc Tryd.prog W 5 (kI .u8) (IntOk .u8) := reads_int Tryd.underlying5
theorem rd67 {H : Type} {enc : TypeId × Value → H} {W : World} : Reads enc Tryd.prog W 67 (kSl (kI .u8)) (ListOk (IntOk .u8)) := reads_slice Tryd.underlying67 (by kernel_rfl) (by decide) rd5

set_option maxRecDepth 100000 in
theorem door_met (os : Os) (args : Array Value) : laidMetH Tryd.prog Rows.dumpDiffsRow.laid ((World.doorLaid Tryd.prog 400 os).forCall (fun _ _ => 0) ⟨#[], args, []⟩).memory :=
  laidMetH_of_parts3 (fuel := 8) (laidMet_of_run' 8 (by kernel_rfl) (by kernel_rfl)) (by kernel_rfl) (by kernel_rfl)
set_option maxRecDepth 100000 in
theorem lifted (os : Os) (started : os.Started) (H : Type) (enc : TypeId × Value → H) :
    ReturnsInHanded {} Tryd.checked os 8 .any (fun w args => (Rows.dumpDiffsSpec.pre enc Tryd.prog Tryd.f8 [] false w args ∧ laidMetH Tryd.prog Rows.dumpDiffsRow.laid w) ∧ sizedMet enc Tryd.prog Tryd.f8 (OpenSpec.ofChange Rows.dumpDiffsSpec) false w args) (Rows.dumpDiffsSpec.post enc Tryd.prog Tryd.f8 false true false false) := by
  refine returnsInHanded_of_change_and (C := Tryd.checked) (X := fun w _ => laidMetH Tryd.prog Rows.dumpDiffsRow.laid w) (fun _ _ _ hh h => h.of_heap hh) own started (by kernel_rfl) Tryd.func8
    (ChangeSpec.witness_shaped (enc := enc) (C := Tryd.checked) (os := os) (X := fun w _ => laidMetH Tryd.prog Rows.dumpDiffsRow.laid w) false (World.doorLaid Tryd.prog 400 os) #[.slice none 0 0, .slice none 0 0] 8 rfl (World.shaped_of_RefB (by kernel_rfl) (by kernel_rfl)) (by kernel_rfl) (by kernel_rfl) (by kernel_rfl) (door_met os _)) ?_
  intro W base args ds gs before hval0 hW _ _ hL _
  have hval : ∀ (j : Nat) t v, Tryd.f8.params[j]? = some t → args[j]? = some v → Value.okWide Tryd.prog W .any base t v := hval0
  have hW' := hW
  obtain ⟨p, q, hA0, hV, rfl, hfz, hnd⟩ := hW
  have hA : DataW.TrodAll enc Tryd.prog W 0 (fun _ => true) true Tryd.f8.params.toList args.toList ds p := hA0
  rw [Tryd.params8] at hA hval
  obtain ⟨v0, vs0, d0, ds0, p0, q0, hargs, rfl, rfl, h0, r0⟩ := trodAll_cons hA
  obtain ⟨v1, vs1, d1, ds1, p1, q1, rfl, rfl, rfl, h1, r1⟩ := trodAll_cons r0
  obtain ⟨rfl, rfl, rfl⟩ := trodAll_nil r1
  obtain rfl : args = #[v0, v1] := by cases args; simp_all
  obtain ⟨rfl, rfl⟩ := trodVars_none hV
  have k0 := h0
  have lt0 : ∀ x ∈ p0, x.block < W.heap.size := by obtain ⟨m, hm⟩ := k0; exact DataW.trod_lt m _ _ _ hm
  obtain ⟨ad0, len0, cap0, rfl⟩ := okWide_slice Tryd.underlying67 (hval 0 67 v0 rfl rfl)
  obtain ⟨fuel0, hf0⟩ := h0
  obtain ⟨a0, ⟨w0, hw0, hs0⟩, ok0⟩ := rd67 fuel0 _ _ hf0
  cases hw0
  have k1 := h1
  have lt1 : ∀ x ∈ p1, x.block < W.heap.size := by obtain ⟨m, hm⟩ := k1; exact DataW.trod_lt m _ _ _ hm
  obtain ⟨ad1, len1, cap1, rfl⟩ := okWide_slice Tryd.underlying67 (hval 1 67 v1 rfl rfl)
  obtain ⟨fuel1, hf1⟩ := h1
  obtain ⟨a1, ⟨w1, hw1, hs1⟩, ok1⟩ := rd67 fuel1 _ _ hf1
  cases hw1
  clear hA0 hval0
  simp only [List.append_nil] at hW'
  have hLp : laidMet Tryd.prog Rows.dumpDiffsRow.laid W := (Go.MakeChecks.laidMetH_plain _ _ _ (by kernel_rfl)) ▸ hL
  have hLt : laidMet Tryd.prog (("internal/strconv.uint64pow10", Lib.tabData .u64 Lib.pow10Tab) :: Rows.dumpDiffsRow.laid.drop 3) W :=
    (show Rows.dumpDiffsRow.laid.drop 2 = ("internal/strconv.uint64pow10", Lib.tabData .u64 Lib.pow10Tab) :: Rows.dumpDiffsRow.laid.drop 3 by kernel_rfl) ▸ hLp.tail.tail
  have hT : Go.Eng.Tab Tryd.prog (Sto.of W) := Tab.of (Lib.tabIs_of_head (g := 0) (t := 287) (e := 209) (n := 20) (by kernel_rfl) (by kernel_rfl) Tryd.underlying287 Tryd.underlying209 (by kernel_rfl) (by kernel_rfl) hLt)
  have hlaw : Go.Rel.law29_DumpDiffs a0 a1 true := Go.Rel.dumpDiffs_claim ok0 ok1
  refine (Does.calls (w := W) (Go.Rel.law29_DumpDiffs_ok hlaw (Sto.of W) hs0 hs1 hT)).mono fun e W' ⟨v, σ', gs', he, ⟨_, hv⟩, hle, hwo⟩ => ?_
  subst hv
  subst he
  have bel : Below W.heap.size W W' := hwo.below hle
  exact ⟨_, rfl, _, _, _, [], _, [], hW', trodAll_mk1 (shut_bool Tryd.underlying4 _), (trodAll_cons_mk (Below.trod laidOut (by kernel_rfl) (of_decide_eq_true (by kernel_rfl)) k0 bel lt0) (trodAll_cons_mk (Below.trod laidOut (by kernel_rfl) (of_decide_eq_true (by kernel_rfl)) k1 bel lt1) trodAll_mk0)), rfl, bel.frame _, fun h => by cases h⟩

theorem over : Rows.dumpDiffsRow.holds Tryd.pinned (OpenSpec.ofChange Rows.dumpDiffsSpec) :=
  OpenClaim.holds_of_wide 8 Tryd.f8 rfl rfl rfl rfl rfl rfl rfl ⟨rfl, rfl, rfl, rfl, rfl⟩ rfl rfl rfl rfl rfl (by kernel_rfl) Tryd.func8 (by kernel_rfl)
    (of_decide_eq_true (by kernel_rfl)) (by unfold Func.isWrapper; first | (rw [if_pos (by decide +kernel)]; kernel_rfl) | (rw [if_neg (by decide +kernel)]; exact ⟨rfl, rfl⟩))
    (fun os started H enc _ => lifted os started H enc)

theorem proved : Rows.DumpDiffsCardSaid :=
  Claim7.holds_tied_plain_at .later [] [.data, .data, .data] true (true, "ea14998ee8126dbde5e735dadf404859bf5dacd824776a143a140c32d6cbe6b2") true
    over (fun _ h => by cases h) (by kernel_rfl) (fun _ h => by cases h) dumpDiffs_row_tie rfl ⟨rfl, rfl⟩ (by kernel_rfl) rfl
    (fun f fn hf hfn => by
      obtain rfl : f = 8 := Option.some.inj ((show Tryd.prog.funcNamed "cuneiform/cuneiformlaw29.DumpDiffs" = some 8 by kernel_rfl).symm.trans hf) |>.symm
      obtain rfl : fn = Tryd.f8 := (Option.some.inj (Tryd.func8.symm.trans hfn)).symm
      exact ⟨by kernel_rfl, fun j t ht => by
        rw [Tryd.params8] at ht
        have hm : t ∈ [67, 67] := by simpa using Array.mem_of_getElem? ht
        have hall : ([67, 67].all fun u => !Tryd.prog.wantsStandIn u) = true := by kernel_rfl
        exact (show Tryd.prog.wantsStandIn t = false by simpa using List.all_eq_true.1 hall t hm)⟩)
    (by kernel_rfl)
#print axioms proved
end Go.Proofs.YtgokdchgjpneoaaDoor.DumpDiffsDone
