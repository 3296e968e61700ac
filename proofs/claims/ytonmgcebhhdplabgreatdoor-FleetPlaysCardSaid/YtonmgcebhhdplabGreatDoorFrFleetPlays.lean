/- Whatever messages come to a fleet, and whatever is released, all that is told is the document's answer; copies go on alone. -/
import Derived.Test.YtonmgcebhhdplabGreatDoorRows
import Derived.Test.YtonmgcebhhdplabGreatDoorCards
import Derived.Test.YtonmgcebhhdplabGreatDoorTie
import Derived.LaidMore
import Derived.SevenTiedAt
import Derived.Stop.Joined
import Derived.Test.YtonmgcebhhdplabGreatDoorUWalk
import Derived.Test.YtonmgcebhhdplabGreatDoorPlM2
import Derived.Test.YtonmgcebhhdplabGreatDoorEngR
import Derived.ProofKit
import Derived.MakeChecks
import Derived.Stop.LaidErr
import Derived.Lib.LaidTab
import Derived.OpenShut
import Derived.ShutString
import Derived.ChangeOld
import Derived.Below
import Derived.Lib.SmallJoins
namespace Go.Proofs.YtonmgcebhhdplabGreatDoor.FleetPlaysDone
open Go.ChangeShapes Go.WideShapes Go.ChangeAt Go.RowKit Go.Joins Go.Eng
open Go.ChangeMaps (open_string shut_string)
set_option linter.unusedVariables false

theorem own : ownKnob Tryz.prog.godebug = none := by kernel_rfl
theorem laidOut : laidOutB Tryz.prog = true := by kernel_rfl
theorem rd3 {H : Type} {enc : TypeId × Value → H} {W : World} : Reads enc Tryz.prog W 3 (kI .i64) (IntOk .i64) := reads_int Tryz.underlying3
theorem rd29 {H : Type} {enc : TypeId × Value → H} {W : World} : Reads enc Tryz.prog W 29 (kA .i64 6) (fun xs : List Int => xs.length = 6 ∧ ∀ x ∈ xs, (IntOk .i64) x) := reads_arrI Tryz.underlying29 Tryz.underlying3 (by kernel_rfl) (by kernel_rfl)
theorem rd82 {H : Type} {enc : TypeId × Value → H} {W : World} : Reads enc Tryz.prog W 82 (kP (kI .i64) (kI .i64)) (fun x : (Int × Int) => (IntOk .i64) x.1 ∧ (IntOk .i64) x.2) := reads_struct Tryz.underlying82 (by kernel_rfl) (readsF_cons (ok := (IntOk .i64)) rfl (by kernel_rfl) rd3 (readsF_last (ok := (IntOk .i64)) rfl (by kernel_rfl) rd3))
theorem rd30 {H : Type} {enc : TypeId × Value → H} {W : World} : Reads enc Tryz.prog W 30 (kSl (kP (kI .i64) (kI .i64))) (ListOk (fun x : (Int × Int) => (IntOk .i64) x.1 ∧ (IntOk .i64) x.2)) := reads_slice Tryz.underlying30 (by kernel_rfl) (by decide) rd82
theorem rd31 {H : Type} {enc : TypeId × Value → H} {W : World} : Reads enc Tryz.prog W 31 (kSl (kI .i64)) (ListOk (IntOk .i64)) := reads_slice Tryz.underlying31 (by kernel_rfl) (by decide) rd3
theorem rd9 {H : Type} {enc : TypeId × Value → H} {W : World} : Reads enc Tryz.prog W 9 kS StrOk := reads_string Tryz.underlying9
theorem rd33 {H : Type} {enc : TypeId × Value → H} {W : World} : Reads enc Tryz.prog W 33 (kP (kI .i64) (kP (kA .i64 6) (kP (kSl (kP (kI .i64) (kI .i64))) (kP (kSl (kI .i64)) (kP kS kS))))) (fun x : (Int × ((List Int) × ((List (Int × Int)) × ((List Int) × (ByteArray × ByteArray))))) => (IntOk .i64) x.1 ∧ (fun x : ((List Int) × ((List (Int × Int)) × ((List Int) × (ByteArray × ByteArray)))) => (fun xs : List Int => xs.length = 6 ∧ ∀ x ∈ xs, (IntOk .i64) x) x.1 ∧ (fun x : ((List (Int × Int)) × ((List Int) × (ByteArray × ByteArray))) => (ListOk (fun x : (Int × Int) => (IntOk .i64) x.1 ∧ (IntOk .i64) x.2)) x.1 ∧ (fun x : ((List Int) × (ByteArray × ByteArray)) => (ListOk (IntOk .i64)) x.1 ∧ (fun x : (ByteArray × ByteArray) => StrOk x.1 ∧ StrOk x.2) x.2) x.2) x.2) x.2) := reads_struct Tryz.underlying33 (by kernel_rfl) (readsF_cons (ok := (IntOk .i64)) rfl (by kernel_rfl) rd3 (readsF_cons (ok := (fun xs : List Int => xs.length = 6 ∧ ∀ x ∈ xs, (IntOk .i64) x)) rfl (by kernel_rfl) rd29 (readsF_cons (ok := (ListOk (fun x : (Int × Int) => (IntOk .i64) x.1 ∧ (IntOk .i64) x.2))) rfl (by kernel_rfl) rd30 (readsF_cons (ok := (ListOk (IntOk .i64))) rfl (by kernel_rfl) rd31 (readsF_cons (ok := StrOk) rfl (by kernel_rfl) rd9 (readsF_last (ok := StrOk) rfl (by kernel_rfl) rd9))))))
theorem rd35 {H : Type} {enc : TypeId × Value → H} {W : World} : Reads enc Tryz.prog W 35 (kP (kI .i64) (kP (kI .i64) (kP (kI .i64) (kP (kI .i64) (kP (kI .i64) (kP (kA .i64 6) (kP (kSl (kP (kI .i64) (kI .i64))) (kP (kSl (kI .i64)) (kP kS kS))))))))) (fun x : (Int × (Int × (Int × (Int × (Int × List Int × List (Int × Int) × List Int × ByteArray × ByteArray))))) => (IntOk .i64) x.1 ∧ (fun x : (Int × (Int × (Int × (Int × List Int × List (Int × Int) × List Int × ByteArray × ByteArray)))) => (IntOk .i64) x.1 ∧ (fun x : (Int × (Int × (Int × List Int × List (Int × Int) × List Int × ByteArray × ByteArray))) => (IntOk .i64) x.1 ∧ (fun x : (Int × (Int × List Int × List (Int × Int) × List Int × ByteArray × ByteArray)) => (IntOk .i64) x.1 ∧ (fun x : (Int × ((List Int) × ((List (Int × Int)) × ((List Int) × (ByteArray × ByteArray))))) => (IntOk .i64) x.1 ∧ (fun x : ((List Int) × ((List (Int × Int)) × ((List Int) × (ByteArray × ByteArray)))) => (fun xs : List Int => xs.length = 6 ∧ ∀ x ∈ xs, (IntOk .i64) x) x.1 ∧ (fun x : ((List (Int × Int)) × ((List Int) × (ByteArray × ByteArray))) => (ListOk (fun x : (Int × Int) => (IntOk .i64) x.1 ∧ (IntOk .i64) x.2)) x.1 ∧ (fun x : ((List Int) × (ByteArray × ByteArray)) => (ListOk (IntOk .i64)) x.1 ∧ (fun x : (ByteArray × ByteArray) => StrOk x.1 ∧ StrOk x.2) x.2) x.2) x.2) x.2) x.2) x.2) x.2) x.2) := reads_struct Tryz.underlying35 (by kernel_rfl) (readsF_cons (ok := (IntOk .i64)) rfl (by kernel_rfl) rd3 (readsF_cons (ok := (IntOk .i64)) rfl (by kernel_rfl) rd3 (readsF_cons (ok := (IntOk .i64)) rfl (by kernel_rfl) rd3 (readsF_cons (ok := (IntOk .i64)) rfl (by kernel_rfl) rd3 (readsF_last (ok := (fun x : (Int × ((List Int) × ((List (Int × Int)) × ((List Int) × (ByteArray × ByteArray))))) => (IntOk .i64) x.1 ∧ (fun x : ((List Int) × ((List (Int × Int)) × ((List Int) × (ByteArray × ByteArray)))) => (fun xs : List Int => xs.length = 6 ∧ ∀ x ∈ xs, (IntOk .i64) x) x.1 ∧ (fun x : ((List (Int × Int)) × ((List Int) × (ByteArray × ByteArray))) => (ListOk (fun x : (Int × Int) => (IntOk .i64) x.1 ∧ (IntOk .i64) x.2)) x.1 ∧ (fun x : ((List Int) × (ByteArray × ByteArray)) => (ListOk (IntOk .i64)) x.1 ∧ (fun x : (ByteArray × ByteArray) => StrOk x.1 ∧ StrOk x.2) x.2) x.2) x.2) x.2)) rfl (by kernel_rfl) rd33)))))
theorem rd22 {H : Type} {enc : TypeId × Value → H} {W : World} : Reads enc Tryz.prog W 22 (kSl (kP (kI .i64) (kP (kI .i64) (kP (kI .i64) (kP (kI .i64) (kP (kI .i64) (kP (kA .i64 6) (kP (kSl (kP (kI .i64) (kI .i64))) (kP (kSl (kI .i64)) (kP kS kS)))))))))) (ListOk (fun x : (Int × (Int × (Int × (Int × (Int × List Int × List (Int × Int) × List Int × ByteArray × ByteArray))))) => (IntOk .i64) x.1 ∧ (fun x : (Int × (Int × (Int × (Int × List Int × List (Int × Int) × List Int × ByteArray × ByteArray)))) => (IntOk .i64) x.1 ∧ (fun x : (Int × (Int × (Int × List Int × List (Int × Int) × List Int × ByteArray × ByteArray))) => (IntOk .i64) x.1 ∧ (fun x : (Int × (Int × List Int × List (Int × Int) × List Int × ByteArray × ByteArray)) => (IntOk .i64) x.1 ∧ (fun x : (Int × ((List Int) × ((List (Int × Int)) × ((List Int) × (ByteArray × ByteArray))))) => (IntOk .i64) x.1 ∧ (fun x : ((List Int) × ((List (Int × Int)) × ((List Int) × (ByteArray × ByteArray)))) => (fun xs : List Int => xs.length = 6 ∧ ∀ x ∈ xs, (IntOk .i64) x) x.1 ∧ (fun x : ((List (Int × Int)) × ((List Int) × (ByteArray × ByteArray))) => (ListOk (fun x : (Int × Int) => (IntOk .i64) x.1 ∧ (IntOk .i64) x.2)) x.1 ∧ (fun x : ((List Int) × (ByteArray × ByteArray)) => (ListOk (IntOk .i64)) x.1 ∧ (fun x : (ByteArray × ByteArray) => StrOk x.1 ∧ StrOk x.2) x.2) x.2) x.2) x.2) x.2) x.2) x.2) x.2)) := reads_slice Tryz.underlying22 (by kernel_rfl) (by decide) rd35

set_option maxRecDepth 100000 in
theorem door_met (os : Os) (args : Array Value) : laidMetH Tryz.prog Rows.fleetPlaysRow.laid ((World.doorLaid Tryz.prog 400 os).forCall (fun _ _ => 0) ⟨#[], args, []⟩).memory :=
 laidMetH_of_parts3 (fuel := 8) (laidMet_of_run' 8 (by kernel_rfl) (by kernel_rfl)) (by kernel_rfl) (by kernel_rfl)
set_option maxRecDepth 100000 in
theorem lifted (os : Os) (started : os.Started) (H : Type) (enc : TypeId × Value → H) :
    ReturnsInHanded {} Tryz.checked os 3 .any (fun w args => (Rows.fleetPlaysSpec.pre enc Tryz.prog Tryz.f3 [] false w args ∧ laidMetH Tryz.prog Rows.fleetPlaysRow.laid w) ∧ sizedMet enc Tryz.prog Tryz.f3 (OpenSpec.ofChange Rows.fleetPlaysSpec) false w args) (Rows.fleetPlaysSpec.post enc Tryz.prog Tryz.f3 false true false false) := by
  refine returnsInHanded_of_change_and (C := Tryz.checked) (X := fun w _ => laidMetH Tryz.prog Rows.fleetPlaysRow.laid w) (fun _ _ _ hh h => h.of_heap hh) own started (by kernel_rfl) Tryz.func3
    (ChangeSpec.witness_shaped (enc := enc) (C := Tryz.checked) (os := os) (X := fun w _ => laidMetH Tryz.prog Rows.fleetPlaysRow.laid w) false (World.doorLaid Tryz.prog 400 os) #[.slice none 0 0] 8 rfl (World.shaped_of_RefB (by kernel_rfl) (by kernel_rfl)) (by kernel_rfl) (by kernel_rfl) (by kernel_rfl) (door_met os _)) ?_
  intro W base args ds gs before hval0 hW _ _ hL _
  have hval : ∀ (j : Nat) t v, Tryz.f3.params[j]? = some t → args[j]? = some v → Value.okWide Tryz.prog W .any base t v := hval0
  have hW' := hW
  obtain ⟨p, q, hA0, hV, rfl, hfz, hnd⟩ := hW
  have hA : DataW.TrodAll enc Tryz.prog W 0 (fun _ => true) true Tryz.f3.params.toList args.toList ds p := hA0
  rw [Tryz.params3] at hA hval
  obtain ⟨v0, vs0, d0, ds0, p0, q0, hargs, rfl, rfl, h0, r0⟩ := trodAll_cons hA
  obtain ⟨rfl, rfl, rfl⟩ := trodAll_nil r0
  obtain rfl : args = #[v0] := by cases args; simp_all
  obtain ⟨rfl, rfl⟩ := trodVars_none hV
  have k0 := h0
  have lt0 : ∀ x ∈ p0, x.block < W.heap.size := by obtain ⟨m, hm⟩ := k0; exact DataW.trod_lt m _ _ _ hm
  obtain ⟨ad0, len0, cap0, rfl⟩ := okWide_slice Tryz.underlying22 (hval 0 22 v0 rfl rfl)
  obtain ⟨fuel0, hf0⟩ := h0
  obtain ⟨a0, ⟨w0, hw0, hs0⟩, ok0⟩ := rd22 fuel0 _ _ hf0
  cases hw0
  clear hA0 hval0
  simp only [List.append_nil] at hW'
  have hLp : laidMet Tryz.prog Rows.fleetPlaysRow.laid W := (Go.MakeChecks.laidMetH_plain _ _ _ (by kernel_rfl)) ▸ hL
  have hLt : laidMet Tryz.prog (("internal/strconv.uint64pow10", Lib.tabData .u64 Lib.pow10Tab) :: Rows.fleetPlaysRow.laid.drop 3) W :=
    (show Rows.fleetPlaysRow.laid.drop 2 = ("internal/strconv.uint64pow10", Lib.tabData .u64 Lib.pow10Tab) :: Rows.fleetPlaysRow.laid.drop 3 by kernel_rfl) ▸ hLp.tail.tail
  have hT : Go.Eng.Tab Tryz.prog (Sto.of W) := Tab.of (Lib.tabIs_of_head (g := 0) (t := 185) (e := 156) (n := 20) (by kernel_rfl) (by kernel_rfl) Tryz.underlying185 Tryz.underlying156 (by kernel_rfl) (by kernel_rfl) hLt)
  have hlaw : Go.Rel.law30_FleetPlays a0 true := Go.Rel.fleetPlays_claim ok0
  refine (Does.calls (w := W) (Go.Rel.law30_FleetPlays_ok hlaw (Sto.of W) hs0 hT)).mono fun e W' ⟨v, σ', gs', he, ⟨_, hv⟩, hle, hwo⟩ => ?_
  subst hv
  subst he
  have bel : Below W.heap.size W W' := hwo.below hle
  exact ⟨_, rfl, _, _, _, [], _, [], hW', trodAll_mk1 (shut_bool Tryz.underlying4 _), (trodAll_cons_mk (Below.trod laidOut (by kernel_rfl) (of_decide_eq_true (by kernel_rfl)) k0 bel lt0) trodAll_mk0), rfl, bel.frame _, fun h => by cases h⟩

theorem over : Rows.fleetPlaysRow.holds Tryz.pinned (OpenSpec.ofChange Rows.fleetPlaysSpec) :=
 OpenClaim.holds_of_wide 3 Tryz.f3 rfl rfl rfl rfl rfl rfl rfl ⟨rfl, rfl, rfl, rfl, rfl⟩ rfl rfl rfl rfl rfl (by kernel_rfl) Tryz.func3 (by kernel_rfl)
  (of_decide_eq_true (by kernel_rfl)) (by unfold Func.isWrapper; first | (rw [if_pos (by decide +kernel)]; kernel_rfl) | (rw [if_neg (by decide +kernel)]; exact ⟨rfl, rfl⟩))
  (fun os started H enc _ => lifted os started H enc)

theorem proved : Rows.FleetPlaysCardSaid :=
 Claim7.holds_tied_plain_at .later [] [.data, .data, .data] true (true, "91703fae027d2ee82337049127d31340a3f8210fe45adb4909dc571d05463617") true
  over (fun _ h => by cases h) (by kernel_rfl) (fun _ h => by cases h) fleetPlays_row_tie rfl ⟨rfl, rfl⟩ (by kernel_rfl) rfl
  (fun f fn hf hfn => by
   obtain rfl : f = 3 := Option.some.inj ((show Tryz.prog.funcNamed "cuneiform/cuneiformlaw30.FleetPlays" = some 3 by kernel_rfl).symm.trans hf) |>.symm
   obtain rfl : fn = Tryz.f3 := (Option.some.inj (Tryz.func3.symm.trans hfn)).symm
   exact ⟨by kernel_rfl, fun j t ht => by
    rw [Tryz.params3] at ht
    have hm : t ∈ [22] := by simpa using Array.mem_of_getElem? ht
    have hall : ([22].all fun u => !Tryz.prog.wantsStandIn u) = true := by kernel_rfl
    exact (show Tryz.prog.wantsStandIn t = false by simpa using List.all_eq_true.1 hall t hm)⟩)
  (by kernel_rfl)
#print axioms proved
end Go.Proofs.YtonmgcebhhdplabGreatDoor.FleetPlaysDone
