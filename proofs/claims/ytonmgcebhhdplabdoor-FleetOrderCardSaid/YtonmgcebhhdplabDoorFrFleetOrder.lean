/- Messages of unlike robots may come in any order: those of one robot, then those of all others, make a fleet that is the same and tells the same lines. -/
import Derived.Test.YtonmgcebhhdplabDoorRows
import Derived.Test.YtonmgcebhhdplabDoorCards
import Derived.Test.YtonmgcebhhdplabDoorTie
import Derived.LaidMore
import Derived.SevenTiedAt
import Derived.Stop.Joined
import Derived.Test.YtonmgcebhhdplabDoorUWalk
import Derived.Test.YtonmgcebhhdplabDoorPlM2
import Derived.Test.YtonmgcebhhdplabDoorEngR
import Derived.ProofKit
import Derived.MakeChecks
import Derived.Stop.LaidErr
import Derived.Lib.LaidTab
import Derived.OpenShut
import Derived.ShutString
import Derived.ChangeOld
import Derived.Below
import Derived.Lib.SmallJoins
namespace Go.Proofs.YtonmgcebhhdplabDoor.FleetOrderDone
open Go.ChangeShapes Go.WideShapes Go.ChangeAt Go.RowKit Go.Joins Go.Eng
open Go.ChangeMaps (open_string shut_string)
set_option linter.unusedVariables false

theorem own : ownKnob Tryd.prog.godebug = none := by kernel_rfl
theorem laidOut : laidOutB Tryd.prog = true := by kernel_rfl
theorem rd3 {H : Type} {enc : TypeId × Value → H} {W : World} : Reads enc Tryd.prog W 3 (kI .i64) (IntOk .i64) := reads_int Tryd.underlying3
theorem rd35 {H : Type} {enc : TypeId × Value → H} {W : World} : Reads enc Tryd.prog W 35 (kA .i64 6) (fun xs : List Int => xs.length = 6 ∧ ∀ x ∈ xs, (IntOk .i64) x) := reads_arrI Tryd.underlying35 Tryd.underlying3 (by kernel_rfl) (by kernel_rfl)
theorem rd109 {H : Type} {enc : TypeId × Value → H} {W : World} : Reads enc Tryd.prog W 109 (kP (kI .i64) (kI .i64)) (fun x : (Int × Int) => (IntOk .i64) x.1 ∧ (IntOk .i64) x.2) := reads_struct Tryd.underlying109 (by kernel_rfl) (readsF_cons (ok := (IntOk .i64)) rfl (by kernel_rfl) rd3 (readsF_last (ok := (IntOk .i64)) rfl (by kernel_rfl) rd3))
theorem rd36 {H : Type} {enc : TypeId × Value → H} {W : World} : Reads enc Tryd.prog W 36 (kSl (kP (kI .i64) (kI .i64))) (ListOk (fun x : (Int × Int) => (IntOk .i64) x.1 ∧ (IntOk .i64) x.2)) := reads_slice Tryd.underlying36 (by kernel_rfl) (by decide) rd109
theorem rd37 {H : Type} {enc : TypeId × Value → H} {W : World} : Reads enc Tryd.prog W 37 (kSl (kI .i64)) (ListOk (IntOk .i64)) := reads_slice Tryd.underlying37 (by kernel_rfl) (by decide) rd3
theorem rd9 {H : Type} {enc : TypeId × Value → H} {W : World} : Reads enc Tryd.prog W 9 kS StrOk := reads_string Tryd.underlying9
theorem rd39 {H : Type} {enc : TypeId × Value → H} {W : World} : Reads enc Tryd.prog W 39 (kP (kI .i64) (kP (kA .i64 6) (kP (kSl (kP (kI .i64) (kI .i64))) (kP (kSl (kI .i64)) (kP kS kS))))) (fun x : (Int × ((List Int) × ((List (Int × Int)) × ((List Int) × (ByteArray × ByteArray))))) => (IntOk .i64) x.1 ∧ (fun x : ((List Int) × ((List (Int × Int)) × ((List Int) × (ByteArray × ByteArray)))) => (fun xs : List Int => xs.length = 6 ∧ ∀ x ∈ xs, (IntOk .i64) x) x.1 ∧ (fun x : ((List (Int × Int)) × ((List Int) × (ByteArray × ByteArray))) => (ListOk (fun x : (Int × Int) => (IntOk .i64) x.1 ∧ (IntOk .i64) x.2)) x.1 ∧ (fun x : ((List Int) × (ByteArray × ByteArray)) => (ListOk (IntOk .i64)) x.1 ∧ (fun x : (ByteArray × ByteArray) => StrOk x.1 ∧ StrOk x.2) x.2) x.2) x.2) x.2) := reads_struct Tryd.underlying39 (by kernel_rfl) (readsF_cons (ok := (IntOk .i64)) rfl (by kernel_rfl) rd3 (readsF_cons (ok := (fun xs : List Int => xs.length = 6 ∧ ∀ x ∈ xs, (IntOk .i64) x)) rfl (by kernel_rfl) rd35 (readsF_cons (ok := (ListOk (fun x : (Int × Int) => (IntOk .i64) x.1 ∧ (IntOk .i64) x.2))) rfl (by kernel_rfl) rd36 (readsF_cons (ok := (ListOk (IntOk .i64))) rfl (by kernel_rfl) rd37 (readsF_cons (ok := StrOk) rfl (by kernel_rfl) rd9 (readsF_last (ok := StrOk) rfl (by kernel_rfl) rd9))))))
theorem rd32 {H : Type} {enc : TypeId × Value → H} {W : World} : Reads enc Tryd.prog W 32 (kSl (kP (kI .i64) (kP (kA .i64 6) (kP (kSl (kP (kI .i64) (kI .i64))) (kP (kSl (kI .i64)) (kP kS kS)))))) (ListOk (fun x : (Int × ((List Int) × ((List (Int × Int)) × ((List Int) × (ByteArray × ByteArray))))) => (IntOk .i64) x.1 ∧ (fun x : ((List Int) × ((List (Int × Int)) × ((List Int) × (ByteArray × ByteArray)))) => (fun xs : List Int => xs.length = 6 ∧ ∀ x ∈ xs, (IntOk .i64) x) x.1 ∧ (fun x : ((List (Int × Int)) × ((List Int) × (ByteArray × ByteArray))) => (ListOk (fun x : (Int × Int) => (IntOk .i64) x.1 ∧ (IntOk .i64) x.2)) x.1 ∧ (fun x : ((List Int) × (ByteArray × ByteArray)) => (ListOk (IntOk .i64)) x.1 ∧ (fun x : (ByteArray × ByteArray) => StrOk x.1 ∧ StrOk x.2) x.2) x.2) x.2) x.2)) := reads_slice Tryd.underlying32 (by kernel_rfl) (by decide) rd39

set_option maxRecDepth 100000 in
theorem door_met (os : Os) (args : Array Value) : laidMetH Tryd.prog Rows.fleetOrderRow.laid ((World.doorLaid Tryd.prog 400 os).forCall (fun _ _ => 0) ⟨#[], args, []⟩).memory :=
  laidMetH_of_parts3 (fuel := 8) (laidMet_of_run' 8 (by kernel_rfl) (by kernel_rfl)) (by kernel_rfl) (by kernel_rfl)
set_option maxRecDepth 100000 in
theorem lifted (os : Os) (started : os.Started) (H : Type) (enc : TypeId × Value → H) :
    ReturnsInHanded {} Tryd.checked os 4 .any (fun w args => (Rows.fleetOrderSpec.pre enc Tryd.prog Tryd.f4 [] false w args ∧ laidMetH Tryd.prog Rows.fleetOrderRow.laid w) ∧ sizedMet enc Tryd.prog Tryd.f4 (OpenSpec.ofChange Rows.fleetOrderSpec) false w args) (Rows.fleetOrderSpec.post enc Tryd.prog Tryd.f4 false true false false) := by
  refine returnsInHanded_of_change_and (C := Tryd.checked) (X := fun w _ => laidMetH Tryd.prog Rows.fleetOrderRow.laid w) (fun _ _ _ hh h => h.of_heap hh) own started (by kernel_rfl) Tryd.func4
    (ChangeSpec.witness_shaped (enc := enc) (C := Tryd.checked) (os := os) (X := fun w _ => laidMetH Tryd.prog Rows.fleetOrderRow.laid w) false (World.doorLaid Tryd.prog 400 os) #[.slice none 0 0, .int .i64 0] 8 rfl (World.shaped_of_RefB (by kernel_rfl) (by kernel_rfl)) (by kernel_rfl) (by kernel_rfl) (by kernel_rfl) (door_met os _)) ?_
  intro W base args ds gs before hval0 hW _ _ hL _
  have hval : ∀ (j : Nat) t v, Tryd.f4.params[j]? = some t → args[j]? = some v → Value.okWide Tryd.prog W .any base t v := hval0
  have hW' := hW
  obtain ⟨p, q, hA0, hV, rfl, hfz, hnd⟩ := hW
  have hA : DataW.TrodAll enc Tryd.prog W 0 (fun _ => true) true Tryd.f4.params.toList args.toList ds p := hA0
  rw [Tryd.params4] at hA hval
  obtain ⟨v0, vs0, d0, ds0, p0, q0, hargs, rfl, rfl, h0, r0⟩ := trodAll_cons hA
  obtain ⟨v1, vs1, d1, ds1, p1, q1, rfl, rfl, rfl, h1, r1⟩ := trodAll_cons r0
  obtain ⟨rfl, rfl, rfl⟩ := trodAll_nil r1
  obtain rfl : args = #[v0, v1] := by cases args; simp_all
  obtain ⟨rfl, rfl⟩ := trodVars_none hV
  have k0 := h0
  have lt0 : ∀ x ∈ p0, x.block < W.heap.size := by obtain ⟨m, hm⟩ := k0; exact DataW.trod_lt m _ _ _ hm
  obtain ⟨ad0, len0, cap0, rfl⟩ := okWide_slice Tryd.underlying32 (hval 0 32 v0 rfl rfl)
  obtain ⟨fuel0, hf0⟩ := h0
  obtain ⟨a0, ⟨w0, hw0, hs0⟩, ok0⟩ := rd32 fuel0 _ _ hf0
  cases hw0
  have k1 := h1
  have lt1 : ∀ x ∈ p1, x.block < W.heap.size := by obtain ⟨m, hm⟩ := k1; exact DataW.trod_lt m _ _ _ hm
  obtain ⟨a1, rfl, rfl, rfl, w1⟩ := open_int Tryd.underlying3 (hval 1 3 v1 rfl rfl) h1
  have ok1 := wf_ok w1
  clear hA0 hval0
  simp only [List.append_nil] at hW'
  have hLp : laidMet Tryd.prog Rows.fleetOrderRow.laid W := (Go.MakeChecks.laidMetH_plain _ _ _ (by kernel_rfl)) ▸ hL
  have hLt : laidMet Tryd.prog (("internal/strconv.uint64pow10", Lib.tabData .u64 Lib.pow10Tab) :: Rows.fleetOrderRow.laid.drop 3) W :=
    (show Rows.fleetOrderRow.laid.drop 2 = ("internal/strconv.uint64pow10", Lib.tabData .u64 Lib.pow10Tab) :: Rows.fleetOrderRow.laid.drop 3 by kernel_rfl) ▸ hLp.tail.tail
  have hT : Go.Eng.Tab Tryd.prog (Sto.of W) := Tab.of (Lib.tabIs_of_head (g := 0) (t := 186) (e := 150) (n := 20) (by kernel_rfl) (by kernel_rfl) Tryd.underlying186 Tryd.underlying150 (by kernel_rfl) (by kernel_rfl) hLt)
  have hlaw : Go.Rel.law30_FleetOrder a0 a1 true := Go.Rel.fleetOrder_claim ok0 ok1
  refine (Does.calls (w := W) (Go.Rel.law30_FleetOrder_ok hlaw (Sto.of W) hs0 hT)).mono fun e W' ⟨v, σ', gs', he, ⟨_, hv⟩, hle, hwo⟩ => ?_
  subst hv
  subst he
  have bel : Below W.heap.size W W' := hwo.below hle
  exact ⟨_, rfl, _, _, _, [], _, [], hW', trodAll_mk1 (shut_bool Tryd.underlying4 _), (trodAll_cons_mk (Below.trod laidOut (by kernel_rfl) (of_decide_eq_true (by kernel_rfl)) k0 bel lt0) (trodAll_cons_mk (shut_int Tryd.underlying3 w1) trodAll_mk0)), rfl, bel.frame _, fun h => by cases h⟩

theorem over : Rows.fleetOrderRow.holds Tryd.pinned (OpenSpec.ofChange Rows.fleetOrderSpec) :=
  OpenClaim.holds_of_wide 4 Tryd.f4 rfl rfl rfl rfl rfl rfl rfl ⟨rfl, rfl, rfl, rfl, rfl⟩ rfl rfl rfl rfl rfl (by kernel_rfl) Tryd.func4 (by kernel_rfl)
    (of_decide_eq_true (by kernel_rfl)) (by unfold Func.isWrapper; first | (rw [if_pos (by decide +kernel)]; kernel_rfl) | (rw [if_neg (by decide +kernel)]; exact ⟨rfl, rfl⟩))
    (fun os started H enc _ => lifted os started H enc)

theorem proved : Rows.FleetOrderCardSaid :=
  Claim7.holds_tied_plain_at .later [] [.data, .data, .data] true (true, "09a34aa2e8e74f8c3e6a36b98b284e3017b726ba49faeeb0cc0fc01d11ab4acd") true
    over (fun _ h => by cases h) (by kernel_rfl) (fun _ h => by cases h) fleetOrder_row_tie rfl ⟨rfl, rfl⟩ (by kernel_rfl) rfl
    (fun f fn hf hfn => by
      obtain rfl : f = 4 := Option.some.inj ((show Tryd.prog.funcNamed "cuneiform/cuneiformlaw30.FleetOrder" = some 4 by kernel_rfl).symm.trans hf) |>.symm
      obtain rfl : fn = Tryd.f4 := (Option.some.inj (Tryd.func4.symm.trans hfn)).symm
      exact ⟨by kernel_rfl, fun j t ht => by
        rw [Tryd.params4] at ht
        have hm : t ∈ [32, 3] := by simpa using Array.mem_of_getElem? ht
        have hall : ([32, 3].all fun u => !Tryd.prog.wantsStandIn u) = true := by kernel_rfl
        exact (show Tryd.prog.wantsStandIn t = false by simpa using List.all_eq_true.1 hall t hm)⟩)
    (by kernel_rfl)
#print axioms proved
end Go.Proofs.YtonmgcebhhdplabDoor.FleetOrderDone
