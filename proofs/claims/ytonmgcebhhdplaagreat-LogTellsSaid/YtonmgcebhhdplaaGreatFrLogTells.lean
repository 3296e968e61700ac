/- the log of any events -/
import Derived.Test.YtonmgcebhhdplaaGreatRows
import Derived.Test.YtonmgcebhhdplaaGreatUWalk
import Derived.Test.YtonmgcebhhdplaaGreatPlM2
import Derived.Test.YtonmgcebhhdplaaGreatEngR
import Derived.ProofKit
import Derived.OpenShut
import Derived.ShutString
import Derived.ChangeOld
import Derived.Below
import Derived.Lib.SmallJoins
namespace Go.Proofs.YtonmgcebhhdplaaGreat.LogTellsDone
open Go.ChangeShapes Go.WideShapes Go.ChangeAt Go.RowKit Go.Joins Go.Eng
open Go.ChangeMaps (open_string shut_string)
set_option linter.unusedVariables false

theorem own : ownKnob Tryz.prog.godebug = none := by kernel_rfl
theorem laidOut : laidOutB Tryz.prog = true := by kernel_rfl
theorem rd3 {H : Type} {enc : TypeId × Value → H} {W : World} : Reads enc Tryz.prog W 3 (kI .i64) (IntOk .i64) := reads_int Tryz.underlying3
theorem rd24 {H : Type} {enc : TypeId × Value → H} {W : World} : Reads enc Tryz.prog W 24 (kI .u32) (IntOk .u32) := reads_int Tryz.underlying24
theorem rd25 {H : Type} {enc : TypeId × Value → H} {W : World} : Reads enc Tryz.prog W 25 (kI .i64) (IntOk .i64) := reads_int Tryz.underlying25
theorem rd26 {H : Type} {enc : TypeId × Value → H} {W : World} : Reads enc Tryz.prog W 26 (kA .i64 6) (fun xs : List Int => xs.length = 6 ∧ ∀ x ∈ xs, (IntOk .i64) x) := reads_arrI Tryz.underlying26 Tryz.underlying3 (by kernel_rfl) (by kernel_rfl)
theorem rd84 {H : Type} {enc : TypeId × Value → H} {W : World} : Reads enc Tryz.prog W 84 (kP (kI .i64) (kI .i64)) (fun x : (Int × Int) => (IntOk .i64) x.1 ∧ (IntOk .i64) x.2) := reads_struct Tryz.underlying84 (by kernel_rfl) (readsF_cons (ok := (IntOk .i64)) rfl (by kernel_rfl) rd3 (readsF_last (ok := (IntOk .i64)) rfl (by kernel_rfl) rd3))
theorem rd27 {H : Type} {enc : TypeId × Value → H} {W : World} : Reads enc Tryz.prog W 27 (kSl (kP (kI .i64) (kI .i64))) (ListOk (fun x : (Int × Int) => (IntOk .i64) x.1 ∧ (IntOk .i64) x.2)) := reads_slice Tryz.underlying27 (by kernel_rfl) (by decide) rd84
theorem rd28 {H : Type} {enc : TypeId × Value → H} {W : World} : Reads enc Tryz.prog W 28 (kSl (kI .i64)) (ListOk (IntOk .i64)) := reads_slice Tryz.underlying28 (by kernel_rfl) (by decide) rd3
theorem rd9 {H : Type} {enc : TypeId × Value → H} {W : World} : Reads enc Tryz.prog W 9 kS StrOk := reads_string Tryz.underlying9
theorem rd30 {H : Type} {enc : TypeId × Value → H} {W : World} : Reads enc Tryz.prog W 30 (kP (kI .i64) (kP (kA .i64 6) (kP (kSl (kP (kI .i64) (kI .i64))) (kP (kSl (kI .i64)) (kP kS kS))))) (fun x : (Int × ((List Int) × ((List (Int × Int)) × ((List Int) × (ByteArray × ByteArray))))) => (IntOk .i64) x.1 ∧ (fun x : ((List Int) × ((List (Int × Int)) × ((List Int) × (ByteArray × ByteArray)))) => (fun xs : List Int => xs.length = 6 ∧ ∀ x ∈ xs, (IntOk .i64) x) x.1 ∧ (fun x : ((List (Int × Int)) × ((List Int) × (ByteArray × ByteArray))) => (ListOk (fun x : (Int × Int) => (IntOk .i64) x.1 ∧ (IntOk .i64) x.2)) x.1 ∧ (fun x : ((List Int) × (ByteArray × ByteArray)) => (ListOk (IntOk .i64)) x.1 ∧ (fun x : (ByteArray × ByteArray) => StrOk x.1 ∧ StrOk x.2) x.2) x.2) x.2) x.2) := reads_struct Tryz.underlying30 (by kernel_rfl) (readsF_cons (ok := (IntOk .i64)) rfl (by kernel_rfl) rd3 (readsF_cons (ok := (fun xs : List Int => xs.length = 6 ∧ ∀ x ∈ xs, (IntOk .i64) x)) rfl (by kernel_rfl) rd26 (readsF_cons (ok := (ListOk (fun x : (Int × Int) => (IntOk .i64) x.1 ∧ (IntOk .i64) x.2))) rfl (by kernel_rfl) rd27 (readsF_cons (ok := (ListOk (IntOk .i64))) rfl (by kernel_rfl) rd28 (readsF_cons (ok := StrOk) rfl (by kernel_rfl) rd9 (readsF_last (ok := StrOk) rfl (by kernel_rfl) rd9))))))
theorem rd32 {H : Type} {enc : TypeId × Value → H} {W : World} : Reads enc Tryz.prog W 32 (kP (kI .i64) (kP (kI .u32) (kP (kI .i64) (kP (kI .i64) (kP (kI .i64) (kP (kA .i64 6) (kP (kSl (kP (kI .i64) (kI .i64))) (kP (kSl (kI .i64)) (kP kS kS))))))))) (fun x : (Int × (Int × (Int × (Int × (Int × List Int × List (Int × Int) × List Int × ByteArray × ByteArray))))) => (IntOk .i64) x.1 ∧ (fun x : (Int × (Int × (Int × (Int × List Int × List (Int × Int) × List Int × ByteArray × ByteArray)))) => (IntOk .u32) x.1 ∧ (fun x : (Int × (Int × (Int × List Int × List (Int × Int) × List Int × ByteArray × ByteArray))) => (IntOk .i64) x.1 ∧ (fun x : (Int × (Int × List Int × List (Int × Int) × List Int × ByteArray × ByteArray)) => (IntOk .i64) x.1 ∧ (fun x : (Int × ((List Int) × ((List (Int × Int)) × ((List Int) × (ByteArray × ByteArray))))) => (IntOk .i64) x.1 ∧ (fun x : ((List Int) × ((List (Int × Int)) × ((List Int) × (ByteArray × ByteArray)))) => (fun xs : List Int => xs.length = 6 ∧ ∀ x ∈ xs, (IntOk .i64) x) x.1 ∧ (fun x : ((List (Int × Int)) × ((List Int) × (ByteArray × ByteArray))) => (ListOk (fun x : (Int × Int) => (IntOk .i64) x.1 ∧ (IntOk .i64) x.2)) x.1 ∧ (fun x : ((List Int) × (ByteArray × ByteArray)) => (ListOk (IntOk .i64)) x.1 ∧ (fun x : (ByteArray × ByteArray) => StrOk x.1 ∧ StrOk x.2) x.2) x.2) x.2) x.2) x.2) x.2) x.2) x.2) := reads_struct Tryz.underlying32 (by kernel_rfl) (readsF_cons (ok := (IntOk .i64)) rfl (by kernel_rfl) rd3 (readsF_cons (ok := (IntOk .u32)) rfl (by kernel_rfl) rd24 (readsF_cons (ok := (IntOk .i64)) rfl (by kernel_rfl) rd3 (readsF_cons (ok := (IntOk .i64)) rfl (by kernel_rfl) rd25 (readsF_last (ok := (fun x : (Int × ((List Int) × ((List (Int × Int)) × ((List Int) × (ByteArray × ByteArray))))) => (IntOk .i64) x.1 ∧ (fun x : ((List Int) × ((List (Int × Int)) × ((List Int) × (ByteArray × ByteArray)))) => (fun xs : List Int => xs.length = 6 ∧ ∀ x ∈ xs, (IntOk .i64) x) x.1 ∧ (fun x : ((List (Int × Int)) × ((List Int) × (ByteArray × ByteArray))) => (ListOk (fun x : (Int × Int) => (IntOk .i64) x.1 ∧ (IntOk .i64) x.2)) x.1 ∧ (fun x : ((List Int) × (ByteArray × ByteArray)) => (ListOk (IntOk .i64)) x.1 ∧ (fun x : (ByteArray × ByteArray) => StrOk x.1 ∧ StrOk x.2) x.2) x.2) x.2) x.2)) rfl (by kernel_rfl) rd30)))))
theorem rd22 {H : Type} {enc : TypeId × Value → H} {W : World} : Reads enc Tryz.prog W 22 (kSl (kP (kI .i64) (kP (kI .u32) (kP (kI .i64) (kP (kI .i64) (kP (kI .i64) (kP (kA .i64 6) (kP (kSl (kP (kI .i64) (kI .i64))) (kP (kSl (kI .i64)) (kP kS kS)))))))))) (ListOk (fun x : (Int × (Int × (Int × (Int × (Int × List Int × List (Int × Int) × List Int × ByteArray × ByteArray))))) => (IntOk .i64) x.1 ∧ (fun x : (Int × (Int × (Int × (Int × List Int × List (Int × Int) × List Int × ByteArray × ByteArray)))) => (IntOk .u32) x.1 ∧ (fun x : (Int × (Int × (Int × List Int × List (Int × Int) × List Int × ByteArray × ByteArray))) => (IntOk .i64) x.1 ∧ (fun x : (Int × (Int × List Int × List (Int × Int) × List Int × ByteArray × ByteArray)) => (IntOk .i64) x.1 ∧ (fun x : (Int × ((List Int) × ((List (Int × Int)) × ((List Int) × (ByteArray × ByteArray))))) => (IntOk .i64) x.1 ∧ (fun x : ((List Int) × ((List (Int × Int)) × ((List Int) × (ByteArray × ByteArray)))) => (fun xs : List Int => xs.length = 6 ∧ ∀ x ∈ xs, (IntOk .i64) x) x.1 ∧ (fun x : ((List (Int × Int)) × ((List Int) × (ByteArray × ByteArray))) => (ListOk (fun x : (Int × Int) => (IntOk .i64) x.1 ∧ (IntOk .i64) x.2)) x.1 ∧ (fun x : ((List Int) × (ByteArray × ByteArray)) => (ListOk (IntOk .i64)) x.1 ∧ (fun x : (ByteArray × ByteArray) => StrOk x.1 ∧ StrOk x.2) x.2) x.2) x.2) x.2) x.2) x.2) x.2) x.2)) := reads_slice Tryz.underlying22 (by kernel_rfl) (by decide) rd32

set_option maxRecDepth 100000 in
theorem lifted (os : Os) (started : os.Started) (H : Type) (enc : TypeId × Value → H) :
    ReturnsInHanded {} Tryz.checked os 3 .any (Rows.logTellsSpec.pre6 enc Tryz.prog Tryz.f3 Rows.logTellsRow.domain false) (Rows.logTellsSpec.post enc Tryz.prog Tryz.f3 false true false false) := by
  refine returnsInHanded_of_change (C := Tryz.checked) own started (by kernel_rfl) Tryz.func3
    (ChangeSpec.witness6 (enc := enc) (C := Tryz.checked) false ⟨#[], #[.slice none 0 0], []⟩ 8 (by kernel_rfl) (by kernel_rfl) (by kernel_rfl) (by kernel_rfl)) ?_
  intro W base args ds gs before hval0 hW hcnd _
  have hval : ∀ (j : Nat) t v, Tryz.f3.params[j]? = some t → args[j]? = some v → Value.okWide Tryz.prog W .any base t v := hval0
  have hW' := hW
  obtain ⟨p, q, hA0, hV, rfl, hfz, hnd⟩ := hW
  have hA : DataW.TrodAll enc Tryz.prog W 0 (fun _ => true) true Tryz.f3.params.toList args.toList ds p := hA0
  rw [Tryz.params3] at hA hval
  obtain ⟨v0, vs0, d0, ds0, p0, q0, hargs, rfl, rfl, h0, r0⟩ := trodAll_cons hA
  obtain ⟨rfl, rfl, rfl⟩ := trodAll_nil r0
  obtain rfl : args = #[v0] := by cases args; simp_all
  obtain ⟨rfl, rfl⟩ := trodVars_none hV
  have k0 := h0
  have lt0 : ∀ x ∈ p0, x.block < W.heap.size := by obtain ⟨m, hm⟩ := k0; exact DataW.trod_lt m _ _ _ hm
  obtain ⟨ad0, len0, cap0, rfl⟩ := okWide_slice Tryz.underlying22 (hval 0 22 v0 rfl rfl)
  obtain ⟨fuel0, hf0⟩ := h0
  obtain ⟨a0, ⟨w0, hw0, hs0⟩, ok0⟩ := rd22 fuel0 _ _ hf0
  cases hw0
  clear hA0 hval0
  have hlaw : Go.Rel.law34_LogTells a0 true := Go.Rel.logTells_claim ok0
  refine (Does.calls (w := W) (Go.Rel.law34_LogTells_ok hlaw (Sto.of W) hs0)).mono fun e W' ⟨v, σ', gs', he, ⟨_, hv⟩, hle, hwo⟩ => ?_
  subst hv
  subst he
  have bel : Below W.heap.size W W' := hwo.below hle
  exact ⟨_, rfl, _, _, _, [], _, [], hW', trodAll_mk1 (shut_bool Tryz.underlying4 _), (trodAll_cons_mk (Below.trod laidOut (by kernel_rfl) (of_decide_eq_true (by kernel_rfl)) k0 bel lt0) trodAll_mk0), rfl, bel.frame _, fun h => by cases h⟩

theorem over : Rows.logTellsRow.holds Tryz.pinned (OpenSpec.ofChange Rows.logTellsSpec) :=
  OpenClaim.holds_of_wide 3 Tryz.f3 rfl rfl rfl rfl rfl rfl rfl ⟨rfl, rfl, rfl, rfl, rfl⟩ rfl rfl rfl rfl rfl (by kernel_rfl) Tryz.func3 (by kernel_rfl)
    (of_decide_eq_true (by kernel_rfl)) (by unfold Func.isWrapper; first | (rw [if_pos (by decide +kernel)]; kernel_rfl) | (rw [if_neg (by decide +kernel)]; exact ⟨rfl, rfl⟩))
    (fun os started H enc _ => lifted os started H enc)

theorem proved : Rows.LogTellsSaid := over
#print axioms proved
end Go.Proofs.YtonmgcebhhdplaaGreat.LogTellsDone
