/- a log cut short, and two logs -/
import Derived.Test.YthglcjhdmoljjabRows
import Derived.Test.YthglcjhdmoljjabUWalk
import Derived.Test.YthglcjhdmoljjabPlM2
import Derived.Test.YthglcjhdmoljjabEngR
import Derived.ProofKit
import Derived.OpenShut
import Derived.ShutString
import Derived.ChangeOld
import Derived.Below
import Derived.Lib.SmallJoins
namespace Go.Proofs.Ythglcjhdmoljjab.LogCutsDone
open Go.ChangeShapes Go.WideShapes Go.ChangeAt Go.RowKit Go.Joins Go.Eng
open Go.ChangeMaps (open_string shut_string)
set_option linter.unusedVariables false

theorem own : ownKnob Try.prog.godebug = none := by kernel_rfl
theorem laidOut : laidOutB Try.prog = true := by kernel_rfl
theorem rd3 {H : Type} {enc : TypeId × Value → H} {W : World} : Reads enc Try.prog W 3 (kI .i64) (IntOk .i64) := reads_int Try.underlying3
theorem rd23 {H : Type} {enc : TypeId × Value → H} {W : World} : Reads enc Try.prog W 23 (kI .u32) (IntOk .u32) := reads_int Try.underlying23
theorem rd24 {H : Type} {enc : TypeId × Value → H} {W : World} : Reads enc Try.prog W 24 (kI .i64) (IntOk .i64) := reads_int Try.underlying24
theorem rd25 {H : Type} {enc : TypeId × Value → H} {W : World} : Reads enc Try.prog W 25 (kA .i64 6) (fun xs : List Int => xs.length = 6 ∧ ∀ x ∈ xs, (IntOk .i64) x) := reads_arrI Try.underlying25 Try.underlying3 (by kernel_rfl) (by kernel_rfl)
theorem rd61 {H : Type} {enc : TypeId × Value → H} {W : World} : Reads enc Try.prog W 61 (kP (kI .i64) (kI .i64)) (fun x : (Int × Int) => (IntOk .i64) x.1 ∧ (IntOk .i64) x.2) := reads_struct Try.underlying61 (by kernel_rfl) (readsF_cons (ok := (IntOk .i64)) rfl (by kernel_rfl) rd3 (readsF_last (ok := (IntOk .i64)) rfl (by kernel_rfl) rd3))
theorem rd26 {H : Type} {enc : TypeId × Value → H} {W : World} : Reads enc Try.prog W 26 (kSl (kP (kI .i64) (kI .i64))) (ListOk (fun x : (Int × Int) => (IntOk .i64) x.1 ∧ (IntOk .i64) x.2)) := reads_slice Try.underlying26 (by kernel_rfl) (by decide) rd61
theorem rd27 {H : Type} {enc : TypeId × Value → H} {W : World} : Reads enc Try.prog W 27 (kSl (kI .i64)) (ListOk (IntOk .i64)) := reads_slice Try.underlying27 (by kernel_rfl) (by decide) rd3
theorem rd9 {H : Type} {enc : TypeId × Value → H} {W : World} : Reads enc Try.prog W 9 kS StrOk := reads_string Try.underlying9
theorem rd29 {H : Type} {enc : TypeId × Value → H} {W : World} : Reads enc Try.prog W 29 (kP (kI .i64) (kP (kA .i64 6) (kP (kSl (kP (kI .i64) (kI .i64))) (kP (kSl (kI .i64)) (kP kS kS))))) (fun x : (Int × ((List Int) × ((List (Int × Int)) × ((List Int) × (ByteArray × ByteArray))))) => (IntOk .i64) x.1 ∧ (fun x : ((List Int) × ((List (Int × Int)) × ((List Int) × (ByteArray × ByteArray)))) => (fun xs : List Int => xs.length = 6 ∧ ∀ x ∈ xs, (IntOk .i64) x) x.1 ∧ (fun x : ((List (Int × Int)) × ((List Int) × (ByteArray × ByteArray))) => (ListOk (fun x : (Int × Int) => (IntOk .i64) x.1 ∧ (IntOk .i64) x.2)) x.1 ∧ (fun x : ((List Int) × (ByteArray × ByteArray)) => (ListOk (IntOk .i64)) x.1 ∧ (fun x : (ByteArray × ByteArray) => StrOk x.1 ∧ StrOk x.2) x.2) x.2) x.2) x.2) := reads_struct Try.underlying29 (by kernel_rfl) (readsF_cons (ok := (IntOk .i64)) rfl (by kernel_rfl) rd3 (readsF_cons (ok := (fun xs : List Int => xs.length = 6 ∧ ∀ x ∈ xs, (IntOk .i64) x)) rfl (by kernel_rfl) rd25 (readsF_cons (ok := (ListOk (fun x : (Int × Int) => (IntOk .i64) x.1 ∧ (IntOk .i64) x.2))) rfl (by kernel_rfl) rd26 (readsF_cons (ok := (ListOk (IntOk .i64))) rfl (by kernel_rfl) rd27 (readsF_cons (ok := StrOk) rfl (by kernel_rfl) rd9 (readsF_last (ok := StrOk) rfl (by kernel_rfl) rd9))))))
theorem rd31 {H : Type} {enc : TypeId × Value → H} {W : World} : Reads enc Try.prog W 31 (kP (kI .i64) (kP (kI .u32) (kP (kI .i64) (kP (kI .i64) (kP (kI .i64) (kP (kA .i64 6) (kP (kSl (kP (kI .i64) (kI .i64))) (kP (kSl (kI .i64)) (kP kS kS))))))))) (fun x : (Int × (Int × (Int × (Int × (Int × List Int × List (Int × Int) × List Int × ByteArray × ByteArray))))) => (IntOk .i64) x.1 ∧ (fun x : (Int × (Int × (Int × (Int × List Int × List (Int × Int) × List Int × ByteArray × ByteArray)))) => (IntOk .u32) x.1 ∧ (fun x : (Int × (Int × (Int × List Int × List (Int × Int) × List Int × ByteArray × ByteArray))) => (IntOk .i64) x.1 ∧ (fun x : (Int × (Int × List Int × List (Int × Int) × List Int × ByteArray × ByteArray)) => (IntOk .i64) x.1 ∧ (fun x : (Int × ((List Int) × ((List (Int × Int)) × ((List Int) × (ByteArray × ByteArray))))) => (IntOk .i64) x.1 ∧ (fun x : ((List Int) × ((List (Int × Int)) × ((List Int) × (ByteArray × ByteArray)))) => (fun xs : List Int => xs.length = 6 ∧ ∀ x ∈ xs, (IntOk .i64) x) x.1 ∧ (fun x : ((List (Int × Int)) × ((List Int) × (ByteArray × ByteArray))) => (ListOk (fun x : (Int × Int) => (IntOk .i64) x.1 ∧ (IntOk .i64) x.2)) x.1 ∧ (fun x : ((List Int) × (ByteArray × ByteArray)) => (ListOk (IntOk .i64)) x.1 ∧ (fun x : (ByteArray × ByteArray) => StrOk x.1 ∧ StrOk x.2) x.2) x.2) x.2) x.2) x.2) x.2) x.2) x.2) := reads_struct Try.underlying31 (by kernel_rfl) (readsF_cons (ok := (IntOk .i64)) rfl (by kernel_rfl) rd3 (readsF_cons (ok := (IntOk .u32)) rfl (by kernel_rfl) rd23 (readsF_cons (ok := (IntOk .i64)) rfl (by kernel_rfl) rd3 (readsF_cons (ok := (IntOk .i64)) rfl (by kernel_rfl) rd24 (readsF_last (ok := (fun x : (Int × ((List Int) × ((List (Int × Int)) × ((List Int) × (ByteArray × ByteArray))))) => (IntOk .i64) x.1 ∧ (fun x : ((List Int) × ((List (Int × Int)) × ((List Int) × (ByteArray × ByteArray)))) => (fun xs : List Int => xs.length = 6 ∧ ∀ x ∈ xs, (IntOk .i64) x) x.1 ∧ (fun x : ((List (Int × Int)) × ((List Int) × (ByteArray × ByteArray))) => (ListOk (fun x : (Int × Int) => (IntOk .i64) x.1 ∧ (IntOk .i64) x.2)) x.1 ∧ (fun x : ((List Int) × (ByteArray × ByteArray)) => (ListOk (IntOk .i64)) x.1 ∧ (fun x : (ByteArray × ByteArray) => StrOk x.1 ∧ StrOk x.2) x.2) x.2) x.2) x.2)) rfl (by kernel_rfl) rd29)))))
theorem rd22 {H : Type} {enc : TypeId × Value → H} {W : World} : Reads enc Try.prog W 22 (kSl (kP (kI .i64) (kP (kI .u32) (kP (kI .i64) (kP (kI .i64) (kP (kI .i64) (kP (kA .i64 6) (kP (kSl (kP (kI .i64) (kI .i64))) (kP (kSl (kI .i64)) (kP kS kS)))))))))) (ListOk (fun x : (Int × (Int × (Int × (Int × (Int × List Int × List (Int × Int) × List Int × ByteArray × ByteArray))))) => (IntOk .i64) x.1 ∧ (fun x : (Int × (Int × (Int × (Int × List Int × List (Int × Int) × List Int × ByteArray × ByteArray)))) => (IntOk .u32) x.1 ∧ (fun x : (Int × (Int × (Int × List Int × List (Int × Int) × List Int × ByteArray × ByteArray))) => (IntOk .i64) x.1 ∧ (fun x : (Int × (Int × List Int × List (Int × Int) × List Int × ByteArray × ByteArray)) => (IntOk .i64) x.1 ∧ (fun x : (Int × ((List Int) × ((List (Int × Int)) × ((List Int) × (ByteArray × ByteArray))))) => (IntOk .i64) x.1 ∧ (fun x : ((List Int) × ((List (Int × Int)) × ((List Int) × (ByteArray × ByteArray)))) => (fun xs : List Int => xs.length = 6 ∧ ∀ x ∈ xs, (IntOk .i64) x) x.1 ∧ (fun x : ((List (Int × Int)) × ((List Int) × (ByteArray × ByteArray))) => (ListOk (fun x : (Int × Int) => (IntOk .i64) x.1 ∧ (IntOk .i64) x.2)) x.1 ∧ (fun x : ((List Int) × (ByteArray × ByteArray)) => (ListOk (IntOk .i64)) x.1 ∧ (fun x : (ByteArray × ByteArray) => StrOk x.1 ∧ StrOk x.2) x.2) x.2) x.2) x.2) x.2) x.2) x.2) x.2)) := reads_slice Try.underlying22 (by kernel_rfl) (by decide) rd31

set_option maxRecDepth 100000 in
theorem lifted (os : Os) (started : os.Started) (H : Type) (enc : TypeId × Value → H) :
    ReturnsInHanded {} Try.checked os 3 .any (Rows.logCutsSpec.pre6 enc Try.prog Try.f3 Rows.logCutsRow.domain false) (Rows.logCutsSpec.post enc Try.prog Try.f3 false true false false) := by
  refine returnsInHanded_of_change (C := Try.checked) own started (by kernel_rfl) Try.func3
    (ChangeSpec.witness6 (enc := enc) (C := Try.checked) false ⟨#[], #[.slice none 0 0, .slice none 0 0], []⟩ 8 (by kernel_rfl) (by kernel_rfl) (by kernel_rfl) (by kernel_rfl)) ?_
  intro W base args ds gs before hval0 hW hcnd _
  have hval : ∀ (j : Nat) t v, Try.f3.params[j]? = some t → args[j]? = some v → Value.okWide Try.prog W .any base t v := hval0
  have hW' := hW
  obtain ⟨p, q, hA0, hV, rfl, hfz, hnd⟩ := hW
  have hA : DataW.TrodAll enc Try.prog W 0 (fun _ => true) true Try.f3.params.toList args.toList ds p := hA0
  rw [Try.params3] at hA hval
  obtain ⟨v0, vs0, d0, ds0, p0, q0, hargs, rfl, rfl, h0, r0⟩ := trodAll_cons hA
  obtain ⟨v1, vs1, d1, ds1, p1, q1, rfl, rfl, rfl, h1, r1⟩ := trodAll_cons r0
  obtain ⟨rfl, rfl, rfl⟩ := trodAll_nil r1
  obtain rfl : args = #[v0, v1] := by cases args; simp_all
  obtain ⟨rfl, rfl⟩ := trodVars_none hV
  have k0 := h0
  have lt0 : ∀ x ∈ p0, x.block < W.heap.size := by obtain ⟨m, hm⟩ := k0; exact DataW.trod_lt m _ _ _ hm
  obtain ⟨ad0, len0, cap0, rfl⟩ := okWide_slice Try.underlying22 (hval 0 22 v0 rfl rfl)
  obtain ⟨fuel0, hf0⟩ := h0
  obtain ⟨a0, ⟨w0, hw0, hs0⟩, ok0⟩ := rd22 fuel0 _ _ hf0
  cases hw0
  have k1 := h1
  have lt1 : ∀ x ∈ p1, x.block < W.heap.size := by obtain ⟨m, hm⟩ := k1; exact DataW.trod_lt m _ _ _ hm
  obtain ⟨ad1, len1, cap1, rfl⟩ := okWide_slice Try.underlying22 (hval 1 22 v1 rfl rfl)
  obtain ⟨fuel1, hf1⟩ := h1
  obtain ⟨a1, ⟨w1, hw1, hs1⟩, ok1⟩ := rd22 fuel1 _ _ hf1
  cases hw1
  clear hA0 hval0
  have hlaw : Go.Rel.law34_LogCuts a0 a1 true := Go.Rel.logCuts_claim ok0 ok1
  refine (Does.calls (w := W) (Go.Rel.law34_LogCuts_ok hlaw (Sto.of W) hs0 hs1)).mono fun e W' ⟨v, σ', gs', he, ⟨_, hv⟩, hle, hwo⟩ => ?_
  subst hv
  subst he
  have bel : Below W.heap.size W W' := hwo.below hle
  exact ⟨_, rfl, _, _, _, [], _, [], hW', trodAll_mk1 (shut_bool Try.underlying4 _), (trodAll_cons_mk (Below.trod laidOut (by kernel_rfl) (of_decide_eq_true (by kernel_rfl)) k0 bel lt0) (trodAll_cons_mk (Below.trod laidOut (by kernel_rfl) (of_decide_eq_true (by kernel_rfl)) k1 bel lt1) trodAll_mk0)), rfl, bel.frame _, fun h => by cases h⟩

theorem over : Rows.logCutsRow.holds Try.pinned (OpenSpec.ofChange Rows.logCutsSpec) :=
  OpenClaim.holds_of_wide 3 Try.f3 rfl rfl rfl rfl rfl rfl rfl ⟨rfl, rfl, rfl, rfl, rfl⟩ rfl rfl rfl rfl rfl (by kernel_rfl) Try.func3 (by kernel_rfl)
    (of_decide_eq_true (by kernel_rfl)) (by unfold Func.isWrapper; first | (rw [if_pos (by decide +kernel)]; kernel_rfl) | (rw [if_neg (by decide +kernel)]; exact ⟨rfl, rfl⟩))
    (fun os started H enc _ => lifted os started H enc)

theorem proved : Rows.LogCutsSaid := over
#print axioms proved
end Go.Proofs.Ythglcjhdmoljjab.LogCutsDone
