/- The law 'FrameNil' holds: whatever the frame and the bytes, the call returns true and its arguments read as they did. There is no condition. -/
import Derived.Test.YtlamkclnkbnedaaRows
import Derived.Test.YtlamkclnkbnedaaUWalk
import Derived.Test.YtlamkclnkbnedaaPlFrameNil
import Derived.Test.YtlamkclnkbnedaaEngR
import Derived.ProofKit
import Derived.OpenShut
import Derived.ShutString
import Derived.ChangeOld
import Derived.Below
import Derived.Lib.SmallJoins
namespace Go.Proofs.Ytlamkclnkbnedaa.FrameNilDone
open Go.ChangeShapes Go.WideShapes Go.ChangeAt Go.RowKit Go.Joins Go.Eng
open Go.ChangeMaps (open_string shut_string)
set_option linter.unusedVariables false

theorem own : ownKnob Try.prog.godebug = none := by kernel_rfl
theorem laidOut : laidOutB Try.prog = true := by kernel_rfl
theorem rd3 {H : Type} {enc : TypeId × Value → H} {W : World} : Reads enc Try.prog W 3 (kI .i64) (IntOk .i64) := reads_int Try.underlying3
theorem rd22 {H : Type} {enc : TypeId × Value → H} {W : World} : Reads enc Try.prog W 22 (kI .u32) (IntOk .u32) := reads_int Try.underlying22
theorem rd44 {H : Type} {enc : TypeId × Value → H} {W : World} : Reads enc Try.prog W 44 (kP (kI .i64) (kP (kI .i64) (kP (kI .u32) (kP (kI .i64) (kI .i64))))) (fun x : (Int × (Int × (Int × (Int × Int)))) => (IntOk .i64) x.1 ∧ (fun x : (Int × (Int × (Int × Int))) => (IntOk .i64) x.1 ∧ (fun x : (Int × (Int × Int)) => (IntOk .u32) x.1 ∧ (fun x : (Int × Int) => (IntOk .i64) x.1 ∧ (IntOk .i64) x.2) x.2) x.2) x.2) := reads_struct Try.underlying44 (by kernel_rfl) (readsF_cons (ok := (IntOk .i64)) rfl (by kernel_rfl) rd3 (readsF_cons (ok := (IntOk .i64)) rfl (by kernel_rfl) rd3 (readsF_cons (ok := (IntOk .u32)) rfl (by kernel_rfl) rd22 (readsF_cons (ok := (IntOk .i64)) rfl (by kernel_rfl) rd3 (readsF_last rfl (by kernel_rfl) rd3)))))
theorem rd5 {H : Type} {enc : TypeId × Value → H} {W : World} : Reads enc Try.prog W 5 (kI .u8) (IntOk .u8) := reads_int Try.underlying5
theorem rd45 {H : Type} {enc : TypeId × Value → H} {W : World} : Reads enc Try.prog W 45 (kSl (kI .u8)) (ListOk (IntOk .u8)) := reads_slice Try.underlying45 (by kernel_rfl) (by decide) rd5
theorem rd47 {H : Type} {enc : TypeId × Value → H} {W : World} : Reads enc Try.prog W 47 (kP (kP (kI .i64) (kP (kI .i64) (kP (kI .u32) (kP (kI .i64) (kI .i64))))) (kSl (kI .u8))) (fun x : ((Int × Int × Int × Int × Int) × (List Int)) => (fun x : (Int × (Int × (Int × (Int × Int)))) => (IntOk .i64) x.1 ∧ (fun x : (Int × (Int × (Int × Int))) => (IntOk .i64) x.1 ∧ (fun x : (Int × (Int × Int)) => (IntOk .u32) x.1 ∧ (fun x : (Int × Int) => (IntOk .i64) x.1 ∧ (IntOk .i64) x.2) x.2) x.2) x.2) x.1 ∧ (ListOk (IntOk .u8)) x.2) := reads_struct Try.underlying47 (by kernel_rfl) (readsF_cons (ok := (fun x : (Int × (Int × (Int × (Int × Int)))) => (IntOk .i64) x.1 ∧ (fun x : (Int × (Int × (Int × Int))) => (IntOk .i64) x.1 ∧ (fun x : (Int × (Int × Int)) => (IntOk .u32) x.1 ∧ (fun x : (Int × Int) => (IntOk .i64) x.1 ∧ (IntOk .i64) x.2) x.2) x.2) x.2)) rfl (by kernel_rfl) rd44 (readsF_last rfl (by kernel_rfl) rd45))

set_option maxRecDepth 100000 in
theorem lifted (os : Os) (started : os.Started) (H : Type) (enc : TypeId × Value → H) :
    ReturnsInHanded {} Try.checked os 9 .any (Rows.frameNilSpec.pre6 enc Try.prog Try.f9 Rows.frameNilRow.domain false) (Rows.frameNilSpec.post enc Try.prog Try.f9 false true false false) := by
  refine returnsInHanded_of_change (C := Try.checked) own started (by kernel_rfl) Try.func9
    (ChangeSpec.witness6 (enc := enc) (C := Try.checked) false ⟨#[], #[.agg [.int .i64 0, .int .i64 0, .int .u32 0, .int .i64 0, .int .i64 0, .slice none 0 0].toArray, .slice none 0 0], []⟩ 8 (by kernel_rfl) (by kernel_rfl) (by kernel_rfl) (by kernel_rfl)) ?_
  intro W base args ds gs before hval0 hW hcnd _
  have hval : ∀ (j : Nat) t v, Try.f9.params[j]? = some t → args[j]? = some v → Value.okWide Try.prog W .any base t v := hval0
  have hW' := hW
  obtain ⟨p, q, hA0, hV, rfl, hfz, hnd⟩ := hW
  have hA : DataW.TrodAll enc Try.prog W 0 (fun _ => true) true Try.f9.params.toList args.toList ds p := hA0
  rw [Try.params9] at hA hval
  obtain ⟨v0, vs0, d0, ds0, p0, q0, hargs, rfl, rfl, h0, r0⟩ := trodAll_cons hA
  obtain ⟨v1, vs1, d1, ds1, p1, q1, rfl, rfl, rfl, h1, r1⟩ := trodAll_cons r0
  obtain ⟨rfl, rfl, rfl⟩ := trodAll_nil r1
  obtain rfl : args = #[v0, v1] := by cases args; simp_all
  obtain ⟨rfl, rfl⟩ := trodVars_none hV
  have k0 := h0
  have lt0 : ∀ x ∈ p0, x.block < W.heap.size := by obtain ⟨m, hm⟩ := k0; exact DataW.trod_lt m _ _ _ hm
  obtain ⟨cs0, rfl, _⟩ := okWide_struct Try.underlying47 (hval 0 47 v0 rfl rfl)
  obtain ⟨l0⟩ := cs0
  obtain ⟨fuel0, hf0⟩ := h0
  obtain ⟨a0, hr0, ok0⟩ := rd47 fuel0 _ _ hf0
  replace hr0 : Kd.rep (kP (kP (kI .i64) (kP (kI .i64) (kP (kI .u32) (kP (kI .i64) (kI .i64))))) (kSl (kI .u8))) (Sto.of W) l0 a0 := hr0
  obtain ⟨_, _, rfl, ⟨_, _, rfl, rfl, ⟨_, _, rfl, rfl, ⟨_, _, rfl, rfl, ⟨_, _, rfl, rfl, rfl⟩⟩⟩⟩, ⟨v101, rfl, hs102⟩⟩ := hr0
  have k1 := h1
  have lt1 : ∀ x ∈ p1, x.block < W.heap.size := by obtain ⟨m, hm⟩ := k1; exact DataW.trod_lt m _ _ _ hm
  obtain ⟨ad1, len1, cap1, rfl⟩ := okWide_slice Try.underlying45 (hval 1 45 v1 rfl rfl)
  obtain ⟨fuel1, hf1⟩ := h1
  obtain ⟨a1, ⟨w1, hw1, hs1⟩, ok1⟩ := rd45 fuel1 _ _ hf1
  cases hw1
  clear hA0 hval0
  have hlaw : Go.Rel.law08_FrameNil a0 a1 true := Go.Rel.frameNil_claim ok0 ok1
  refine (Does.calls (w := W) (Go.Rel.law08_FrameNil_ok hlaw (Sto.of W) hs102 hs1)).mono fun e W' ⟨v, σ', gs', he, ⟨_, hv⟩, hle, hwo⟩ => ?_
  subst hv
  subst he
  have bel : Below W.heap.size W W' := hwo.below hle
  exact ⟨_, rfl, _, _, _, [], _, [], hW', trodAll_mk1 (shut_bool Try.underlying4 _), (trodAll_cons_mk (Below.trod laidOut (by kernel_rfl) (of_decide_eq_true (by kernel_rfl)) k0 bel lt0) (trodAll_cons_mk (Below.trod laidOut (by kernel_rfl) (of_decide_eq_true (by kernel_rfl)) k1 bel lt1) trodAll_mk0)), rfl, bel.frame _, fun h => by cases h⟩

theorem over : Rows.frameNilRow.holds Try.pinned (OpenSpec.ofChange Rows.frameNilSpec) :=
  OpenClaim.holds_of_wide 9 Try.f9 rfl rfl rfl rfl rfl rfl rfl ⟨rfl, rfl, rfl, rfl, rfl⟩ rfl rfl rfl rfl rfl (by kernel_rfl) Try.func9 (by kernel_rfl)
    (of_decide_eq_true (by kernel_rfl)) (by unfold Func.isWrapper; first | (rw [if_pos (by decide +kernel)]; kernel_rfl) | (rw [if_neg (by decide +kernel)]; exact ⟨rfl, rfl⟩))
    (fun os started H enc _ => lifted os started H enc)

theorem proved : Rows.FrameNilSaid := over
#print axioms proved
end Go.Proofs.Ytlamkclnkbnedaa.FrameNilDone
