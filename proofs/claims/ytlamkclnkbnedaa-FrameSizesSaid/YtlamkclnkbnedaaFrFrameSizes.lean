/- The law 'FrameSizes' holds: whatever the head, the bytes and the MTU, the call returns true and its arguments read as they did. There is no condition. -/
import Derived.Test.YtlamkclnkbnedaaRows
import Derived.Test.YtlamkclnkbnedaaTWalk
import Derived.Test.YtlamkclnkbnedaaPlFrameSizes
import Derived.Test.YtlamkclnkbnedaaEngR
import Derived.ProofKit
import Derived.OpenShut
import Derived.ShutString
import Derived.ChangeOld
import Derived.Below
import Derived.Lib.SmallJoins
namespace Go.Proofs.Ytlamkclnkbnedaa.FrameSizesDone
open Go.ChangeShapes Go.WideShapes Go.ChangeAt Go.RowKit Go.Joins Go.Eng
open Go.ChangeMaps (open_string shut_string)
set_option linter.unusedVariables false

theorem own : ownKnob Try.prog.godebug = none := by kernel_rfl
theorem laidOut : laidOutB Try.prog = true := by kernel_rfl
theorem rd3 {H : Type} {enc : TypeId × Value → H} {W : World} : Reads enc Try.prog W 3 (kI .i64) (IntOk .i64) := reads_int Try.underlying3
theorem rd22 {H : Type} {enc : TypeId × Value → H} {W : World} : Reads enc Try.prog W 22 (kI .u32) (IntOk .u32) := reads_int Try.underlying22
theorem rd44 {H : Type} {enc : TypeId × Value → H} {W : World} : Reads enc Try.prog W 44 (kP (kI .i64) (kP (kI .i64) (kP (kI .u32) (kP (kI .i64) (kI .i64))))) (fun x => (IntOk .i64) x.1 ∧ (fun x => (IntOk .i64) x.1 ∧ (fun x => (IntOk .u32) x.1 ∧ (fun x => (IntOk .i64) x.1 ∧ (IntOk .i64) x.2) x.2) x.2) x.2) := reads_struct Try.underlying44 (by kernel_rfl) (readsF_cons rfl (by kernel_rfl) rd3 (readsF_cons rfl (by kernel_rfl) rd3 (readsF_cons rfl (by kernel_rfl) rd22 (readsF_cons rfl (by kernel_rfl) rd3 (readsF_last rfl (by kernel_rfl) rd3)))))
theorem rd5 {H : Type} {enc : TypeId × Value → H} {W : World} : Reads enc Try.prog W 5 (kI .u8) (IntOk .u8) := reads_int Try.underlying5
theorem rd45 {H : Type} {enc : TypeId × Value → H} {W : World} : Reads enc Try.prog W 45 (kSl (kI .u8)) (ListOk (IntOk .u8)) := reads_slice Try.underlying45 (by kernel_rfl) (by decide) rd5

set_option maxRecDepth 100000 in
theorem lifted (os : Os) (started : os.Started) (H : Type) (enc : TypeId × Value → H) :
    ReturnsInHanded {} Try.checked os 5 .any (Rows.frameSizesSpec.pre6 enc Try.prog Try.f5 Rows.frameSizesRow.domain false) (Rows.frameSizesSpec.post enc Try.prog Try.f5 false true false false) := by
  refine returnsInHanded_of_change (C := Try.checked) own started (by kernel_rfl) Try.func5
    (ChangeSpec.witness6 (enc := enc) (C := Try.checked) false ⟨#[], #[.agg [.int .i64 0, .int .i64 0, .int .u32 0, .int .i64 0, .int .i64 0].toArray, .slice none 0 0, .int .i64 0], []⟩ 8 (by kernel_rfl) (by kernel_rfl) (by kernel_rfl) (by kernel_rfl)) ?_
  intro W base args ds gs before hval0 hW hcnd _
  have hval : ∀ (j : Nat) t v, Try.f5.params[j]? = some t → args[j]? = some v → Value.okWide Try.prog W .any base t v := hval0
  have hW' := hW
  obtain ⟨p, q, hA0, hV, rfl, hfz, hnd⟩ := hW
  have hA : DataW.TrodAll enc Try.prog W 0 (fun _ => true) true Try.f5.params.toList args.toList ds p := hA0
  rw [Try.params5] at hA hval
  obtain ⟨v0, vs0, d0, ds0, p0, q0, hargs, rfl, rfl, h0, r0⟩ := trodAll_cons hA
  obtain ⟨v1, vs1, d1, ds1, p1, q1, rfl, rfl, rfl, h1, r1⟩ := trodAll_cons r0
  obtain ⟨v2, vs2, d2, ds2, p2, q2, rfl, rfl, rfl, h2, r2⟩ := trodAll_cons r1
  obtain ⟨rfl, rfl, rfl⟩ := trodAll_nil r2
  obtain rfl : args = #[v0, v1, v2] := by cases args; simp_all
  obtain ⟨rfl, rfl⟩ := trodVars_none hV
  have k0 := h0
  have lt0 : ∀ x ∈ p0, x.block < W.heap.size := by obtain ⟨m, hm⟩ := k0; exact DataW.trod_lt m _ _ _ hm
  obtain ⟨cs0, rfl, _⟩ := okWide_struct Try.underlying44 (hval 0 44 v0 rfl rfl)
  obtain ⟨l0⟩ := cs0
  obtain ⟨fuel0, hf0⟩ := h0
  obtain ⟨a0, hr0, ok0⟩ := rd44 fuel0 _ _ hf0
  replace hr0 : Kd.rep (kP (kI .i64) (kP (kI .i64) (kP (kI .u32) (kP (kI .i64) (kI .i64))))) (Sto.of W) l0 a0 := hr0
  obtain ⟨_, _, rfl, rfl, ⟨_, _, rfl, rfl, ⟨_, _, rfl, rfl, ⟨_, _, rfl, rfl, rfl⟩⟩⟩⟩ := hr0
  have k1 := h1
  have lt1 : ∀ x ∈ p1, x.block < W.heap.size := by obtain ⟨m, hm⟩ := k1; exact DataW.trod_lt m _ _ _ hm
  obtain ⟨ad1, len1, cap1, rfl⟩ := okWide_slice Try.underlying45 (hval 1 45 v1 rfl rfl)
  obtain ⟨fuel1, hf1⟩ := h1
  obtain ⟨a1, ⟨w1, hw1, hs1⟩, ok1⟩ := rd45 fuel1 _ _ hf1
  cases hw1
  have k2 := h2
  have lt2 : ∀ x ∈ p2, x.block < W.heap.size := by obtain ⟨m, hm⟩ := k2; exact DataW.trod_lt m _ _ _ hm
  obtain ⟨a2, rfl, rfl, rfl, w2⟩ := open_int Try.underlying3 (hval 2 3 v2 rfl rfl) h2
  have ok2 := wf_ok w2
  clear hA0 hval0
  have hlaw : Go.Rel.law08_FrameSizes a0 a1 a2 true := Go.Rel.frameSizes_claim ok0 ok1 ok2
  refine (Does.calls (w := W) (Go.Rel.law08_FrameSizes_ok hlaw (Sto.of W) hs1)).mono fun e W' ⟨v, σ', gs', he, ⟨_, hv⟩, hle, hwo⟩ => ?_
  subst hv
  subst he
  have bel : Below W.heap.size W W' := hwo.below hle
  exact ⟨_, rfl, _, _, _, [], _, [], hW', trodAll_mk1 (shut_bool Try.underlying4 _), (trodAll_cons_mk (Below.trod laidOut (by kernel_rfl) (of_decide_eq_true (by kernel_rfl)) k0 bel lt0) (trodAll_cons_mk (Below.trod laidOut (by kernel_rfl) (of_decide_eq_true (by kernel_rfl)) k1 bel lt1) (trodAll_cons_mk (shut_int Try.underlying3 w2) trodAll_mk0))), rfl, bel.frame _, fun h => by cases h⟩

theorem over : Rows.frameSizesRow.holds Try.pinned (OpenSpec.ofChange Rows.frameSizesSpec) :=
  OpenClaim.holds_of_wide 5 Try.f5 rfl rfl rfl rfl rfl rfl rfl ⟨rfl, rfl, rfl, rfl, rfl⟩ rfl rfl rfl rfl rfl (by kernel_rfl) Try.func5 (by kernel_rfl)
    (of_decide_eq_true (by kernel_rfl)) (by unfold Func.isWrapper; first | (rw [if_pos (by decide +kernel)]; kernel_rfl) | (rw [if_neg (by decide +kernel)]; exact ⟨rfl, rfl⟩))
    (fun os started H enc _ => lifted os started H enc)

theorem proved : Rows.FrameSizesSaid := over
#print axioms proved
end Go.Proofs.Ytlamkclnkbnedaa.FrameSizesDone
