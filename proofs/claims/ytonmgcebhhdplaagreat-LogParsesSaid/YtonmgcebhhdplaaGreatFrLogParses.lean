/- the events of any bytes, one by one, and what is right of them -/
import Derived.Test.YtonmgcebhhdplaaGreatRows
import Derived.Test.YtonmgcebhhdplaaGreatUWalk
import Derived.Test.YtonmgcebhhdplaaGreatPlM4
import Derived.Test.YtonmgcebhhdplaaGreatEngR
import Derived.ProofKit
import Derived.OpenShut
import Derived.ShutString
import Derived.ChangeOld
import Derived.Below
import Derived.Lib.SmallJoins
namespace Go.Proofs.YtonmgcebhhdplaaGreat.LogParsesDone
open Go.ChangeShapes Go.WideShapes Go.ChangeAt Go.RowKit Go.Joins Go.Eng
open Go.ChangeMaps (open_string shut_string)
set_option linter.unusedVariables false

theorem own : ownKnob Tryz.prog.godebug = none := by kernel_rfl
theorem laidOut : laidOutB Tryz.prog = true := by kernel_rfl
theorem rd5 {H : Type} {enc : TypeId × Value → H} {W : World} : Reads enc Tryz.prog W 5 (kI .u8) (IntOk .u8) := reads_int Tryz.underlying5
theorem rd42 {H : Type} {enc : TypeId × Value → H} {W : World} : Reads enc Tryz.prog W 42 (kSl (kI .u8)) (ListOk (IntOk .u8)) := reads_slice Tryz.underlying42 (by kernel_rfl) (by decide) rd5

set_option maxRecDepth 100000 in
theorem lifted (os : Os) (started : os.Started) (H : Type) (enc : TypeId × Value → H) :
    ReturnsInHanded {} Tryz.checked os 4 .any (Rows.logParsesSpec.pre6 enc Tryz.prog Tryz.f4 Rows.logParsesRow.domain false) (Rows.logParsesSpec.post enc Tryz.prog Tryz.f4 false true false false) := by
  refine returnsInHanded_of_change (C := Tryz.checked) own started (by kernel_rfl) Tryz.func4
    (ChangeSpec.witness6 (enc := enc) (C := Tryz.checked) false ⟨#[], #[.slice none 0 0, .int .i64 0], []⟩ 8 (by kernel_rfl) (by kernel_rfl) (by kernel_rfl) (by kernel_rfl)) ?_
  intro W base args ds gs before hval0 hW hcnd _
  have hval : ∀ (j : Nat) t v, Tryz.f4.params[j]? = some t → args[j]? = some v → Value.okWide Tryz.prog W .any base t v := hval0
  have hW' := hW
  obtain ⟨p, q, hA0, hV, rfl, hfz, hnd⟩ := hW
  have hA : DataW.TrodAll enc Tryz.prog W 0 (fun _ => true) true Tryz.f4.params.toList args.toList ds p := hA0
  rw [Tryz.params4] at hA hval
  obtain ⟨v0, vs0, d0, ds0, p0, q0, hargs, rfl, rfl, h0, r0⟩ := trodAll_cons hA
  obtain ⟨v1, vs1, d1, ds1, p1, q1, rfl, rfl, rfl, h1, r1⟩ := trodAll_cons r0
  obtain ⟨rfl, rfl, rfl⟩ := trodAll_nil r1
  obtain rfl : args = #[v0, v1] := by cases args; simp_all
  obtain ⟨rfl, rfl⟩ := trodVars_none hV
  have k0 := h0
  have lt0 : ∀ x ∈ p0, x.block < W.heap.size := by obtain ⟨m, hm⟩ := k0; exact DataW.trod_lt m _ _ _ hm
  obtain ⟨ad0, len0, cap0, rfl⟩ := okWide_slice Tryz.underlying42 (hval 0 42 v0 rfl rfl)
  obtain ⟨fuel0, hf0⟩ := h0
  obtain ⟨a0, ⟨w0, hw0, hs0⟩, ok0⟩ := rd42 fuel0 _ _ hf0
  cases hw0
  have k1 := h1
  have lt1 : ∀ x ∈ p1, x.block < W.heap.size := by obtain ⟨m, hm⟩ := k1; exact DataW.trod_lt m _ _ _ hm
  obtain ⟨a1, rfl, rfl, rfl, w1⟩ := open_int Tryz.underlying3 (hval 1 3 v1 rfl rfl) h1
  have ok1 := wf_ok w1
  clear hA0 hval0
  have hlaw : Go.Rel.law34_LogParses a0 a1 true := Go.Rel.logParses_claim ok0 ok1
  refine (Does.calls (w := W) (Go.Rel.law34_LogParses_ok hlaw (Sto.of W) hs0)).mono fun e W' ⟨v, σ', gs', he, ⟨_, hv⟩, hle, hwo⟩ => ?_
  subst hv
  subst he
  have bel : Below W.heap.size W W' := hwo.below hle
  exact ⟨_, rfl, _, _, _, [], _, [], hW', trodAll_mk1 (shut_bool Tryz.underlying4 _), (trodAll_cons_mk (Below.trod laidOut (by kernel_rfl) (of_decide_eq_true (by kernel_rfl)) k0 bel lt0) (trodAll_cons_mk (shut_int Tryz.underlying3 w1) trodAll_mk0)), rfl, bel.frame _, fun h => by cases h⟩

theorem over : Rows.logParsesRow.holds Tryz.pinned (OpenSpec.ofChange Rows.logParsesSpec) :=
  OpenClaim.holds_of_wide 4 Tryz.f4 rfl rfl rfl rfl rfl rfl rfl ⟨rfl, rfl, rfl, rfl, rfl⟩ rfl rfl rfl rfl rfl (by kernel_rfl) Tryz.func4 (by kernel_rfl)
    (of_decide_eq_true (by kernel_rfl)) (by unfold Func.isWrapper; first | (rw [if_pos (by decide +kernel)]; kernel_rfl) | (rw [if_neg (by decide +kernel)]; exact ⟨rfl, rfl⟩))
    (fun os started H enc _ => lifted os started H enc)

theorem proved : Rows.LogParsesSaid := over
#print axioms proved
end Go.Proofs.YtonmgcebhhdplaaGreat.LogParsesDone
