/- The card of the law 'AckTells' holds: whatever the two acks and the number, the call returns true and its arguments read as they did. The package-level variables that its row lists are tied to the program's text; the tie is given. -/
import Derived.Test.YtlamkclnkbnedaaDoorRows
import Derived.Test.YtlamkclnkbnedaaDoorCards
import Derived.Test.YtlamkclnkbnedaaDoorTie
import Derived.LaidMore
import Derived.SevenTiedAt
import Derived.Stop.Joined
import Derived.Test.YtlamkclnkbnedaaDoorUWalk
import Derived.Test.YtlamkclnkbnedaaDoorPlAckTells
import Derived.Test.YtlamkclnkbnedaaDoorEngR
import Derived.ProofKit
import Derived.MakeChecks
import Derived.Stop.LaidErr
import Derived.Lib.LaidTab
import Derived.OpenShut
import Derived.ShutString
import Derived.ChangeOld
import Derived.Below
import Derived.Lib.SmallJoins
namespace Go.Proofs.YtlamkclnkbnedaaDoor.AckTellsDone
open Go.ChangeShapes Go.WideShapes Go.ChangeAt Go.RowKit Go.Joins Go.Eng
open Go.ChangeMaps (open_string shut_string)
set_option linter.unusedVariables false

theorem own : ownKnob Tryd.prog.godebug = none := by kernel_rfl
theorem laidOut : laidOutB Tryd.prog = true := by kernel_rfl
theorem rd22 {H : Type} {enc : TypeId × Value → H} {W : World} : Reads enc Tryd.prog W 22 (kI .u32) (IntOk .u32) := reads_int Tryd.underlying22
theorem rd48 {H : Type} {enc : TypeId × Value → H} {W : World} : Reads enc Tryd.prog W 48 (kI .u64) (IntOk .u64) := reads_int Tryd.underlying48
theorem rd50 {H : Type} {enc : TypeId × Value → H} {W : World} : Reads enc Tryd.prog W 50 (kP (kI .u32) (kI .u64)) (fun x : (Int × Int) => (IntOk .u32) x.1 ∧ (IntOk .u64) x.2) := reads_struct Tryd.underlying50 (by kernel_rfl) (readsF_cons (ok := (IntOk .u32)) rfl (by kernel_rfl) rd22 (readsF_last rfl (by kernel_rfl) rd48))

set_option maxRecDepth 100000 in
theorem door_met (os : Os) (args : Array Value) : laidMetH Tryd.prog Rows.ackTellsRow.laid ((World.doorLaid Tryd.prog 400 os).forCall (fun _ _ => 0) ⟨#[], args, []⟩).memory :=
  laidMetH_of_parts3 (fuel := 8) (laidMet_of_run' 8 (by kernel_rfl) (by kernel_rfl)) (by kernel_rfl) (by kernel_rfl)
set_option maxRecDepth 100000 in
theorem lifted (os : Os) (started : os.Started) (H : Type) (enc : TypeId × Value → H) :
    ReturnsInHanded {} Tryd.checked os 7 .any (fun w args => (Rows.ackTellsSpec.pre enc Tryd.prog Tryd.f7 [] false w args ∧ laidMetH Tryd.prog Rows.ackTellsRow.laid w) ∧ sizedMet enc Tryd.prog Tryd.f7 (OpenSpec.ofChange Rows.ackTellsSpec) false w args) (Rows.ackTellsSpec.post enc Tryd.prog Tryd.f7 false true false false) := by
  refine returnsInHanded_of_change_and (C := Tryd.checked) (X := fun w _ => laidMetH Tryd.prog Rows.ackTellsRow.laid w) (fun _ _ _ hh h => h.of_heap hh) own started (by kernel_rfl) Tryd.func7
    (ChangeSpec.witness_shaped (enc := enc) (C := Tryd.checked) (os := os) (X := fun w _ => laidMetH Tryd.prog Rows.ackTellsRow.laid w) false (World.doorLaid Tryd.prog 400 os) #[.agg [.int .u32 0, .int .u64 0].toArray, .agg [.int .u32 0, .int .u64 0].toArray, .int .u32 0] 8 rfl (World.shaped_of_RefB (by kernel_rfl) (by kernel_rfl)) (by kernel_rfl) (by kernel_rfl) (by kernel_rfl) (door_met os _)) ?_
  intro W base args ds gs before hval0 hW _ _ hL _
  have hval : ∀ (j : Nat) t v, Tryd.f7.params[j]? = some t → args[j]? = some v → Value.okWide Tryd.prog W .any base t v := hval0
  have hW' := hW
  obtain ⟨p, q, hA0, hV, rfl, hfz, hnd⟩ := hW
  have hA : DataW.TrodAll enc Tryd.prog W 0 (fun _ => true) true Tryd.f7.params.toList args.toList ds p := hA0
  rw [Tryd.params7] at hA hval
  obtain ⟨v0, vs0, d0, ds0, p0, q0, hargs, rfl, rfl, h0, r0⟩ := trodAll_cons hA
  obtain ⟨v1, vs1, d1, ds1, p1, q1, rfl, rfl, rfl, h1, r1⟩ := trodAll_cons r0
  obtain ⟨v2, vs2, d2, ds2, p2, q2, rfl, rfl, rfl, h2, r2⟩ := trodAll_cons r1
  obtain ⟨rfl, rfl, rfl⟩ := trodAll_nil r2
  obtain rfl : args = #[v0, v1, v2] := by cases args; simp_all
  obtain ⟨rfl, rfl⟩ := trodVars_none hV
  have k0 := h0
  have lt0 : ∀ x ∈ p0, x.block < W.heap.size := by obtain ⟨m, hm⟩ := k0; exact DataW.trod_lt m _ _ _ hm
  obtain ⟨cs0, rfl, _⟩ := okWide_struct Tryd.underlying50 (hval 0 50 v0 rfl rfl)
  obtain ⟨l0⟩ := cs0
  obtain ⟨fuel0, hf0⟩ := h0
  obtain ⟨a0, hr0, ok0⟩ := rd50 fuel0 _ _ hf0
  replace hr0 : Kd.rep (kP (kI .u32) (kI .u64)) (Sto.of W) l0 a0 := hr0
  obtain ⟨_, _, rfl, rfl, rfl⟩ := hr0
  have k1 := h1
  have lt1 : ∀ x ∈ p1, x.block < W.heap.size := by obtain ⟨m, hm⟩ := k1; exact DataW.trod_lt m _ _ _ hm
  obtain ⟨cs1, rfl, _⟩ := okWide_struct Tryd.underlying50 (hval 1 50 v1 rfl rfl)
  obtain ⟨l1⟩ := cs1
  obtain ⟨fuel1, hf1⟩ := h1
  obtain ⟨a1, hr1, ok1⟩ := rd50 fuel1 _ _ hf1
  replace hr1 : Kd.rep (kP (kI .u32) (kI .u64)) (Sto.of W) l1 a1 := hr1
  obtain ⟨_, _, rfl, rfl, rfl⟩ := hr1
  have k2 := h2
  have lt2 : ∀ x ∈ p2, x.block < W.heap.size := by obtain ⟨m, hm⟩ := k2; exact DataW.trod_lt m _ _ _ hm
  obtain ⟨a2, rfl, rfl, rfl, w2⟩ := open_int Tryd.underlying22 (hval 2 22 v2 rfl rfl) h2
  have ok2 := wf_ok w2
  clear hA0 hval0
  simp only [List.append_nil] at hW'
  have hLp : laidMet Tryd.prog Rows.ackTellsRow.laid W := (Go.MakeChecks.laidMetH_plain _ _ _ (by kernel_rfl)) ▸ hL
  have hLt : laidMet Tryd.prog (("internal/strconv.uint64pow10", Lib.tabData .u64 Lib.pow10Tab) :: Rows.ackTellsRow.laid.drop 3) W :=
    (show Rows.ackTellsRow.laid.drop 2 = ("internal/strconv.uint64pow10", Lib.tabData .u64 Lib.pow10Tab) :: Rows.ackTellsRow.laid.drop 3 by kernel_rfl) ▸ hLp.tail.tail
  have hT : Go.Eng.Tab Tryd.prog (Sto.of W) := Tab.of (Lib.tabIs_of_head (g := 0) (t := 158) (e := 48) (n := 20) (by kernel_rfl) (by kernel_rfl) Tryd.underlying158 Tryd.underlying48 (by kernel_rfl) (by kernel_rfl) hLt)
  have hlaw : Go.Rel.law32_AckTells a0 a1 a2 true := Go.Rel.ackTells_claim ok0 ok1 ok2
  refine (Does.calls (w := W) (Go.Rel.law32_AckTells_ok hlaw (Sto.of W) hT)).mono fun e W' ⟨v, σ', gs', he, ⟨_, hv⟩, hle, hwo⟩ => ?_
  subst hv
  subst he
  have bel : Below W.heap.size W W' := hwo.below hle
  exact ⟨_, rfl, _, _, _, [], _, [], hW', trodAll_mk1 (shut_bool Tryd.underlying4 _), (trodAll_cons_mk (Below.trod laidOut (by kernel_rfl) (of_decide_eq_true (by kernel_rfl)) k0 bel lt0) (trodAll_cons_mk (Below.trod laidOut (by kernel_rfl) (of_decide_eq_true (by kernel_rfl)) k1 bel lt1) (trodAll_cons_mk (shut_int Tryd.underlying22 w2) trodAll_mk0))), rfl, bel.frame _, fun h => by cases h⟩

theorem over : Rows.ackTellsRow.holds Tryd.pinned (OpenSpec.ofChange Rows.ackTellsSpec) :=
  OpenClaim.holds_of_wide 7 Tryd.f7 rfl rfl rfl rfl rfl rfl rfl ⟨rfl, rfl, rfl, rfl, rfl⟩ rfl rfl rfl rfl rfl (by kernel_rfl) Tryd.func7 (by kernel_rfl)
    (of_decide_eq_true (by kernel_rfl)) (by unfold Func.isWrapper; first | (rw [if_pos (by decide +kernel)]; kernel_rfl) | (rw [if_neg (by decide +kernel)]; exact ⟨rfl, rfl⟩))
    (fun os started H enc _ => lifted os started H enc)

theorem proved : Rows.AckTellsCardSaid :=
  Claim7.holds_tied_plain_at .later [] [.data, .data, .data] true (true, "3429a9331c7f9723b4b1fc74fb9c56ca9e35b1dacc7b8caaa4270692f3420b90") false
    over (fun _ h => by cases h) (by kernel_rfl) (fun _ h => by cases h) ackTells_row_tie rfl ⟨rfl, rfl⟩ (by kernel_rfl) rfl
    (fun f fn hf hfn => by
      obtain rfl : f = 7 := Option.some.inj ((show Tryd.prog.funcNamed "cuneiform/cuneiformlaw32.AckTells" = some 7 by kernel_rfl).symm.trans hf) |>.symm
      obtain rfl : fn = Tryd.f7 := (Option.some.inj (Tryd.func7.symm.trans hfn)).symm
      exact ⟨by kernel_rfl, fun j t ht => by
        rw [Tryd.params7] at ht
        have hm : t ∈ [50, 50, 22] := by simpa using Array.mem_of_getElem? ht
        have hall : ([50, 50, 22].all fun u => !Tryd.prog.wantsStandIn u) = true := by kernel_rfl
        exact (show Tryd.prog.wantsStandIn t = false by simpa using List.all_eq_true.1 hall t hm)⟩)
    (by kernel_rfl)
#print axioms proved
end Go.Proofs.YtlamkclnkbnedaaDoor.AckTellsDone
