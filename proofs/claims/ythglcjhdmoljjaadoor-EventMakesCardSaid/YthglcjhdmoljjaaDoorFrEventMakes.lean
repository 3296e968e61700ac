/- A delivery, a reject and an eviction are what they are told to be; a delivery's message is a copy. -/
import Derived.Test.YthglcjhdmoljjaaDoorRows
import Derived.Test.YthglcjhdmoljjaaDoorCards
import Derived.Test.YthglcjhdmoljjaaDoorTie
import Derived.LaidMore
import Derived.SevenTiedAt
import Derived.Stop.Joined
import Derived.Test.YthglcjhdmoljjaaDoorUWalk
import Derived.Test.YthglcjhdmoljjaaDoorPlM1
import Derived.Test.YthglcjhdmoljjaaDoorEngR
import Derived.ProofKit
import Derived.MakeChecks
import Derived.Stop.LaidErr
import Derived.Lib.LaidTab
import Derived.OpenShut
import Derived.ShutString
import Derived.ChangeOld
import Derived.Below
import Derived.Lib.SmallJoins
namespace Go.Proofs.YthglcjhdmoljjaaDoor.EventMakesDone
open Go.ChangeShapes Go.WideShapes Go.ChangeAt Go.RowKit Go.Joins Go.Eng
open Go.ChangeMaps (open_string shut_string)
set_option linter.unusedVariables false

theorem own : ownKnob Tryd.prog.godebug = none := by kernel_rfl
theorem laidOut : laidOutB Tryd.prog = true := by kernel_rfl
theorem rd3 {H : Type} {enc : TypeId × Value → H} {W : World} : Reads enc Tryd.prog W 3 (kI .i64) (IntOk .i64) := reads_int Tryd.underlying3
theorem rd23 {H : Type} {enc : TypeId × Value → H} {W : World} : Reads enc Tryd.prog W 23 (kA .i64 6) (fun xs : List Int => xs.length = 6 ∧ ∀ x ∈ xs, (IntOk .i64) x) := reads_arrI Tryd.underlying23 Tryd.underlying3 (by kernel_rfl) (by kernel_rfl)
theorem rd42 {H : Type} {enc : TypeId × Value → H} {W : World} : Reads enc Tryd.prog W 42 (kP (kI .i64) (kI .i64)) (fun x : (Int × Int) => (IntOk .i64) x.1 ∧ (IntOk .i64) x.2) := reads_struct Tryd.underlying42 (by kernel_rfl) (readsF_cons (ok := (IntOk .i64)) rfl (by kernel_rfl) rd3 (readsF_last (ok := (IntOk .i64)) rfl (by kernel_rfl) rd3))
theorem rd24 {H : Type} {enc : TypeId × Value → H} {W : World} : Reads enc Tryd.prog W 24 (kSl (kP (kI .i64) (kI .i64))) (ListOk (fun x : (Int × Int) => (IntOk .i64) x.1 ∧ (IntOk .i64) x.2)) := reads_slice Tryd.underlying24 (by kernel_rfl) (by decide) rd42
theorem rd25 {H : Type} {enc : TypeId × Value → H} {W : World} : Reads enc Tryd.prog W 25 (kSl (kI .i64)) (ListOk (IntOk .i64)) := reads_slice Tryd.underlying25 (by kernel_rfl) (by decide) rd3
theorem rd9 {H : Type} {enc : TypeId × Value → H} {W : World} : Reads enc Tryd.prog W 9 kS StrOk := reads_string Tryd.underlying9
theorem rd27 {H : Type} {enc : TypeId × Value → H} {W : World} : Reads enc Tryd.prog W 27 (kP (kI .i64) (kP (kA .i64 6) (kP (kSl (kP (kI .i64) (kI .i64))) (kP (kSl (kI .i64)) (kP kS kS))))) (fun x : (Int × ((List Int) × ((List (Int × Int)) × ((List Int) × (ByteArray × ByteArray))))) => (IntOk .i64) x.1 ∧ (fun x : ((List Int) × ((List (Int × Int)) × ((List Int) × (ByteArray × ByteArray)))) => (fun xs : List Int => xs.length = 6 ∧ ∀ x ∈ xs, (IntOk .i64) x) x.1 ∧ (fun x : ((List (Int × Int)) × ((List Int) × (ByteArray × ByteArray))) => (ListOk (fun x : (Int × Int) => (IntOk .i64) x.1 ∧ (IntOk .i64) x.2)) x.1 ∧ (fun x : ((List Int) × (ByteArray × ByteArray)) => (ListOk (IntOk .i64)) x.1 ∧ (fun x : (ByteArray × ByteArray) => StrOk x.1 ∧ StrOk x.2) x.2) x.2) x.2) x.2) := reads_struct Tryd.underlying27 (by kernel_rfl) (readsF_cons (ok := (IntOk .i64)) rfl (by kernel_rfl) rd3 (readsF_cons (ok := (fun xs : List Int => xs.length = 6 ∧ ∀ x ∈ xs, (IntOk .i64) x)) rfl (by kernel_rfl) rd23 (readsF_cons (ok := (ListOk (fun x : (Int × Int) => (IntOk .i64) x.1 ∧ (IntOk .i64) x.2))) rfl (by kernel_rfl) rd24 (readsF_cons (ok := (ListOk (IntOk .i64))) rfl (by kernel_rfl) rd25 (readsF_cons (ok := StrOk) rfl (by kernel_rfl) rd9 (readsF_last (ok := StrOk) rfl (by kernel_rfl) rd9))))))

set_option maxRecDepth 100000 in
theorem door_met (os : Os) (args : Array Value) : laidMetH Tryd.prog Rows.eventMakesRow.laid ((World.doorLaid Tryd.prog 400 os).forCall (fun _ _ => 0) ⟨#[], args, []⟩).memory :=
  laidMetH_of_parts3 (fuel := 8) (laidMet_of_run' 8 (by kernel_rfl) (by kernel_rfl)) (by kernel_rfl) (by kernel_rfl)
set_option maxRecDepth 100000 in
theorem lifted (os : Os) (started : os.Started) (H : Type) (enc : TypeId × Value → H) :
    ReturnsInHanded {} Tryd.checked os 3 .any (fun w args => (Rows.eventMakesSpec.pre enc Tryd.prog Tryd.f3 [] false w args ∧ laidMetH Tryd.prog Rows.eventMakesRow.laid w) ∧ sizedMet enc Tryd.prog Tryd.f3 (OpenSpec.ofChange Rows.eventMakesSpec) false w args) (Rows.eventMakesSpec.post enc Tryd.prog Tryd.f3 false true false false) := by
  refine returnsInHanded_of_change_and (C := Tryd.checked) (X := fun w _ => laidMetH Tryd.prog Rows.eventMakesRow.laid w) (fun _ _ _ hh h => h.of_heap hh) own started (by kernel_rfl) Tryd.func3
    (ChangeSpec.witness_shaped (enc := enc) (C := Tryd.checked) (os := os) (X := fun w _ => laidMetH Tryd.prog Rows.eventMakesRow.laid w) false (World.doorLaid Tryd.prog 400 os) #[.int .u32 0, .int .i64 0, .agg [.int .i64 0, .int .i64 0, .int .i64 0, .int .i64 0, .int .i64 0, .int .i64 0, .int .i64 0, .slice none 0 0, .slice none 0 0, .string (bstr []), .string (bstr [])].toArray, .int .i64 0] 8 rfl (World.shaped_of_RefB (by kernel_rfl) (by kernel_rfl)) (by kernel_rfl) (by kernel_rfl) (by kernel_rfl) (door_met os _)) ?_
  intro W base args ds gs before hval0 hW _ _ hL _
  have hval : ∀ (j : Nat) t v, Tryd.f3.params[j]? = some t → args[j]? = some v → Value.okWide Tryd.prog W .any base t v := hval0
  have hW' := hW
  obtain ⟨p, q, hA0, hV, rfl, hfz, hnd⟩ := hW
  have hA : DataW.TrodAll enc Tryd.prog W 0 (fun _ => true) true Tryd.f3.params.toList args.toList ds p := hA0
  rw [Tryd.params3] at hA hval
  obtain ⟨v0, vs0, d0, ds0, p0, q0, hargs, rfl, rfl, h0, r0⟩ := trodAll_cons hA
  obtain ⟨v1, vs1, d1, ds1, p1, q1, rfl, rfl, rfl, h1, r1⟩ := trodAll_cons r0
  obtain ⟨v2, vs2, d2, ds2, p2, q2, rfl, rfl, rfl, h2, r2⟩ := trodAll_cons r1
  obtain ⟨v3, vs3, d3, ds3, p3, q3, rfl, rfl, rfl, h3, r3⟩ := trodAll_cons r2
  obtain ⟨rfl, rfl, rfl⟩ := trodAll_nil r3
  obtain rfl : args = #[v0, v1, v2, v3] := by cases args; simp_all
  obtain ⟨rfl, rfl⟩ := trodVars_none hV
  have k0 := h0
  have lt0 : ∀ x ∈ p0, x.block < W.heap.size := by obtain ⟨m, hm⟩ := k0; exact DataW.trod_lt m _ _ _ hm
  obtain ⟨a0, rfl, rfl, rfl, w0⟩ := open_int Tryd.underlying22 (hval 0 22 v0 rfl rfl) h0
  have ok0 := wf_ok w0
  have k1 := h1
  have lt1 : ∀ x ∈ p1, x.block < W.heap.size := by obtain ⟨m, hm⟩ := k1; exact DataW.trod_lt m _ _ _ hm
  obtain ⟨a1, rfl, rfl, rfl, w1⟩ := open_int Tryd.underlying3 (hval 1 3 v1 rfl rfl) h1
  have ok1 := wf_ok w1
  have k2 := h2
  have lt2 : ∀ x ∈ p2, x.block < W.heap.size := by obtain ⟨m, hm⟩ := k2; exact DataW.trod_lt m _ _ _ hm
  obtain ⟨cs2, rfl, _⟩ := okWide_struct Tryd.underlying27 (hval 2 27 v2 rfl rfl)
  obtain ⟨l2⟩ := cs2
  obtain ⟨fuel2, hf2⟩ := h2
  obtain ⟨a2, hr2, ok2⟩ := rd27 fuel2 _ _ hf2
  replace hr2 : Kd.rep (kP (kI .i64) (kP (kA .i64 6) (kP (kSl (kP (kI .i64) (kI .i64))) (kP (kSl (kI .i64)) (kP kS kS))))) (Sto.of W) l2 a2 := hr2
  obtain ⟨_, _, rfl, rfl, ⟨_, _, rfl, rfl, ⟨_, _, rfl, ⟨v101, rfl, hs103⟩, ⟨_, _, rfl, ⟨v102, rfl, hs104⟩, ⟨_, _, rfl, rfl, rfl⟩⟩⟩⟩⟩ := hr2
  have k3 := h3
  have lt3 : ∀ x ∈ p3, x.block < W.heap.size := by obtain ⟨m, hm⟩ := k3; exact DataW.trod_lt m _ _ _ hm
  obtain ⟨a3, rfl, rfl, rfl, w3⟩ := open_int Tryd.underlying28 (hval 3 28 v3 rfl rfl) h3
  have ok3 := wf_ok w3
  clear hA0 hval0
  simp only [List.append_nil] at hW'
  have hLp : laidMet Tryd.prog Rows.eventMakesRow.laid W := (Go.MakeChecks.laidMetH_plain _ _ _ (by kernel_rfl)) ▸ hL
  have hLt : laidMet Tryd.prog (("internal/strconv.uint64pow10", Lib.tabData .u64 Lib.pow10Tab) :: Rows.eventMakesRow.laid.drop 3) W :=
    (show Rows.eventMakesRow.laid.drop 2 = ("internal/strconv.uint64pow10", Lib.tabData .u64 Lib.pow10Tab) :: Rows.eventMakesRow.laid.drop 3 by kernel_rfl) ▸ hLp.tail.tail
  have hT : Go.Eng.Tab Tryd.prog (Sto.of W) := Tab.of (Lib.tabIs_of_head (g := 0) (t := 217) (e := 171) (n := 20) (by kernel_rfl) (by kernel_rfl) Tryd.underlying217 Tryd.underlying171 (by kernel_rfl) (by kernel_rfl) hLt)
  have hlaw : Go.Rel.law23_EventMakes a0 a1 a2 a3 true := Go.Rel.eventMakes_claim ok0 ok1 ok2 ok3
  refine (Does.calls (w := W) (Go.Rel.law23_EventMakes_ok hlaw (Sto.of W) hs103 hs104 hT)).mono fun e W' ⟨v, σ', gs', he, ⟨_, hv⟩, hle, hwo⟩ => ?_
  subst hv
  subst he
  have bel : Below W.heap.size W W' := hwo.below hle
  exact ⟨_, rfl, _, _, _, [], _, [], hW', trodAll_mk1 (shut_bool Tryd.underlying4 _), (trodAll_cons_mk (shut_int Tryd.underlying22 w0) (trodAll_cons_mk (shut_int Tryd.underlying3 w1) (trodAll_cons_mk (Below.trod laidOut (by kernel_rfl) (of_decide_eq_true (by kernel_rfl)) k2 bel lt2) (trodAll_cons_mk (shut_int Tryd.underlying28 w3) trodAll_mk0)))), rfl, bel.frame _, fun h => by cases h⟩

theorem over : Rows.eventMakesRow.holds Tryd.pinned (OpenSpec.ofChange Rows.eventMakesSpec) :=
  OpenClaim.holds_of_wide 3 Tryd.f3 rfl rfl rfl rfl rfl rfl rfl ⟨rfl, rfl, rfl, rfl, rfl⟩ rfl rfl rfl rfl rfl (by kernel_rfl) Tryd.func3 (by kernel_rfl)
    (of_decide_eq_true (by kernel_rfl)) (by unfold Func.isWrapper; first | (rw [if_pos (by decide +kernel)]; kernel_rfl) | (rw [if_neg (by decide +kernel)]; exact ⟨rfl, rfl⟩))
    (fun os started H enc _ => lifted os started H enc)

theorem proved : Rows.EventMakesCardSaid :=
  Claim7.holds_tied_plain_at .later [] [.data, .data, .data] true (true, "e852d360dc803576a0cd26b93d11286a93c3537e0f095a183b49a57b23961e27") true
    over (fun _ h => by cases h) (by kernel_rfl) (fun _ h => by cases h) eventMakes_row_tie rfl ⟨rfl, rfl⟩ (by kernel_rfl) rfl
    (fun f fn hf hfn => by
      obtain rfl : f = 3 := Option.some.inj ((show Tryd.prog.funcNamed "cuneiform/cuneiformlaw23.EventMakes" = some 3 by kernel_rfl).symm.trans hf) |>.symm
      obtain rfl : fn = Tryd.f3 := (Option.some.inj (Tryd.func3.symm.trans hfn)).symm
      exact ⟨by kernel_rfl, fun j t ht => by
        rw [Tryd.params3] at ht
        have hm : t ∈ [22, 3, 27, 28] := by simpa using Array.mem_of_getElem? ht
        have hall : ([22, 3, 27, 28].all fun u => !Tryd.prog.wantsStandIn u) = true := by kernel_rfl
        exact (show Tryd.prog.wantsStandIn t = false by simpa using List.all_eq_true.1 hall t hm)⟩)
    (by kernel_rfl)
#print axioms proved
end Go.Proofs.YthglcjhdmoljjaaDoor.EventMakesDone
