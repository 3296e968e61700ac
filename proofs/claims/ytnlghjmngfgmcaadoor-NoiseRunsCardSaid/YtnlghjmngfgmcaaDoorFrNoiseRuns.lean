/- What any items let arrive of any rows, item by item, and all of it, is the document's. -/
import Derived.Test.YtnlghjmngfgmcaaDoorRows
import Derived.Test.YtnlghjmngfgmcaaDoorCards
import Derived.Test.YtnlghjmngfgmcaaDoorTie
import Derived.LaidMore
import Derived.SevenTiedAt
import Derived.Stop.Joined
import Derived.Test.YtnlghjmngfgmcaaDoorUWalk
import Derived.Test.YtnlghjmngfgmcaaDoorPlM2
import Derived.Test.YtnlghjmngfgmcaaDoorEngR
import Derived.ProofKit
import Derived.MakeChecks
import Derived.Stop.LaidErr
import Derived.LaidLaws
import Derived.Lay
import Derived.LaidOnce
import Derived.OpenShut
import Derived.ShutString
import Derived.ChangeOld
import Derived.Below
import Derived.Lib.SmallJoins
namespace Go.Proofs.YtnlghjmngfgmcaaDoor.NoiseRunsDone
open Go.ChangeShapes Go.WideShapes Go.ChangeAt Go.RowKit Go.Joins Go.Eng
open Go.ChangeMaps (open_string shut_string)
set_option linter.unusedVariables false

theorem own : ownKnob Tryd.prog.godebug = none := by kernel_rfl
theorem errRow (u : TypeId) (h : Tryd.prog.typeName? 3 u = some "*errors.errorString") : u = 214 :=
  typeName_ptr_named (nm := "errors.errorString") (by rw [show "*" ++ "errors.errorString" = "*errors.errorString" by decide]; kernel_rfl) (by kernel_rfl) (by decide) u (by rw [show "*" ++ "errors.errorString" = "*errors.errorString" by decide]; exact h)
theorem laidOut : laidOutB Tryd.prog = true := by kernel_rfl
theorem rd5 {H : Type} {enc : TypeId × Value → H} {W : World} : Reads enc Tryd.prog W 5 (kI .u8) (IntOk .u8) := reads_int Tryd.underlying5
theorem rd22 {H : Type} {enc : TypeId × Value → H} {W : World} : Reads enc Tryd.prog W 22 (kSl (kI .u8)) (ListOk (IntOk .u8)) := reads_slice Tryd.underlying22 (by kernel_rfl) (by decide) rd5
theorem rd48 {H : Type} {enc : TypeId × Value → H} {W : World} : Reads enc Tryd.prog W 48 (kSl (kSl (kI .u8))) (ListOk (ListOk (IntOk .u8))) := reads_slice Tryd.underlying48 (by kernel_rfl) (by decide) rd22
theorem rd3 {H : Type} {enc : TypeId × Value → H} {W : World} : Reads enc Tryd.prog W 3 (kI .i64) (IntOk .i64) := reads_int Tryd.underlying3
theorem rd52 {H : Type} {enc : TypeId × Value → H} {W : World} : Reads enc Tryd.prog W 52 (kP (kI .i64) (kP (kI .i64) (kP (kI .i64) (kP (kI .i64) (kSl (kI .u8)))))) (fun x : (Int × (Int × (Int × (Int × (List Int))))) => (IntOk .i64) x.1 ∧ (fun x : (Int × (Int × (Int × (List Int)))) => (IntOk .i64) x.1 ∧ (fun x : (Int × (Int × (List Int))) => (IntOk .i64) x.1 ∧ (fun x : (Int × (List Int)) => (IntOk .i64) x.1 ∧ (ListOk (IntOk .u8)) x.2) x.2) x.2) x.2) := reads_struct Tryd.underlying52 (by kernel_rfl) (readsF_cons (ok := (IntOk .i64)) rfl (by kernel_rfl) rd3 (readsF_cons (ok := (IntOk .i64)) rfl (by kernel_rfl) rd3 (readsF_cons (ok := (IntOk .i64)) rfl (by kernel_rfl) rd3 (readsF_cons (ok := (IntOk .i64)) rfl (by kernel_rfl) rd3 (readsF_last (ok := (ListOk (IntOk .u8))) rfl (by kernel_rfl) rd22)))))
theorem rd49 {H : Type} {enc : TypeId × Value → H} {W : World} : Reads enc Tryd.prog W 49 (kSl (kP (kI .i64) (kP (kI .i64) (kP (kI .i64) (kP (kI .i64) (kSl (kI .u8))))))) (ListOk (fun x : (Int × (Int × (Int × (Int × (List Int))))) => (IntOk .i64) x.1 ∧ (fun x : (Int × (Int × (Int × (List Int)))) => (IntOk .i64) x.1 ∧ (fun x : (Int × (Int × (List Int))) => (IntOk .i64) x.1 ∧ (fun x : (Int × (List Int)) => (IntOk .i64) x.1 ∧ (ListOk (IntOk .u8)) x.2) x.2) x.2) x.2)) := reads_slice Tryd.underlying49 (by kernel_rfl) (by decide) rd52

set_option maxRecDepth 100000 in
theorem lifted (os : Os) (started : os.Started) (H : Type) (enc : TypeId × Value → H) :
    ReturnsInHanded {} Tryd.checked os 6 .any (fun w args => (Rows.noiseRunsSpec.pre enc Tryd.prog Tryd.f6 [] false w args ∧ laidMetH Tryd.prog Rows.noiseRunsRow.laid w) ∧ sizedMet enc Tryd.prog Tryd.f6 (OpenSpec.ofChange Rows.noiseRunsSpec) false w args) (Rows.noiseRunsSpec.post enc Tryd.prog Tryd.f6 false true false false) := by
  refine returnsInHanded_of_change_and (C := Tryd.checked) (X := fun w _ => laidMetH Tryd.prog Rows.noiseRunsRow.laid w) (fun _ _ _ hh h => h.of_heap hh) own started (by kernel_rfl) Tryd.func6
    (ChangeSpec.witness_shaped (enc := enc) (C := Tryd.checked) (os := os) (X := fun w _ => laidMetH Tryd.prog Rows.noiseRunsRow.laid w) false (World.laidAll Tryd.prog os Rows.noiseRunsRow.laid) #[.slice none 0 0, .slice none 0 0] 8 (World.laidAll_os _ _ _) (World.shaped_of_ZipB (by kernel_rfl) (by kernel_rfl)) (by kernel_rfl) (by kernel_rfl) (by kernel_rfl) (by rw [Go.MakeChecks.laidMetH_plain _ _ _ (by kernel_rfl)]; exact laidMet_laidAll _ (by kernel_rfl) (by kernel_rfl))) ?_
  intro W base args ds gs before hval0 hW _ _ hL _
  have hval : ∀ (j : Nat) t v, Tryd.f6.params[j]? = some t → args[j]? = some v → Value.okWide Tryd.prog W .any base t v := hval0
  have hW' := hW
  obtain ⟨p, q, hA0, hV, rfl, hfz, hnd⟩ := hW
  have hA : DataW.TrodAll enc Tryd.prog W 0 (fun _ => true) true Tryd.f6.params.toList args.toList ds p := hA0
  rw [Tryd.params6] at hA hval
  obtain ⟨v0, vs0, d0, ds0, p0, q0, hargs, rfl, rfl, h0, r0⟩ := trodAll_cons hA
  obtain ⟨v1, vs1, d1, ds1, p1, q1, rfl, rfl, rfl, h1, r1⟩ := trodAll_cons r0
  obtain ⟨rfl, rfl, rfl⟩ := trodAll_nil r1
  obtain rfl : args = #[v0, v1] := by cases args; simp_all
  obtain ⟨rfl, rfl⟩ := trodVars_none hV
  have k0 := h0
  have lt0 : ∀ x ∈ p0, x.block < W.heap.size := by obtain ⟨m, hm⟩ := k0; exact DataW.trod_lt m _ _ _ hm
  obtain ⟨ad0, len0, cap0, rfl⟩ := okWide_slice Tryd.underlying48 (hval 0 48 v0 rfl rfl)
  obtain ⟨fuel0, hf0⟩ := h0
  obtain ⟨a0, ⟨w0, hw0, hs0⟩, ok0⟩ := rd48 fuel0 _ _ hf0
  cases hw0
  have k1 := h1
  have lt1 : ∀ x ∈ p1, x.block < W.heap.size := by obtain ⟨m, hm⟩ := k1; exact DataW.trod_lt m _ _ _ hm
  obtain ⟨ad1, len1, cap1, rfl⟩ := okWide_slice Tryd.underlying49 (hval 1 49 v1 rfl rfl)
  obtain ⟨fuel1, hf1⟩ := h1
  obtain ⟨a1, ⟨w1, hw1, hs1⟩, ok1⟩ := rd49 fuel1 _ _ hf1
  cases hw1
  clear hA0 hval0
  simp only [List.append_nil] at hW'
  have hLp : laidMet Tryd.prog Rows.noiseRunsRow.laid W := (Go.MakeChecks.laidMetH_plain _ _ _ (by kernel_rfl)) ▸ hL
  have hLe0 : laidMet Tryd.prog (("strconv.ErrSyntax", .iface "*errors.errorString" (.ptr (.agg [.lit (.string [105, 110, 118, 97, 108, 105, 100, 32, 115, 121, 110, 116, 97, 120])]))) :: Rows.noiseRunsRow.laid.drop 6) W :=
    (show Rows.noiseRunsRow.laid.drop 5 = ("strconv.ErrSyntax", .iface "*errors.errorString" (.ptr (.agg [.lit (.string [105, 110, 118, 97, 108, 105, 100, 32, 115, 121, 110, 116, 97, 120])]))) :: Rows.noiseRunsRow.laid.drop 6 by kernel_rfl) ▸ hLp.tail.tail.tail.tail.tail
  obtain ⟨ea0, es0, hv0E, _, _, _⟩ := laid_sentinel (g := 1) (ti := 85) (tp := 214) (te := 216) (ts := 9) hLe0 (by kernel_rfl) (by kernel_rfl) Tryd.underlying85 errRow Tryd.underlying214 Tryd.underlying216 rfl rfl Tryd.underlying9 (by kernel_rfl) (by kernel_rfl)
  have hLe1 : laidMet Tryd.prog (("strconv.ErrRange", .iface "*errors.errorString" (.ptr (.agg [.lit (.string [118, 97, 108, 117, 101, 32, 111, 117, 116, 32, 111, 102, 32, 114, 97, 110, 103, 101])]))) :: Rows.noiseRunsRow.laid.drop 5) W :=
    (show Rows.noiseRunsRow.laid.drop 4 = ("strconv.ErrRange", .iface "*errors.errorString" (.ptr (.agg [.lit (.string [118, 97, 108, 117, 101, 32, 111, 117, 116, 32, 111, 102, 32, 114, 97, 110, 103, 101])]))) :: Rows.noiseRunsRow.laid.drop 5 by kernel_rfl) ▸ hLp.tail.tail.tail.tail
  obtain ⟨ea1, es1, hv1E, _, _, _⟩ := laid_sentinel (g := 2) (ti := 85) (tp := 214) (te := 216) (ts := 9) hLe1 (by kernel_rfl) (by kernel_rfl) Tryd.underlying85 errRow Tryd.underlying214 Tryd.underlying216 rfl rfl Tryd.underlying9 (by kernel_rfl) (by kernel_rfl)
  have hE : Go.Eng.Errs Tryd.prog (Sto.of W) := Errs.of hv0E hv1E
  have hlaw : Go.Rel.law26_NoiseRuns a0 a1 true := Go.Rel.noiseRuns_claim ok0 ok1
  refine (Does.calls (w := W) (Go.Rel.law26_NoiseRuns_ok hlaw (Sto.of W) hs0 hs1 hE)).mono fun e W' ⟨v, σ', gs', he, ⟨_, hv⟩, hle, hwo⟩ => ?_
  subst hv
  subst he
  have bel : Below W.heap.size W W' := hwo.below hle
  exact ⟨_, rfl, _, _, _, [], _, [], hW', trodAll_mk1 (shut_bool Tryd.underlying4 _), (trodAll_cons_mk (Below.trod laidOut (by kernel_rfl) (of_decide_eq_true (by kernel_rfl)) k0 bel lt0) (trodAll_cons_mk (Below.trod laidOut (by kernel_rfl) (of_decide_eq_true (by kernel_rfl)) k1 bel lt1) trodAll_mk0)), rfl, bel.frame _, fun h => by cases h⟩

theorem over : Rows.noiseRunsRow.holds Tryd.pinned (OpenSpec.ofChange Rows.noiseRunsSpec) :=
  OpenClaim.holds_of_wide 6 Tryd.f6 rfl rfl rfl rfl rfl rfl rfl ⟨rfl, rfl, rfl, rfl, rfl⟩ rfl rfl rfl rfl rfl (by kernel_rfl) Tryd.func6 (by kernel_rfl)
    (of_decide_eq_true (by kernel_rfl)) (by unfold Func.isWrapper; first | (rw [if_pos (by decide +kernel)]; kernel_rfl) | (rw [if_neg (by decide +kernel)]; exact ⟨rfl, rfl⟩))
    (fun os started H enc _ => lifted os started H enc)

theorem proved : Rows.NoiseRunsCardSaid :=
  Claim7.holds_tied_plain_at .later [] [.data, .data, .data, .data, .sentinel, .sentinel, .pinned] true (true, "2c992a7d28123e16ae42ea99c71004df6c5f903f2dbfbdbd1ec9aa13390fcabd") true
    over (fun _ h => by cases h) (by kernel_rfl) (fun _ h => by cases h) noiseRuns_row_tie rfl ⟨rfl, rfl⟩ (by kernel_rfl) rfl
    (fun f fn hf hfn => by
      obtain rfl : f = 6 := Option.some.inj ((show Tryd.prog.funcNamed "cuneiform/cuneiformlaw26.NoiseRuns" = some 6 by kernel_rfl).symm.trans hf) |>.symm
      obtain rfl : fn = Tryd.f6 := (Option.some.inj (Tryd.func6.symm.trans hfn)).symm
      exact ⟨by kernel_rfl, fun j t ht => by
        rw [Tryd.params6] at ht
        have hm : t ∈ [48, 49] := by simpa using Array.mem_of_getElem? ht
        have hall : ([48, 49].all fun u => !Tryd.prog.wantsStandIn u) = true := by kernel_rfl
        exact (show Tryd.prog.wantsStandIn t = false by simpa using List.all_eq_true.1 hall t hm)⟩)
    (by kernel_rfl)
#print axioms proved
end Go.Proofs.YtnlghjmngfgmcaaDoor.NoiseRunsDone
