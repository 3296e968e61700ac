/- What arrives whole, with zeros between, is honest: nothing of it wasn't sent. -/
import Derived.Test.YtnlghjmngfgmcabGreatDoorRows
import Derived.Test.YtnlghjmngfgmcabGreatDoorCards
import Derived.Test.YtnlghjmngfgmcabGreatDoorTie
import Derived.LaidMore
import Derived.SevenTiedAt
import Derived.Stop.Joined
import Derived.Test.YtnlghjmngfgmcabGreatDoorUWalk
import Derived.Test.YtnlghjmngfgmcabGreatDoorPlM3
import Derived.Test.YtnlghjmngfgmcabGreatDoorEngR
import Derived.ProofKit
import Derived.MakeChecks
import Derived.Stop.LaidErr
import Derived.LaidLaws
import Derived.Lay
import Derived.LaidOnce
import Derived.OpenShut
import Derived.ShutString
import Derived.ChangeOld
import Derived.Below
import Derived.Lib.SmallJoins
namespace Go.Proofs.YtnlghjmngfgmcabGreatDoor.NoiseWholesDone
open Go.ChangeShapes Go.WideShapes Go.ChangeAt Go.RowKit Go.Joins Go.Eng
open Go.ChangeMaps (open_string shut_string)
set_option linter.unusedVariables false

theorem own : ownKnob Tryz.prog.godebug = none := by kernel_rfl
theorem errRow (u : TypeId) (h : Tryz.prog.typeName? 3 u = some "*errors.errorString") : u = 280 :=
  typeName_ptr_named (nm := "errors.errorString") (by rw [show "*" ++ "errors.errorString" = "*errors.errorString" by decide]; kernel_rfl) (by kernel_rfl) (by decide) u (by rw [show "*" ++ "errors.errorString" = "*errors.errorString" by decide]; exact h)
theorem laidOut : laidOutB Tryz.prog = true := by kernel_rfl
theorem rd3 {H : Type} {enc : TypeId × Value → H} {W : World} : Reads enc Tryz.prog W 3 (kI .i64) (IntOk .i64) := reads_int Tryz.underlying3
theorem rd57 {H : Type} {enc : TypeId × Value → H} {W : World} : Reads enc Tryz.prog W 57 (kI .u32) (IntOk .u32) := reads_int Tryz.underlying57
theorem rd59 {H : Type} {enc : TypeId × Value → H} {W : World} : Reads enc Tryz.prog W 59 (kP (kI .i64) (kP (kI .i64) (kP (kI .u32) (kP (kI .i64) (kI .i64))))) (fun x : (Int × (Int × (Int × (Int × Int)))) => (IntOk .i64) x.1 ∧ (fun x : (Int × (Int × (Int × Int))) => (IntOk .i64) x.1 ∧ (fun x : (Int × (Int × Int)) => (IntOk .u32) x.1 ∧ (fun x : (Int × Int) => (IntOk .i64) x.1 ∧ (IntOk .i64) x.2) x.2) x.2) x.2) := reads_struct Tryz.underlying59 (by kernel_rfl) (readsF_cons (ok := (IntOk .i64)) rfl (by kernel_rfl) rd3 (readsF_cons (ok := (IntOk .i64)) rfl (by kernel_rfl) rd3 (readsF_cons (ok := (IntOk .u32)) rfl (by kernel_rfl) rd57 (readsF_cons (ok := (IntOk .i64)) rfl (by kernel_rfl) rd3 (readsF_last (ok := (IntOk .i64)) rfl (by kernel_rfl) rd3)))))
theorem rd5 {H : Type} {enc : TypeId × Value → H} {W : World} : Reads enc Tryz.prog W 5 (kI .u8) (IntOk .u8) := reads_int Tryz.underlying5
theorem rd23 {H : Type} {enc : TypeId × Value → H} {W : World} : Reads enc Tryz.prog W 23 (kSl (kI .u8)) (ListOk (IntOk .u8)) := reads_slice Tryz.underlying23 (by kernel_rfl) (by decide) rd5
theorem rd61 {H : Type} {enc : TypeId × Value → H} {W : World} : Reads enc Tryz.prog W 61 (kP (kP (kI .i64) (kP (kI .i64) (kP (kI .u32) (kP (kI .i64) (kI .i64))))) (kSl (kI .u8))) (fun x : ((Int × Int × Int × Int × Int) × (List Int)) => (fun x : (Int × (Int × (Int × (Int × Int)))) => (IntOk .i64) x.1 ∧ (fun x : (Int × (Int × (Int × Int))) => (IntOk .i64) x.1 ∧ (fun x : (Int × (Int × Int)) => (IntOk .u32) x.1 ∧ (fun x : (Int × Int) => (IntOk .i64) x.1 ∧ (IntOk .i64) x.2) x.2) x.2) x.2) x.1 ∧ (ListOk (IntOk .u8)) x.2) := reads_struct Tryz.underlying61 (by kernel_rfl) (readsF_cons (ok := (fun x : (Int × (Int × (Int × (Int × Int)))) => (IntOk .i64) x.1 ∧ (fun x : (Int × (Int × (Int × Int))) => (IntOk .i64) x.1 ∧ (fun x : (Int × (Int × Int)) => (IntOk .u32) x.1 ∧ (fun x : (Int × Int) => (IntOk .i64) x.1 ∧ (IntOk .i64) x.2) x.2) x.2) x.2)) rfl (by kernel_rfl) rd59 (readsF_last (ok := (ListOk (IntOk .u8))) rfl (by kernel_rfl) rd23))
theorem rd56 {H : Type} {enc : TypeId × Value → H} {W : World} : Reads enc Tryz.prog W 56 (kSl (kP (kP (kI .i64) (kP (kI .i64) (kP (kI .u32) (kP (kI .i64) (kI .i64))))) (kSl (kI .u8)))) (ListOk (fun x : ((Int × Int × Int × Int × Int) × (List Int)) => (fun x : (Int × (Int × (Int × (Int × Int)))) => (IntOk .i64) x.1 ∧ (fun x : (Int × (Int × (Int × Int))) => (IntOk .i64) x.1 ∧ (fun x : (Int × (Int × Int)) => (IntOk .u32) x.1 ∧ (fun x : (Int × Int) => (IntOk .i64) x.1 ∧ (IntOk .i64) x.2) x.2) x.2) x.2) x.1 ∧ (ListOk (IntOk .u8)) x.2)) := reads_slice Tryz.underlying56 (by kernel_rfl) (by decide) rd61
theorem rd27 {H : Type} {enc : TypeId × Value → H} {W : World} : Reads enc Tryz.prog W 27 (kSl (kI .i64)) (ListOk (IntOk .i64)) := reads_slice Tryz.underlying27 (by kernel_rfl) (by decide) rd3

set_option maxRecDepth 100000 in
theorem lifted (os : Os) (started : os.Started) (H : Type) (enc : TypeId × Value → H) :
    ReturnsInHanded {} Tryz.checked os 6 .any (fun w args => (Rows.noiseWholesSpec.pre enc Tryz.prog Tryz.f6 [] false w args ∧ laidMetH Tryz.prog Rows.noiseWholesRow.laid w) ∧ sizedMet enc Tryz.prog Tryz.f6 (OpenSpec.ofChange Rows.noiseWholesSpec) false w args) (Rows.noiseWholesSpec.post enc Tryz.prog Tryz.f6 false true false false) := by
  refine returnsInHanded_of_change_and (C := Tryz.checked) (X := fun w _ => laidMetH Tryz.prog Rows.noiseWholesRow.laid w) (fun _ _ _ hh h => h.of_heap hh) own started (by kernel_rfl) Tryz.func6
    (ChangeSpec.witness_shaped (enc := enc) (C := Tryz.checked) (os := os) (X := fun w _ => laidMetH Tryz.prog Rows.noiseWholesRow.laid w) false (World.laidAll Tryz.prog os Rows.noiseWholesRow.laid) #[.slice none 0 0, .slice none 0 0, .int .i64 0] 8 (World.laidAll_os _ _ _) (World.shaped_of_ZipB (by kernel_rfl) (by kernel_rfl)) (by kernel_rfl) (by kernel_rfl) (by kernel_rfl) (by rw [Go.MakeChecks.laidMetH_plain _ _ _ (by kernel_rfl)]; exact laidMet_laidAll _ (by kernel_rfl) (by kernel_rfl))) ?_
  intro W base args ds gs before hval0 hW _ _ hL _
  have hval : ∀ (j : Nat) t v, Tryz.f6.params[j]? = some t → args[j]? = some v → Value.okWide Tryz.prog W .any base t v := hval0
  have hW' := hW
  obtain ⟨p, q, hA0, hV, rfl, hfz, hnd⟩ := hW
  have hA : DataW.TrodAll enc Tryz.prog W 0 (fun _ => true) true Tryz.f6.params.toList args.toList ds p := hA0
  rw [Tryz.params6] at hA hval
  obtain ⟨v0, vs0, d0, ds0, p0, q0, hargs, rfl, rfl, h0, r0⟩ := trodAll_cons hA
  obtain ⟨v1, vs1, d1, ds1, p1, q1, rfl, rfl, rfl, h1, r1⟩ := trodAll_cons r0
  obtain ⟨v2, vs2, d2, ds2, p2, q2, rfl, rfl, rfl, h2, r2⟩ := trodAll_cons r1
  obtain ⟨rfl, rfl, rfl⟩ := trodAll_nil r2
  obtain rfl : args = #[v0, v1, v2] := by cases args; simp_all
  obtain ⟨rfl, rfl⟩ := trodVars_none hV
  have k0 := h0
  have lt0 : ∀ x ∈ p0, x.block < W.heap.size := by obtain ⟨m, hm⟩ := k0; exact DataW.trod_lt m _ _ _ hm
  obtain ⟨ad0, len0, cap0, rfl⟩ := okWide_slice Tryz.underlying56 (hval 0 56 v0 rfl rfl)
  obtain ⟨fuel0, hf0⟩ := h0
  obtain ⟨a0, ⟨w0, hw0, hs0⟩, ok0⟩ := rd56 fuel0 _ _ hf0
  cases hw0
  have k1 := h1
  have lt1 : ∀ x ∈ p1, x.block < W.heap.size := by obtain ⟨m, hm⟩ := k1; exact DataW.trod_lt m _ _ _ hm
  obtain ⟨ad1, len1, cap1, rfl⟩ := okWide_slice Tryz.underlying27 (hval 1 27 v1 rfl rfl)
  obtain ⟨fuel1, hf1⟩ := h1
  obtain ⟨a1, ⟨w1, hw1, hs1⟩, ok1⟩ := rd27 fuel1 _ _ hf1
  cases hw1
  have k2 := h2
  have lt2 : ∀ x ∈ p2, x.block < W.heap.size := by obtain ⟨m, hm⟩ := k2; exact DataW.trod_lt m _ _ _ hm
  obtain ⟨a2, rfl, rfl, rfl, w2⟩ := open_int Tryz.underlying3 (hval 2 3 v2 rfl rfl) h2
  have ok2 := wf_ok w2
  clear hA0 hval0
  simp only [List.append_nil] at hW'
  have hLp : laidMet Tryz.prog Rows.noiseWholesRow.laid W := (Go.MakeChecks.laidMetH_plain _ _ _ (by kernel_rfl)) ▸ hL
  have hLe0 : laidMet Tryz.prog (("strconv.ErrSyntax", .iface "*errors.errorString" (.ptr (.agg [.lit (.string [105, 110, 118, 97, 108, 105, 100, 32, 115, 121, 110, 116, 97, 120])]))) :: Rows.noiseWholesRow.laid.drop 6) W :=
    (show Rows.noiseWholesRow.laid.drop 5 = ("strconv.ErrSyntax", .iface "*errors.errorString" (.ptr (.agg [.lit (.string [105, 110, 118, 97, 108, 105, 100, 32, 115, 121, 110, 116, 97, 120])]))) :: Rows.noiseWholesRow.laid.drop 6 by kernel_rfl) ▸ hLp.tail.tail.tail.tail.tail
  obtain ⟨ea0, es0, hv0E, _, _, _⟩ := laid_sentinel (g := 1) (ti := 195) (tp := 280) (te := 282) (ts := 9) hLe0 (by kernel_rfl) (by kernel_rfl) Tryz.underlying195 errRow Tryz.underlying280 Tryz.underlying282 rfl rfl Tryz.underlying9 (by kernel_rfl) (by kernel_rfl)
  have hLe1 : laidMet Tryz.prog (("strconv.ErrRange", .iface "*errors.errorString" (.ptr (.agg [.lit (.string [118, 97, 108, 117, 101, 32, 111, 117, 116, 32, 111, 102, 32, 114, 97, 110, 103, 101])]))) :: Rows.noiseWholesRow.laid.drop 5) W :=
    (show Rows.noiseWholesRow.laid.drop 4 = ("strconv.ErrRange", .iface "*errors.errorString" (.ptr (.agg [.lit (.string [118, 97, 108, 117, 101, 32, 111, 117, 116, 32, 111, 102, 32, 114, 97, 110, 103, 101])]))) :: Rows.noiseWholesRow.laid.drop 5 by kernel_rfl) ▸ hLp.tail.tail.tail.tail
  obtain ⟨ea1, es1, hv1E, _, _, _⟩ := laid_sentinel (g := 2) (ti := 195) (tp := 280) (te := 282) (ts := 9) hLe1 (by kernel_rfl) (by kernel_rfl) Tryz.underlying195 errRow Tryz.underlying280 Tryz.underlying282 rfl rfl Tryz.underlying9 (by kernel_rfl) (by kernel_rfl)
  have hE : Go.Eng.Errs Tryz.prog (Sto.of W) := Errs.of hv0E hv1E
  have hlaw : Go.Rel.law26_NoiseWholes a0 a1 a2 true := Go.Rel.noiseWholes_claim ok0 ok1 ok2
  refine (Does.calls (w := W) (Go.Rel.law26_NoiseWholes_ok hlaw (Sto.of W) hs0 hs1 hE)).mono fun e W' ⟨v, σ', gs', he, ⟨_, hv⟩, hle, hwo⟩ => ?_
  subst hv
  subst he
  have bel : Below W.heap.size W W' := hwo.below hle
  exact ⟨_, rfl, _, _, _, [], _, [], hW', trodAll_mk1 (shut_bool Tryz.underlying4 _), (trodAll_cons_mk (Below.trod laidOut (by kernel_rfl) (of_decide_eq_true (by kernel_rfl)) k0 bel lt0) (trodAll_cons_mk (Below.trod laidOut (by kernel_rfl) (of_decide_eq_true (by kernel_rfl)) k1 bel lt1) (trodAll_cons_mk (shut_int Tryz.underlying3 w2) trodAll_mk0))), rfl, bel.frame _, fun h => by cases h⟩

theorem over : Rows.noiseWholesRow.holds Tryz.pinned (OpenSpec.ofChange Rows.noiseWholesSpec) :=
  OpenClaim.holds_of_wide 6 Tryz.f6 rfl rfl rfl rfl rfl rfl rfl ⟨rfl, rfl, rfl, rfl, rfl⟩ rfl rfl rfl rfl rfl (by kernel_rfl) Tryz.func6 (by kernel_rfl)
    (of_decide_eq_true (by kernel_rfl)) (by unfold Func.isWrapper; first | (rw [if_pos (by decide +kernel)]; kernel_rfl) | (rw [if_neg (by decide +kernel)]; exact ⟨rfl, rfl⟩))
    (fun os started H enc _ => lifted os started H enc)

theorem proved : Rows.NoiseWholesCardSaid :=
  Claim7.holds_tied_plain_at .later [] [.data, .data, .data, .data, .sentinel, .sentinel, .pinned] true (true, "a952e38ff803466de2271adf95e62128a141d5c30f34b5dcaacf02e3aca425b5") true
    over (fun _ h => by cases h) (by kernel_rfl) (fun _ h => by cases h) noiseWholes_row_tie rfl ⟨rfl, rfl⟩ (by kernel_rfl) rfl
    (fun f fn hf hfn => by
      obtain rfl : f = 6 := Option.some.inj ((show Tryz.prog.funcNamed "cuneiform/cuneiformlaw26.NoiseWholes" = some 6 by kernel_rfl).symm.trans hf) |>.symm
      obtain rfl : fn = Tryz.f6 := (Option.some.inj (Tryz.func6.symm.trans hfn)).symm
      exact ⟨by kernel_rfl, fun j t ht => by
        rw [Tryz.params6] at ht
        have hm : t ∈ [56, 27, 3] := by simpa using Array.mem_of_getElem? ht
        have hall : ([56, 27, 3].all fun u => !Tryz.prog.wantsStandIn u) = true := by kernel_rfl
        exact (show Tryz.prog.wantsStandIn t = false by simpa using List.all_eq_true.1 hall t hm)⟩)
    (by kernel_rfl)
#print axioms proved
end Go.Proofs.YtnlghjmngfgmcabGreatDoor.NoiseWholesDone
