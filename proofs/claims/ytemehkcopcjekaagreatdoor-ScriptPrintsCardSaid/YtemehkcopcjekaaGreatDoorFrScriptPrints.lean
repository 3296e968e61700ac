/- Whether any settings and steps may be, and their script, are the document's; it is read as it was. -/
import Derived.Test.YtemehkcopcjekaaGreatDoorRows
import Derived.Test.YtemehkcopcjekaaGreatDoorCards
import Derived.Test.YtemehkcopcjekaaGreatDoorTie
import Derived.LaidMore
import Derived.SevenTiedAt
import Derived.Stop.Joined
import Derived.Test.YtemehkcopcjekaaGreatDoorUWalk
import Derived.Test.YtemehkcopcjekaaGreatDoorPlM4
import Derived.Test.YtemehkcopcjekaaGreatDoorEngR
import Derived.ProofKit
import Derived.MakeChecks
import Derived.Stop.LaidErr
import Derived.LaidLaws
import Derived.Lib.LaidTab
import Derived.Lay
import Derived.LaidOnce
import Derived.OpenShut
import Derived.ShutString
import Derived.ChangeOld
import Derived.Below
import Derived.Lib.SmallJoins
namespace Go.Proofs.YtemehkcopcjekaaGreatDoor.ScriptPrintsDone
open Go.ChangeShapes Go.WideShapes Go.ChangeAt Go.RowKit Go.Joins Go.Eng
open Go.ChangeMaps (open_string shut_string)
set_option linter.unusedVariables false

theorem own : ownKnob Tryz.prog.godebug = none := by kernel_rfl
theorem errRow (u : TypeId) (h : Tryz.prog.typeName? 3 u = some "*errors.errorString") : u = 249 :=
  typeName_ptr_named (nm := "errors.errorString") (by rw [show "*" ++ "errors.errorString" = "*errors.errorString" by decide]; kernel_rfl) (by kernel_rfl) (by decide) u (by rw [show "*" ++ "errors.errorString" = "*errors.errorString" by decide]; exact h)
theorem laidOut : laidOutB Tryz.prog = true := by kernel_rfl
theorem rd3 {H : Type} {enc : TypeId × Value → H} {W : World} : Reads enc Tryz.prog W 3 (kI .i64) (IntOk .i64) := reads_int Tryz.underlying3
theorem rd54 {H : Type} {enc : TypeId × Value → H} {W : World} : Reads enc Tryz.prog W 54 (kI .u32) (IntOk .u32) := reads_int Tryz.underlying54
theorem rd56 {H : Type} {enc : TypeId × Value → H} {W : World} : Reads enc Tryz.prog W 56 (kP (kI .i64) (kP (kI .i64) (kI .u32))) (fun x : (Int × (Int × Int)) => (IntOk .i64) x.1 ∧ (fun x : (Int × Int) => (IntOk .i64) x.1 ∧ (IntOk .u32) x.2) x.2) := reads_struct Tryz.underlying56 (by kernel_rfl) (readsF_cons (ok := (IntOk .i64)) rfl (by kernel_rfl) rd3 (readsF_cons (ok := (IntOk .i64)) rfl (by kernel_rfl) rd3 (readsF_last (ok := (IntOk .u32)) rfl (by kernel_rfl) rd54)))
theorem rd58 {H : Type} {enc : TypeId × Value → H} {W : World} : Reads enc Tryz.prog W 58 (kP (kI .u32) (kI .i64)) (fun x : (Int × Int) => (IntOk .u32) x.1 ∧ (IntOk .i64) x.2) := reads_struct Tryz.underlying58 (by kernel_rfl) (readsF_cons (ok := (IntOk .u32)) rfl (by kernel_rfl) rd54 (readsF_last (ok := (IntOk .i64)) rfl (by kernel_rfl) rd3))
theorem rd22 {H : Type} {enc : TypeId × Value → H} {W : World} : Reads enc Tryz.prog W 22 (kA .i64 6) (fun xs : List Int => xs.length = 6 ∧ ∀ x ∈ xs, (IntOk .i64) x) := reads_arrI Tryz.underlying22 Tryz.underlying3 (by kernel_rfl) (by kernel_rfl)
theorem rd149 {H : Type} {enc : TypeId × Value → H} {W : World} : Reads enc Tryz.prog W 149 (kP (kI .i64) (kI .i64)) (fun x : (Int × Int) => (IntOk .i64) x.1 ∧ (IntOk .i64) x.2) := reads_struct Tryz.underlying149 (by kernel_rfl) (readsF_cons (ok := (IntOk .i64)) rfl (by kernel_rfl) rd3 (readsF_last (ok := (IntOk .i64)) rfl (by kernel_rfl) rd3))
theorem rd23 {H : Type} {enc : TypeId × Value → H} {W : World} : Reads enc Tryz.prog W 23 (kSl (kP (kI .i64) (kI .i64))) (ListOk (fun x : (Int × Int) => (IntOk .i64) x.1 ∧ (IntOk .i64) x.2)) := reads_slice Tryz.underlying23 (by kernel_rfl) (by decide) rd149
theorem rd24 {H : Type} {enc : TypeId × Value → H} {W : World} : Reads enc Tryz.prog W 24 (kSl (kI .i64)) (ListOk (IntOk .i64)) := reads_slice Tryz.underlying24 (by kernel_rfl) (by decide) rd3
theorem rd9 {H : Type} {enc : TypeId × Value → H} {W : World} : Reads enc Tryz.prog W 9 kS StrOk := reads_string Tryz.underlying9
theorem rd26 {H : Type} {enc : TypeId × Value → H} {W : World} : Reads enc Tryz.prog W 26 (kP (kI .i64) (kP (kA .i64 6) (kP (kSl (kP (kI .i64) (kI .i64))) (kP (kSl (kI .i64)) (kP kS kS))))) (fun x : (Int × ((List Int) × ((List (Int × Int)) × ((List Int) × (ByteArray × ByteArray))))) => (IntOk .i64) x.1 ∧ (fun x : ((List Int) × ((List (Int × Int)) × ((List Int) × (ByteArray × ByteArray)))) => (fun xs : List Int => xs.length = 6 ∧ ∀ x ∈ xs, (IntOk .i64) x) x.1 ∧ (fun x : ((List (Int × Int)) × ((List Int) × (ByteArray × ByteArray))) => (ListOk (fun x : (Int × Int) => (IntOk .i64) x.1 ∧ (IntOk .i64) x.2)) x.1 ∧ (fun x : ((List Int) × (ByteArray × ByteArray)) => (ListOk (IntOk .i64)) x.1 ∧ (fun x : (ByteArray × ByteArray) => StrOk x.1 ∧ StrOk x.2) x.2) x.2) x.2) x.2) := reads_struct Tryz.underlying26 (by kernel_rfl) (readsF_cons (ok := (IntOk .i64)) rfl (by kernel_rfl) rd3 (readsF_cons (ok := (fun xs : List Int => xs.length = 6 ∧ ∀ x ∈ xs, (IntOk .i64) x)) rfl (by kernel_rfl) rd22 (readsF_cons (ok := (ListOk (fun x : (Int × Int) => (IntOk .i64) x.1 ∧ (IntOk .i64) x.2))) rfl (by kernel_rfl) rd23 (readsF_cons (ok := (ListOk (IntOk .i64))) rfl (by kernel_rfl) rd24 (readsF_cons (ok := StrOk) rfl (by kernel_rfl) rd9 (readsF_last (ok := StrOk) rfl (by kernel_rfl) rd9))))))
theorem rd5 {H : Type} {enc : TypeId × Value → H} {W : World} : Reads enc Tryz.prog W 5 (kI .u8) (IntOk .u8) := reads_int Tryz.underlying5
theorem rd27 {H : Type} {enc : TypeId × Value → H} {W : World} : Reads enc Tryz.prog W 27 (kSl (kI .u8)) (ListOk (IntOk .u8)) := reads_slice Tryz.underlying27 (by kernel_rfl) (by decide) rd5
theorem rd29 {H : Type} {enc : TypeId × Value → H} {W : World} : Reads enc Tryz.prog W 29 (kP (kI .i64) (kP (kI .i64) (kP (kI .i64) (kP (kI .i64) (kSl (kI .u8)))))) (fun x : (Int × (Int × (Int × (Int × (List Int))))) => (IntOk .i64) x.1 ∧ (fun x : (Int × (Int × (Int × (List Int)))) => (IntOk .i64) x.1 ∧ (fun x : (Int × (Int × (List Int))) => (IntOk .i64) x.1 ∧ (fun x : (Int × (List Int)) => (IntOk .i64) x.1 ∧ (ListOk (IntOk .u8)) x.2) x.2) x.2) x.2) := reads_struct Tryz.underlying29 (by kernel_rfl) (readsF_cons (ok := (IntOk .i64)) rfl (by kernel_rfl) rd3 (readsF_cons (ok := (IntOk .i64)) rfl (by kernel_rfl) rd3 (readsF_cons (ok := (IntOk .i64)) rfl (by kernel_rfl) rd3 (readsF_cons (ok := (IntOk .i64)) rfl (by kernel_rfl) rd3 (readsF_last (ok := (ListOk (IntOk .u8))) rfl (by kernel_rfl) rd27)))))
theorem rd31 {H : Type} {enc : TypeId × Value → H} {W : World} : Reads enc Tryz.prog W 31 (kP (kI .i64) (kP (kP (kI .i64) (kP (kA .i64 6) (kP (kSl (kP (kI .i64) (kI .i64))) (kP (kSl (kI .i64)) (kP kS kS))))) (kP (kP (kI .i64) (kP (kI .i64) (kP (kI .i64) (kP (kI .i64) (kSl (kI .u8)))))) (kSl (kI .i64))))) (fun x : (Int × ((Int × List Int × List (Int × Int) × List Int × ByteArray × ByteArray) × ((Int × Int × Int × Int × List Int) × (List Int)))) => (IntOk .i64) x.1 ∧ (fun x : ((Int × List Int × List (Int × Int) × List Int × ByteArray × ByteArray) × ((Int × Int × Int × Int × List Int) × (List Int))) => (fun x : (Int × ((List Int) × ((List (Int × Int)) × ((List Int) × (ByteArray × ByteArray))))) => (IntOk .i64) x.1 ∧ (fun x : ((List Int) × ((List (Int × Int)) × ((List Int) × (ByteArray × ByteArray)))) => (fun xs : List Int => xs.length = 6 ∧ ∀ x ∈ xs, (IntOk .i64) x) x.1 ∧ (fun x : ((List (Int × Int)) × ((List Int) × (ByteArray × ByteArray))) => (ListOk (fun x : (Int × Int) => (IntOk .i64) x.1 ∧ (IntOk .i64) x.2)) x.1 ∧ (fun x : ((List Int) × (ByteArray × ByteArray)) => (ListOk (IntOk .i64)) x.1 ∧ (fun x : (ByteArray × ByteArray) => StrOk x.1 ∧ StrOk x.2) x.2) x.2) x.2) x.2) x.1 ∧ (fun x : ((Int × Int × Int × Int × List Int) × (List Int)) => (fun x : (Int × (Int × (Int × (Int × (List Int))))) => (IntOk .i64) x.1 ∧ (fun x : (Int × (Int × (Int × (List Int)))) => (IntOk .i64) x.1 ∧ (fun x : (Int × (Int × (List Int))) => (IntOk .i64) x.1 ∧ (fun x : (Int × (List Int)) => (IntOk .i64) x.1 ∧ (ListOk (IntOk .u8)) x.2) x.2) x.2) x.2) x.1 ∧ (ListOk (IntOk .i64)) x.2) x.2) x.2) := reads_struct Tryz.underlying31 (by kernel_rfl) (readsF_cons (ok := (IntOk .i64)) rfl (by kernel_rfl) rd3 (readsF_cons (ok := (fun x : (Int × ((List Int) × ((List (Int × Int)) × ((List Int) × (ByteArray × ByteArray))))) => (IntOk .i64) x.1 ∧ (fun x : ((List Int) × ((List (Int × Int)) × ((List Int) × (ByteArray × ByteArray)))) => (fun xs : List Int => xs.length = 6 ∧ ∀ x ∈ xs, (IntOk .i64) x) x.1 ∧ (fun x : ((List (Int × Int)) × ((List Int) × (ByteArray × ByteArray))) => (ListOk (fun x : (Int × Int) => (IntOk .i64) x.1 ∧ (IntOk .i64) x.2)) x.1 ∧ (fun x : ((List Int) × (ByteArray × ByteArray)) => (ListOk (IntOk .i64)) x.1 ∧ (fun x : (ByteArray × ByteArray) => StrOk x.1 ∧ StrOk x.2) x.2) x.2) x.2) x.2)) rfl (by kernel_rfl) rd26 (readsF_cons (ok := (fun x : (Int × (Int × (Int × (Int × (List Int))))) => (IntOk .i64) x.1 ∧ (fun x : (Int × (Int × (Int × (List Int)))) => (IntOk .i64) x.1 ∧ (fun x : (Int × (Int × (List Int))) => (IntOk .i64) x.1 ∧ (fun x : (Int × (List Int)) => (IntOk .i64) x.1 ∧ (ListOk (IntOk .u8)) x.2) x.2) x.2) x.2)) rfl (by kernel_rfl) rd29 (readsF_last (ok := (ListOk (IntOk .i64))) rfl (by kernel_rfl) rd24))))
theorem rd59 {H : Type} {enc : TypeId × Value → H} {W : World} : Reads enc Tryz.prog W 59 (kSl (kP (kI .i64) (kP (kP (kI .i64) (kP (kA .i64 6) (kP (kSl (kP (kI .i64) (kI .i64))) (kP (kSl (kI .i64)) (kP kS kS))))) (kP (kP (kI .i64) (kP (kI .i64) (kP (kI .i64) (kP (kI .i64) (kSl (kI .u8)))))) (kSl (kI .i64)))))) (ListOk (fun x : (Int × ((Int × List Int × List (Int × Int) × List Int × ByteArray × ByteArray) × ((Int × Int × Int × Int × List Int) × (List Int)))) => (IntOk .i64) x.1 ∧ (fun x : ((Int × List Int × List (Int × Int) × List Int × ByteArray × ByteArray) × ((Int × Int × Int × Int × List Int) × (List Int))) => (fun x : (Int × ((List Int) × ((List (Int × Int)) × ((List Int) × (ByteArray × ByteArray))))) => (IntOk .i64) x.1 ∧ (fun x : ((List Int) × ((List (Int × Int)) × ((List Int) × (ByteArray × ByteArray)))) => (fun xs : List Int => xs.length = 6 ∧ ∀ x ∈ xs, (IntOk .i64) x) x.1 ∧ (fun x : ((List (Int × Int)) × ((List Int) × (ByteArray × ByteArray))) => (ListOk (fun x : (Int × Int) => (IntOk .i64) x.1 ∧ (IntOk .i64) x.2)) x.1 ∧ (fun x : ((List Int) × (ByteArray × ByteArray)) => (ListOk (IntOk .i64)) x.1 ∧ (fun x : (ByteArray × ByteArray) => StrOk x.1 ∧ StrOk x.2) x.2) x.2) x.2) x.2) x.1 ∧ (fun x : ((Int × Int × Int × Int × List Int) × (List Int)) => (fun x : (Int × (Int × (Int × (Int × (List Int))))) => (IntOk .i64) x.1 ∧ (fun x : (Int × (Int × (Int × (List Int)))) => (IntOk .i64) x.1 ∧ (fun x : (Int × (Int × (List Int))) => (IntOk .i64) x.1 ∧ (fun x : (Int × (List Int)) => (IntOk .i64) x.1 ∧ (ListOk (IntOk .u8)) x.2) x.2) x.2) x.2) x.1 ∧ (ListOk (IntOk .i64)) x.2) x.2) x.2)) := reads_slice Tryz.underlying59 (by kernel_rfl) (by decide) rd31

set_option maxRecDepth 100000 in
theorem lifted (os : Os) (started : os.Started) (H : Type) (enc : TypeId × Value → H) :
    ReturnsInHanded {} Tryz.checked os 6 .any (fun w args => (Rows.scriptPrintsSpec.pre enc Tryz.prog Tryz.f6 [] false w args ∧ laidMetH Tryz.prog Rows.scriptPrintsRow.laid w) ∧ sizedMet enc Tryz.prog Tryz.f6 (OpenSpec.ofChange Rows.scriptPrintsSpec) false w args) (Rows.scriptPrintsSpec.post enc Tryz.prog Tryz.f6 false true false false) := by
  refine returnsInHanded_of_change_and (C := Tryz.checked) (X := fun w _ => laidMetH Tryz.prog Rows.scriptPrintsRow.laid w) (fun _ _ _ hh h => h.of_heap hh) own started (by kernel_rfl) Tryz.func6
    (ChangeSpec.witness_shaped (enc := enc) (C := Tryz.checked) (os := os) (X := fun w _ => laidMetH Tryz.prog Rows.scriptPrintsRow.laid w) false (World.laidAll Tryz.prog os Rows.scriptPrintsRow.laid) #[.agg [.int .i64 0, .int .i64 0, .int .u32 0].toArray, .agg [.int .u32 0, .int .i64 0].toArray, .slice none 0 0] 8 (World.laidAll_os _ _ _) (World.shaped_of_ZipB (by kernel_rfl) (by kernel_rfl)) (by kernel_rfl) (by kernel_rfl) (by kernel_rfl) (by rw [Go.MakeChecks.laidMetH_plain _ _ _ (by kernel_rfl)]; exact laidMet_laidAll _ (by kernel_rfl) (by kernel_rfl))) ?_
  intro W base args ds gs before hval0 hW _ _ hL _
  have hval : ∀ (j : Nat) t v, Tryz.f6.params[j]? = some t → args[j]? = some v → Value.okWide Tryz.prog W .any base t v := hval0
  have hW' := hW
  obtain ⟨p, q, hA0, hV, rfl, hfz, hnd⟩ := hW
  have hA : DataW.TrodAll enc Tryz.prog W 0 (fun _ => true) true Tryz.f6.params.toList args.toList ds p := hA0
  rw [Tryz.params6] at hA hval
  obtain ⟨v0, vs0, d0, ds0, p0, q0, hargs, rfl, rfl, h0, r0⟩ := trodAll_cons hA
  obtain ⟨v1, vs1, d1, ds1, p1, q1, rfl, rfl, rfl, h1, r1⟩ := trodAll_cons r0
  obtain ⟨v2, vs2, d2, ds2, p2, q2, rfl, rfl, rfl, h2, r2⟩ := trodAll_cons r1
  obtain ⟨rfl, rfl, rfl⟩ := trodAll_nil r2
  obtain rfl : args = #[v0, v1, v2] := by cases args; simp_all
  obtain ⟨rfl, rfl⟩ := trodVars_none hV
  have k0 := h0
  have lt0 : ∀ x ∈ p0, x.block < W.heap.size := by obtain ⟨m, hm⟩ := k0; exact DataW.trod_lt m _ _ _ hm
  obtain ⟨cs0, rfl, _⟩ := okWide_struct Tryz.underlying56 (hval 0 56 v0 rfl rfl)
  obtain ⟨l0⟩ := cs0
  obtain ⟨fuel0, hf0⟩ := h0
  obtain ⟨a0, hr0, ok0⟩ := rd56 fuel0 _ _ hf0
  replace hr0 : Kd.rep (kP (kI .i64) (kP (kI .i64) (kI .u32))) (Sto.of W) l0 a0 := hr0
  obtain ⟨_, _, rfl, rfl, ⟨_, _, rfl, rfl, rfl⟩⟩ := hr0
  have k1 := h1
  have lt1 : ∀ x ∈ p1, x.block < W.heap.size := by obtain ⟨m, hm⟩ := k1; exact DataW.trod_lt m _ _ _ hm
  obtain ⟨cs1, rfl, _⟩ := okWide_struct Tryz.underlying58 (hval 1 58 v1 rfl rfl)
  obtain ⟨l1⟩ := cs1
  obtain ⟨fuel1, hf1⟩ := h1
  obtain ⟨a1, hr1, ok1⟩ := rd58 fuel1 _ _ hf1
  replace hr1 : Kd.rep (kP (kI .u32) (kI .i64)) (Sto.of W) l1 a1 := hr1
  obtain ⟨_, _, rfl, rfl, rfl⟩ := hr1
  have k2 := h2
  have lt2 : ∀ x ∈ p2, x.block < W.heap.size := by obtain ⟨m, hm⟩ := k2; exact DataW.trod_lt m _ _ _ hm
  obtain ⟨ad2, len2, cap2, rfl⟩ := okWide_slice Tryz.underlying59 (hval 2 59 v2 rfl rfl)
  obtain ⟨fuel2, hf2⟩ := h2
  obtain ⟨a2, ⟨w2, hw2, hs2⟩, ok2⟩ := rd59 fuel2 _ _ hf2
  cases hw2
  clear hA0 hval0
  simp only [List.append_nil] at hW'
  have hLp : laidMet Tryz.prog Rows.scriptPrintsRow.laid W := (Go.MakeChecks.laidMetH_plain _ _ _ (by kernel_rfl)) ▸ hL
  have hLt : laidMet Tryz.prog (("internal/strconv.uint64pow10", Lib.tabData .u64 Lib.pow10Tab) :: Rows.scriptPrintsRow.laid.drop 3) W :=
    (show Rows.scriptPrintsRow.laid.drop 2 = ("internal/strconv.uint64pow10", Lib.tabData .u64 Lib.pow10Tab) :: Rows.scriptPrintsRow.laid.drop 3 by kernel_rfl) ▸ hLp.tail.tail
  have hT : Go.Eng.Tab Tryz.prog (Sto.of W) := Tab.of (Lib.tabIs_of_head (g := 1) (t := 237) (e := 218) (n := 20) (by kernel_rfl) (by kernel_rfl) Tryz.underlying237 Tryz.underlying218 (by kernel_rfl) (by kernel_rfl) hLt)
  have hLe0 : laidMet Tryz.prog (("strconv.ErrSyntax", .iface "*errors.errorString" (.ptr (.agg [.lit (.string [105, 110, 118, 97, 108, 105, 100, 32, 115, 121, 110, 116, 97, 120])]))) :: Rows.scriptPrintsRow.laid.drop 6) W :=
    (show Rows.scriptPrintsRow.laid.drop 5 = ("strconv.ErrSyntax", .iface "*errors.errorString" (.ptr (.agg [.lit (.string [105, 110, 118, 97, 108, 105, 100, 32, 115, 121, 110, 116, 97, 120])]))) :: Rows.scriptPrintsRow.laid.drop 6 by kernel_rfl) ▸ hLp.tail.tail.tail.tail.tail
  obtain ⟨ea0, es0, hv0E, _, _, _⟩ := laid_sentinel (g := 2) (ti := 184) (tp := 249) (te := 251) (ts := 9) hLe0 (by kernel_rfl) (by kernel_rfl) Tryz.underlying184 errRow Tryz.underlying249 Tryz.underlying251 rfl rfl Tryz.underlying9 (by kernel_rfl) (by kernel_rfl)
  have hLe1 : laidMet Tryz.prog (("strconv.ErrRange", .iface "*errors.errorString" (.ptr (.agg [.lit (.string [118, 97, 108, 117, 101, 32, 111, 117, 116, 32, 111, 102, 32, 114, 97, 110, 103, 101])]))) :: Rows.scriptPrintsRow.laid.drop 5) W :=
    (show Rows.scriptPrintsRow.laid.drop 4 = ("strconv.ErrRange", .iface "*errors.errorString" (.ptr (.agg [.lit (.string [118, 97, 108, 117, 101, 32, 111, 117, 116, 32, 111, 102, 32, 114, 97, 110, 103, 101])]))) :: Rows.scriptPrintsRow.laid.drop 5 by kernel_rfl) ▸ hLp.tail.tail.tail.tail
  obtain ⟨ea1, es1, hv1E, _, _, _⟩ := laid_sentinel (g := 3) (ti := 184) (tp := 249) (te := 251) (ts := 9) hLe1 (by kernel_rfl) (by kernel_rfl) Tryz.underlying184 errRow Tryz.underlying249 Tryz.underlying251 rfl rfl Tryz.underlying9 (by kernel_rfl) (by kernel_rfl)
  have hE : Go.Eng.Errs Tryz.prog (Sto.of W) := Errs.of hv0E hv1E
  have hlaw : Go.Rel.law27_ScriptPrints a0 a1 a2 true := Go.Rel.scriptPrints_claim ok0 ok1 ok2
  refine (Does.calls (w := W) (Go.Rel.law27_ScriptPrints_ok hlaw (Sto.of W) hs2 hT hE)).mono fun e W' ⟨v, σ', gs', he, ⟨_, hv⟩, hle, hwo⟩ => ?_
  subst hv
  subst he
  have bel : Below W.heap.size W W' := hwo.below hle
  exact ⟨_, rfl, _, _, _, [], _, [], hW', trodAll_mk1 (shut_bool Tryz.underlying4 _), (trodAll_cons_mk (Below.trod laidOut (by kernel_rfl) (of_decide_eq_true (by kernel_rfl)) k0 bel lt0) (trodAll_cons_mk (Below.trod laidOut (by kernel_rfl) (of_decide_eq_true (by kernel_rfl)) k1 bel lt1) (trodAll_cons_mk (Below.trod laidOut (by kernel_rfl) (of_decide_eq_true (by kernel_rfl)) k2 bel lt2) trodAll_mk0))), rfl, bel.frame _, fun h => by cases h⟩

theorem over : Rows.scriptPrintsRow.holds Tryz.pinned (OpenSpec.ofChange Rows.scriptPrintsSpec) :=
  OpenClaim.holds_of_wide 6 Tryz.f6 rfl rfl rfl rfl rfl rfl rfl ⟨rfl, rfl, rfl, rfl, rfl⟩ rfl rfl rfl rfl rfl (by kernel_rfl) Tryz.func6 (by kernel_rfl)
    (of_decide_eq_true (by kernel_rfl)) (by unfold Func.isWrapper; first | (rw [if_pos (by decide +kernel)]; kernel_rfl) | (rw [if_neg (by decide +kernel)]; exact ⟨rfl, rfl⟩))
    (fun os started H enc _ => lifted os started H enc)

theorem proved : Rows.ScriptPrintsCardSaid :=
  Claim7.holds_tied_plain_at .later [] [.data, .data, .data, .data, .sentinel, .sentinel, .pinned] true (true, "137fb6e01b2669c9b5eaba1ac02950479b29703b360cc2d0f4307bfbed8a09ca") true
    over (fun _ h => by cases h) (by kernel_rfl) (fun _ h => by cases h) scriptPrints_row_tie rfl ⟨rfl, rfl⟩ (by kernel_rfl) rfl
    (fun f fn hf hfn => by
      obtain rfl : f = 6 := Option.some.inj ((show Tryz.prog.funcNamed "cuneiform/cuneiformlaw27.ScriptPrints" = some 6 by kernel_rfl).symm.trans hf) |>.symm
      obtain rfl : fn = Tryz.f6 := (Option.some.inj (Tryz.func6.symm.trans hfn)).symm
      exact ⟨by kernel_rfl, fun j t ht => by
        rw [Tryz.params6] at ht
        have hm : t ∈ [56, 58, 59] := by simpa using Array.mem_of_getElem? ht
        have hall : ([56, 58, 59].all fun u => !Tryz.prog.wantsStandIn u) = true := by kernel_rfl
        exact (show Tryz.prog.wantsStandIn t = false by simpa using List.all_eq_true.1 hall t hm)⟩)
    (by kernel_rfl)
#print axioms proved
end Go.Proofs.YtemehkcopcjekaaGreatDoor.ScriptPrintsDone
