/- The dump of any bytes is the document's, and is parsed as it was; the rows are 16 bytes each, and a loop over them may end at any. -/
import Derived.Test.YtnlghjmngfgmcaaDoorRows
import Derived.Test.YtnlghjmngfgmcaaDoorCards
import Derived.Test.YtnlghjmngfgmcaaDoorTie
import Derived.LaidMore
import Derived.SevenTiedAt
import Derived.Stop.Joined
import Derived.Test.YtnlghjmngfgmcaaDoorUWalk
import Derived.Test.YtnlghjmngfgmcaaDoorPlM3
import Derived.Test.YtnlghjmngfgmcaaDoorEngR
import Derived.ProofKit
import Derived.MakeChecks
import Derived.Stop.LaidErr
import Derived.Lib.LaidTab
import Derived.Lay
import Derived.LaidOnce
import Derived.OpenShut
import Derived.ShutString
import Derived.ChangeOld
import Derived.Below
import Derived.Lib.SmallJoins
namespace Go.Proofs.YtnlghjmngfgmcaaDoor.DumpTextsDone
open Go.ChangeShapes Go.WideShapes Go.ChangeAt Go.RowKit Go.Joins Go.Eng
open Go.ChangeMaps (open_string shut_string)
set_option linter.unusedVariables false

theorem own : ownKnob Tryd.prog.godebug = none := by kernel_rfl
theorem laidOut : laidOutB Tryd.prog = true := by kernel_rfl
theorem rd5 {H : Type} {enc : TypeId × Value → H} {W : World} : Reads enc Tryd.prog W 5 (kI .u8) (IntOk .u8) := reads_int Tryd.underlying5
theorem rd22 {H : Type} {enc : TypeId × Value → H} {W : World} : Reads enc Tryd.prog W 22 (kSl (kI .u8)) (ListOk (IntOk .u8)) := reads_slice Tryd.underlying22 (by kernel_rfl) (by decide) rd5

set_option maxRecDepth 100000 in
theorem lifted (os : Os) (started : os.Started) (H : Type) (enc : TypeId × Value → H) :
    ReturnsInHanded {} Tryd.checked os 3 .any (fun w args => (Rows.dumpTextsSpec.pre enc Tryd.prog Tryd.f3 [] false w args ∧ laidMetH Tryd.prog Rows.dumpTextsRow.laid w) ∧ sizedMet enc Tryd.prog Tryd.f3 (OpenSpec.ofChange Rows.dumpTextsSpec) false w args) (Rows.dumpTextsSpec.post enc Tryd.prog Tryd.f3 false true false false) := by
  refine returnsInHanded_of_change_and (C := Tryd.checked) (X := fun w _ => laidMetH Tryd.prog Rows.dumpTextsRow.laid w) (fun _ _ _ hh h => h.of_heap hh) own started (by kernel_rfl) Tryd.func3
    (ChangeSpec.witness_shaped (enc := enc) (C := Tryd.checked) (os := os) (X := fun w _ => laidMetH Tryd.prog Rows.dumpTextsRow.laid w) false (World.laidAll Tryd.prog os Rows.dumpTextsRow.laid) #[.slice none 0 0, .int .i64 0] 8 (World.laidAll_os _ _ _) (World.shaped_of_ZipB (by kernel_rfl) (by kernel_rfl)) (by kernel_rfl) (by kernel_rfl) (by kernel_rfl) (by rw [Go.MakeChecks.laidMetH_plain _ _ _ (by kernel_rfl)]; exact laidMet_laidAll _ (by kernel_rfl) (by kernel_rfl))) ?_
  intro W base args ds gs before hval0 hW _ _ hL _
  have hval : ∀ (j : Nat) t v, Tryd.f3.params[j]? = some t → args[j]? = some v → Value.okWide Tryd.prog W .any base t v := hval0
  have hW' := hW
  obtain ⟨p, q, hA0, hV, rfl, hfz, hnd⟩ := hW
  have hA : DataW.TrodAll enc Tryd.prog W 0 (fun _ => true) true Tryd.f3.params.toList args.toList ds p := hA0
  rw [Tryd.params3] at hA hval
  obtain ⟨v0, vs0, d0, ds0, p0, q0, hargs, rfl, rfl, h0, r0⟩ := trodAll_cons hA
  obtain ⟨v1, vs1, d1, ds1, p1, q1, rfl, rfl, rfl, h1, r1⟩ := trodAll_cons r0
  obtain ⟨rfl, rfl, rfl⟩ := trodAll_nil r1
  obtain rfl : args = #[v0, v1] := by cases args; simp_all
  obtain ⟨rfl, rfl⟩ := trodVars_none hV
  have k0 := h0
  have lt0 : ∀ x ∈ p0, x.block < W.heap.size := by obtain ⟨m, hm⟩ := k0; exact DataW.trod_lt m _ _ _ hm
  obtain ⟨ad0, len0, cap0, rfl⟩ := okWide_slice Tryd.underlying22 (hval 0 22 v0 rfl rfl)
  obtain ⟨fuel0, hf0⟩ := h0
  obtain ⟨a0, ⟨w0, hw0, hs0⟩, ok0⟩ := rd22 fuel0 _ _ hf0
  cases hw0
  have k1 := h1
  have lt1 : ∀ x ∈ p1, x.block < W.heap.size := by obtain ⟨m, hm⟩ := k1; exact DataW.trod_lt m _ _ _ hm
  obtain ⟨a1, rfl, rfl, rfl, w1⟩ := open_int Tryd.underlying3 (hval 1 3 v1 rfl rfl) h1
  have ok1 := wf_ok w1
  clear hA0 hval0
  simp only [List.append_nil] at hW'
  have hLp : laidMet Tryd.prog Rows.dumpTextsRow.laid W := (Go.MakeChecks.laidMetH_plain _ _ _ (by kernel_rfl)) ▸ hL
  have hLt : laidMet Tryd.prog (("internal/strconv.uint64pow10", Lib.tabData .u64 Lib.pow10Tab) :: Rows.dumpTextsRow.laid.drop 3) W :=
    (show Rows.dumpTextsRow.laid.drop 2 = ("internal/strconv.uint64pow10", Lib.tabData .u64 Lib.pow10Tab) :: Rows.dumpTextsRow.laid.drop 3 by kernel_rfl) ▸ hLp.tail.tail
  have hT : Go.Eng.Tab Tryd.prog (Sto.of W) := Tab.of (Lib.tabIs_of_head (g := 5) (t := 219) (e := 166) (n := 20) (by kernel_rfl) (by kernel_rfl) Tryd.underlying219 Tryd.underlying166 (by kernel_rfl) (by kernel_rfl) hLt)
  have hlaw : Go.Rel.law29_DumpTexts a0 a1 true := Go.Rel.dumpTexts_claim ok0 ok1
  refine (Does.calls (w := W) (Go.Rel.law29_DumpTexts_ok hlaw (Sto.of W) hs0 hT)).mono fun e W' ⟨v, σ', gs', he, ⟨_, hv⟩, hle, hwo⟩ => ?_
  subst hv
  subst he
  have bel : Below W.heap.size W W' := hwo.below hle
  exact ⟨_, rfl, _, _, _, [], _, [], hW', trodAll_mk1 (shut_bool Tryd.underlying4 _), (trodAll_cons_mk (Below.trod laidOut (by kernel_rfl) (of_decide_eq_true (by kernel_rfl)) k0 bel lt0) (trodAll_cons_mk (shut_int Tryd.underlying3 w1) trodAll_mk0)), rfl, bel.frame _, fun h => by cases h⟩

theorem over : Rows.dumpTextsRow.holds Tryd.pinned (OpenSpec.ofChange Rows.dumpTextsSpec) :=
  OpenClaim.holds_of_wide 3 Tryd.f3 rfl rfl rfl rfl rfl rfl rfl ⟨rfl, rfl, rfl, rfl, rfl⟩ rfl rfl rfl rfl rfl (by kernel_rfl) Tryd.func3 (by kernel_rfl)
    (of_decide_eq_true (by kernel_rfl)) (by unfold Func.isWrapper; first | (rw [if_pos (by decide +kernel)]; kernel_rfl) | (rw [if_neg (by decide +kernel)]; exact ⟨rfl, rfl⟩))
    (fun os started H enc _ => lifted os started H enc)

theorem proved : Rows.DumpTextsCardSaid :=
  Claim7.holds_tied_plain_at .later [] [.data, .data, .data, .data, .pinned] true (true, "2c992a7d28123e16ae42ea99c71004df6c5f903f2dbfbdbd1ec9aa13390fcabd") true
    over (fun _ h => by cases h) (by kernel_rfl) (fun _ h => by cases h) dumpTexts_row_tie rfl ⟨rfl, rfl⟩ (by kernel_rfl) rfl
    (fun f fn hf hfn => by
      obtain rfl : f = 3 := Option.some.inj ((show Tryd.prog.funcNamed "cuneiform/cuneiformlaw29.DumpTexts" = some 3 by kernel_rfl).symm.trans hf) |>.symm
      obtain rfl : fn = Tryd.f3 := (Option.some.inj (Tryd.func3.symm.trans hfn)).symm
      exact ⟨by kernel_rfl, fun j t ht => by
        rw [Tryd.params3] at ht
        have hm : t ∈ [22, 3] := by simpa using Array.mem_of_getElem? ht
        have hall : ([22, 3].all fun u => !Tryd.prog.wantsStandIn u) = true := by kernel_rfl
        exact (show Tryd.prog.wantsStandIn t = false by simpa using List.all_eq_true.1 hall t hm)⟩)
    (by kernel_rfl)
#print axioms proved
end Go.Proofs.YtnlghjmngfgmcaaDoor.DumpTextsDone
