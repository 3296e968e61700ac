import Derived.Test.YtgokdchgjpneoaaDoorPlItoa
import Derived.Test.YtgokdchgjpneoaaDoorPlHeadP
/-! Plain laws: heads of one message; the head of any bytes. -/
namespace Go.Rel
open Go Go.Eng Go.Pl
theorem known07_ok : law07_known true := by
  refine ⟨_, hbytes_ok (h := (2, 4, 258, 0, 3)) (by decide) ⟨by decide, by decide⟩, ?_⟩
  rw [if_pos (by decide)]
  refine ⟨_, same_ok (by decide), ?_⟩
  rw [if_pos (by decide)]
  refine ⟨bstr [118, 32, 50, 32, 107, 32, 52, 32, 55, 55, 32, 48, 47, 51], ?_, ?_⟩
  · refine ⟨_, itoa_small (by decide) (by decide) dig2, by decide +kernel, by decide +kernel, _, itoa_small (by decide) (by decide) dig4, by decide +kernel, by decide +kernel, _, utoa_small (n := IntKind.u64.wrap 77) (by decide) (by decide) dig77, by decide +kernel, by decide +kernel, _, itoa_small (by decide) (by decide) dig0, by decide +kernel, by decide +kernel, _, itoa_small (by decide) (by decide) dig3, by decide +kernel, by decide +kernel⟩
  · show true = _
    rw [decide_eq_true rfl]
theorem mates_ok (a b : Hd) : head_Mates a b (decide (a.1 = b.1 ∧ a.2.1 = b.2.1 ∧ a.2.2.1 = b.2.2.1 ∧ a.2.2.2.2 = b.2.2.2.2)) := by
  unfold head_Mates
  rw [Bool.eq_iff_iff]
  simp
theorem headMates_true (a b : Hd) : law07_HeadMates a b true := by
  have j1 : ∀ w : Bool, w = decide (a.1 = b.1 ∧ a.2.1 = b.2.1 ∧ a.2.2.1 = b.2.2.1 ∧ a.2.2.2.2 = b.2.2.2.2) → law07_HeadMates_j1 a b w true := by
    rintro w rfl
    refine ⟨_, known07_ok, ?_⟩
    rw [if_pos rfl]
    refine ⟨_, mates_ok a b, ?_⟩
    rw [if_pos (by simp)]
    refine ⟨_, mates_ok b a, ?_⟩
    rw [if_pos (by rw [decide_eq_true_eq, decide_eq_decide]; constructor <;> (rintro ⟨h1, h2, h3, h4⟩; exact ⟨h1.symm, h2.symm, h3.symm, h4.symm⟩))]
    refine ⟨_, mates_ok a _, ?_⟩
    show true = _
    simp
  unfold law07_HeadMates
  by_cases h1 : a.1 = b.1
  · rw [if_pos (by simpa using h1)]
    by_cases h2 : a.2.1 = b.2.1
    · rw [if_pos (by simpa using h2)]
      by_cases h3 : a.2.2.1 = b.2.2.1
      · rw [if_pos (by simpa using h3)]
        exact j1 _ (by rw [decide_eq_decide]; exact ⟨fun h => ⟨h1, h2, h3, h⟩, fun h => h.2.2.2⟩)
      · rw [if_neg (by simpa using h3)]; exact j1 _ (by rw [eq_comm, decide_eq_false_iff_not]; exact fun h => h3 h.2.2.1)
    · rw [if_neg (by simpa using h2)]; exact j1 _ (by rw [eq_comm, decide_eq_false_iff_not]; exact fun h => h2 h.2.1)
  · rw [if_neg (by simpa using h1)]; exact j1 _ (by rw [eq_comm, decide_eq_false_iff_not]; exact fun h => h1 h.1)
theorem headMates_claim {a b : Hd} {p q : Prop} (_h0 : p) (_h1 : q) : law07_HeadMates a b true := headMates_true a b
theorem headParses_true {b : List Int} (hb : Byt b) : law07_HeadParses b true := by
  have h20 := take_min b 20
  have hl : (b.take 20).length ≤ 20 := by rw [List.length_take]; omega
  have hbt : Byt (b.take 20) := hb.take _
  have main : ∃ r, head_Parse (b.take 20) r ∧ ref07_Parse (b.take 20) r ∧ law07_HeadParses_j1 b r false true := by
    have nok : ∀ e : Int, e ≠ 0 → law07_HeadParses_j1 b ((0, 0, 0, 0, 0), e) false true := by
      intro e he
      unfold law07_HeadParses_j1
      rw [if_neg (by decide), if_pos (by simpa using he)]
      exact ⟨_, known07_ok, rfl⟩
    by_cases h1 : (b.take 20).length < 8
    · exact ⟨_, (hparse_short h1).1, (hparse_short h1).2, nok 13 (by decide)⟩
    · by_cases h2 : 8 < (b.take 20).length
      · exact ⟨_, (hparse_long hbt h2 (by omega)).1, (hparse_long hbt h2 (by omega)).2, nok 3 (by decide)⟩
      · have h8 : (b.take 20).length = 8 := by omega
        refine ⟨_, hparse_ok hbt h8, rhparse_ok hbt h8, ?_⟩
        unfold parseH
        by_cases he : headE (hdOf (b.take 20)) = 0
        · rw [if_pos he]
          unfold law07_HeadParses_j1
          rw [if_neg (by decide), if_neg (by simp)]
          have hv := leV_bound (((b.take 20).drop 2).take 4) ((hbt.drop 2).take 4)
          have hp2 : 256 ^ (((b.take 20).drop 2).take 4).length ≤ 256 ^ 4 := Nat.pow_le_pow_right (by omega) (by rw [List.length_take]; omega)
          refine ⟨_, hbytes_ok he ⟨hv.1, by simp only [hdOf]; omega⟩, _, known07_ok, ?_⟩
          rw [if_pos rfl, if_pos (by simp)]
          rw [show ((20 : Nat) : Int) = 20 from rfl] at h20
          refine ⟨_, same_ok (by simp [headB]), ?_⟩
          show true = _
          rw [h20, headB_hdOf hbt h8, decide_eq_true rfl]
        · rw [if_neg he]; exact nok _ he
  obtain ⟨r, hr1, hr2, hr3⟩ := main
  unfold law07_HeadParses
  rw [show ((20 : Nat) : Int) = 20 from rfl] at h20
  rw [h20]
  refine ⟨by omega, by omega, r, hr1, r, hr2, ?_⟩
  rw [if_neg (by simp)]
  simpa using hr3
theorem headParses_claim {b : List Int} (h0 : ListOk (IntOk .u8) b) : law07_HeadParses b true := headParses_true (ok_byt h0)
end Go.Rel
