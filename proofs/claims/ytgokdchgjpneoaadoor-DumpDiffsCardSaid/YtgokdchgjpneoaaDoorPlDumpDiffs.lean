import Derived.Test.YtgokdchgjpneoaaDoorPlDump
/-! Plain law: where two lists aren't the same. -/
namespace Go.Rel
open Go Go.Eng Go.Pl
theorem diff_ok {a b : List Int} (ha : a.length < 1000000) (hb : b.length < 1000000) : ∃ d : Nat, d ≤ a.length ∧ d ≤ b.length ∧ a.take d = b.take d ∧ dump_Diff a b ((d : Int), decide (a ≠ b)) ∧ (d < a.length → d < b.length → a[d]? ≠ b[d]?) := by
  have key := loops_inv (step := dump_Diff_l2 a b) (s := 0) (fun k (s : Int) => s = (k : Int) ∧ a.take k = b.take k) (fun e => (e = .inl () ∧ a.take (min a.length b.length) = b.take (min a.length b.length)) ∨ ∃ k : Nat, k < min a.length b.length ∧ e = .inr ((k : Int), true) ∧ a.take k = b.take k ∧ a[k]? ≠ b[k]?) (min a.length b.length) ⟨rfl, by simp⟩ ?_ ?_
  · obtain ⟨e, h1, h2⟩ := key
    rcases h2 with ⟨rfl, h2⟩ | ⟨k, hk, rfl, h2, h3⟩
    · refine ⟨min a.length b.length, by omega, by omega, h2, ⟨_, h1, ?_⟩, fun h3 h4 => by omega⟩
      show _ = _
      rw [show ((min a.length b.length : Nat) : Int) = min (a.length : Int) (b.length : Int) by omega]
      congr 1
      by_cases h : a = b
      · subst h; simp
      · have hl : a.length ≠ b.length := fun hl => h (by rw [hl, Nat.min_self, List.take_length, ← hl, List.take_length] at h2; exact h2)
        have hi : ¬ ((a.length : Int) = (b.length : Int)) := by omega
        simp [h, hi]
    · refine ⟨k, by omega, by omega, h2, ⟨_, h1, ?_⟩, fun _ _ => h3⟩
      show _ = _
      have hi : ¬ a = b := fun h => h3 (by rw [h])
      simp [hi]
  · rintro k s hk ⟨rfl, h⟩
    have h1 : k < a.length := by omega
    have h2 : k < b.length := by omega
    by_cases he : a[k] = b[k]
    · left
      refine ⟨((k + 1 : Nat) : Int), ?_, rfl, by rw [List.take_succ_eq_append_getElem h1, List.take_succ_eq_append_getElem h2, h, he]⟩
      unfold dump_Diff_l2
      rw [if_pos (by simp only [decide_eq_true_eq]; omega)]
      refine ⟨a[k], idx_of h1, b[k], idx_of h2, ?_⟩
      rw [if_neg (by simp [he]), w_small (by omega) (by omega)]; rfl
    · right
      refine ⟨.inr ((k : Int), true), ?_, .inr ⟨k, hk, rfl, h, by simp [h1, h2, he]⟩⟩
      unfold dump_Diff_l2
      rw [if_pos (by simp only [decide_eq_true_eq]; omega)]
      refine ⟨a[k], idx_of h1, b[k], idx_of h2, ?_⟩
      rw [if_pos (by simp [he])]
  · rintro s ⟨rfl, h⟩
    refine ⟨.inl (), ?_, .inl ⟨rfl, h⟩⟩
    unfold dump_Diff_l2
    rw [if_neg (by simp only [decide_eq_true_eq]; omega)]
theorem dumpDiffs_true {a0 a1 : List Int} : law29_DumpDiffs a0 a1 true := by
  have ha := take_min a0 300
  have hb := take_min a1 300
  have hla : (a0.take 300).length ≤ 300 := by rw [List.length_take]; omega
  have hlb : (a1.take 300).length ≤ 300 := by rw [List.length_take]; omega
  unfold law29_DumpDiffs
  rw [show ((300 : Nat) : Int) = 300 from rfl] at ha hb
  rw [ha, hb]
  refine ⟨by omega, by omega, by omega, by omega, ?_⟩
  generalize a0.take 300 = a at hla
  generalize a1.take 300 = b at hlb
  obtain ⟨d, h1, h2, h3, h4, h5⟩ := diff_ok (a := a) (b := b) (by omega) (by omega)
  have e0 : ∀ x : List Int, (x.drop (0 : Int).toNat).take ((d : Int) - 0).toNat = x.take d := fun x => by simp
  have c0 : ((decide ((d : Int) < 0) || decide ((a.length : Int) < (d : Int))) || decide ((b.length : Int) < (d : Int))) = false := by
    rw [decide_eq_false (by omega), decide_eq_false (by omega), decide_eq_false (by omega)]; rfl
  refine ⟨_, h4, fun _ => by simp only; omega, fun _ => by simp only; omega, fun _ => by simp only; omega, fun _ => by simp only; omega, true, fun _ => ?_, decide (a = b), fun _ => same_ok (by omega), ?_⟩
  · simp only
    rw [e0, e0, h3]
    have := same_ok (a := b.take d) (b := b.take d) (by rw [List.length_take]; omega)
    simpa using this
  · simp only
    rw [c0, if_neg (by by_cases h : a = b <;> simp [h])]
    have hat : ∀ x : List Int, d < x.length → idx x (d : Int) (x.getD d 0) := fun x hx => ⟨by omega, by rw [Int.toNat_natCast, List.getD_eq_getElem?_getD, List.getElem?_eq_getElem hx]; rfl⟩
    have hg : ∀ {p q r : Bool}, (true = true ∧ ((p || q) || r) = false) → q = false ∧ r = false := fun {p q r} h => by cases p <;> cases q <;> cases r <;> simp_all
    refine ⟨true, known29_ok, a.getD d 0, fun h => hat a ?_, b.getD d 0, fun h => hat b ?_, ?_⟩
    · have := of_decide_eq_false (hg h).1; omega
    · have := of_decide_eq_false (hg h).2; omega
    · rw [Bool.true_and]
      by_cases h : a = b
      · simp [h]
      · by_cases q1 : d = a.length
        · simp [q1]
        · by_cases q2 : d = b.length
          · simp [q2]
          · have q3 := h5 (by omega) (by omega)
            have q4 : a.getD d 0 ≠ b.getD d 0 := by
              intro q5
              rw [List.getD_eq_getElem?_getD, List.getD_eq_getElem?_getD, List.getElem?_eq_getElem (show d < a.length by omega), List.getElem?_eq_getElem (show d < b.length by omega)] at q5
              exact q3 (by rw [List.getElem?_eq_getElem (show d < a.length by omega), List.getElem?_eq_getElem (show d < b.length by omega)]; exact congrArg some q5)
            rw [decide_eq_false q4]; simp
theorem dumpDiffs_claim {a b : List Int} (_h0 : ListOk (IntOk .u8) a) (_h1 : ListOk (IntOk .u8) b) : law29_DumpDiffs a b true := dumpDiffs_true
end Go.Rel
