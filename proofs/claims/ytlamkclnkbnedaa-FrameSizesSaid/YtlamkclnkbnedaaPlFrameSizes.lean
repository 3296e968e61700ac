import Derived.Test.YtlamkclnkbnedaaPlFrame
/-! Plain law: how many bytes a frame has. -/
namespace Go.Rel
open Go Go.Eng Go.Pl
theorem take_min (l : List Int) (n : Nat) : (l.drop (0 : Int).toNat).take (((min (l.length : Int) (n : Int)) : Int) - 0).toNat = l.take n := by
  rw [show (0 : Int).toNat = 0 from rfl, List.drop_zero, show ((min (l.length : Int) (n : Int)) - 0).toNat = min l.length n by omega]
  by_cases h : l.length ≤ n
  · rw [Nat.min_eq_left h, List.take_length, List.take_of_length_le h]
  · rw [Nat.min_eq_right (by omega)]
theorem frameSizes_true {h : Hd} {b : List Int} {m : Int} (hq : 0 ≤ h.2.2.1 ∧ h.2.2.1 < 4294967296) (hb : Byt b) (hm : m ≤ 9223372036854775807) : law08_FrameSizes h b m true := by
  have h242 := take_min b 242
  have hl : (b.take 242).length ≤ 242 := by rw [List.length_take]; omega
  have hbt : Byt (b.take 242) := hb.take _
  unfold law08_FrameSizes
  rw [show ((242 : Nat) : Int) = 242 from rfl] at h242
  rw [h242]
  generalize b.take 242 = b' at hl hbt
  -- behind the frame
  have j1 : law08_FrameSizes_j1 m () true := by
    refine ⟨_, room_ok hm, .inl (), ?_, ?_⟩
    · refine loops_count (step := law08_FrameSizes_l4 m (roomB m)) (fun k => (k : Int)) 300 (fun k hk => ?_) ?_
      · unfold law08_FrameSizes_l4
        rw [if_pos (by simp; omega)]
        have hw : ∀ q : Bool, q = decide ((k : Int) ≤ 242) → 1 ≤ k → (!decide ((!decide (wireB (k : Int) = 0)) = q)) = false := by
          intro q hq h1
          subst hq
          unfold wireB
          by_cases h2 : (k : Int) ≤ 242
          · rw [if_neg (by omega)]; simp [h2]; omega
          · rw [if_pos (by omega)]; simp; omega
        have nx : law08_FrameSizes_j6 (k : Int) false (.inl ((k + 1 : Nat) : Int)) := by
          unfold law08_FrameSizes_j6
          rw [if_neg (by decide), w_small (by omega) (by omega)]; rfl
        have j5 : ∀ q : Bool, q = (decide (1 ≤ (k : Int)) && decide ((k : Int) ≤ roomB m)) → law08_FrameSizes_j5 (roomB m) (k : Int) q (.inl ((k + 1 : Nat) : Int)) := by
          intro q hq
          unfold law08_FrameSizes_j5
          by_cases h1 : 1 ≤ (k : Int)
          · rw [if_pos (by simpa using h1), if_neg (by simp [hq]; omega)]
            refine ⟨_, wire_ok _, ?_⟩
            rw [if_pos (by simpa using h1), hw _ rfl (by omega)]
            exact nx
          · rw [if_neg (by simpa using h1), if_neg (by simp [hq]; omega)]
            refine ⟨_, wire_ok _, ?_⟩
            rw [if_neg (by simpa using h1)]
            have : (!decide ((!decide (wireB (k : Int) = 0)) = false)) = false := by
              unfold wireB; rw [if_pos (by omega)]; rfl
            rw [this]; exact nx
        have hr : roomB m ≤ 242 := by unfold roomB; split <;> omega
        by_cases h1 : 1 ≤ (k : Int)
        · rw [if_pos (by simpa using h1)]
          by_cases h2 : (k : Int) ≤ 242
          · rw [if_pos (by simpa using h2), w_small (by omega) (by omega)]
            refine j5 _ ?_
            rw [decide_eq_true h1, Bool.true_and, decide_eq_decide]
            unfold roomB; split <;> omega
          · rw [if_neg (by simpa using h2)]
            refine j5 _ ?_
            rw [decide_eq_true h1, Bool.true_and, decide_eq_false (by omega)]
        · rw [if_neg (by simpa using h1)]
          refine j5 _ ?_
          rw [decide_eq_false h1]; rfl
      · unfold law08_FrameSizes_l4
        rw [if_neg (by simp)]
    · refine ⟨_, known08_ok, ?_⟩
      rw [if_pos rfl, if_pos (by simp; unfold roomB; split <;> omega)]
      exact ⟨_, wire_ok _, rfl⟩
  refine ⟨by omega, by omega, ?_⟩
  obtain ⟨t, ht1, ht2⟩ := fnew_ok
  refine ⟨t, ht1, _, fcheck_ok t (h, b'), ?_⟩
  by_cases he : frameE (h, b') = 0
  · rw [if_pos (by simpa using he)]
    refine ⟨_, pack_ok ht2 (l := [(h, b')]) (by simp) (fun f hf => ?_), ?_⟩
    · simp only [List.mem_singleton] at hf; subst hf; exact ⟨he, hq, hbt⟩
    · rw [if_neg (by simp)]
      have hlen : (wrapB ([(h, b')].map segB)).length = b'.length + 15 := by
        simp only [wrapB, List.map_cons, List.map_nil, List.flatten_cons, List.flatten_nil, List.append_nil, List.length_append, segB_len (f := (h, b')) hl]
        simp; omega
      refine ⟨_, wire_ok _, ?_⟩
      have hne := (frameE_ok he).2.1
      simp only at hne ⊢
      rw [hlen]
      rw [if_neg (by unfold wireB; simp; omega)]
      rw [w_small (n := (b'.length : Int) + 12) (by omega) (by omega), w_small (n := (b'.length : Int) + 12 + 253) (by omega) (by omega), Int.tdiv_eq_ediv_of_nonneg (by omega)]
      have hmax : max 1 (IntKind.i64.wrap (((b'.length : Int) + 12 + 253) / 254)) = 1 := by rw [w_small (by omega) (by omega)]; omega
      rw [hmax, w_small (n := (b'.length : Int) + 12 + 1) (by omega) (by omega), w_small (by omega) (by omega)]
      unfold law08_FrameSizes_j7
      rw [if_neg (by simp; omega)]
      exact j1
  · rw [if_neg (by simpa using he)]
    exact j1
theorem ok_u8 {n : Int} (h : IntOk .u8 n) : 0 ≤ n ∧ n < 256 := by
  obtain ⟨h1, h2⟩ := h
  simp only [IntKind.min, IntKind.max, IntKind.signed, IntKind.bits] at h1 h2
  simp at h1 h2; omega
theorem ok_u32 {n : Int} (h : IntOk .u32 n) : 0 ≤ n ∧ n < 4294967296 := by
  obtain ⟨h1, h2⟩ := h
  simp only [IntKind.min, IntKind.max, IntKind.signed, IntKind.bits] at h1 h2
  simp at h1 h2; omega
theorem ok_i64 {n : Int} (h : IntOk .i64 n) : -9223372036854775808 ≤ n ∧ n ≤ 9223372036854775807 := by
  obtain ⟨h1, h2⟩ := h
  simp only [IntKind.min, IntKind.max, IntKind.signed, IntKind.bits] at h1 h2
  simp at h1 h2; omega
theorem ok_byt {l : List Int} (h : ListOk (IntOk .u8) l) : Byt l := fun x hx => ok_u8 (h.1 x hx)
theorem frameSizes_claim {h : Hd} {b : List Int} {m : Int} (h0 : IntOk .i64 h.1 ∧ IntOk .i64 h.2.1 ∧ IntOk .u32 h.2.2.1 ∧ IntOk .i64 h.2.2.2.1 ∧ IntOk .i64 h.2.2.2.2) (h1 : ListOk (IntOk .u8) b) (h2 : IntOk .i64 m) : law08_FrameSizes h b m true :=
  frameSizes_true (ok_u32 h0.2.2.1) (ok_byt h1) (ok_i64 h2).2
end Go.Rel
