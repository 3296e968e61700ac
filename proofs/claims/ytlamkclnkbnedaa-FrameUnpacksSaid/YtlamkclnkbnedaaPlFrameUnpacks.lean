import Derived.Test.YtlamkclnkbnedaaPlUnpack
/-! Plain law: the frame of any segment. -/
namespace Go.Rel
open Go Go.Eng Go.Pl
theorem frameUnpacks_true {b : List Int} (hb : Byt b) : law08_FrameUnpacks b true := by
  have h300 := take_min b 300
  have hl : (b.take 300).length ≤ 300 := by rw [List.length_take]; omega
  have hbt : Byt (b.take 300) := hb.take _
  unfold law08_FrameUnpacks
  rw [show ((300 : Nat) : Int) = 300 from rfl] at h300
  rw [h300]
  generalize b.take 300 = s at hl hbt
  obtain ⟨t, ht1, ht2⟩ := fnew_ok
  refine ⟨by omega, by omega, t, ht1, _, unpack_ok ht2 hbt (by omega), _, runpack_ok hbt (by omega), (unpB s).1, fun _ => rfl, true, fun _ => ?_, ?_⟩
  · have h2 : ((unpB s).1.2).length < 4611686018427387904 := by
      unfold unpB
      repeat' split
      all_goals simp only [noF, List.length_nil, List.length_drop]
      all_goals try omega
      unfold openB
      repeat' split
      all_goals simp only [List.length_nil, List.length_take]
      all_goals try omega
      rename_i h1 h3 h4 _ _ _ _
      have h5 : (decR s).2 = 0 := by omega
      have := enc_len (decR s).1
      rw [(decR_ok hbt h5).1] at this
      omega
    have := rfsame_ok (unpB s).1 (unpB s).1 h2
    simpa using this
  · rw [if_neg (by simp)]
    by_cases he : (unpB s).2 = 0
    · rw [if_neg (by simpa using he)]
      obtain ⟨h1, h2, h3, h4⟩ := unp_back hbt he
      refine ⟨_, segment_ok ht2 h1 h2 h3, _, known08_ok, ?_⟩
      rw [if_pos rfl, if_pos (by simp)]
      refine ⟨_, same_ok (by simp only [h4]; omega), ?_⟩
      show true = _
      simp only [h4, decide_true]
    · rw [if_pos (by simpa using he)]
      exact ⟨_, known08_ok, rfl⟩
theorem frameUnpacks_claim {b : List Int} (h0 : ListOk (IntOk .u8) b) : law08_FrameUnpacks b true := frameUnpacks_true (ok_byt h0)
end Go.Rel
