import Derived.Test.YtlamkclnkbnedaaPlFrame
/-! Plain law: a nil codec has no frames. -/
namespace Go.Rel
open Go Go.Eng Go.Pl
theorem frameNil_true (f : Hd × List Int) (b : List Int) : law08_FrameNil f b true := by
  refine ⟨_, rfl, ([], 1), ⟨1, rfl, ?_⟩, _, rfl, _, rfl, .inl 0, (), rfl, ?_⟩
  · rw [if_pos (by decide)]
  · refine ⟨_, known08_ok, ?_⟩
    rw [if_pos rfl]
    refine ⟨1, rfl, ?_⟩
    rw [if_pos (by decide), if_pos (by decide), if_pos (by decide), if_pos (by decide), if_pos (by decide)]
    refine ⟨true, ?_, ?_⟩
    · unfold frame_Same
      rw [if_pos (by decide)]
      refine ⟨true, ?_, rfl⟩
      show true = _
      simp
    · rw [if_pos rfl, if_pos (by decide)]
      show true = _
      decide
theorem frameNil_claim {f : Hd × List Int} {b : List Int} {p q : Prop} (_h0 : p) (_h1 : q) : law08_FrameNil f b true := frameNil_true f b
end Go.Rel
