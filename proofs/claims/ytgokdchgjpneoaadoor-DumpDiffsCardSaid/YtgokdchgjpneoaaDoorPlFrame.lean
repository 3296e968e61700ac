import Derived.Test.YtgokdchgjpneoaaDoorPlCobs
import Derived.Test.YtgokdchgjpneoaaDoorPlHead
import Derived.Test.YtgokdchgjpneoaaDoorPlRoom
/-! Plain laws: frames. -/
namespace Go.Rel
open Go Go.Eng Go.Pl
theorem take_map {α β : Type} (f : α → β) {l : List α} {k : Nat} (hk : k < l.length) : (l.take (k + 1)).map f = (l.take k).map f ++ [f l[k]] := by
  rw [List.take_succ_eq_append_getElem hk, List.map_append]; rfl
def frameE (f : Hd × List Int) : Int := if headE f.1 ≠ 0 then headE f.1 else if f.2.length = 0 then 13 else if 242 < f.2.length then 2 else 0
theorem fcheck_ok (t : List Int) (f : Hd × List Int) : frame_Codec_Check t f (frameE f) := by
  refine ⟨_, hcheck_ok f.1, ?_⟩
  unfold frameE
  by_cases h : headE f.1 = 0
  · simp only [h, ne_eq, not_true_eq_false, if_false, decide_true, Bool.not_true, Bool.false_eq_true]
    by_cases h1 : f.2.length = 0
    · rw [if_pos (by simp only [decide_eq_true_eq]; omega), if_pos h1]
    · by_cases h2 : 242 < f.2.length
      · rw [if_neg (by simp only [decide_eq_true_eq]; omega), if_pos (by simp only [decide_eq_true_eq]; omega), if_neg h1, if_pos h2]
      · rw [if_neg (by simp only [decide_eq_true_eq]; omega), if_neg (by simp only [decide_eq_true_eq]; omega), if_neg h1, if_neg h2]
  · rw [if_pos (by simpa using h), if_pos h]
/-- What a frame's block is, and its segment. -/
def blockB (f : Hd × List Int) : List Int := (headB f.1 ++ f.2) ++ sumB (sumW (headB f.1 ++ f.2))
def segB (f : Hd × List Int) : List Int := encB (blockB f)
theorem frameE_ok {f : Hd × List Int} (h : frameE f = 0) : headE f.1 = 0 ∧ f.2.length ≠ 0 ∧ f.2.length ≤ 242 := by
  unfold frameE at h
  by_cases h0 : headE f.1 = 0
  · rw [if_neg (by simpa using h0)] at h
    split at h
    · cases h
    · split at h
      · cases h
      · exact ⟨h0, by assumption, by omega⟩
  · rw [if_pos h0] at h; exact absurd h h0
theorem segment_ok {t : List Int} (ht : IsTab t) {f : Hd × List Int} (h : frameE f = 0) (hq : 0 ≤ f.1.2.2.1 ∧ f.1.2.2.1 < 4294967296) (hb : Byt f.2) : frame_Codec_Segment t f (segB f, 0) := by
  obtain ⟨h1, h2, h3⟩ := frameE_ok h
  have hby : Byt (headB f.1 ++ f.2) := Byt.app (headB_byt h1 hq) hb
  have hl8 : (headB f.1).length = 8 := rfl
  refine ⟨_, fcheck_ok t f, ?_⟩
  rw [if_neg (by simp [h])]
  refine ⟨_, hbytes_ok h1 hq, by simp only [hl8]; omega, by simp only [hl8]; omega, _, seal_ok ht hby (by rw [List.length_append, hl8]; omega), _, encode_ok ?_, rfl⟩
  simp only [List.length_append, hl8, sumB, List.length_cons, List.length_nil]; omega
theorem segment_no (t : List Int) {f : Hd × List Int} (h : frameE f ≠ 0) : frame_Codec_Segment t f ([], frameE f) := by
  refine ⟨_, fcheck_ok t f, ?_⟩
  rw [if_pos (by simpa using h)]
theorem segB_len {f : Hd × List Int} (h : f.2.length ≤ 242) : (segB f).length = f.2.length + 13 := by
  have : (blockB f).length = f.2.length + 12 := by simp [blockB, headB, sumB]
  unfold segB encB
  rw [cb_len _ _ (by simp) (by simp; omega), this]; simp
def wrapB (l : List (List Int)) : List Int := (l.map fun s => [0] ++ s ++ [0]).flatten
theorem wrap_ok {l : List (List Int)} (hl : l.length < 1048576) (hs : ∀ s ∈ l, s.length < 1048576) : fence_Wrap l (wrapB l) := by
  refine ⟨_, ?_, rfl⟩
  have hlen : ∀ k, k ≤ l.length → (wrapB (l.take k)).length ≤ k * 1048578 := by
    intro k
    induction k with
    | zero => intro _; simp [wrapB]
    | succ k ih =>
      intro hk
      have h1 := ih (by omega)
      have h2 := hs l[k] (List.getElem_mem _)
      rw [List.take_succ_eq_append_getElem (by omega)]
      simp only [wrapB, List.map_append, List.flatten_append, List.length_append, List.map_cons, List.map_nil, List.flatten_cons, List.flatten_nil, List.append_nil, List.length_cons, List.length_nil] at h1 ⊢
      omega
  refine loops_count (step := fence_Wrap_l2 l) (fun k => (wrapB (l.take k), (k : Int))) l.length (fun k hk => ?_) ?_
  · unfold fence_Wrap_l2
    have h1 := hlen k (by omega)
    have h2 := hs l[k] (List.getElem_mem _)
    have h3 : k * 1048578 ≤ 1048576 * 1048578 := Nat.mul_le_mul_right _ (by omega)
    simp only
    rw [if_pos (by simp; omega)]
    simp only [List.length_append, List.length_cons, List.length_nil]
    refine ⟨l[k], idx_of hk, by omega, by omega, by omega, by omega, by omega, by omega, ?_⟩
    rw [w_small (by omega) (by omega)]
    unfold wrapB
    rw [take_map _ hk, List.flatten_append]
    simp
  · unfold fence_Wrap_l2
    simp only
    rw [if_neg (by simp), List.take_length]
/-- The least error among frames, the first one that has one. -/
theorem pack_ok {t : List Int} (ht : IsTab t) {l : List (Hd × List Int)} (hl : l.length < 1048576) (h : ∀ f ∈ l, frameE f = 0 ∧ (0 ≤ f.1.2.2.1 ∧ f.1.2.2.1 < 4294967296) ∧ Byt f.2) : frame_Codec_Pack t l (wrapB (l.map segB), 0) := by
  refine ⟨(l.map segB, 0), ?_, _, wrap_ok (by simpa using hl) (fun s hs => ?_), rfl⟩
  · refine loops_count (step := frame_Codec_Pack_l2 t l) (fun k => ((l.take k).map segB, (k : Int))) l.length (fun k hk => ?_) ?_
    · unfold frame_Codec_Pack_l2
      simp only
      rw [if_pos (by simp; omega)]
      obtain ⟨h1, h2, h3⟩ := h l[k] (List.getElem_mem _)
      refine ⟨l[k], idx_of hk, _, segment_ok ht h1 h2 h3, ?_⟩
      rw [if_neg (by simp)]
      simp only [List.length_map, List.length_take, List.length_cons, List.length_nil]
      refine ⟨by omega, by omega, ?_⟩
      rw [w_small (by omega) (by omega), take_map _ hk]; rfl
    · unfold frame_Codec_Pack_l2
      simp only
      rw [if_neg (by simp), List.take_length]
  · obtain ⟨f, hf, rfl⟩ := List.mem_map.1 hs
    have := frameE_ok (h f hf).1
    rw [segB_len this.2.2]; omega
theorem pack_no {t : List Int} (ht : IsTab t) {l : List (Hd × List Int)} {k : Nat} (hl : l.length < 1048576) (hk : k < l.length) (h : ∀ j (hj : j < k), frameE (l[j]'(by omega)) = 0 ∧ (0 ≤ (l[j]'(by omega)).1.2.2.1 ∧ (l[j]'(by omega)).1.2.2.1 < 4294967296) ∧ Byt (l[j]'(by omega)).2) (hn : frameE l[k] ≠ 0) : frame_Codec_Pack t l ([], frameE l[k]) := by
  refine ⟨([], frameE l[k]), ?_, _, wrap_ok (l := []) (by simp) (fun s hs => nomatch hs), rfl⟩
  refine loops_count (step := frame_Codec_Pack_l2 t l) (fun k => ((l.take k).map segB, (k : Int))) k (fun j hj => ?_) ?_
  · unfold frame_Codec_Pack_l2
    simp only
    rw [if_pos (by simp; omega)]
    obtain ⟨h1, h2, h3⟩ := h j hj
    refine ⟨l[j], idx_of (by omega), _, segment_ok ht h1 h2 h3, ?_⟩
    rw [if_neg (by simp)]
    simp only [List.length_map, List.length_take, List.length_cons, List.length_nil]
    refine ⟨by omega, by omega, ?_⟩
    rw [w_small (by omega) (by omega), take_map _ (show j < l.length by omega)]; rfl
  · unfold frame_Codec_Pack_l2
    simp only
    rw [if_pos (by simp; omega)]
    refine ⟨l[k], idx_of hk, _, segment_no t hn, ?_⟩
    rw [if_pos (by simpa using hn)]
theorem fnew_ok : ∃ t, frame_New t ∧ IsTab t := by
  obtain ⟨t, h1, h2⟩ := new_ok
  exact ⟨t, ⟨t, h1, rfl⟩, h2⟩
theorem known08_ok : law08_known true := by
  obtain ⟨t, h1, h2⟩ := fnew_ok
  refine ⟨t, h1, _, pack_ok h2 (by simp) (fun f hf => ?_), ?_⟩
  · simp only [List.mem_singleton] at hf; subst hf
    exact ⟨by decide, ⟨by decide, by decide⟩, fun x hx => by simp at hx; omega⟩
  · rw [if_pos (by simp)]
    have : (wrapB (List.map segB [((1, 1, 0, 0, 1), [7])])).length = 16 := by
      simp only [wrapB, List.map_cons, List.map_nil, List.flatten_cons, List.flatten_nil, List.append_nil, List.length_append, segB_len (f := ((1, 1, 0, 0, 1), [7])) (by simp)]
      rfl
    simp only
    rw [this, if_pos (by decide)]
    refine ⟨_, wire_ok 1, ?_⟩
    rw [if_pos (by decide)]
    refine ⟨_, room_ok (by decide), ?_⟩
    rw [if_pos (by decide)]
    refine ⟨_, room_ok (by decide), ?_⟩
    rw [if_pos (by decide)]
    refine ⟨_, room_ok (by decide), ?_⟩
    show true = _
    decide
end Go.Rel
