import Derived.Test.YtgokdchgjpneoaaDoorPlUnpack
/-! Plain law: what the segments of any bytes are. -/
namespace Go.Rel
open Go Go.Eng Go.Pl
/-- The segments of bytes, each with its place: what a segment has so far, what is left. -/
def segP : Nat → List Int → List Int → List (Int × List Int)
  | _, _, [] => []
  | i, now, c :: l => if c ≠ 0 then segP (i + 1) (now ++ [c]) l else if now = [] then segP (i + 1) [] l else ((i : Int) - (now.length : Int), now) :: segP (i + 1) [] l
theorem segments_ok {b : List Int} (hl : b.length < 1073741824) : Itr (fence_Segments_1 b) (segP 0 [] b) := by
  intro S Y s s' hr
  refine ⟨(s', ()), ?_, rfl⟩
  have key : ∀ (m i st : Nat) (now : List Int) (s : S), i + m = b.length → st ≤ i → (b.drop st).take (i - st) = now → Run Y (segP i now (b.drop i)) s s' → Loops (fence_Segments_1_l1 S Y b) (s, (st : Int), (i : Int)) (s', ()) := by
    intro m
    induction m with
    | zero =>
      intro i st now s hi _ _ hr
      rw [List.drop_eq_nil_of_le (by omega)] at hr
      cases hr
      refine .done ?_
      unfold fence_Segments_1_l1
      rw [if_neg (by simp; omega)]
    | succ m ih =>
      intro i st now s hi hst hnow hr
      have hib : i < b.length := by omega
      rw [List.drop_eq_getElem_cons hib] at hr
      have wi : IntKind.i64.wrap ((i : Int) + 1) = ((i + 1 : Nat) : Int) := by rw [w_small (by omega) (by omega)]; rfl
      have hnl : now.length = i - st := by rw [← hnow, List.length_take, List.length_drop]; omega
      have e0 : (b.drop (st : Int).toNat).take (((i : Int) : Int) - (st : Int)).toNat = now := by
        rw [Int.toNat_natCast, ← hnow]; congr 1; omega
      simp only [segP] at hr
      by_cases h0 : b[i] = 0
      · rw [if_neg (by simpa using h0)] at hr
        by_cases hn : now = []
        · rw [if_pos hn] at hr
          subst hn
          refine .next (s' := (s, ((i + 1 : Nat) : Int), ((i + 1 : Nat) : Int))) ?_ (ih (i + 1) (i + 1) [] s (by omega) (Nat.le_refl _) (by simp) hr)
          unfold fence_Segments_1_l1
          simp only
          rw [if_pos (by simp; omega)]
          refine ⟨b[i], idx_of hib, ?_⟩
          rw [if_neg (by simp [h0]), if_neg (by simp at hnl; simp; omega)]
          unfold fence_Segments_1_j3
          rw [if_neg (by simp)]
          unfold fence_Segments_1_j2
          simp only
          rw [wi]
        · rw [if_neg hn] at hr
          have hst2 : st < i := by
            have : now.length ≠ 0 := fun h => hn (List.eq_nil_of_length_eq_zero h)
            omega
          have hp : (i : Int) - (now.length : Int) = (st : Int) := by omega
          rw [hp] at hr
          have stp : ∀ y u, Y ((st : Int), now) s (y, u) → fence_Segments_1_l1 S Y b (s, (st : Int), (i : Int)) (if y = true then .inl (u, ((i + 1 : Nat) : Int), ((i + 1 : Nat) : Int)) else .inr (u, ())) := by
            intro y u hy
            unfold fence_Segments_1_l1
            simp only
            rw [if_pos (by simp; omega)]
            refine ⟨b[i], idx_of hib, ?_⟩
            rw [if_neg (by simp [h0]), if_pos (by simp; omega), e0]
            simp only [List.length_nil, List.nil_append]
            refine ⟨by omega, by omega, by omega, Int.le_refl _, by omega, by omega, by omega, y, u, hy, ?_⟩
            unfold fence_Segments_1_j3
            cases y with
            | true =>
              rw [if_neg (by simp)]
              unfold fence_Segments_1_j2
              simp only
              rw [wi]; rfl
            | false => rw [if_pos (by simp)]; rfl
          cases hr with
          | go h h' => exact .next (stp true _ h) (ih (i + 1) (i + 1) [] _ (by omega) (Nat.le_refl _) (by simp) h')
          | stop h => exact .done (stp false _ h)
      · rw [if_pos h0] at hr
        refine .next (s' := (s, (st : Int), ((i + 1 : Nat) : Int))) ?_ (ih (i + 1) st (now ++ [b[i]]) s (by omega) (by omega) ?_ hr)
        · unfold fence_Segments_1_l1
          simp only
          rw [if_pos (by simp; omega)]
          refine ⟨b[i], idx_of hib, ?_⟩
          rw [if_pos (by simpa using h0)]
          unfold fence_Segments_1_j2
          simp only
          rw [wi]
        · rw [show i + 1 - st = (i - st) + 1 by omega, List.take_succ_eq_append_getElem (show i - st < (b.drop st).length by rw [List.length_drop]; omega), hnow, List.getElem_drop]
          congr 3; omega
  exact key b.length 0 0 [] s (by omega) (Nat.le_refl _) (by simp) (by simpa using hr)
theorem segP_sum : ∀ (l : List Int) (i : Nat) (now : List Int), ((segP i now l).map (fun x => x.2.length)).sum ≤ now.length + l.length ∧ (segP i now l).length ≤ l.length
  | [], i, now => by simp [segP]
  | c :: l, i, now => by
    unfold segP
    split
    · have := segP_sum l (i + 1) (now ++ [c]); simp at this ⊢; omega
    · split
      · have := segP_sum l (i + 1) []; simp at this ⊢; omega
      · have := segP_sum l (i + 1) []; simp at this ⊢; omega
theorem segP_byt : ∀ (l : List Int) (i : Nat) (now : List Int), Byt l → Byt now → ∀ x ∈ segP i now l, Byt x.2
  | [], i, now, _, _, x, hx => by simp [segP] at hx
  | c :: l, i, now, hl, hn, x, hx => by
    have hl' : Byt l := fun y hy => hl y (List.mem_cons_of_mem _ hy)
    have hc := hl c List.mem_cons_self
    unfold segP at hx
    split at hx
    · exact segP_byt l (i + 1) (now ++ [c]) hl' (Byt.app hn (fun y hy => by simp at hy; subst hy; exact hc)) x hx
    · split at hx
      · exact segP_byt l (i + 1) [] hl' (fun y hy => nomatch hy) x hx
      · rcases List.mem_cons.1 hx with rfl | hx
        · exact hn
        · exact segP_byt l (i + 1) [] hl' (fun y hy => nomatch hy) x hx
theorem split_ok {b : List Int} (hl : b.length < 1073741824) : ∃ ps rest, ref06_Split b ((segP 0 [] b).map (·.2), ps, rest) := by
  have key := loops_inv (step := ref06_Split_l2 b) (s := ([], [], [], 0)) (fun k (s : List (List Int) × List Int × List Int × Int) => s.2.2.2 = (k : Int) ∧ s.1 ++ (segP k s.2.2.1 (b.drop k)).map (·.2) = (segP 0 [] b).map (·.2) ∧ s.1.length ≤ k ∧ s.2.1.length ≤ k ∧ s.2.2.1.length ≤ k) (fun e => e.1 = (segP 0 [] b).map (·.2)) b.length ⟨rfl, by simp, by simp, by simp, by simp⟩ ?_ ?_
  · obtain ⟨⟨l, ps, rest⟩, h1, h2⟩ := key
    simp only at h2
    subst h2
    exact ⟨ps, rest, _, h1, rfl⟩
  · rintro k ⟨out, ps, now, i⟩ hk ⟨h1, h2, h3, h4, h5⟩
    simp only at h1 h2 h3 h4 h5
    subst h1
    left
    have wi : IntKind.i64.wrap ((k : Int) + 1) = ((k + 1 : Nat) : Int) := by rw [w_small (by omega) (by omega)]; rfl
    rw [List.drop_eq_getElem_cons hk] at h2
    simp only [segP] at h2
    by_cases h0 : b[k] = 0
    · rw [if_neg (by simpa using h0)] at h2
      by_cases hn : now = []
      · rw [if_pos hn] at h2
        subst hn
        refine ⟨(out, ps, [], ((k + 1 : Nat) : Int)), ?_, rfl, h2, by simp only; omega, by simp only; omega, by simp⟩
        unfold ref06_Split_l2
        simp only
        rw [if_pos (by simp; omega)]
        refine ⟨b[k], idx_of hk, ?_⟩
        rw [if_neg (by simp [h0]), if_neg (by simp)]
        unfold ref06_Split_j4 ref06_Split_j3
        simp only
        rw [wi]
      · rw [if_neg hn] at h2
        have hnl : 0 < now.length := List.length_pos_iff.2 hn
        refine ⟨(out ++ [now], ps ++ [(k : Int) - (now.length : Int)], [], ((k + 1 : Nat) : Int)), ?_, rfl, by simpa using h2, by simp; omega, by simp; omega, by simp⟩
        unfold ref06_Split_l2
        simp only
        rw [if_pos (by simp; omega)]
        refine ⟨b[k], idx_of hk, ?_⟩
        rw [if_neg (by simp [h0]), if_pos (by simp; omega), w_small (n := (k : Int) - (now.length : Int)) (by omega) (by omega)]
        simp only [List.length_cons, List.length_nil]
        refine ⟨by omega, by omega, by omega, by omega, ?_⟩
        unfold ref06_Split_j4 ref06_Split_j3
        simp only
        rw [wi]
    · rw [if_pos h0] at h2
      refine ⟨(out, ps, now ++ [b[k]], ((k + 1 : Nat) : Int)), ?_, rfl, h2, by simp only; omega, by simp only; omega, by simp; omega⟩
      unfold ref06_Split_l2
      simp only
      rw [if_pos (by simp; omega)]
      refine ⟨b[k], idx_of hk, ?_⟩
      rw [if_pos (by simpa using h0)]
      simp only [List.length_cons, List.length_nil]
      refine ⟨b[k], idx_of hk, by omega, by omega, ?_⟩
      unfold ref06_Split_j3
      simp only
      rw [wi]
  · rintro ⟨out, ps, now, i⟩ ⟨h1, h2, _⟩
    simp only at h1 h2
    refine ⟨(out, ps, now), ?_, by simpa [segP] using h2⟩
    unfold ref06_Split_l2
    rw [if_neg (by simp [h1])]
theorem mem_le_sum : ∀ {l : List Nat} {x : Nat}, x ∈ l → x ≤ l.sum
  | y :: l, x, h => by
    rcases List.mem_cons.1 h with rfl | h
    · simp
    · have := mem_le_sum h; simp; omega
/-- The frames of bytes' segments, and the errors. -/
def framesB (b : List Int) : List (Fm × Int) := (segP 0 [] b).map fun x => unpB x.2
theorem frames_ok {t : List Int} (ht : IsTab t) {b : List Int} (hb : Byt b) (hl : b.length < 268435456) : Itr (frame_Codec_Frames_1 t b) (framesB b) := by
  intro S Y s s' hr
  have hbs := segP_byt b 0 [] hb (fun y hy => nomatch hy)
  have hss := segP_sum b 0 []
  have hlen : ∀ x ∈ segP 0 [] b, x.2.length < 268435456 := by
    intro x hx
    have : x.2.length ≤ ((segP 0 [] b).map (fun x => x.2.length)).sum := mem_le_sum (List.mem_map_of_mem hx)
    simp at hss; omega
  have go : ∀ (xs : List (Int × List Int)) (s : S), (∀ x ∈ xs, Byt x.2 ∧ x.2.length < 268435456) → Run Y (xs.map fun x => unpB x.2) s s' → ∃ t', RunB (frame_Codec_Frames_1_l1 S Y t) xs s t' ∧ (t' = .inl s' ∨ t' = .inr s') := by
    intro xs
    induction xs with
    | nil => intro s _ h; cases h; exact ⟨_, .nil, .inl rfl⟩
    | cons x xs ih =>
      intro s hx h
      obtain ⟨h1, h2⟩ := hx x List.mem_cons_self
      have stp : ∀ y u, Y (unpB x.2) s (y, u) → frame_Codec_Frames_1_l1 S Y t x s (if y = true then .inl u else .inr u) := by
        intro y u hy
        refine ⟨_, unpack_ok ht h1 h2, y, u, hy, ?_⟩
        cases y with
        | true => rw [if_neg (by decide)]; rfl
        | false => rw [if_pos (by decide)]; rfl
      simp only [List.map_cons] at h
      cases h with
      | go h h' =>
        obtain ⟨t', h3, h4⟩ := ih _ (fun z hz => hx z (List.mem_cons_of_mem _ hz)) h'
        exact ⟨t', .go (stp true _ h) h3, h4⟩
      | stop h => exact ⟨_, .stop (stp false _ h), .inr rfl⟩
  obtain ⟨t', h1, h2⟩ := go _ s (fun x hx => ⟨hbs x hx, hlen x hx⟩) hr
  refine ⟨_, rfl, t', (), segments_ok (by omega) _ _ _ _ (run_yof h1), ?_⟩
  rcases h2 with rfl | rfl <;> rfl
theorem rframes_ok {b : List Int} (hb : Byt b) (hl : b.length < 268435456) : ref08_Frames b ((framesB b).map (·.1), (framesB b).map (·.2)) := by
  obtain ⟨ps, rest, hs⟩ := split_ok (b := b) (by omega)
  have hbs := segP_byt b 0 [] hb (fun y hy => nomatch hy)
  have hss := segP_sum b 0 []
  have hlen : ∀ x ∈ segP 0 [] b, x.2.length < 268435456 := by
    intro x hx
    have : x.2.length ≤ ((segP 0 [] b).map (fun x => x.2.length)).sum := mem_le_sum (List.mem_map_of_mem hx)
    simp at hss; omega
  refine ⟨_, hs, ((framesB b).map (fun x : Fm × Int => x.1), (framesB b).map (fun x : Fm × Int => x.2)), ?_, by show _ = _; rfl⟩
  unfold framesB
  generalize segP 0 [] b = L at hbs hss hlen
  have hll : L.length < 268435456 := by omega
  refine loops_count (step := ref08_Frames_l2 (L.map (·.2), ps, rest)) (fun k => ((((L.take k).map fun x => unpB x.2).map (·.1)), ((L.take k).map fun x => unpB x.2).map (·.2), (k : Int))) L.length (fun k hk => ?_) ?_
  · unfold ref08_Frames_l2
    simp only
    rw [if_pos (by simp; omega)]
    refine ⟨L[k].2, idx_at rfl (by simp [hk]), _, runpack_ok (hbs _ (List.getElem_mem hk)) (hlen _ (List.getElem_mem hk)), ?_⟩
    simp only [List.length_map, List.length_take, List.length_cons, List.length_nil]
    refine ⟨by omega, by omega, by omega, by omega, ?_⟩
    rw [w_small (by omega) (by omega), take_map _ hk, List.map_append, List.map_append]; rfl
  · unfold ref08_Frames_l2
    simp only
    rw [if_neg (by simp), List.take_length]
theorem unpB_len {s : List Int} (hs : Byt s) (hl : s.length < 268435456) : (unpB s).1.2.length < 4611686018427387904 := by
  unfold unpB
  repeat' split
  all_goals simp only [noF, List.length_nil, List.length_drop]
  all_goals try omega
  unfold openB
  repeat' split
  all_goals simp only [List.length_nil, List.length_take]
  all_goals try omega
  have h5 : (decR s).2 = 0 := by omega
  have := enc_len (decR s).1
  rw [(decR_ok hs h5).1] at this
  omega
theorem frameStream_true {b : List Int} (hb : Byt b) {stop : Int} (hs : -9223372036854775808 ≤ stop ∧ stop ≤ 9223372036854775807) : law08_FrameStream b stop true := by
  have h900 := take_min b 900
  have hl : (b.take 900).length ≤ 900 := by rw [List.length_take]; omega
  have hbt : Byt (b.take 900) := hb.take _
  unfold law08_FrameStream
  rw [show ((900 : Nat) : Int) = 900 from rfl] at h900
  rw [h900]
  generalize b.take 900 = c at hl hbt
  obtain ⟨t, ht1, ht2⟩ := fnew_ok
  have hfr := frames_ok ht2 hbt (by omega)
  have hn : (framesB c).length ≤ 900 := by
    have := (segP_sum c 0 []).2
    simp [framesB]; omega
  have hfl : ∀ x ∈ framesB c, x.1.2.length < 4611686018427387904 := by
    intro x hx
    obtain ⟨y, hy, rfl⟩ := List.mem_map.1 hx
    have hbs := segP_byt c 0 [] hbt (fun y hy => nomatch hy) y hy
    have : y.2.length ≤ ((segP 0 [] c).map (fun x => x.2.length)).sum := mem_le_sum (List.mem_map_of_mem hy)
    have hss := segP_sum c 0 []
    exact unpB_len hbs (by simp at hss; omega)
  refine ⟨by omega, by omega, t, ht1, _, rframes_ok hbt (by omega), _, rfl, .inl ((framesB c).length : Int), (), ?_, ?_⟩
  · refine hfr _ _ _ _ (run_yof ?_)
    obtain ⟨t', h1, h2⟩ := runB_inv (B := law08_FrameStream_l1 ((framesB c).map (·.1), (framesB c).map (·.2))) (fun k (s : Int) => s = (k : Int)) (fun _ => False) (framesB c) (s := 0) rfl (by
      rintro k hk s rfl
      left
      refine ⟨((k + 1 : Nat) : Int), ?_, rfl⟩
      have hlt : decide ((((framesB c).map (·.1)).length : Int) ≤ (k : Int)) = false := by rw [decide_eq_false]; simp; omega
      refine ⟨(framesB c)[k].2, fun _ => idx_at rfl (by simp [hk]), (framesB c)[k].1, fun _ => rfl, (framesB c)[k].1, fun _ => idx_at rfl (by simp [hk]), true, fun _ => ?_, ?_⟩
      · have := rfsame_ok (framesB c)[k].1 (framesB c)[k].1 (hfl _ (List.getElem_mem hk))
        simpa using this
      · simp only
        rw [hlt, if_neg (by simp), w_small (by omega) (by omega)]; rfl)
    rcases h2 with ⟨s', rfl, rfl⟩ | ⟨e, _, hf⟩
    · exact h1
    · exact hf.elim
  · have j3 : ∀ x y : Int, x = y → law08_FrameStream_j3 ((framesB c).map (·.1), (framesB c).map (·.2)) ((framesB c).length : Int) x y true := by
      intro x y hxy
      refine ⟨_, known08_ok, ?_⟩
      rw [if_pos rfl, if_pos (by simp)]
      show true = _
      simp [hxy]
    obtain ⟨t', h1, h2⟩ := runB_inv (B := law08_FrameStream_l6 stop) (fun k (s : Int) => s = (k : Int) ∧ ∀ j : Nat, j < k → (j : Int) ≠ stop) (fun e => e = stop + 1 ∧ 0 ≤ stop ∧ stop < (framesB c).length) (framesB c) (s := 0) ⟨rfl, fun j h => by omega⟩ (by
      rintro k hk s ⟨rfl, hj⟩
      have e1 : IntKind.i64.wrap ((k : Int) + 1) = ((k + 1 : Nat) : Int) := by rw [w_small (by omega) (by omega)]; rfl
      have e2 : IntKind.i64.wrap (((k + 1 : Nat) : Int) - 1) = (k : Int) := by rw [w_small (by omega) (by omega)]; omega
      by_cases h : (k : Int) = stop
      · right
        refine ⟨((k + 1 : Nat) : Int), ?_, by omega, by omega, by omega⟩
        unfold law08_FrameStream_l6
        rw [e1, e2, if_pos (by simpa using h)]
      · left
        refine ⟨((k + 1 : Nat) : Int), ?_, rfl, fun j hj2 => ?_⟩
        · unfold law08_FrameStream_l6
          rw [e1, e2, if_neg (by simpa using h)]
        · by_cases e : j = k
          · subst e; exact h
          · exact hj j (by omega))
    have j2 : ∀ x : Int, x = (if 0 ≤ stop ∧ stop < (framesB c).length then stop + 1 else ((framesB c).length : Int)) → law08_FrameStream_j2 stop ((framesB c).map (·.1), (framesB c).map (·.2)) ((framesB c).length : Int) x true := by
      intro x hx
      unfold law08_FrameStream_j2
      by_cases h0 : 0 ≤ stop
      · rw [if_pos (by simpa using h0)]
        unfold law08_FrameStream_j5
        by_cases h3 : stop < (framesB c).length
        · rw [if_pos (by simpa using h3)]
          rw [if_pos ⟨h0, h3⟩] at hx
          exact j3 _ _ (by rw [hx, w_small (by omega) (by omega)])
        · rw [if_neg (by simpa using h3)]
          rw [if_neg (fun h => h3 h.2)] at hx
          exact j3 _ _ (by simpa using hx)
      · rw [if_neg (by simpa using h0)]
        unfold law08_FrameStream_j5
        rw [if_neg (by decide)]
        rw [if_neg (fun h => h0 h.1)] at hx
        exact j3 _ _ (by simpa using hx)
    refine ⟨_, rfl, t', (), hfr _ _ _ _ (run_yof h1), ?_⟩
    rcases h2 with ⟨s', rfl, rfl, hj⟩ | ⟨e, rfl, rfl, h3, h4⟩
    · refine j2 _ ?_
      rw [if_neg]
      rintro ⟨h5, h6⟩
      exact hj stop.toNat (by omega) (by omega)
    · exact j2 _ (by rw [if_pos ⟨h3, h4⟩])
theorem frameStream_claim {b : List Int} {stop : Int} (h0 : ListOk (IntOk .u8) b) (h1 : IntOk .i64 stop) : law08_FrameStream b stop true := frameStream_true (ok_byt h0) (ok_i64 h1)
end Go.Rel
