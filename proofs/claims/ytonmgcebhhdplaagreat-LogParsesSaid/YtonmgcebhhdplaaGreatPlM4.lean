import Derived.Test.YtonmgcebhhdplaaGreatPlM3
/-! Plain laws: any log is parsed, by the program and by the document alike; what is right of it is logged as just these bytes. -/
namespace Go.Rel
open Go Go.Eng Go.Pl

theorem setAll_take {m y : Mg} (hy : y.2 = m.2) : ∀ (r pre : List Fd), (∀ f ∈ r, fdOk f) → setAll (takeB pre m) y r = takeB (pre ++ r) m
  | [], pre, _ => by rw [List.append_nil]; rfl
  | f :: r, pre, h => by
    have hf := h f List.mem_cons_self
    have e : sv y f = sv m f := by unfold sv; rw [hy]
    unfold setAll
    rw [set_sv hf e, take_step pre m hf, setAll_take hy r (pre ++ [f]) (fun g hg => h g (List.mem_cons_of_mem _ hg))]
    simp
theorem back_ok {k : Int} {y : Mg} (hne : fieldsB k ≠ []) (hw : ∀ f ∈ fieldsB k, wrongB y f = 0) :
    checkB (setAll (zeroK k) y (fieldsB k)) = 0 ∧ bodyE (setAll (zeroK k) y (fieldsB k)) 2 = (fieldsB k).flatMap (partE y) ∧ (setAll (zeroK k) y (fieldsB k)).1 = k ∧
    n6 (setAll (zeroK k) y (fieldsB k)).2.1 = (setAll (zeroK k) y (fieldsB k)).2.1 ∧ (setAll (zeroK k) y (fieldsB k)).2.2.1.length ≤ 16 ∧ (setAll (zeroK k) y (fieldsB k)).2.2.2.1.length ≤ 32 ∧ (setAll (zeroK k) y (fieldsB k)).2.2.2.2.1.size ≤ 64 ∧ (setAll (zeroK k) y (fieldsB k)).2.2.2.2.2.size ≤ 16 := by
  have hT : setAll (zeroK k) y (fieldsB k) = takeB (fieldsB k) (k, y.2) := by
    have := setAll_take (m := (k, y.2)) (y := y) rfl (fieldsB k) [] (fields_fd k)
    rw [List.nil_append] at this
    exact this
  have hsv := sv_setAll_in (y := y) (fieldsB k) (zeroK k) (fields_dif k) (fields_fd k)
  have h1 : (setAll (zeroK k) y (fieldsB k)).1 = k := by rw [hT]; rfl
  have hwM : ∀ f ∈ fieldsB k, wrongB (setAll (zeroK k) y (fieldsB k)) f = 0 := fun f hf => by rw [wrong_sv (fields_fd k f hf) (hsv f hf)]; exact hw f hf
  have hlen : (setAll (zeroK k) y (fieldsB k)).2.2.1.length ≤ 16 ∧ (setAll (zeroK k) y (fieldsB k)).2.2.2.1.length ≤ 32 ∧ (setAll (zeroK k) y (fieldsB k)).2.2.2.2.1.size ≤ 64 ∧ (setAll (zeroK k) y (fieldsB k)).2.2.2.2.2.size ≤ 16 := by
    rw [hT]
    have hs : ∀ s : Int, hasS (fieldsB k) s = true → ∃ f ∈ fieldsB k, f.2.1 = s := fun s h => by
      unfold hasS at h
      obtain ⟨f, hf, he⟩ := List.any_eq_true.1 h
      exact ⟨f, hf, by simpa using he⟩
    refine ⟨?_, ?_, ?_, ?_⟩
    · show (if hasS (fieldsB k) 3 = true then y.2.2.1 else []).length ≤ 16
      split
      · next h =>
        obtain ⟨f, hf, e⟩ := hs 3 h
        have := hw f hf
        obtain ⟨_, _, hk⟩ := fields_fd k f hf
        rcases hk with ⟨_, e1, e2⟩ | ⟨e', _⟩ | ⟨e', _⟩ | ⟨e', _⟩ | ⟨_, e', _⟩
        · unfold wrongB at this; rw [if_pos e, e1, e2] at this; exact (path_right this).2.1
        all_goals omega
      · simp
    · show (if hasS (fieldsB k) 4 = true then y.2.2.2.1 else []).length ≤ 32
      split
      · next h =>
        obtain ⟨f, hf, e⟩ := hs 4 h
        have := hw f hf
        obtain ⟨_, _, hk⟩ := fields_fd k f hf
        rcases hk with ⟨e', _⟩ | ⟨_, e1, e2⟩ | ⟨e', _⟩ | ⟨e', _⟩ | ⟨_, e', _⟩
        · omega
        · unfold wrongB at this; rw [if_neg (by omega), if_pos e, e1, e2] at this; exact (cells_right this).2.1
        all_goals omega
      · simp
    · show (if hasS (fieldsB k) 5 = true then y.2.2.2.2.1 else bstr []).size ≤ 64
      split
      · next h =>
        obtain ⟨f, hf, e⟩ := hs 5 h
        have := hw f hf
        obtain ⟨_, _, hk⟩ := fields_fd k f hf
        rcases hk with ⟨e', _⟩ | ⟨e', _⟩ | ⟨_, e1, e2⟩ | ⟨e', _⟩ | ⟨_, e', _⟩
        · omega
        · omega
        · unfold wrongB at this; rw [if_neg (by omega), if_neg (by omega), if_pos e, e1, e2] at this; have := (text_right this).1; omega
        all_goals omega
      · decide
    · show (if hasS (fieldsB k) 6 = true then y.2.2.2.2.2 else bstr []).size ≤ 16
      split
      · next h =>
        obtain ⟨f, hf, e⟩ := hs 6 h
        have := hw f hf
        obtain ⟨_, _, hk⟩ := fields_fd k f hf
        rcases hk with ⟨e', _⟩ | ⟨e', _⟩ | ⟨e', _⟩ | ⟨_, e1, e2⟩ | ⟨_, e', _⟩
        · omega
        · omega
        · omega
        · unfold wrongB at this; rw [if_neg (by omega), if_neg (by omega), if_neg (by omega), if_pos e, e1, e2] at this; have := (text_right this).1; omega
        all_goals omega
      · decide
  refine ⟨?_, ?_, h1, ?_, hlen⟩
  · unfold checkB
    rw [h1, if_neg hne]
    have hfw : firstW (setAll (zeroK k) y (fieldsB k)) (fieldsB k) = 0 := by
      have : ∀ l : List Fd, (∀ f ∈ l, wrongB (setAll (zeroK k) y (fieldsB k)) f = 0) → firstW (setAll (zeroK k) y (fieldsB k)) l = 0 := by
        intro l
        induction l with
        | nil => exact fun _ => rfl
        | cons f l ih =>
          intro h
          unfold firstW
          rw [if_neg (by simpa using h f List.mem_cons_self), ih (fun g hg => h g (List.mem_cons_of_mem _ hg))]
      exact this _ hwM
    have hleft : leftB (fieldsB k) (setAll (zeroK k) y (fieldsB k)) = (k, [0, 0, 0, 0, 0, 0], [], [], bstr [], bstr []) := by
      have z : ∀ p, p < 6 → zN (fieldsB k) (setAll (zeroK k) y (fieldsB k)).2.1 p = 0 := by
        intro p hp
        unfold zN
        split
        · rfl
        · next hn =>
          rw [hT]
          have e : (takeB (fieldsB k) (k, y.2)).2.1.getD p 0 = tN (fieldsB k) y.2.1 p := by
            match p, hp with
            | 0, _ => rfl
            | 1, _ => rfl
            | 2, _ => rfl
            | 3, _ => rfl
            | 4, _ => rfl
            | 5, _ => rfl
          rw [e]
          unfold tN
          rw [if_neg hn]
      unfold leftB
      rw [z 0 (by decide), z 1 (by decide), z 2 (by decide), z 3 (by decide), z 4 (by decide), z 5 (by decide), h1, hT]
      show (k, _, (if hasS (fieldsB k) 3 = true then [] else if hasS (fieldsB k) 3 = true then y.2.2.1 else []), (if hasS (fieldsB k) 4 = true then [] else if hasS (fieldsB k) 4 = true then y.2.2.2.1 else []), (if hasS (fieldsB k) 5 = true then bstr [] else if hasS (fieldsB k) 5 = true then y.2.2.2.2.1 else bstr []), (if hasS (fieldsB k) 6 = true then bstr [] else if hasS (fieldsB k) 6 = true then y.2.2.2.2.2 else bstr [])) = _
      have q : ∀ {α : Type} (c : Prop) [Decidable c] (a z : α), (if c then z else if c then a else z) = z := fun c _ a z => by split <;> rfl
      rw [q, q, q, q]
    rw [hfw, if_neg (by simp), hleft]
    have : sameB (k, [0, 0, 0, 0, 0, 0], [], [], bstr [], bstr []) (zeroM k) = true := by
      unfold sameB zeroM
      rw [decide_eq_true_eq]
      exact ⟨rfl, rfl, rfl⟩
    rw [if_pos this]
  · unfold bodyE
    rw [h1, since2]
    exact flat_sv _ (fun f hf => ⟨fields_fd k f hf, hsv f hf⟩)
  · rw [hT]; rfl
/-! ### A record -/
def zEv : Ev := (0, 0, 0, 0, zero6)
def zEr : Er := (0, 0, 0, 0, zR6)
theorem lword_off {b : List Int} {a e : Int} (he : e ≠ 0) (n : Int) : lens_Lens_word (b, a, e) n (0, (b, a, e)) := by
  refine ⟨(false, (b, a, e), 0), ?_, rfl⟩
  unfold lens_Lens_read__lens_Lens_word_1
  rw [if_pos (by simpa using he)]
theorem lu8_off {b : List Int} {a e : Int} (he : e ≠ 0) : lens_Lens_U8 (b, a, e) (0, (b, a, e)) := ⟨_, lword_off he 1, rfl⟩
theorem lu32_off {b : List Int} {a e : Int} (he : e ≠ 0) : lens_Lens_U32 (b, a, e) (0, (b, a, e)) := ⟨_, lword_off he 4, rfl⟩
theorem lu8_end {b : List Int} : lens_Lens_U8 (b, (b.length : Int), 0) (0, (b, (b.length : Int), 4)) := ⟨_, lword_end (n := 1) (Nat.le_refl _) (by omega), rfl⟩
theorem lu32_end {b : List Int} {at_ : Nat} (h : at_ ≤ b.length) (h2 : b.length < at_ + 4) : lens_Lens_U32 (b, (at_ : Int), 0) (0, (b, (at_ : Int), 4)) := ⟨_, lword_end (n := 4) h h2, rfl⟩
theorem rseq_ok {c0 a b c d : Int} {r : List Int} (hb : Byt (c0 :: a :: b :: c :: d :: r)) : Loops (ref34_read_l3 (c0 :: a :: b :: c :: d :: r)) (4, 0) (leV [a, b, c, d]) := by
  have ha := hb a (by simp)
  have hb' := hb b (by simp)
  have hc := hb c (by simp)
  have hd := hb d (by simp)
  have st : ∀ (i : Nat) (x q : Int), 0 < i → i ≤ 4 → (c0 :: a :: b :: c :: d :: r)[i]? = some q → 0 ≤ x → x < 16777216 → 0 ≤ q ∧ q < 256 → ref34_read_l3 (c0 :: a :: b :: c :: d :: r) ((i : Int), x) (.inl (((i - 1 : Nat) : Int), x * 256 + q)) := by
    intro i x q h0 h1 hq hx0 hx1 hq2
    unfold ref34_read_l3
    rw [if_pos (by simp; omega)]
    refine ⟨q, ⟨by simp only; omega, by simpa using hq⟩, ?_⟩
    simp only
    rw [w32_small (n := q) (by omega) (by omega), w32_small (n := 256 * x) (by omega) (by omega), w32_small (by omega) (by omega), w_small (by omega) (by omega)]
    congr 2
    · omega
    · omega
  refine .next (st 4 0 d (by decide) (by decide) rfl (by decide) (by decide) hd) (.next (st 3 _ c (by decide) (by decide) rfl (by omega) (by omega) hc) (.next (st 2 _ b (by decide) (by decide) rfl (by omega) (by omega) hb') (.next (st 1 _ a (by decide) (by decide) rfl (by omega) (by omega) ha) (.done ?_))))
  unfold ref34_read_l3
  rw [if_neg (by simp)]
  rfl
theorem z6a : zero6.2.2.1.length ≤ 40 := by decide
theorem z6b : zero6.2.2.2.1.length ≤ 40 := by decide
theorem z6c : zero6.2.2.2.2.1.size ≤ 1000 := by decide
theorem z6d : zero6.2.2.2.2.2.size ≤ 1000 := by decide
theorem lread_any {p : List Int} (hby : Byt p) (hl : p.length < 1073741824) :
    (∃ e : Ev, chkL e = 0 ∧ EvS e ∧ rdE e = e ∧ payE e = p ∧ log_read p (e, 0) ∧ ref34_read p (ofE e, 0)) ∨ (∃ er : Int, er ≠ 0 ∧ log_read p (zEv, er) ∧ ref34_read p (zEr, er)) := by
  by_cases h5 : p.length < 5
  · refine .inr ⟨13, by decide, ?_, ?_⟩
    · have fin : ∀ {q : Int × (List Int × Int × Int)} {a : Int}, lens_Lens_U8 (p, 0, 0) q → lens_Lens_U32 q.2 (0, (p, a, 4)) → log_read p (zEv, 13) := by
        intro q a h1 h2
        refine ⟨_, lnew_ok hl, _, h1, _, h2, 4, rfl, ?_⟩
        rw [if_pos (by decide)]
        rfl
      by_cases h0 : p.length = 0
      · have := lu8_end (b := p)
        rw [h0] at this
        exact fin this (lu32_off (by decide))
      · have hd : p.drop 0 = p[0] :: p.drop 1 := by rw [← List.drop_eq_getElem_cons (by omega)]
        exact fin (llu8_ok hby hl hd) (lu32_end (at_ := 1) (by omega) (by omega))
    · unfold ref34_read
      rw [if_pos (by simpa using (by omega : (p.length : Int) < 5))]
      rfl
  · rcases p with _ | ⟨c0, _ | ⟨s0, _ | ⟨s1, _ | ⟨s2, _ | ⟨s3, r⟩⟩⟩⟩⟩
    · simp at h5
    · simp at h5
    · simp at h5
    · simp at h5
    · simp at h5
    have hc0 := hby c0 (by simp)
    have hs : Byt [s0, s1, s2, s3] := fun x hx => hby x (by simp only [List.mem_cons, List.not_mem_nil, or_false] at hx ⊢; omega)
    have hleb : leB (leV [s0, s1, s2, s3]) = [s0, s1, s2, s3] := leB_leV hs rfl
    have hlev := leV_bound [s0, s1, s2, s3] hs
    have hp4 : ((256 ^ ([s0, s1, s2, s3] : List Int).length : Nat) : Int) = 4294967296 := by
      have h2 : (256 : Nat) ^ 4 = 4294967296 := by decide
      show ((256 ^ 4 : Nat) : Int) = 4294967296
      rw [h2]; rfl
    rw [hp4] at hlev
    generalize hseq : leV [s0, s1, s2, s3] = seq at hleb hlev
    have hrs := rseq_ok hby
    rw [hseq] at hrs
    have wk : ∀ x : Int, 0 ≤ x → x < 256 → IntKind.i64.wrap x = x := fun x a b => w_small (by omega) (by omega)
    have hlen : (c0 :: s0 :: s1 :: s2 :: s3 :: r).length = r.length + 5 := rfl
    have u0 := llu8_ok (k := 0) (v := c0) (rest := s0 :: s1 :: s2 :: s3 :: r) hby hl rfl
    have u1 := llu32_ok (k := 1) (v := seq) (rest := r) hby hl hlev.1 hlev.2 (by rw [hleb]; rfl)
    have d5 : (c0 :: s0 :: s1 :: s2 :: s3 :: r).drop 5 = r := rfl
    have enterI : ∀ {q : Ev × Int}, (if (decide (IntKind.i64.wrap c0 = 1)) = true then (∃ r41 : Int × (List Int × Int × Int), lens_Lens_U8 (c0 :: s0 :: s1 :: s2 :: s3 :: r, ((1 + 4 : Nat) : Int), 0) r41 ∧ ∃ r47 : Int × (List Int × Int × Int), lens_Lens_U8 r41.2 r47 ∧ ∃ r53 : Int, lens_Lens_Err r47.2 r53 ∧ if (!(decide (r53 = 0))) = true then (log_read_j1 13 q) else (if (!(decide (IntKind.i64.wrap r41.1 = 1))) = true then (log_read_j3 (c0, (c0 :: s0 :: s1 :: s2 :: s3 :: r, ((0 + 1 : Nat) : Int), 0)) (seq, (c0 :: s0 :: s1 :: s2 :: s3 :: r, ((1 + 4 : Nat) : Int), 0)) r41 r47 (!(decide (IntKind.i64.wrap r41.1 = 2))) q) else (log_read_j3 (c0, (c0 :: s0 :: s1 :: s2 :: s3 :: r, ((0 + 1 : Nat) : Int), 0)) (seq, (c0 :: s0 :: s1 :: s2 :: s3 :: r, ((1 + 4 : Nat) : Int), 0)) r41 r47 false q))) else (if (decide (IntKind.i64.wrap c0 = 2)) = true then (∃ r74 : Int × (List Int × Int × Int), lens_Lens_U8 (c0 :: s0 :: s1 :: s2 :: s3 :: r, ((1 + 4 : Nat) : Int), 0) r74 ∧ ∃ r80 : Int, lens_Lens_Err r74.2 r80 ∧ if (!(decide (r80 = 0))) = true then (log_read_j1 13 q) else (∃ r84 : ByteArray, event_Word (IntKind.i64.wrap r74.1) r84 ∧ if (decide (r84 = (bstr []))) = true then (log_read_j1 7 q) else (log_read_j2 (c0, (c0 :: s0 :: s1 :: s2 :: s3 :: r, ((0 + 1 : Nat) : Int), 0)) (seq, (c0 :: s0 :: s1 :: s2 :: s3 :: r, ((1 + 4 : Nat) : Int), 0)) (7, r74.2.1, r74.2.2.1, r74.2.2.2, 0, (IntKind.i64.wrap r74.1), 0, 0, 0, 0, 0, 0, 0, [], [], (bstr []), (bstr [])) q))) else (if (decide (IntKind.i64.wrap c0 = 3)) = true then (log_read_j2 (c0, (c0 :: s0 :: s1 :: s2 :: s3 :: r, ((0 + 1 : Nat) : Int), 0)) (seq, (c0 :: s0 :: s1 :: s2 :: s3 :: r, ((1 + 4 : Nat) : Int), 0)) (13, c0 :: s0 :: s1 :: s2 :: s3 :: r, ((1 + 4 : Nat) : Int), 0, 0, 0, 0, 0, 0, 0, 0, 0, 0, [], [], (bstr []), (bstr [])) q) else (log_read_j1 9 q)))) → log_read (c0 :: s0 :: s1 :: s2 :: s3 :: r) q := by
      intro q h
      refine ⟨_, lnew_ok hl, _, u0, _, u1, 0, rfl, ?_⟩
      rw [if_neg (by decide)]
      exact h
    have enterR : ∀ {q : Er × Int}, ref34_read_j1 (c0 :: s0 :: s1 :: s2 :: s3 :: r) c0 seq q → ref34_read (c0 :: s0 :: s1 :: s2 :: s3 :: r) q := by
      intro q h
      unfold ref34_read
      rw [if_neg (by simp only [hlen, decide_eq_true_eq]; omega)]
      exact ⟨c0, ⟨by decide, rfl⟩, seq, hrs, h⟩
    rw [wk c0 hc0.1 hc0.2] at enterI
    have wc : IntKind.i64.wrap c0 = c0 := wk c0 hc0.1 hc0.2
    by_cases k1 : c0 = 1
    · simp only [decide_eq_true k1, if_true] at enterI
      by_cases h7 : r.length < 2
      · refine .inr ⟨13, by decide, enterI ?_, enterR ?_⟩
        · have fin : ∀ {q w : Int × (List Int × Int × Int)}, lens_Lens_U8 (c0 :: s0 :: s1 :: s2 :: s3 :: r, ((1 + 4 : Nat) : Int), 0) q → lens_Lens_U8 q.2 w → w.2.2.2 = 4 → _ := fun {q w} h1 h2 h3 => (⟨q, h1, w, h2, 4, by show 4 = w.2.2.2; rw [h3], by rw [if_pos (by decide)]; rfl⟩ : ∃ r41 : Int × (List Int × Int × Int), lens_Lens_U8 (c0 :: s0 :: s1 :: s2 :: s3 :: r, ((1 + 4 : Nat) : Int), 0) r41 ∧ ∃ r47 : Int × (List Int × Int × Int), lens_Lens_U8 r41.2 r47 ∧ ∃ r53 : Int, lens_Lens_Err r47.2 r53 ∧ if (!(decide (r53 = 0))) = true then (log_read_j1 13 (zEv, 13)) else (if (!(decide (IntKind.i64.wrap r41.1 = 1))) = true then (log_read_j3 (c0, (c0 :: s0 :: s1 :: s2 :: s3 :: r, ((0 + 1 : Nat) : Int), 0)) (seq, (c0 :: s0 :: s1 :: s2 :: s3 :: r, ((1 + 4 : Nat) : Int), 0)) r41 r47 (!(decide (IntKind.i64.wrap r41.1 = 2))) (zEv, 13)) else (log_read_j3 (c0, (c0 :: s0 :: s1 :: s2 :: s3 :: r, ((0 + 1 : Nat) : Int), 0)) (seq, (c0 :: s0 :: s1 :: s2 :: s3 :: r, ((1 + 4 : Nat) : Int), 0)) r41 r47 false (zEv, 13))))
          rcases r with _ | ⟨x, _ | ⟨x2, r⟩⟩
          · exact fin (lu8_end (b := [c0, s0, s1, s2, s3])) (lu8_off (by decide)) rfl
          · exact fin (llu8_ok (k := 5) (rest := []) hby hl rfl) (lu8_end (b := [c0, s0, s1, s2, s3, x])) rfl
          · simp at h7; omega
        · unfold ref34_read_j1
          rw [wc, if_pos (by simpa using k1), if_pos (by simp only [hlen, decide_eq_true_eq]; omega)]
          rfl
      · rcases r with _ | ⟨c5, _ | ⟨c6, r⟩⟩
        · simp at h7
        · simp at h7
        have hc5 := hby c5 (by simp)
        have hc6 := hby c6 (by simp)
        have u5 := llu8_ok (k := 5) (v := c5) (rest := c6 :: r) hby hl rfl
        have u6 := llu8_ok (k := 6) (v := c6) (rest := r) hby hl rfl
        have wc5 := wk c5 hc5.1 hc5.2
        have wc6 := wk c6 hc6.1 hc6.2
        have hbr : Byt r := fun x hx => hby x (by simp [hx])
        have hrl : r.length < 1073741824 := by simp at hl; omega
        -- the two ways' ends
        have goI : ∀ {q : Ev × Int}, log_read_j3 (c0, (c0 :: s0 :: s1 :: s2 :: s3 :: c5 :: c6 :: r, ((0 + 1 : Nat) : Int), 0)) (seq, (c0 :: s0 :: s1 :: s2 :: s3 :: c5 :: c6 :: r, ((1 + 4 : Nat) : Int), 0)) (c5, (c0 :: s0 :: s1 :: s2 :: s3 :: c5 :: c6 :: r, ((5 + 1 : Nat) : Int), 0)) (c6, (c0 :: s0 :: s1 :: s2 :: s3 :: c5 :: c6 :: r, ((6 + 1 : Nat) : Int), 0)) (decide (c5 ≠ 1 ∧ c5 ≠ 2)) q → log_read (c0 :: s0 :: s1 :: s2 :: s3 :: c5 :: c6 :: r) q := by
          intro q h
          refine enterI ⟨_, u5, _, u6, 0, rfl, ?_⟩
          rw [if_neg (by decide)]
          simp only
          rw [wc5]
          by_cases e1 : c5 = 1
          · rw [if_neg (by simp [e1])]
            rw [decide_eq_false (fun hh => hh.1 e1)] at h; exact h
          · rw [if_pos (by simp [e1])]
            have e : (!decide (c5 = 2)) = decide (c5 ≠ 1 ∧ c5 ≠ 2) := by
              by_cases e2 : c5 = 2
              · rw [decide_eq_true e2, decide_eq_false (fun hh => hh.2 e2)]; rfl
              · rw [decide_eq_false e2, decide_eq_true ⟨e1, e2⟩]; rfl
            rw [e]; exact h
        have goR : ∀ {q : Er × Int}, ref34_read_j2 (c0 :: s0 :: s1 :: s2 :: s3 :: c5 :: c6 :: r) c0 seq c5 (decide (c5 ≠ 1 ∧ c5 ≠ 2)) q → ref34_read (c0 :: s0 :: s1 :: s2 :: s3 :: c5 :: c6 :: r) q := by
          intro q h
          refine enterR ?_
          unfold ref34_read_j1
          rw [wc, if_pos (by simpa using k1), if_neg (by simp only [hlen, List.length_cons, decide_eq_true_eq]; omega)]
          refine ⟨c5, ⟨by decide, rfl⟩, ?_⟩
          rw [wc5]
          by_cases e1 : c5 < 1
          · rw [if_pos (by simpa using e1)]
            rw [decide_eq_true (by omega)] at h; exact h
          · rw [if_neg (by simpa using e1)]
            have e : decide (2 < c5) = decide (c5 ≠ 1 ∧ c5 ≠ 2) := by
              by_cases e2 : 2 < c5
              · rw [decide_eq_true e2, decide_eq_true (by omega)]
              · rw [decide_eq_false e2, decide_eq_false (by omega)]
            rw [e]; exact h
        by_cases hv : c5 ≠ 1 ∧ c5 ≠ 2
        · rw [decide_eq_true hv] at goI goR
          refine .inr ⟨10, by decide, goI ?_, goR ?_⟩
          · unfold log_read_j3
            rw [if_pos rfl]; rfl
          · unfold ref34_read_j2
            rw [if_pos rfl]; rfl
        · rw [decide_eq_false hv] at goI goR
          have hrest := lrest_ok (b := c0 :: s0 :: s1 :: s2 :: s3 :: c5 :: c6 :: r) (at_ := 7) hl (by simp)
          have hcut : (((c0 :: s0 :: s1 :: s2 :: s3 :: c5 :: c6 :: r).drop (7 : Int).toNat).take ((((c0 :: s0 :: s1 :: s2 :: s3 :: c5 :: c6 :: r).length : Int) : Int) - 7).toNat) = r := by
            show r.take _ = r
            rw [List.take_of_length_le (by simp; omega)]
          have goR2 : ∀ {q : Er × Int} {w : Mr × Int}, ref18_Decode c6 2 r w → (if (!(decide (w.2 = 0))) = true then (q = (zEr, w.2)) else (q = ((c0, seq, c5, 0, w.1), 0))) → ref34_read (c0 :: s0 :: s1 :: s2 :: s3 :: c5 :: c6 :: r) q := by
            intro q w h1 h2
            refine goR ?_
            unfold ref34_read_j2
            rw [if_neg (by decide)]
            refine ⟨c6, ⟨by decide, rfl⟩, by simp; omega, Int.le_refl _, w, ?_, ?_⟩
            · rw [wc6, hcut]; exact h1
            · rw [wc, wc5]; exact h2
          rcases decode_any hrl hbr c6 (v := 2) (.inr rfl) with ⟨y, y1, y2, y3, y4, y5⟩ | ⟨e, he, y4, y5⟩
          · rw [since2] at y1 y2 y4 y5
            obtain ⟨b1, b2, b3, b4, b5, b6, b7, b8⟩ := back_ok y3 y1
            rw [← y2] at b2
            generalize setAll (zeroK c6) y (fieldsB c6) = M at *
            have hM : projV M 2 = M := by
              unfold projV; rw [if_neg (by decide), b4]
            rw [hM] at y4 y5
            have hch : chkL (1, seq, c5, 0, M) = 0 := by
              unfold chkL
              simp only
              rw [if_neg (by decide), if_pos trivial, if_neg hv, if_neg (by simpa using b1), if_neg (by simp)]
            have hpay : payE (1, seq, c5, 0, M) = c0 :: s0 :: s1 :: s2 :: s3 :: c5 :: c6 :: r := by
              unfold payE
              simp only
              rw [if_pos trivial, b2, b3, hleb, ← k1]
              rfl
            have hrd : rdE (1, seq, c5, 0, M) = (1, seq, c5, 0, M) := by
              unfold rdE
              simp only
              rw [if_pos trivial, b4]
            refine .inl ⟨(1, seq, c5, 0, M), hch, ⟨by show M.2.2.1.length ≤ 40; omega, by show M.2.2.2.1.length ≤ 40; omega, by show M.2.2.2.2.1.size ≤ 1000; omega, by show M.2.2.2.2.2.size ≤ 1000; omega, hlev.1, hlev.2⟩, hrd, hpay, ?_, ?_⟩
            · have := lread_ok (e := (1, seq, c5, 0, M)) hch hlev.1 hlev.2 (by show M.2.2.1.length < _; omega) (by show M.2.2.2.1.length < _; omega)
              rw [hpay, hrd] at this
              exact this
            · refine goR2 y5 ?_
              rw [if_neg (by simp), k1]; rfl
          · refine .inr ⟨e, he, goI ?_, goR2 y5 ?_⟩
            · unfold log_read_j3
              rw [if_neg (by decide)]
              refine ⟨_, hrest, (zero6, e), ?_, ?_⟩
              · simp only
                rw [wc6]; exact y4
              · rw [if_pos (by simpa using he)]
                rfl
            · rw [if_pos (by simpa using he)]
    · simp only [decide_eq_false k1, Bool.false_eq_true, if_false] at enterI
      by_cases k2 : c0 = 2
      · simp only [decide_eq_true k2, if_true] at enterI
        rcases r with _ | ⟨c5, r⟩
        · refine .inr ⟨13, by decide, enterI ⟨_, lu8_end (b := [c0, s0, s1, s2, s3]), 4, rfl, ?_⟩, enterR ?_⟩
          · rw [if_pos (by decide)]; rfl
          · unfold ref34_read_j1
            rw [wc, if_neg (by simpa using k1), if_pos (by simpa using k2), if_pos (by simp)]; rfl
        · have hc5 := hby c5 (by simp)
          have u5 := llu8_ok (k := 5) (v := c5) (rest := r) hby hl rfl
          have wc5 := wk c5 hc5.1 hc5.2
          have goR : ∀ {q : Er × Int}, (if (decide (bstr (wordE c5) = (bstr []))) = true then (q = (zEr, 7)) else (if (decide (6 < ((c0 :: s0 :: s1 :: s2 :: s3 :: c5 :: r).length : Int))) = true then (q = (zEr, 3)) else (q = ((c0, seq, 0, c5, zR6), 0)))) → ref34_read (c0 :: s0 :: s1 :: s2 :: s3 :: c5 :: r) q := by
            intro q h
            refine enterR ?_
            unfold ref34_read_j1
            rw [wc, if_neg (by simpa using k1), if_pos (by simpa using k2), if_neg (by simp only [hlen, List.length_cons, decide_eq_true_eq]; omega)]
            refine ⟨c5, ⟨by decide, rfl⟩, ?_⟩
            rw [wc5]
            exact ⟨_, reword_ok _, h⟩
          have goI : ∀ {q : Ev × Int}, (if (decide (bstr (wordE c5) = (bstr []))) = true then (log_read_j1 7 q) else (log_read_j2 (c0, (c0 :: s0 :: s1 :: s2 :: s3 :: c5 :: r, ((0 + 1 : Nat) : Int), 0)) (seq, (c0 :: s0 :: s1 :: s2 :: s3 :: c5 :: r, ((1 + 4 : Nat) : Int), 0)) (7, c0 :: s0 :: s1 :: s2 :: s3 :: c5 :: r, ((5 + 1 : Nat) : Int), 0, 0, c5, 0, 0, 0, 0, 0, 0, 0, [], [], (bstr []), (bstr [])) q)) → log_read (c0 :: s0 :: s1 :: s2 :: s3 :: c5 :: r) q := by
            intro q h
            refine enterI ⟨_, u5, 0, rfl, ?_⟩
            rw [if_neg (by decide)]
            simp only
            rw [wc5]
            exact ⟨_, eword_ok _, h⟩
          by_cases hw : bstr (wordE c5) = bstr []
          · simp only [decide_eq_true hw, if_true] at goI goR
            exact .inr ⟨7, by decide, goI rfl, goR rfl⟩
          · simp only [decide_eq_false hw, Bool.false_eq_true, if_false] at goI goR
            by_cases hr : r = []
            · subst hr
              simp only [List.length_cons, List.length_nil, Int.reduceAdd, Nat.reduceAdd, Int.cast_ofNat_Int, Int.reduceLT, Int.lt_irrefl, decide_false, Bool.false_eq_true, if_false] at goR
              have hch : chkL (2, seq, 0, c5, zero6) = 0 := by
                unfold chkL
                simp only
                rw [if_neg (by decide), if_neg (by decide), if_neg (by simp), if_neg (by decide), if_pos trivial, if_neg hw]
              have hpay : payE (2, seq, 0, c5, zero6) = [c0, s0, s1, s2, s3, c5] := by
                unfold payE
                simp only
                rw [if_neg (by decide), if_pos trivial, hleb, k2]; rfl
              have hrd : rdE (2, seq, 0, c5, zero6) = (2, seq, 0, c5, zero6) := rfl
              refine .inl ⟨(2, seq, 0, c5, zero6), hch, ⟨z6a, z6b, z6c, z6d, hlev.1, hlev.2⟩, hrd, hpay, ?_, ?_⟩
              · have := lread_ok (e := (2, seq, 0, c5, zero6)) hch hlev.1 hlev.2 (Nat.lt_of_le_of_lt z6a (by decide)) (Nat.lt_of_le_of_lt z6b (by decide))
                rw [hpay, hrd] at this
                exact this
              · refine goR ?_
                rw [k2]; rfl
            · have hpos : 0 < r.length := by cases r with
                | nil => exact absurd rfl hr
                | cons _ _ => simp
              have hq : (6 : Int) < ((c0 :: s0 :: s1 :: s2 :: s3 :: c5 :: r).length : Int) := by simp only [List.length_cons]; omega
              simp only [decide_eq_true hq, if_true] at goR
              refine .inr ⟨3, by decide, goI ?_, goR rfl⟩
              have hend := lend_any (b := c0 :: s0 :: s1 :: s2 :: s3 :: c5 :: r) (a := 5 + 1) (by simp)
              rw [if_neg (by simp; omega)] at hend
              refine ⟨3, hend, ?_⟩
              rw [if_pos (by decide)]; rfl
      · simp only [decide_eq_false k2, Bool.false_eq_true, if_false] at enterI
        by_cases k3 : c0 = 3
        · simp only [decide_eq_true k3, if_true] at enterI
          have goR : ∀ {q : Er × Int}, (if (decide (5 < ((c0 :: s0 :: s1 :: s2 :: s3 :: r).length : Int))) = true then (q = (zEr, 3)) else (q = ((c0, seq, 0, 0, zR6), 0))) → ref34_read (c0 :: s0 :: s1 :: s2 :: s3 :: r) q := by
            intro q h
            refine enterR ?_
            unfold ref34_read_j1
            rw [wc, if_neg (by simpa using k1), if_neg (by simpa using k2), if_pos (by simpa using k3)]
            exact h
          by_cases hr : r = []
          · subst hr
            simp only [List.length_cons, List.length_nil, Int.reduceAdd, Nat.reduceAdd, Int.cast_ofNat_Int, Int.reduceLT, Int.lt_irrefl, decide_false, Bool.false_eq_true, if_false] at goR
            have hch : chkL (3, seq, 0, 0, zero6) = 0 := by
              unfold chkL
              simp only
              rw [if_neg (by decide), if_neg (by decide), if_neg (by simp), if_neg (by decide), if_neg (by decide), if_neg (by simp)]
            have hpay : payE (3, seq, 0, 0, zero6) = [c0, s0, s1, s2, s3] := by
              unfold payE
              simp only
              rw [if_neg (by decide), if_neg (by decide), hleb, k3]; rfl
            have hrd : rdE (3, seq, 0, 0, zero6) = (3, seq, 0, 0, zero6) := rfl
            refine .inl ⟨(3, seq, 0, 0, zero6), hch, ⟨z6a, z6b, z6c, z6d, hlev.1, hlev.2⟩, hrd, hpay, ?_, ?_⟩
            · have := lread_ok (e := (3, seq, 0, 0, zero6)) hch hlev.1 hlev.2 (Nat.lt_of_le_of_lt z6a (by decide)) (Nat.lt_of_le_of_lt z6b (by decide))
              rw [hpay, hrd] at this
              exact this
            · refine goR ?_
              rw [k3]; rfl
          · have hpos : 0 < r.length := by cases r with
              | nil => exact absurd rfl hr
              | cons _ _ => simp
            have hq : (5 : Int) < ((c0 :: s0 :: s1 :: s2 :: s3 :: r).length : Int) := by simp only [List.length_cons]; omega
            simp only [decide_eq_true hq, if_true] at goR
            refine .inr ⟨3, by decide, enterI ?_, goR rfl⟩
            have hend := lend_any (b := c0 :: s0 :: s1 :: s2 :: s3 :: r) (a := 1 + 4) (by simp)
            rw [if_neg (by simp; omega)] at hend
            refine ⟨3, hend, ?_⟩
            rw [if_pos (by decide)]; rfl
        · simp only [decide_eq_false k3, Bool.false_eq_true, if_false] at enterI
          refine .inr ⟨9, by decide, enterI rfl, enterR ?_⟩
          unfold ref34_read_j1
          rw [wc, if_neg (by simpa using k1), if_neg (by simpa using k2), if_neg (by simpa using k3)]
          rfl
end Go.Rel
/-! Plain laws: a log's records, one behind the other, up to what is wrong. -/
namespace Go.Rel
open Go Go.Eng Go.Pl

inductive Chain (b : List Int) : Nat → List Ev → Int → Prop
  | done : Chain b b.length [] 0
  | bad {a : Nat} {er : Int} (h : a < b.length) (he : er ≠ 0)
      (hI : (∃ (p : List Int) (a2 e2 : Int), lens_Lens_Field (b, (a : Int), 0) 200 (p, (b, a2, e2)) ∧ (e2 = er ∨ e2 = 0 ∧ log_read p (zEv, er))))
      (hR : ∀ (l : List Er) (pl : List Int), ref34_Parse_l2 b (l, pl, (a : Int)) (.inr (.inr (l, pl, (a : Int), er)))) : Chain b a [] er
  | go {a : Nat} {er : Int} {e : Ev} {l : List Ev} (h : a < b.length) (hc : chkL e = 0) (hs : EvS e) (hrd : rdE e = e) (hd : ∃ rest, b.drop a = recE e ++ rest)
      (hI : lens_Lens_Field (b, (a : Int), 0) 200 (payE e, (b, ((a + (recE e).length : Nat) : Int), 0))) (hr : log_read (payE e) (e, 0))
      (hR : ∀ (l : List Er) (pl : List Int), l.length ≤ 1000 → pl.length ≤ 1000 → ref34_Parse_l2 b (l, pl, (a : Int)) (.inl (l ++ [ofE e], pl ++ [(a : Int)], ((a + (recE e).length : Nat) : Int))))
      (t : Chain b (a + (recE e).length) l er) : Chain b a (e :: l) er
theorem rj3_ok {b : List Int} {l : List Er} {pl : List Int} {a : Int} {n : Nat} {en : Nat} {o : Sum (List Er × List Int × Int) (Sum (List Er × List Int × Int) (List Er × List Int × Int × Int))} (hb : b.length < 1073741824) (hn : n ≤ 200) (hen : en ≤ b.length)
    (h : ref34_Parse_j4 b (l, pl, a) ((n : Int), (en : Int), 0) (if b.length - en < n then 4 else 0) o) : ref34_Parse_j6 b (l, pl, a) ((n : Int), (en : Int), 0) false o := by
  unfold ref34_Parse_j6
  rw [if_neg (by decide)]
  unfold ref34_Parse_j3
  rw [if_pos (by simp)]
  have e : decide (IntKind.i64.wrap ((b.length : Int) - (en : Int)) < IntKind.i64.wrap (n : Int)) = decide (b.length - en < n) := by
    rw [w_small (n := (n : Int)) (by omega) (by omega), w_small (by omega) (by omega)]
    by_cases hc : b.length - en < n
    · rw [decide_eq_true hc, decide_eq_true (by omega)]
    · rw [decide_eq_false hc, decide_eq_false (by omega)]
  simp only
  rw [e]
  unfold ref34_Parse_j5
  by_cases hc : b.length - en < n
  · rw [decide_eq_true hc, if_pos rfl]
    rw [if_pos hc] at h; exact h
  · rw [decide_eq_false hc, if_neg (by decide)]
    rw [if_neg hc] at h; exact h
theorem chain_any {b : List Int} (hb : b.length ≤ 600) (hby : Byt b) : ∀ (k a : Nat), a ≤ b.length → b.length - a ≤ k → ∃ l er, Chain b a l er
  | 0, a, h1, h2 => by
    have : a = b.length := by omega
    subst this
    exact ⟨[], 0, .done⟩
  | k + 1, a, h1, h2 => by
    by_cases hend : a = b.length
    · exact ⟨[], 0, by subst hend; exact .done⟩
    have hlt : a < b.length := by omega
    have hb2 : b.length < 1073741824 := by omega
    rcases get_any (b.drop a) (fun x hx => hby x (List.mem_of_mem_drop hx)) with ⟨n, rest, hn, hd, hg, hr⟩ | ⟨er, he, hg, hr⟩
    · have hrg := hr b a hb2 h1 rfl
      obtain ⟨hl, hd'⟩ := after_len hd
      have hbl : b.length = a + (vB n).length + rest.length := by
        have := congrArg List.length hd
        rw [List.length_drop, List.length_append] at this; omega
      have go : ∀ {l : List Er} {pl : List Int} {o}, ref34_Parse_j6 b (l, pl, (a : Int)) ((n : Int), ((a + (vB n).length : Nat) : Int), 0) (decide (200 < (n : Int))) o → ref34_Parse_l2 b (l, pl, (a : Int)) o := by
        intro l pl o h
        unfold ref34_Parse_l2
        rw [if_pos (by simp only [decide_eq_true_eq]; omega)]
        refine ⟨_, hrg, ?_⟩
        rw [if_pos (by simp)]
        exact h
      by_cases hbad : (200 : Int) < (n : Int) ∨ rest.length < n
      · have h1' := lfld_bad hb2 hn hd (by decide) (by decide) hg hbad
        refine ⟨[], if (200 : Int) < (n : Int) then 6 else 4, .bad hlt (by split <;> decide) ⟨_, _, _, h1', .inl rfl⟩ (fun l pl => go ?_)⟩
        by_cases h6 : (200 : Int) < (n : Int)
        · rw [decide_eq_true h6, if_pos h6]
          unfold ref34_Parse_j6
          rw [if_pos rfl]
          unfold ref34_Parse_j3
          rw [if_neg (by decide)]
          unfold ref34_Parse_j5
          rw [if_neg (by decide)]
          unfold ref34_Parse_j4
          rw [if_pos (by decide)]
        · rw [decide_eq_false h6, if_neg h6]
          refine rj3_ok hb2 (by omega) (by omega) ?_
          rw [if_pos (by omega)]
          unfold ref34_Parse_j4
          rw [if_pos (by decide)]
      · have hpl : (rest.take n).length = n := by rw [List.length_take]; omega
        have hpb : Byt (rest.take n) := fun c hc => hby c (List.mem_of_mem_drop (by rw [hd]; exact List.mem_append_right _ (List.mem_of_mem_take hc)))
        have hfld : lens_Lens_Field (b, (a : Int), 0) 200 (rest.take n, (b, ((a + (vB n).length + n : Nat) : Int), 0)) := by
          have := lfield_ok (p := rest.take n) (rest := rest.drop n) (at_ := a) (most := 200) hb2 (by rw [hpl, List.take_append_drop]; exact hd) (by rw [hpl]; omega) (by omega)
          rw [hpl] at this
          exact this
        have we : IntKind.i64.wrap (((a + (vB n).length : Nat) : Int) + IntKind.i64.wrap (n : Int)) = ((a + (vB n).length + n : Nat) : Int) := by
          rw [w_small (n := (n : Int)) (by omega) (by omega), w_small (by omega) (by omega)]; omega
        have hcut : (b.drop ((a + (vB n).length : Nat) : Int).toNat).take ((((a + (vB n).length + n : Nat) : Int) : Int) - ((a + (vB n).length : Nat) : Int)).toNat = rest.take n := by
          rw [Int.toNat_natCast, hd']
          congr 1; omega
        have j4 : ∀ {l : List Er} {pl : List Int} {o} {q : Er × Int}, ref34_read (rest.take n) q → (if (!(decide (q.2 = 0))) = true then (o = .inr (.inr (l, pl, (a : Int), q.2))) else ((l.length + [q.1].length) * 168 ≤ 140737488355328 ∧ l.length + [q.1].length ≤ 4611686018427387904 ∧ (pl.length + [(a : Int)].length) * 8 ≤ 140737488355328 ∧ pl.length + [(a : Int)].length ≤ 4611686018427387904 ∧ o = .inl ((l ++ [q.1]), (pl ++ [(a : Int)]), ((a + (vB n).length + n : Nat) : Int)))) → ref34_Parse_l2 b (l, pl, (a : Int)) o := by
          intro l pl o q h1 h2
          refine go ?_
          rw [decide_eq_false (by omega)]
          refine rj3_ok hb2 (by omega) (by omega) ?_
          rw [if_neg (by omega)]
          unfold ref34_Parse_j4
          rw [if_neg (by decide)]
          simp only
          rw [we]
          refine ⟨by omega, by omega, by omega, q, ?_, h2⟩
          rw [hcut]; exact h1
        rcases lread_any hpb (by omega) with ⟨e, hc, hs, hrd, hpay, hI, hR⟩ | ⟨er, he, hI, hR⟩
        · have hrec : recE e = vB n ++ rest.take n := by unfold recE; rw [hpay, hpl]
          have hrl : a + (recE e).length = a + (vB n).length + n := by rw [hrec, List.length_append, hpl]; omega
          have hvp := vB_pos n
          obtain ⟨l, er, t⟩ := chain_any hb hby k (a + (recE e).length) (by omega) (by omega)
          refine ⟨e :: l, er, .go hlt hc hs hrd ⟨rest.drop n, by rw [hrec, List.append_assoc, List.take_append_drop]; exact hd⟩ (by rw [hpay, hrl]; exact hfld) (by rw [hpay]; exact hI) (fun l pl h1 h2 => j4 hR ?_) t⟩
          rw [if_neg (by simp), hrl]
          exact ⟨by simp; omega, by simp; omega, by simp; omega, by simp; omega, rfl⟩
        · refine ⟨[], er, .bad hlt he ⟨_, _, _, hfld, .inr ⟨rfl, hI⟩⟩ (fun l pl => j4 hR ?_)⟩
          rw [if_pos (by simpa using he)]
    · have he0 : er ≠ 0 := by omega
      refine ⟨[], er, .bad hlt he0 ⟨_, _, _, lfld_err h1 he0 hg, .inl rfl⟩ (fun l pl => ?_)⟩
      unfold ref34_Parse_l2
      rw [if_pos (by simp only [decide_eq_true_eq]; omega)]
      refine ⟨_, hr b a hb2 h1 rfl, ?_⟩
      rw [if_neg (by simpa using he0)]
      unfold ref34_Parse_j6
      rw [if_neg (by decide)]
      unfold ref34_Parse_j3
      rw [if_neg (by simpa using he0)]
      unfold ref34_Parse_j5
      rw [if_neg (by decide)]
      unfold ref34_Parse_j4
      rw [if_pos (by simpa using he0)]
def plc : Nat → List Ev → List Int
  | _, [] => []
  | a, e :: l => (a : Int) :: plc (a + (recE e).length) l
theorem plc_len : ∀ (a : Nat) (l : List Ev), (plc a l).length = l.length
  | _, [] => rfl
  | a, e :: l => by show (plc _ l).length + 1 = _; rw [plc_len]; rfl
section
variable {b : List Int}
theorem chain_all {a : Nat} {l : List Ev} {er : Int} (h : Chain b a l er) : (∀ e ∈ l, chkL e = 0 ∧ EvS e ∧ rdE e = e) ∧ (∃ rest, b.drop a = l.flatMap recE ++ rest) ∧ a + (l.flatMap recE).length ≤ b.length ∧ 6 * l.length ≤ b.length - a ∧ a ≤ b.length := by
  induction h with
  | done => exact ⟨fun _ h => (nomatch h), ⟨[], by simp⟩, by simp, by simp, Nat.le_refl _⟩
  | bad h => exact ⟨fun _ h => (nomatch h), ⟨_, rfl⟩, by simp; omega, by simp, by omega⟩
  | @go a er e l h hc hs hrd hd hI hr hR t ih =>
    obtain ⟨i1, ⟨rest, i2⟩, i3, i4, i5⟩ := ih
    obtain ⟨r0, hd⟩ := hd
    have hrl := rec_len hc
    refine ⟨fun x hx => ?_, ⟨rest, ?_⟩, ?_, ?_, by omega⟩
    · rcases List.mem_cons.1 hx with rfl | hx
      · exact ⟨hc, hs, hrd⟩
      · exact i1 x hx
    · rw [List.flatMap_cons, List.append_assoc, ← i2, hd, ← List.drop_drop, hd, List.drop_left]
    · rw [List.flatMap_cons, List.length_append]; omega
    · rw [List.length_cons]; omega
theorem rparse_chain (hb : b.length ≤ 600) {a : Nat} {l : List Ev} {er : Int} (h : Chain b a l er) : ∀ (acc : List Er) (pl : List Int), acc.length + l.length ≤ 1000 → pl.length + l.length ≤ 1000 →
    ∃ x, Loops (ref34_Parse_l2 b) (acc, pl, (a : Int)) x ∧ Aft (fun p => ref34_Parse_j1 p (acc ++ l.map ofE, pl ++ plc a l, ((a + (l.flatMap recE).length : Nat) : Int), er)) (fun p => (acc ++ l.map ofE, pl ++ plc a l, ((a + (l.flatMap recE).length : Nat) : Int), er) = p) x := by
  induction h with
  | done =>
    intro acc pl _ _
    refine ⟨.inl (acc, pl, (b.length : Int)), .done ?_, ?_⟩
    · unfold ref34_Parse_l2
      rw [if_neg (by simp)]
    · show (_, _, _, _) = _
      simp [plc]
  | @bad a er h he hI hR =>
    intro acc pl _ _
    refine ⟨.inr (acc, pl, (a : Int), er), .done (hR acc pl), ?_⟩
    show (_, _, _, _) = _
    simp [plc]
  | @go a er e l h hc hs hrd hd hI hr hR t ih =>
    intro acc pl h1 h2
    rw [List.length_cons] at h1 h2
    obtain ⟨x, i1, i2⟩ := ih (acc ++ [ofE e]) (pl ++ [(a : Int)]) (by simp; omega) (by simp; omega)
    refine ⟨x, .next (hR acc pl (by omega) (by omega)) i1, ?_⟩
    have e1 : acc ++ (e :: l).map ofE = acc ++ [ofE e] ++ l.map ofE := by simp
    have e2 : pl ++ plc a (e :: l) = pl ++ [(a : Int)] ++ plc (a + (recE e).length) l := by show pl ++ ((a : Int) :: plc _ l) = _; simp
    have e3 : a + ((e :: l).flatMap recE).length = a + (recE e).length + (l.flatMap recE).length := by rw [List.flatMap_cons, List.length_append]; omega
    rw [e1, e2, e3]
    exact i2
theorem rparse_ok (hb : b.length ≤ 600) {l : List Ev} {er : Int} (h : Chain b 0 l er) : ref34_Parse b (l.map ofE, plc 0 l, ((l.flatMap recE).length : Int), er) := by
  have hl := (chain_all h).2.2.2.1
  obtain ⟨x, h1, h2⟩ := rparse_chain hb h [] [] (by simp; omega) (by simp; omega)
  rw [List.nil_append, List.nil_append, Nat.zero_add] at h2
  exact ⟨x, h1, h2⟩
theorem parse_chain (hb : b.length ≤ 600) {a : Nat} {l : List Ev} {er : Int} (h : Chain b a l er) : ∀ (acc : List Ev), acc.length + l.length ≤ 1000 →
    ∃ x, Loops log_each__log_Parse_1_l2 (acc, b, (a : Int), 0) x ∧ ((x = .inl (acc ++ l) ∧ er = 0) ∨ ∃ z, x = .inr (er, z) ∧ er ≠ 0) := by
  induction h with
  | done =>
    intro acc _
    refine ⟨.inl acc, .done ?_, .inl ⟨by simp, rfl⟩⟩
    unfold log_each__log_Parse_1_l2
    refine ⟨_, left2_ok (Nat.le_refl _), ?_⟩
    rw [if_neg (by simp)]
  | @bad a er h he hI hR =>
    intro acc _
    obtain ⟨p, a2, e2, hf, hx⟩ := hI
    refine ⟨.inr (er, acc), .done ?_, .inr ⟨acc, rfl, he⟩⟩
    unfold log_each__log_Parse_1_l2
    refine ⟨_, left2_ok (by omega), ?_⟩
    rw [if_pos (by simp only [decide_eq_true_eq]; omega)]
    refine ⟨_, rfl, _, hf, e2, rfl, ?_⟩
    rcases hx with rfl | ⟨rfl, hr⟩
    · rw [if_pos (by simpa using he)]
      exact ⟨_, rfl, rfl⟩
    · rw [if_neg (by decide)]
      refine ⟨_, hr, ?_⟩
      rw [if_pos (by simpa using he)]
  | @go a er e l h hc hs hrd hd hI hr hR t ih =>
    intro acc h1
    rw [List.length_cons] at h1
    obtain ⟨x, i1, i2⟩ := ih (acc ++ [e]) (by simp; omega)
    refine ⟨x, .next (s' := (acc ++ [e], b, ((a + (recE e).length : Nat) : Int), 0)) ?_ i1, ?_⟩
    · unfold log_each__log_Parse_1_l2
      refine ⟨_, left2_ok (by omega), ?_⟩
      rw [if_pos (by simp only [decide_eq_true_eq]; omega)]
      refine ⟨_, rfl, _, hI, 0, rfl, ?_⟩
      rw [if_neg (by decide)]
      refine ⟨_, hr, ?_⟩
      rw [if_neg (show ¬ (!decide ((0 : Int) = 0)) = true by decide)]
      refine ⟨_, rfl, (true, acc ++ [e]), ⟨by simp; omega, by simp; omega, rfl⟩, ?_⟩
      rw [if_neg (by simp)]
    · have : acc ++ [e] ++ l = acc ++ e :: l := by simp
      rw [this] at i2; exact i2
theorem parse_ok (hb : b.length ≤ 600) {l : List Ev} {er : Int} (h : Chain b 0 l er) : log_Parse b (if er = 0 then l else [], er) := by
  have hl := (chain_all h).2.2.2.1
  obtain ⟨x, h1, h2⟩ := parse_chain hb h [] (by simp; omega)
  rcases h2 with ⟨rfl, h0⟩ | ⟨z, rfl, h0⟩
  · refine ⟨(0, l), ⟨_, lnew_ok (by omega), _, h1, rfl⟩, ?_⟩
    rw [if_neg (by simp), if_pos h0, h0]
  · refine ⟨(er, z), ⟨_, lnew_ok (by omega), _, h1, rfl⟩, ?_⟩
    rw [if_pos (by simpa using h0), if_neg h0]
theorem repair_chain (hb : b.length ≤ 600) {a : Nat} {l : List Ev} {er : Int} (h : Chain b a l er) : ∀ (n : Nat), n + l.length ≤ 1000 →
    ∃ x, Loops log_each__log_Repair_1_l2 ((n : Int), (a : Int), b, (a : Int), 0) x ∧ Aft (fun p => log_each__log_Repair_1_j1 p (er, ((n + l.length : Nat) : Int), ((a + (l.flatMap recE).length : Nat) : Int))) (fun p => (er, ((n + l.length : Nat) : Int), ((a + (l.flatMap recE).length : Nat) : Int)) = p) x := by
  induction h with
  | done =>
    intro n _
    refine ⟨.inl ((n : Int), (b.length : Int)), .done ?_, ?_⟩
    · unfold log_each__log_Repair_1_l2
      refine ⟨_, left2_ok (Nat.le_refl _), ?_⟩
      rw [if_neg (by simp)]
    · show (_, _, _) = _
      simp
  | @bad a er h he hI hR =>
    intro n _
    obtain ⟨p, a2, e2, hf, hx⟩ := hI
    refine ⟨.inr (er, (n : Int), (a : Int)), .done ?_, by show (_, _, _) = _; simp⟩
    unfold log_each__log_Repair_1_l2
    refine ⟨_, left2_ok (by omega), ?_⟩
    rw [if_pos (by simp only [decide_eq_true_eq]; omega)]
    refine ⟨_, rfl, _, hf, e2, rfl, ?_⟩
    rcases hx with rfl | ⟨rfl, hr⟩
    · rw [if_pos (by simpa using he)]
      exact ⟨_, rfl, rfl⟩
    · rw [if_neg (by decide)]
      refine ⟨_, hr, ?_⟩
      rw [if_pos (by simpa using he)]
  | @go a er e l h hc hs hrd hd hI hr hR t ih =>
    intro n h1
    rw [List.length_cons] at h1
    obtain ⟨x, i1, i2⟩ := ih (n + 1) (by omega)
    refine ⟨x, .next ?_ i1, ?_⟩
    · unfold log_each__log_Repair_1_l2
      refine ⟨_, left2_ok (by omega), ?_⟩
      rw [if_pos (by simp only [decide_eq_true_eq]; omega)]
      refine ⟨_, rfl, _, hI, 0, rfl, ?_⟩
      rw [if_neg (by decide)]
      refine ⟨_, hr, ?_⟩
      rw [if_neg (show ¬ (!decide ((0 : Int) = 0)) = true by decide)]
      refine ⟨_, rfl, _, rfl, ?_⟩
      rw [if_neg (by simp)]
      simp only
      rw [w_small (by omega) (by omega)]
      simp
    · have e1 : n + (e :: l).length = n + 1 + l.length := by rw [List.length_cons]; omega
      have e3 : a + ((e :: l).flatMap recE).length = a + (recE e).length + (l.flatMap recE).length := by rw [List.flatMap_cons, List.length_append]; omega
      rw [e1, e3]
      exact i2
theorem repair_ok (hb : b.length ≤ 600) {l : List Ev} {er : Int} (h : Chain b 0 l er) : log_Repair b (l.flatMap recE, (l.length : Int)) := by
  obtain ⟨_, ⟨rest, hd⟩, hle, hl, _⟩ := chain_all h
  rw [List.drop_zero] at hd
  obtain ⟨x, h1, h2⟩ := repair_chain hb h 0 (by omega)
  rw [Nat.zero_add, Nat.zero_add] at h2
  rw [Nat.zero_add] at hle
  have hcut : (b.drop (0 : Int).toNat).take (((((l.flatMap recE).length : Int)) : Int) - 0).toNat = l.flatMap recE := by
    rw [hd]; simp
  refine ⟨_, ⟨_, lnew_ok (by omega), x, h1, h2⟩, by simp only; omega, by simp only; omega, ?_, ?_, ?_⟩
  · simp only; rw [hcut]; simp only [List.length_nil]; omega
  · simp only; rw [hcut]; simp only [List.length_nil]; omega
  · simp only; rw [hcut]; simp
theorem each_chain (hb : b.length ≤ 600) {a : Nat} {l : List Ev} {er : Int} (h : Chain b a l er) : ∀ {S : Type} {Y : (Int × Ev) → S → Bool × S → Prop} {s s' : S}, Run Y ((plc a l).zip l) s s' →
    ∃ x r, Loops (log_each__log_Each_1_1_l2 S Y) (s, b, (a : Int), 0) x ∧ Aft (fun p => log_each__log_Each_1_1_j1 S Y p (r, s')) (fun p => (r, s') = p) x := by
  induction h with
  | done =>
    intro S Y s s' hr
    cases hr
    refine ⟨.inl s, 0, .done ?_, rfl⟩
    unfold log_each__log_Each_1_1_l2
    refine ⟨_, left2_ok (Nat.le_refl _), ?_⟩
    rw [if_neg (by simp)]
  | @bad a er h he hI hR =>
    intro S Y s s' hr
    cases hr
    obtain ⟨p, a2, e2, hf, hx⟩ := hI
    refine ⟨.inr (er, s), er, .done ?_, rfl⟩
    unfold log_each__log_Each_1_1_l2
    refine ⟨_, left2_ok (by omega), ?_⟩
    rw [if_pos (by simp only [decide_eq_true_eq]; omega)]
    refine ⟨_, rfl, _, hf, e2, rfl, ?_⟩
    rcases hx with rfl | ⟨rfl, hr⟩
    · rw [if_pos (by simpa using he)]
      exact ⟨_, rfl, rfl⟩
    · rw [if_neg (by decide)]
      refine ⟨_, hr, ?_⟩
      rw [if_pos (by simpa using he)]
  | @go a er e l h hc hs hrd hd hI hr hR t ih =>
    intro S Y s s' hrun
    have step : ∀ {g : Bool} {s1 : S} {o}, Y ((a : Int), e) s (g, s1) → (if (!g) = true then (o = .inr (.inl s1)) else (o = .inl (s1, b, ((a + (recE e).length : Nat) : Int), 0))) → log_each__log_Each_1_1_l2 S Y (s, b, (a : Int), 0) o := by
      intro g s1 o hy h2
      unfold log_each__log_Each_1_1_l2
      refine ⟨_, left2_ok (by omega), ?_⟩
      rw [if_pos (by simp only [decide_eq_true_eq]; omega)]
      refine ⟨_, rfl, _, hI, 0, rfl, ?_⟩
      rw [if_neg (by decide)]
      refine ⟨_, hr, ?_⟩
      rw [if_neg (show ¬ (!decide ((0 : Int) = 0)) = true by decide)]
      exact ⟨_, rfl, (g, s1), ⟨g, s1, hy, rfl⟩, h2⟩
    have hz : (plc a (e :: l)).zip (e :: l) = ((a : Int), e) :: (plc (a + (recE e).length) l).zip l := rfl
    rw [hz] at hrun
    cases hrun with
    | go hy h' =>
      obtain ⟨x, r, i1, i2⟩ := ih h'
      exact ⟨x, r, .next (step hy (by rw [if_neg (by decide)])) i1, i2⟩
    | stop hy => exact ⟨.inl s', 0, .done (step hy (by rw [if_pos (by decide)])), rfl⟩
theorem each_itr (hb : b.length ≤ 600) {l : List Ev} {er : Int} (h : Chain b 0 l er) : Itr (log_Each_1 b) ((plc 0 l).zip l) := by
  intro S Y s s' hrun
  obtain ⟨x, r, h1, h2⟩ := each_chain hb h hrun
  exact ⟨(r, s'), ⟨_, lnew_ok (by omega), x, h1, h2⟩, rfl⟩
end
end Go.Rel
/-! Plain law: LogParses. -/
namespace Go.Rel
open Go Go.Eng Go.Pl

theorem look_run {L : List Ev} {er : Int} (hL : L.length ≤ 100) (hg : ∀ e ∈ L, EvS e) : ∀ (k n : Nat), n + k = L.length →
    RunB (E := Unit) (law34_LogParses_l2 (L.map ofE, plc 0 L, ((L.flatMap recE).length : Int), er)) (((plc 0 L).zip L).drop n) ((n : Int), true, L.take n) (.inl ((L.length : Int), true, L))
  | 0, n, h => by
    have hn : n = L.length := by omega
    subst hn
    rw [List.drop_of_length_le (by rw [List.length_zip]; omega), List.take_length]
    exact .nil
  | k + 1, n, h => by
    have hn : n < L.length := by omega
    have hnp : n < (plc 0 L).length := by rw [plc_len]; exact hn
    have hz : n < ((plc 0 L).zip L).length := by rw [List.length_zip, plc_len]; omega
    have ih := look_run (er := er) hL hg k (n + 1) (by omega)
    rw [List.drop_eq_getElem_cons hz, List.getElem_zip]
    rw [List.take_succ_eq_append_getElem hn] at ih
    refine .go ?_ ih
    have hs := hg L[n] (List.getElem_mem hn)
    have hp := hs.path
    have hq := hs.cells
    have hlt : decide ((n : Int) < ((L.map ofE).length : Int)) = true := by simp only [List.length_map, decide_eq_true_eq]; omega
    have hi1 : idx (plc 0 L) (n : Int) (plc 0 L)[n] := idx_of hnp
    have hi2 : idx (L.map ofE) (n : Int) (ofE L[n]) := ⟨by omega, by simp [hn]⟩
    refine ⟨(plc 0 L)[n], fun _ => hi1, ofE L[n], fun _ => eof_ok (e := L[n]) (by omega), ofE L[n], fun _ => hi2, true, fun _ => ?_, ?_, ?_, ?_⟩
    · have := resame_ok (a := L[n]) (b := L[n]) (by omega) (by omega)
      rw [sameE_refl] at this
      exact this
    · simp only [List.length_take, List.length_singleton]; omega
    · simp only [List.length_take, List.length_singleton]; omega
    · simp only
      rw [hlt, w_small (by omega) (by omega)]
      simp
theorem stop_at {X : Type} {stop : Int} {B : X → Int → Sum Int Int → Prop} (hB : ∀ x (s : Int), 0 ≤ s → s < 100000 → B x s (if s = stop then .inr s else .inl (s + 1))) : ∀ (xs : List X) (s : Int), 0 ≤ s → s + xs.length < 100000 →
    ∃ t, RunB B xs s t ∧ (t = .inl (s + xs.length) ∨ t = .inr stop)
  | [], s, _, _ => ⟨.inl s, .nil, .inl (by simp)⟩
  | x :: xs, s, h0, h1 => by
    rw [List.length_cons] at h1
    have hb := hB x s h0 (by omega)
    by_cases h : s = stop
    · rw [if_pos h] at hb
      exact ⟨.inr s, .stop hb, .inr (by rw [h])⟩
    · rw [if_neg h] at hb
      obtain ⟨t, t1, t2⟩ := stop_at hB xs (s + 1) (by omega) (by omega)
      refine ⟨t, .go hb t1, ?_⟩
      rcases t2 with rfl | rfl
      · left; congr 1; rw [List.length_cons]; omega
      · right; rfl
theorem logParses_true {a : List Int} (hby : Byt a) (stop : Int) : law34_LogParses a stop true := by
  have e0 : (a.drop (0 : Int).toNat).take (((min (a.length : Int) 600) : Int) - 0).toNat = a.take 600 := takeP_min a 600
  unfold law34_LogParses
  rw [e0]
  refine ⟨by omega, by omega, ?_⟩
  have hb : (a.take 600).length ≤ 600 := by rw [List.length_take]; omega
  have hbb : Byt (a.take 600) := fun x hx => hby x (List.mem_of_mem_take hx)
  generalize hab : a.take 600 = b at hb hbb
  rw [hab] at e0
  obtain ⟨L, er, hch⟩ := chain_any hb hbb b.length 0 (by omega) (by omega)
  obtain ⟨c1, ⟨rest, c2⟩, c3, c4, _⟩ := chain_all hch
  rw [List.drop_zero] at c2
  rw [Nat.zero_add] at c3
  have hL : L.length ≤ 100 := by omega
  have hgS : ∀ e ∈ L, EvS e := fun e he => (c1 e he).2.1
  have hgG : ∀ e ∈ L, EvG e := fun e he => evG (c1 e he).2.1 (c1 e he).1
  have hend : (((b.drop (0 : Int).toNat).take (((((L.flatMap recE).length : Int)) : Int) - 0).toNat)) = L.flatMap recE := by
    rw [c2]; simp
  refine ⟨_, parse_ok hb hch, _, rparse_ok hb hch, ?_⟩
  rw [if_neg (by simp)]
  -- the rest of the law, behind the first look
  have tail : law34_LogParses_j1 a stop (L.map ofE, plc 0 L, ((L.flatMap recE).length : Int), er) false true := by
    unfold law34_LogParses_j1
    rw [e0]
    rw [if_neg (by decide)]
    refine ⟨_, rfl, .inl ((L.length : Int), true, L), (), each_itr hb hch _ _ _ _ (run_yof (look_run hL hgS L.length 0 (by omega))), ?_⟩
    show ∃ r91, _
    obtain ⟨t, t1, t2⟩ := stop_at (stop := stop) (B := law34_LogParses_l5 stop) (fun x s h0 h1 => by
      unfold law34_LogParses_l5
      by_cases h : s = stop
      · rw [if_pos (by simpa using h), if_pos h]
      · rw [if_neg (by simpa using h), if_neg h, w_small (by omega) (by omega)]) ((plc 0 L).zip L) 0 (by omega) (by rw [List.length_zip]; omega)
    have hzl : ((plc 0 L).zip L).length = L.length := by rw [List.length_zip, plc_len]; omega
    rw [hzl] at t2
    refine ⟨_, rfl, t, (), each_itr hb hch _ _ _ _ (run_yof t1), ?_⟩
    have fin : ∀ p : Int, p = L.length ∨ p = stop → law34_LogParses_j3 a stop (L.map ofE, plc 0 L, ((L.flatMap recE).length : Int), er) ((L.length : Int), true, L) p true := by
      intro p hp
      unfold law34_LogParses_j3
      rw [e0]
      refine ⟨_, repair_ok hb hch, _, lbytes_ok L hL hgG, true, known34_ok, ?_⟩
      have s1 : ref01_Same (L.flatMap recE) (L.flatMap recE) true := by
        have := same_ok (a := L.flatMap recE) (b := L.flatMap recE) (by omega)
        rw [decide_eq_true rfl] at this
        exact this
      have core : (0 ≤ ((L.flatMap recE).length : Int) ∧ ((L.flatMap recE).length : Int) ≤ (b.length : Int) ∧ ∃ r125 : Bool, ref01_Same (L.flatMap recE) ((b.drop (0 : Int).toNat).take (((L.flatMap recE).length : Int) - 0).toNat) r125 ∧ if r125 = true then (if (decide ((0 : Int) = 0)) = true then (∃ r129 : Bool, ref01_Same (L.flatMap recE) (L.flatMap recE) r129 ∧ law34_LogParses_j4 r129 true) else (law34_LogParses_j4 false true)) else (law34_LogParses_j4 false true)) := by
        refine ⟨by omega, by omega, true, by rw [hend]; exact s1, ?_⟩
        rw [if_pos rfl, if_pos (by decide)]
        exact ⟨true, s1, rfl⟩
      rw [if_pos rfl, if_pos rfl, if_pos (by simp)]
      by_cases h1 : p = L.length
      · rw [if_pos (by simpa using h1), if_pos (by simp)]
        exact core
      · rw [if_neg (by simpa using h1), if_pos (by simpa using hp.resolve_left h1), if_pos (by simp)]
        exact core
    rcases t2 with rfl | rfl
    · exact fin _ (.inl (by omega))
    · exact fin _ (.inr rfl)
  by_cases h0 : er = 0
  · rw [if_pos h0, if_pos (by simpa using h0)]
    refine ⟨true, same24_ok (a := L) (b := L) rfl (by omega) ?_, ?_⟩
    · intro k x y hx hy
      rw [hx] at hy
      cases hy
      have hs := hgS x (List.mem_of_getElem? hx)
      have := hs.path
      have := hs.cells
      exact ⟨sameE_refl x, by omega, by omega⟩
    · rw [if_neg (by decide), if_neg (by simp [h0])]
      exact tail
  · rw [if_neg h0, if_neg (by simpa using h0), if_pos (by simpa using h0)]
    exact tail
theorem logParses_claim {a : List Int} {stop : Int} (h0 : ListOk (IntOk .u8) a) (_h1 : IntOk .i64 stop) : law34_LogParses a stop true := by
  refine logParses_true (fun x hx => ?_) stop
  have : IntOk .u8 x := h0.1 x hx
  have h2 : (0 : Int) ≤ x ∧ x ≤ 255 := this
  omega
end Go.Rel
