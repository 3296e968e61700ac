import Derived.Test.YtgokdchgjpneoaaDoorPlSay
/-! Plain laws: what a line tells is told back: digits, signs between, hexadecimal digits; two messages with one line. -/
namespace Go.Rel
open Go Go.Eng Go.Pl

/-- A part up to a sign. -/
theorem cut_at {c : Int} : ∀ (p q r s : List Int), c ∉ p → c ∉ q → (r = [] ∨ ∃ r', r = c :: r') → (s = [] ∨ ∃ s', s = c :: s') → p ++ r = q ++ s → p = q ∧ r = s
  | [], [], r, s, _, _, _, _, h => ⟨rfl, h⟩
  | [], y :: q, r, s, _, hq, hr, _, h => by
    rcases hr with rfl | ⟨r', rfl⟩
    · simp at h
    · simp only [List.nil_append, List.cons_append, List.cons.injEq] at h
      exact absurd (by rw [h.1]; simp) hq
  | x :: p, [], r, s, hp, _, _, hs, h => by
    rcases hs with rfl | ⟨s', rfl⟩
    · simp at h
    · simp only [List.nil_append, List.cons_append, List.cons.injEq] at h
      exact absurd (by rw [← h.1]; simp) hp
  | x :: p, y :: q, r, s, hp, hq, hr, hs, h => by
    simp only [List.cons_append, List.cons.injEq] at h
    obtain ⟨h1, h2⟩ := cut_at p q r s (fun hh => hp (by simp [hh])) (fun hh => hq (by simp [hh])) hr hs h.2
    exact ⟨by rw [h.1, h1], h2⟩
theorem joinL_head {c : Int} (x : List Int) (l : List (List Int)) : ∃ t, joinL [c] (x :: l) = x ++ t ∧ (t = [] ∨ ∃ t', t = c :: t') ∧ (l = [] ↔ t = []) ∧ (∀ y l', l = y :: l' → t = c :: joinL [c] l) := by
  cases l with
  | nil => exact ⟨[], by simp [joinL], .inl rfl, by simp, fun _ _ h => by cases h⟩
  | cons y l => exact ⟨c :: joinL [c] (y :: l), by simp [joinL], .inr ⟨_, rfl⟩, by simp, fun _ _ h => rfl⟩
theorem joinL_inj {c : Int} : ∀ (l m : List (List Int)), l ≠ [] → m ≠ [] → (∀ x ∈ l, c ∉ x) → (∀ x ∈ m, c ∉ x) → joinL [c] l = joinL [c] m → l = m
  | [], _, h, _, _, _, _ => absurd rfl h
  | _, [], _, h, _, _, _ => absurd rfl h
  | x :: l, y :: m, _, _, hl, hm, h => by
    obtain ⟨t, e1, h1, h2, h3⟩ := joinL_head (c := c) x l
    obtain ⟨u, e2, g1, g2, g3⟩ := joinL_head (c := c) y m
    rw [e1, e2] at h
    obtain ⟨hxy, htu⟩ := cut_at x y t u (hl x (by simp)) (hm y (by simp)) h1 g1 h
    rw [hxy]
    cases l with
    | nil =>
      have ht := h2.1 rfl
      rw [ht] at htu
      rw [g2.2 htu.symm]
    | cons a l =>
      cases m with
      | nil => have := g2.1 rfl; rw [this] at htu; have := h2.2 htu; cases this
      | cons b m =>
        rw [h3 a l rfl, g3 b m rfl] at htu
        have := joinL_inj (a :: l) (b :: m) (by simp) (by simp) (fun z hz => hl z (by simp only [List.mem_cons] at hz ⊢; exact .inr hz)) (fun z hz => hm z (by simp only [List.mem_cons] at hz ⊢; exact .inr hz)) (List.cons.inj htu).2
        rw [this]
/-- The number of digits. -/
def numD (l : List Int) : Int := l.foldl (fun n d => 10 * n + (d - 48)) 0
theorem numD_snoc (l : List Int) (d : Int) : numD (l ++ [d]) = 10 * numD l + (d - 48) := by simp [numD]
theorem numD_decL : ∀ (f u : Nat), u ≤ f → numD (decL u) = (u : Int)
  | 0, u, h => by
    obtain rfl : u = 0 := by omega
    rfl
  | f + 1, u, h => by
    by_cases hu : u < 10
    · rw [decL_lt hu]; simp [numD]; omega
    · rw [decL_ge hu, numD_snoc, numD_decL f (u / 10) (by omega)]; omega
theorem decL_digs (u : Nat) : ∀ x ∈ decL u, 48 ≤ x ∧ x < 58 := decL_dig u u (Nat.le_refl _)
theorem decL_ne (u : Nat) : decL u ≠ [] := by
  by_cases h : u < 10
  · rw [decL_lt h]; simp
  · rw [decL_ge h]; simp
theorem decI_signs (n : Int) : ∀ x ∈ decI n, x = 45 ∨ (48 ≤ x ∧ x < 58) := by
  intro x hx
  unfold decI at hx
  split at hx
  · rcases List.mem_cons.1 hx with h | h
    · exact .inl h
    · exact .inr (decL_digs _ x h)
  · exact .inr (decL_digs _ x hx)
theorem decI_ne (n : Int) : decI n ≠ [] := by unfold decI; split; simp; exact decL_ne _
theorem decL_inj {u v : Nat} (h : decL u = decL v) : u = v := by
  have h1 := numD_decL u u (Nat.le_refl _)
  rw [h, numD_decL v v (Nat.le_refl _)] at h1
  omega
theorem decL_not45 (u : Nat) (l : List Int) : decL u ≠ 45 :: l := by
  intro h
  have := decL_digs u 45 (by rw [h]; simp)
  omega
theorem decI_inj {a b : Int} (h : decI a = decI b) : a = b := by
  unfold decI at h
  split at h
  · split at h
    · have := decL_inj (List.cons.inj h).2; omega
    · exact absurd h.symm (decL_not45 _ _)
  · split at h
    · exact absurd h (decL_not45 _ _)
    · have := decL_inj h; omega
theorem decI_no {c : Int} (h1 : c ≠ 45) (h2 : c < 48 ∨ 58 ≤ c) (n : Int) : c ∉ decI n := by
  intro h
  rcases decI_signs n c h with h3 | h3 <;> omega
theorem hexD_inj {a b : Int} (ha : 0 ≤ a ∧ a < 16) (hb : 0 ≤ b ∧ b < 16) (h : hexD a = hexD b) : a = b := by
  unfold hexD at h; split at h <;> split at h <;> omega
theorem hexD_rng {a : Int} (ha : 0 ≤ a ∧ a < 16) : (48 ≤ hexD a ∧ hexD a < 58) ∨ (97 ≤ hexD a ∧ hexD a < 103) := by
  unfold hexD; split <;> omega
theorem hexL_inj : ∀ (l m : List Int), (∀ x ∈ l, 0 ≤ x ∧ x < 256) → (∀ x ∈ m, 0 ≤ x ∧ x < 256) → hexL l = hexL m → l = m
  | [], [], _, _, _ => rfl
  | [], y :: m, _, _, h => by simp [hexL] at h
  | x :: l, [], _, _, h => by simp [hexL] at h
  | x :: l, y :: m, hl, hm, h => by
    have e : ∀ z (t : List Int), hexL (z :: t) = hexD (z / 16) :: hexD (z % 16) :: hexL t := fun z t => by simp [hexL]
    rw [e, e] at h
    simp only [List.cons.injEq] at h
    have hx := hl x (by simp)
    have hy := hm y (by simp)
    have h1 := hexD_inj (by omega) (by omega) h.1
    have h2 := hexD_inj (by omega) (by omega) h.2.1
    rw [hexL_inj l m (fun z hz => hl z (by simp [hz])) (fun z hz => hm z (by simp [hz])) h.2.2]
    congr 1; omega
theorem bints_inj {s t : ByteArray} (h : bints s = bints t) : s = t := by rw [← bstr_bints s, h, bstr_bints]
theorem bints_nil {s : ByteArray} (h : bints s = []) : s = bstr [] := by rw [← bstr_bints s, h]
theorem hexL_one (l : List Int) : hexL l ≠ [45] := by
  intro h
  have := congrArg List.length h
  rw [hexL_len] at this
  simp at this; omega
theorem hexV_inj {s t : ByteArray} (h : hexV s = hexV t) : s = t := by
  unfold hexV at h
  split at h
  · split at h
    · rename_i h1 h2; rw [h1, h2]
    · exact absurd h.symm (hexL_one _)
  · split at h
    · exact absurd h (hexL_one _)
    · exact bints_inj (hexL_inj _ _ (bints_byt s) (bints_byt t) h)
theorem hexV_no32 (s : ByteArray) : (32 : Int) ∉ hexV s := by
  unfold hexV
  split
  · simp
  · intro h
    simp only [hexL, List.mem_flatMap, List.mem_cons, List.not_mem_nil, or_false] at h
    obtain ⟨x, hx, h⟩ := h
    have hb := bints_byt s x hx
    rcases h with h | h
    · have := hexD_rng (a := x / 16) (by omega); omega
    · have := hexD_rng (a := x % 16) (by omega); omega
theorem ptL_inj {p q : Int × Int} (h : ptL p = ptL q) : p = q := by
  unfold ptL at h
  simp only [List.append_assoc, List.cons_append, List.nil_append] at h
  obtain ⟨h1, h2⟩ := cut_at (c := 44) _ _ _ _ (decI_no (by decide) (by decide) _) (decI_no (by decide) (by decide) _) (.inr ⟨_, rfl⟩) (.inr ⟨_, rfl⟩) h
  have e1 := decI_inj h1
  have e2 := decI_inj (List.cons.inj h2).2
  obtain ⟨a, b⟩ := p; obtain ⟨c, d⟩ := q
  simp only at e1 e2
  rw [e1, e2]
theorem ptL_no {c : Int} (h1 : c ≠ 45) (h2 : c < 48 ∨ 58 ≤ c) (h3 : c ≠ 44) (p : Int × Int) : c ∉ ptL p := by
  intro h
  simp only [ptL, List.mem_append, List.mem_cons, List.not_mem_nil, or_false] at h
  rcases h with (h | h) | h
  · exact decI_no h1 h2 _ h
  · exact h3 h
  · exact decI_no h1 h2 _ h
theorem joinL_no {c d : Int} (hcd : d ≠ c) : ∀ (l : List (List Int)), (∀ x ∈ l, d ∉ x) → d ∉ joinL [c] l
  | [], _ => by simp [joinL]
  | [x], h => by simpa [joinL] using h x (by simp)
  | x :: y :: l, h => by
    have h1 := h x (by simp)
    have h2 := joinL_no hcd (y :: l) (fun z hz => h z (by simp only [List.mem_cons] at hz ⊢; exact .inr hz))
    simp only [joinL, List.mem_append, List.mem_cons, List.not_mem_nil, or_false, not_or]
    exact ⟨⟨h1, hcd⟩, h2⟩
theorem valueL_no32 (m : Mg) (f : Fd) : (32 : Int) ∉ valueL m f := by
  unfold valueL
  split
  · exact joinL_no (by decide) _ (fun x hx => by obtain ⟨p, _, rfl⟩ := List.mem_map.1 hx; exact ptL_no (by decide) (by decide) (by decide) p)
  split
  · exact joinL_no (by decide) _ (fun x hx => by obtain ⟨p, _, rfl⟩ := List.mem_map.1 hx; exact decI_no (by decide) (by decide) p)
  split
  · exact hexV_no32 _
  split
  · exact hexV_no32 _
  · exact decI_no (by decide) (by decide) _
theorem body_start (m : Mg) (fs : List Fd) : bodyL m fs = [] ∨ ∃ r, bodyL m fs = 32 :: r := by
  cases fs with
  | nil => exact .inl rfl
  | cons f l => exact .inr ⟨_, by simp only [bodyL, List.flatMap_cons, partL, List.append_assoc, List.cons_append, List.nil_append]; rfl⟩
theorem body_values (a b : Mg) : ∀ fs : List Fd, bodyL a fs = bodyL b fs → ∀ f ∈ fs, valueL a f = valueL b f
  | [], _, _, h => by cases h
  | g :: l, h, f, hf => by
    have e : ∀ m : Mg, bodyL m (g :: l) = ([32] ++ bints g.1 ++ [32]) ++ (valueL m g ++ bodyL m l) := fun m => by simp [bodyL, partL]
    rw [e, e] at h
    have h := List.append_cancel_left h
    obtain ⟨h1, h2⟩ := cut_at (c := 32) _ _ _ _ (valueL_no32 a g) (valueL_no32 b g) (body_start a l) (body_start b l) h
    rcases List.mem_cons.1 hf with rfl | hf
    · exact h1
    · exact body_values a b l h2 f hf
theorem checkB_zero {m : Mg} (h : checkB m = 0) : fieldsB m.1 ≠ [] ∧ firstW m (fieldsB m.1) = 0 ∧ sameB (leftB (fieldsB m.1) m) (zeroM m.1) = true := by
  unfold checkB at h
  by_cases h1 : fieldsB m.1 = []
  · rw [if_pos h1] at h; cases h
  rw [if_neg h1] at h
  by_cases h2 : firstW m (fieldsB m.1) = 0
  · rw [if_neg (by simpa using h2)] at h
    by_cases h3 : sameB (leftB (fieldsB m.1) m) (zeroM m.1) = true
    · exact ⟨h1, h2, h3⟩
    · rw [if_neg h3] at h; cases h
  · rw [if_pos h2] at h; exact absurd h h2
theorem firstW_zero {m : Mg} : ∀ {l : List Fd}, firstW m l = 0 → ∀ f ∈ l, wrongB m f = 0
  | [], _, _, h => by cases h
  | g :: l, h, f, hf => by
    simp only [firstW] at h
    by_cases hg : wrongB m g = 0
    · rw [if_neg (by simpa using hg)] at h
      rcases List.mem_cons.1 hf with rfl | hf
      · exact hg
      · exact firstW_zero h f hf
    · rw [if_pos hg] at h; exact absurd h hg
theorem kind_rng {k : Int} (h : fieldsB k ≠ []) : k = 1 ∨ k = 2 ∨ k = 3 ∨ k = 4 ∨ k = 5 := by
  by_cases hk : k = 1 ∨ k = 2 ∨ k = 3 ∨ k = 4 ∨ k = 5
  · exact hk
  · simp only [not_or] at hk
    unfold fieldsB at h
    rw [if_neg hk.1, if_neg hk.2.1, if_neg hk.2.2.1, if_neg hk.2.2.2.1, if_neg hk.2.2.2.2] at h
    exact absurd rfl h
/-- What is no field is nothing. -/
theorem clean_of {m : Mg} (h : sameB (leftB (fieldsB m.1) m) (zeroM m.1) = true) : (∀ k, k < 6 → hasN (fieldsB m.1) k = true ∨ m.2.1.getD k 0 = 0) ∧ (hasS (fieldsB m.1) 3 = true ∨ m.2.2.1 = []) ∧ (hasS (fieldsB m.1) 4 = true ∨ m.2.2.2.1 = []) ∧ (hasS (fieldsB m.1) 5 = true ∨ m.2.2.2.2.1 = bstr []) ∧ (hasS (fieldsB m.1) 6 = true ∨ m.2.2.2.2.2 = bstr []) := by
  have h := of_decide_eq_true h
  have h1 : ∀ {α : Type} (b : Bool) (x z : α), ((if b = true then z else x) = z) → (b = true ∨ x = z) := by
    intro α b x z; cases b <;> simp
  simp only [leftB, zeroM, n6, List.getD_cons_zero, List.getD_cons_succ, Prod.mk.injEq, true_and, List.cons.injEq, and_true] at h
  obtain ⟨⟨a0, a1, a2, a3, a4, a5⟩, b3, b4, b5, b6⟩ := h
  refine ⟨fun k hk => ?_, h1 _ _ _ b3, h1 _ _ _ b4, h1 _ _ _ b5, h1 _ _ _ b6⟩
  refine h1 _ _ _ ?_
  match k, hk with
  | 0, _ => exact a0
  | 1, _ => exact a1
  | 2, _ => exact a2
  | 3, _ => exact a3
  | 4, _ => exact a4
  | 5, _ => exact a5
theorem hasS_at {l : List Fd} {s : Int} (h : hasS l s = true) : ∃ f ∈ l, f.2.1 = s := by
  simp only [hasS, List.any_eq_true, decide_eq_true_eq] at h; exact h
theorem hasN_at {l : List Fd} {p : Nat} (h : hasN l p = true) : ∃ f ∈ l, sortN f ∧ f.2.2.1.toNat = p := by
  simp only [hasN, List.any_eq_true, decide_eq_true_eq] at h; exact h
theorem wordL_inj {a b : Int} (ha : a = 1 ∨ a = 2 ∨ a = 3 ∨ a = 4 ∨ a = 5) (hb : b = 1 ∨ b = 2 ∨ b = 3 ∨ b = 4 ∨ b = 5) (h : wordL a = wordL b) : a = b := by
  rcases ha with rfl | rfl | rfl | rfl | rfl <;> rcases hb with rfl | rfl | rfl | rfl | rfl <;> first | rfl | (revert h; decide)
theorem wordL_no32 (k : Int) : (32 : Int) ∉ wordL k := by unfold wordL; repeat' (first | decide | split)
theorem map_inj {α β : Type} {g : α → β} (hg : ∀ x y, g x = g y → x = y) : ∀ {l m : List α}, l.map g = m.map g → l = m
  | [], [], _ => rfl
  | [], _ :: _, h => by simp at h
  | _ :: _, [], h => by simp at h
  | x :: l, y :: m, h => by
    simp only [List.map_cons, List.cons.injEq] at h
    rw [hg _ _ h.1, map_inj hg h.2]
/-- **One line, one message.** -/
theorem line_inj {a b : Mg} (ha : checkB a = 0) (hb : checkB b = 0) (h : lineL a = lineL b) : sameB a b = true := by
  obtain ⟨a1, a2, a3⟩ := checkB_zero ha
  obtain ⟨b1, b2, b3⟩ := checkB_zero hb
  unfold lineL at h
  rw [if_pos ha, if_pos hb] at h
  obtain ⟨h1, h2⟩ := cut_at (c := 32) _ _ _ _ (wordL_no32 _) (wordL_no32 _) (body_start a _) (body_start b _) h
  have hk := wordL_inj (kind_rng a1) (kind_rng b1) h1
  rw [← hk] at h2 b1 b2 b3
  have hv := body_values a b _ h2
  have ca := clean_of a3
  have cb := clean_of (m := b) (by rw [← hk]; exact b3)
  rw [← hk] at cb
  have fd := fields_fd a.1
  have wa := firstW_zero a2
  have wb := firstW_zero b2
  generalize fieldsB a.1 = fs at *
  unfold sameB
  refine decide_eq_true ⟨hk, ?_, ?_⟩
  · have num : ∀ k, k < 6 → a.2.1.getD k 0 = b.2.1.getD k 0 := by
      intro k hk
      by_cases hn : hasN fs k = true
      · obtain ⟨f, hf, hs, rfl⟩ := hasN_at hn
        have := hv f hf
        unfold valueL at this
        rw [if_neg hs.1, if_neg hs.2.1, if_neg hs.2.2.1, if_neg hs.2.2.2, if_neg hs.1, if_neg hs.2.1, if_neg hs.2.2.1, if_neg hs.2.2.2] at this
        exact decI_inj this
      · rw [(ca.1 k hk).resolve_left hn, (cb.1 k hk).resolve_left hn]
    unfold n6
    rw [num 0 (by omega), num 1 (by omega), num 2 (by omega), num 3 (by omega), num 4 (by omega), num 5 (by omega)]
  · have many : ∀ {n least most : Int}, 1 ≤ least → manyB n least most = 0 → n ≠ 0 := fun h1 h => by have := (manyB_zero h).1; omega
    have e3 : a.2.2.1 = b.2.2.1 := by
      by_cases hn : hasS fs 3 = true
      · obtain ⟨f, hf, hs⟩ := hasS_at hn
        have := hv f hf
        have w1 := wa f hf
        have w2 := wb f hf
        have ok := (fd f hf).2.2
        unfold valueL at this
        unfold wrongB at w1 w2
        rw [if_pos hs] at this w1 w2
        rw [if_pos hs] at this
        have ne : ∀ l : List (Int × Int), pathB l f.2.2.2.1 f.2.2.2.2.1 = 0 → l.map ptL ≠ [] := by
          intro l hl he
          have : l = [] := by simpa using he
          subst this
          unfold pathB at hl
          split at hl
          · rename_i h0; exact many (by omega) h0 rfl
          · rename_i h0; exact h0 hl
        exact map_inj (fun _ _ => ptL_inj) (joinL_inj (c := 59) _ _ (ne _ w1) (ne _ w2) (fun x hx => by obtain ⟨p, _, rfl⟩ := List.mem_map.1 hx; exact ptL_no (by decide) (by decide) (by decide) p) (fun x hx => by obtain ⟨p, _, rfl⟩ := List.mem_map.1 hx; exact ptL_no (by decide) (by decide) (by decide) p) this)
      · rw [ca.2.1.resolve_left hn, cb.2.1.resolve_left hn]
    have e4 : a.2.2.2.1 = b.2.2.2.1 := by
      by_cases hn : hasS fs 4 = true
      · obtain ⟨f, hf, hs⟩ := hasS_at hn
        have := hv f hf
        have w1 := wa f hf
        have w2 := wb f hf
        have ok := (fd f hf).2.2
        unfold valueL at this
        unfold wrongB at w1 w2
        rw [if_neg (by omega), if_pos hs] at this w1 w2
        rw [if_neg (by omega), if_pos hs] at this
        have ne : ∀ l : List Int, cellsB l f.2.2.2.1 f.2.2.2.2.1 = 0 → l.map decI ≠ [] := by
          intro l hl he
          have : l = [] := by simpa using he
          subst this
          unfold cellsB at hl
          split at hl
          · rename_i h0; exact many (by omega) h0 rfl
          · rename_i h0; exact h0 hl
        exact map_inj (fun _ _ => decI_inj) (joinL_inj (c := 44) _ _ (ne _ w1) (ne _ w2) (fun x hx => by obtain ⟨p, _, rfl⟩ := List.mem_map.1 hx; exact decI_no (by decide) (by decide) p) (fun x hx => by obtain ⟨p, _, rfl⟩ := List.mem_map.1 hx; exact decI_no (by decide) (by decide) p) this)
      · rw [ca.2.2.1.resolve_left hn, cb.2.2.1.resolve_left hn]
    have e5 : a.2.2.2.2.1 = b.2.2.2.2.1 := by
      by_cases hn : hasS fs 5 = true
      · obtain ⟨f, hf, hs⟩ := hasS_at hn
        have := hv f hf
        unfold valueL at this
        rw [if_neg (by omega), if_neg (by omega), if_pos hs, if_neg (by omega), if_neg (by omega), if_pos hs] at this
        exact hexV_inj this
      · rw [ca.2.2.2.1.resolve_left hn, cb.2.2.2.1.resolve_left hn]
    have e6 : a.2.2.2.2.2 = b.2.2.2.2.2 := by
      by_cases hn : hasS fs 6 = true
      · obtain ⟨f, hf, hs⟩ := hasS_at hn
        have := hv f hf
        unfold valueL at this
        rw [if_neg (by omega), if_neg (by omega), if_neg (by omega), if_pos hs, if_neg (by omega), if_neg (by omega), if_neg (by omega), if_pos hs] at this
        exact hexV_inj this
      · rw [ca.2.2.2.2.resolve_left hn, cb.2.2.2.2.resolve_left hn]
    obtain ⟨_, _, p, c, t, g⟩ := a
    obtain ⟨_, _, p', c', t', g'⟩ := b
    simp only at e3 e4 e5 e6 ⊢
    rw [e3, e4, e5, e6]
/-- The same messages have one line. -/
theorem same_line {a b : Mg} (na : a.2.1.length = 6) (nb : b.2.1.length = 6) (h : sameB a b = true) : a = b := by
  have h := of_decide_eq_true h
  obtain ⟨k, n, r⟩ := a
  obtain ⟨k', n', r'⟩ := b
  simp only at na nb h
  rw [n6_eq na, n6_eq nb] at h
  rw [h.1, h.2.1, h.2.2]
/-! Lines are bytes. -/
abbrev Oct (l : List Int) : Prop := ∀ x ∈ l, 0 ≤ x ∧ x < 256
theorem bb_of {l : List Int} (h : Oct l) : bints (bstr l) = l := by
  have key : ∀ (l : List Int) (s : ByteArray), Oct l → bints (l.foldl (fun r n => r.push (UInt8.ofNat n.toNat)) s) = bints s ++ l := by
    intro l
    induction l with
    | nil => intro s _; simp
    | cons x l ih =>
      intro s h
      rw [List.foldl_cons, ih _ (fun y hy => h y (by simp [hy]))]
      have hx := h x (by simp)
      have : bints (s.push (UInt8.ofNat x.toNat)) = bints s ++ [x] := by
        unfold bints
        simp only [ByteArray.push, Array.toList_push, List.map_append, List.map_cons, List.map_nil]
        congr 2
        rw [UInt8.toNat_ofNat', Nat.mod_eq_of_lt (by omega)]; omega
      rw [this]; simp
  have := key l ByteArray.empty h
  simpa [bstr, bints] using this
theorem bs_inj {a b : List Int} (ha : Oct a) (hb : Oct b) (h : bstr a = bstr b) : a = b := by rw [← bb_of ha, h, bb_of hb]
theorem oct_nil : Oct [] := fun _ h => by cases h
theorem oct_one {c : Int} (hc : 0 ≤ c ∧ c < 256) : Oct [c] := fun x hx => by obtain rfl := List.mem_singleton.1 hx; exact hc
theorem oct_app {a b : List Int} (ha : Oct a) (hb : Oct b) : Oct (a ++ b) := fun x hx => by
  rcases List.mem_append.1 hx with h | h
  · exact ha x h
  · exact hb x h
theorem oct_decI (n : Int) : Oct (decI n) := fun x hx => by rcases decI_signs n x hx with h | h <;> omega
theorem oct_hexV (s : ByteArray) : Oct (hexV s) := by
  intro x hx
  unfold hexV at hx
  split at hx
  · simp at hx; omega
  · simp only [hexL, List.mem_flatMap, List.mem_cons, List.not_mem_nil, or_false] at hx
    obtain ⟨y, hy, h⟩ := hx
    have hb := bints_byt s y hy
    rcases h with h | h
    · have := hexD_rng (a := y / 16) (by omega); omega
    · have := hexD_rng (a := y % 16) (by omega); omega
theorem oct_joinL {c : Int} (hc : 0 ≤ c ∧ c < 256) : ∀ {l : List (List Int)}, (∀ x ∈ l, Oct x) → Oct (joinL [c] l)
  | [], _ => oct_nil
  | [x], h => h x (by simp)
  | x :: y :: l, h => oct_app (oct_app (h x (by simp)) (oct_one hc)) (oct_joinL hc (fun z hz => h z (by simp only [List.mem_cons] at hz ⊢; exact .inr hz)))
theorem oct_valueL (m : Mg) (f : Fd) : Oct (valueL m f) := by
  unfold valueL
  split
  · exact oct_joinL (by decide) (fun x hx => by obtain ⟨p, _, rfl⟩ := List.mem_map.1 hx; exact oct_app (oct_app (oct_decI _) (by decide)) (oct_decI _))
  split
  · exact oct_joinL (by decide) (fun x hx => by obtain ⟨p, _, rfl⟩ := List.mem_map.1 hx; exact oct_decI _)
  split
  · exact oct_hexV _
  split
  · exact oct_hexV _
  · exact oct_decI _
theorem oct_lineL (m : Mg) : Oct (lineL m) := by
  unfold lineL
  split
  · refine oct_app (by unfold wordL; repeat' (first | decide | split)) ?_
    intro x hx
    simp only [bodyL, List.mem_flatMap] at hx
    obtain ⟨f, _, hf⟩ := hx
    exact oct_app (oct_app (oct_app (by decide) (bints_byt f.1)) (by decide)) (oct_valueL m f) x hf
  · exact oct_nil
end Go.Rel
