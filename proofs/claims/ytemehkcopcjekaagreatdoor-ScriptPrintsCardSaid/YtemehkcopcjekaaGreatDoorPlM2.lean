import Derived.Test.YtemehkcopcjekaaGreatDoorPlM1
/-! Plain laws: the number of digits. -/
namespace Go.Rel
open Go Go.Eng Go.Pl
def AllDig (d : List Int) : Prop := ∀ x ∈ d, 48 ≤ x ∧ x < 58
instance (d : List Int) : Decidable (AllDig d) := inferInstanceAs (Decidable (∀ x ∈ d, 48 ≤ x ∧ x < 58))
def dval (a : Nat) (d : List Int) : Nat := d.foldl (fun n c => 10 * n + (c - 48).toNat) a
theorem dval_cons (a : Nat) (c : Int) (d : List Int) : dval a (c :: d) = dval (10 * a + (c - 48).toNat) d := rfl
theorem dval_snoc (a : Nat) (c : Int) (d : List Int) : dval a (d ++ [c]) = 10 * dval a d + (c - 48).toNat := by simp [dval]
theorem dval_ge : ∀ (d : List Int) (a : Nat), a ≤ dval a d
  | [], a => Nat.le_refl a
  | c :: d, a => by rw [dval_cons]; have := dval_ge d (10 * a + (c - 48).toNat); omega
theorem dval_pos {c : Int} {d : List Int} (h : 49 ≤ c) : 1 ≤ dval 0 (c :: d) := by
  rw [dval_cons]; have := dval_ge d (10 * 0 + (c - 48).toNat); omega
theorem dval_dec : ∀ (n : Nat) (d : List Int), d.length ≤ n → AllDig d → d ≠ [] → (d.head? = some 48 → d.length = 1) → decL (dval 0 d) = d
  | 0, d, h, _, h0, _ => absurd (List.eq_nil_of_length_eq_zero (Nat.le_zero.1 h)) h0
  | n + 1, d, h, hd, h0, hz => by
    obtain ⟨p, c, rfl⟩ : ∃ p c, d = p ++ [c] := ⟨d.dropLast, d.getLast h0, (List.dropLast_concat_getLast h0).symm⟩
    have hc := hd c (by simp)
    rw [dval_snoc]
    by_cases hp : p = []
    · subst hp
      rw [show 10 * dval 0 [] + (c - 48).toNat = (c - 48).toNat by simp [dval], decL_lt (by omega)]
      simp; omega
    · have hdp : AllDig p := fun x hx => hd x (List.mem_append_left _ hx)
      have hh : (p ++ [c]).head? = p.head? := by cases p with | nil => exact absurd rfl hp | cons x p => rfl
      have hz' : p.head? ≠ some 48 := fun e => by
        have := hz (hh.trans e)
        rw [List.length_append] at this
        have := List.length_pos_iff.2 hp
        simp only [List.length_cons, List.length_nil] at *
        omega
      obtain ⟨x, p', rfl⟩ : ∃ x p', p = x :: p' := by cases p with | nil => exact absurd rfl hp | cons x p => exact ⟨_, _, rfl⟩
      have hx := hdp x (by simp)
      have h1 : 1 ≤ dval 0 (x :: p') := dval_pos (by
        have : x ≠ 48 := fun e => hz' (by simp [e])
        omega)
      have ih := dval_dec n (x :: p') (by simp only [List.length_append, List.length_cons, List.length_nil] at h ⊢; omega) hdp (by simp) (fun e => absurd e hz')
      rw [decL_ge (by omega), show (10 * dval 0 (x :: p') + (c - 48).toNat) / 10 = dval 0 (x :: p') by omega, show (10 * dval 0 (x :: p') + (c - 48).toNat) % 10 = (c - 48).toNat by omega, ih]
      rw [show (48 : Int) + ((c - 48).toNat : Int) = c by omega]
theorem dec_dval : ∀ (f u : Nat), u ≤ f → dval 0 (decL u) = u
  | 0, u, h => by obtain rfl : u = 0 := by omega
                  rfl
  | f + 1, u, h => by
    by_cases hu : u < 10
    · rw [decL_lt hu]; simp [dval]; omega
    · rw [decL_ge hu, dval_snoc, dec_dval f (u / 10) (by omega)]; omega
theorem decL_all (u : Nat) : AllDig (decL u) := decL_dig u u (Nat.le_refl _)
theorem decL_head : ∀ (f u : Nat), u ≤ f → (decL u).head? = some 48 → (decL u).length = 1
  | 0, u, h, _ => by obtain rfl : u = 0 := by omega
                     rfl
  | f + 1, u, h, hh => by
    by_cases hu : u < 10
    · rw [decL_lt hu]; rfl
    · exfalso
      rw [decL_ge hu] at hh
      have hne := decL_ne (u / 10)
      have h2 : (decL (u / 10)).head? = some 48 := by
        cases hq : decL (u / 10) with
        | nil => exact absurd hq hne
        | cons x p => rw [hq] at hh; simpa using hh
      have h3 := decL_head f (u / 10) (by omega) h2
      have h4 := dec_dval (u / 10) (u / 10) (Nat.le_refl _)
      obtain ⟨x, hx⟩ : ∃ x, decL (u / 10) = [x] := List.length_eq_one_iff.1 h3
      rw [hx] at h2 h4
      simp only [List.head?_cons, Option.some.injEq] at h2
      subst h2
      simp [dval] at h4
      omega
def rdB (l : List Int) : Int × Int :=
  let d := if l.head? = some 45 then l.tail else l
  if d = [] ∨ (d.head? = some 48 ∧ l ≠ [48]) ∨ ¬ AllDig d then (0, 3)
  else if l.head? = some 45 then (if dval 0 d ≤ 9223372036854775808 then (-(dval 0 d : Int), 0) else (0, 5))
  else (if dval 0 d ≤ 9223372036854775807 then ((dval 0 d : Int), 0) else (0, 5))
theorem rdB_dec {n : Int} (h : IntOk .i64 n) : rdB (decI n) = (n, 0) := by
  have ⟨h0, h1⟩ := ok_i64 h
  unfold rdB decI
  by_cases hn : n < 0
  · rw [if_pos hn]
    simp only [List.head?_cons, List.tail_cons, if_true]
    have hv := dec_dval n.natAbs n.natAbs (Nat.le_refl _)
    have hne := decL_ne n.natAbs
    have hall := decL_all n.natAbs
    have hh : (decL n.natAbs).head? ≠ some 48 := fun e => by
      have h3 := decL_head n.natAbs n.natAbs (Nat.le_refl _) e
      obtain ⟨x, hx⟩ : ∃ x, decL n.natAbs = [x] := List.length_eq_one_iff.1 h3
      rw [hx] at e hv
      simp only [List.head?_cons, Option.some.injEq] at e
      subst e
      simp [dval] at hv
      omega
    rw [if_neg (fun hq => hq.elim hne (fun hq => hq.elim (fun h => hh h.1) (fun h => h hall))), hv, if_pos (by omega)]
    congr 1; omega
  · rw [if_neg hn]
    have hv := dec_dval n.toNat n.toNat (Nat.le_refl _)
    have hne := decL_ne n.toNat
    have hall := decL_all n.toNat
    have h45 : (decL n.toNat).head? ≠ some 45 := fun e => by
      have : (45 : Int) ∈ decL n.toNat := List.mem_of_mem_head? (by rw [e]; simp)
      have := hall _ this
      omega
    simp only [if_neg h45]
    rw [if_neg, hv, if_pos (by omega)]
    · congr 1; omega
    · rintro (h | h | h)
      · exact hne h
      · have h3 := decL_head n.toNat n.toNat (Nat.le_refl _) h.1
        obtain ⟨x, hx⟩ : ∃ x, decL n.toNat = [x] := List.length_eq_one_iff.1 h3
        rw [hx] at h
        simp at h
        try omega
      · exact h hall
theorem rdB_back {l : List Int} {n : Int} (h : rdB l = (n, 0)) : decI n = l ∧ IntOk .i64 n := by
  unfold rdB at h
  simp only at h
  by_cases h45 : l.head? = some 45
  · rw [if_pos h45, if_pos h45] at h
    by_cases hc : l.tail = [] ∨ (l.tail.head? = some 48 ∧ l ≠ [48]) ∨ ¬ AllDig l.tail
    · rw [if_pos hc] at h; simp at h
    · rw [if_neg hc] at h
      simp only [not_or, Decidable.not_not] at hc
      obtain ⟨c1, c2, c3⟩ := hc
      by_cases hb : dval 0 l.tail ≤ 9223372036854775808
      · rw [if_pos hb] at h
        have hn : -(dval 0 l.tail : Int) = n := by simpa using h
        have hl : l = 45 :: l.tail := by cases l with | nil => simp at h45 | cons x l => simp at h45; simp [h45]
        have hz : l.tail.head? ≠ some 48 := fun e => c2 ⟨e, fun e2 => by rw [e2] at h45; simp at h45⟩
        have hpos : 1 ≤ dval 0 l.tail := by
          cases ht : l.tail with
          | nil => exact absurd ht c1
          | cons x t =>
            have := c3 x (by rw [ht]; simp)
            rw [ht] at hz
            exact dval_pos (by simp at hz; omega)
        have hd := dval_dec l.tail.length l.tail (Nat.le_refl _) c3 c1 (fun e => absurd e hz)
        refine ⟨?_, by show (-9223372036854775808 : Int) ≤ n; omega, by show n ≤ 9223372036854775807; omega⟩
        unfold decI
        rw [if_pos (by omega), show n.natAbs = dval 0 l.tail by omega, hd, ← hl]
      · rw [if_neg hb] at h; simp at h
  · rw [if_neg h45, if_neg h45] at h
    by_cases hc : l = [] ∨ (l.head? = some 48 ∧ l ≠ [48]) ∨ ¬ AllDig l
    · rw [if_pos hc] at h; simp at h
    · rw [if_neg hc] at h
      simp only [not_or, Decidable.not_not] at hc
      obtain ⟨c1, c2, c3⟩ := hc
      by_cases hb : dval 0 l ≤ 9223372036854775807
      · rw [if_pos hb] at h
        have hn : (dval 0 l : Int) = n := by simpa using h
        have hd := dval_dec l.length l (Nat.le_refl _) c3 c1 (fun e => by
          have : l = [48] := Decidable.byContradiction fun e2 => c2 ⟨e, e2⟩
          rw [this]; rfl)
        refine ⟨?_, by show (-9223372036854775808 : Int) ≤ n; omega, by show n ≤ 9223372036854775807; omega⟩
        unfold decI
        rw [if_neg (by omega), show n.toNat = dval 0 l by omega, hd]
      · rw [if_neg hb] at h; simp at h
theorem pu64_dig : ∀ (d : List Int) (a : Nat), AllDig d → a ≤ 18446744073709551615 → pu64 (a : Int) d = if dval a d ≤ 18446744073709551615 then (0, (dval a d : Int)) else (2, 0)
  | [], a, _, ha => by rw [if_pos (by simpa [dval] using ha)]; rfl
  | c :: d, a, h, ha => by
    have hc := h c (by simp)
    have hd : AllDig d := fun x hx => h x (List.mem_cons_of_mem _ hx)
    rw [pu64, if_pos (by omega), dval_cons]
    have hge := dval_ge d (10 * a + (c - 48).toNat)
    by_cases h1 : (1844674407370955162 : Int) ≤ (a : Int)
    · rw [if_pos h1, if_neg (by omega)]
    · rw [if_neg h1]
      by_cases h2 : (18446744073709551615 : Int) < (a : Int) * 10 + (c - 48)
      · rw [if_pos h2, if_neg (by omega)]
      · rw [if_neg h2, show (a : Int) * 10 + (c - 48) = ((10 * a + (c - 48).toNat : Nat) : Int) by omega]
        exact pu64_dig d _ hd (by omega)
theorem pi64_rd {l : List Int} (h3 : (rdB l).2 ≠ 3) : ((pi64 l).2 = false ∧ rdB l = ((pi64 l).1, 0)) ∨ ((pi64 l).2 = true ∧ rdB l = (0, 5)) := by
  unfold rdB at h3 ⊢
  simp only at h3 ⊢
  by_cases h45 : l.head? = some 45
  · obtain ⟨t, rfl⟩ : ∃ t, l = 45 :: t := by cases l with | nil => simp at h45 | cons x l => simp at h45; exact ⟨l, by rw [h45]⟩
    simp only [List.head?_cons, List.tail_cons, if_true] at h3 ⊢
    by_cases hc : t = [] ∨ (t.head? = some 48 ∧ 45 :: t ≠ [(48 : Int)]) ∨ ¬ AllDig t
    · rw [if_pos hc] at h3; simp at h3
    · rw [if_neg hc]
      simp only [not_or, Decidable.not_not] at hc
      have hp := pu64_dig t 0 hc.2.2 (by omega)
      rw [show ((0 : Nat) : Int) = 0 from rfl] at hp
      unfold pi64
      simp only [if_neg hc.1, or_true, if_true, hp]
      by_cases h1 : dval 0 t ≤ 18446744073709551615
      · rw [if_pos h1]
        simp only
        rw [if_neg (by decide), if_neg (by decide), if_neg (by simp)]
        by_cases h2 : dval 0 t ≤ 9223372036854775808
        · rw [if_neg (by omega), if_pos h2]; left; simp
        · rw [if_pos (by simp; omega), if_neg h2]; right; simp
      · rw [if_neg h1, if_neg (by omega)]
        simp
        try omega
  · rw [if_neg h45] at h3 ⊢
    rw [if_neg h45] at h3 ⊢
    by_cases hc : l = [] ∨ (l.head? = some 48 ∧ l ≠ [48]) ∨ ¬ AllDig l
    · rw [if_pos hc] at h3; simp at h3
    · rw [if_neg hc]
      simp only [not_or, Decidable.not_not] at hc
      have hp := pu64_dig l 0 hc.2.2 (by omega)
      rw [show ((0 : Nat) : Int) = 0 from rfl] at hp
      obtain ⟨x, t, rfl⟩ : ∃ x t, l = x :: t := by cases l with | nil => exact absurd rfl hc.1 | cons x l => exact ⟨_, _, rfl⟩
      have hx := hc.2.2 x (by simp)
      have hx45 : ¬ x = 45 := by omega
      have hx43 : ¬ x = 43 := by omega
      have hxn : ¬ (x :: t = []) := by simp
      simp only [pi64, hx43, hx45, or_false, if_false, hxn, hp]
      by_cases h1 : dval 0 (x :: t) ≤ 18446744073709551615
      · rw [if_pos h1]
        simp only
        rw [if_neg (by decide), if_neg (by decide)]
        by_cases h2 : dval 0 (x :: t) ≤ 9223372036854775807
        · rw [if_neg (by omega), if_neg (by simp), if_pos h2]; left; simp
        · rw [if_pos (by simp; omega), if_neg h2]; right; simp
      · rw [if_neg h1, if_neg (by omega)]
        simp
        try omega
end Go.Rel
/-! Plain laws: a number is read; the words of a text. -/
namespace Go.Rel
open Go Go.Eng Go.Pl
def digS : List Int := [48, 49, 50, 51, 52, 53, 54, 55, 56, 57]
theorem ascii_ok : ∃ as, strings_makeASCIISet (bstr digS) (as, true) ∧ ∀ c : Int, 0 ≤ c → c < 256 → as.getD c.toNat false = decide (48 ≤ c ∧ c < 58) := by
  have hb : bints (bstr digS) = digS := bb_of (by unfold Oct digS; decide)
  have hs : (bstr digS).size = 10 := by rw [size_bstr]; rfl
  have key := loops_inv (step := strings_makeASCIISet_l2 (bstr digS)) (s := (0, List.replicate 256 false)) (fun k (s : Int × List Bool) => s.1 = (k : Int) ∧ ∀ c : Int, 0 ≤ c → c < 256 → s.2.getD c.toNat false = decide (48 ≤ c ∧ c < 48 + k)) (fun e => ∃ as, e = .inl as ∧ ∀ c : Int, 0 ≤ c → c < 256 → as.getD c.toNat false = decide (48 ≤ c ∧ c < 58)) 10 ⟨rfl, fun c h0 h1 => by
    rw [List.getD_eq_getElem?_getD, List.getElem?_replicate, if_pos (by omega)]
    symm; simp⟩ ?_ ?_
  · obtain ⟨e, h1, as, rfl, h2⟩ := key
    exact ⟨as, ⟨_, h1, rfl⟩, h2⟩
  · rintro k ⟨i, xs⟩ hk ⟨h1, h2⟩
    simp only at h1 h2
    subst h1
    left
    have hx : idx (bints (bstr digS)) (k : Int) (48 + k) := by
      rw [hb]
      refine ⟨by omega, ?_⟩
      rw [Int.toNat_natCast]
      have : k = 0 ∨ k = 1 ∨ k = 2 ∨ k = 3 ∨ k = 4 ∨ k = 5 ∨ k = 6 ∨ k = 7 ∨ k = 8 ∨ k = 9 := by omega
      rcases this with rfl | rfl | rfl | rfl | rfl | rfl | rfl | rfl | rfl | rfl <;> rfl
    refine ⟨((k + 1 : Nat), putN 256 false xs (48 + (k : Int)).toNat true), ?_, rfl, ?_⟩
    · unfold strings_makeASCIISet_l2
      simp only
      rw [if_pos (by rw [hs, decide_eq_true_eq]; omega)]
      refine ⟨_, hx, ?_⟩
      rw [if_neg (by rw [decide_eq_true_eq]; omega)]
      refine ⟨by omega, by omega, ?_⟩
      rw [w_small (by omega) (by omega)]; rfl
    · intro c h0 h1
      rw [putN_getD (by omega), h2 c h0 h1]
      by_cases hc : c = 48 + (k : Int)
      · rw [if_pos (by omega)]; symm; rw [decide_eq_true_eq]; omega
      · rw [if_neg (by omega)]
        by_cases h : 48 ≤ c ∧ c < 48 + (k : Int)
        · rw [decide_eq_true h, decide_eq_true (by omega)]
        · rw [decide_eq_false h, decide_eq_false (by omega)]
  · rintro ⟨i, xs⟩ ⟨h1, h2⟩
    simp only at h1 h2
    subst h1
    refine ⟨.inl xs, ?_, xs, rfl, h2⟩
    unfold strings_makeASCIISet_l2
    rw [if_neg (by rw [hs, decide_eq_true_eq]; simp)]
theorem allDig_snoc {p : List Int} {c : Int} (hc : 48 ≤ c ∧ c < 58) : AllDig (p ++ [c]) ↔ AllDig p :=
  ⟨fun h x hx => h x (List.mem_append_left _ hx), fun h x hx => by
    rcases List.mem_append.1 hx with hx | hx
    · exact h x hx
    · rw [List.mem_singleton] at hx; subst hx; exact hc⟩
theorem allDig_cons {p : List Int} {c : Int} (hc : 48 ≤ c ∧ c < 58) : AllDig (c :: p) ↔ AllDig p :=
  ⟨fun h x hx => h x (List.mem_cons_of_mem _ hx), fun h x hx => by
    rcases List.mem_cons.1 hx with rfl | hx
    · exact hc
    · exact h x hx⟩
theorem trimR_ok {as : List Bool} (has : ∀ c : Int, 0 ≤ c → c < 256 → as.getD c.toNat false = decide (48 ≤ c ∧ c < 58)) : ∀ (n : Nat) (d : List Int), d.length ≤ n → n < 1000000000 → Oct d → ∃ m, Loops (strings_trimRightASCII_l2 as) (bstr d) (bstr m) ∧ Oct m ∧ m.length ≤ d.length ∧ (AllDig m ↔ AllDig d) ∧ (AllDig m → m = [])
  | n, d, hn, hb, ho => by
    have hsz : (bstr d).size = d.length := size_bstr _
    by_cases h0 : d = []
    · subst h0
      refine ⟨[], .done ?_, ho, by simp, Iff.rfl, fun _ => rfl⟩
      unfold strings_trimRightASCII_l2
      rw [if_neg (by simp [size_bstr])]
    · obtain ⟨p, c, rfl⟩ : ∃ p c, d = p ++ [c] := ⟨d.dropLast, d.getLast h0, (List.dropLast_concat_getLast h0).symm⟩
      have hc := ho c (by simp)
      have hl : (p ++ [c]).length = p.length + 1 := by simp
      have hw : IntKind.i64.wrap (((bstr (p ++ [c])).size : Int) - 1) = (p.length : Int) := by rw [hsz, hl, w_small (by omega) (by omega)]; omega
      have hx : idx (bints (bstr (p ++ [c]))) (p.length : Int) c := by rw [bb_of ho]; exact idx_at rfl (by simp)
      by_cases hd : 48 ≤ c ∧ c < 58
      · match n, hn with
        | 0, hn => omega
        | n + 1, hn =>
          obtain ⟨m, h1, h2, h3, h4, h5⟩ := trimR_ok has n p (by omega) (by omega) (fun x hx => ho x (List.mem_append_left _ hx))
          refine ⟨m, .next ?_ h1, h2, by omega, h4.trans (allDig_snoc hd).symm, h5⟩
          unfold strings_trimRightASCII_l2
          rw [if_pos (by rw [hsz, decide_eq_true_eq]; omega), hw]
          refine ⟨c, hx, true, ⟨hc.1, hc.2, by rw [has c hc.1 hc.2, decide_eq_true hd]⟩, ?_⟩
          rw [if_neg (by decide)]
          refine ⟨by omega, by omega, ?_⟩
          rw [ext_bstr, Int.toNat_natCast, List.take_left' rfl, List.drop_zero]
      · refine ⟨p ++ [c], .done ?_, ho, by omega, Iff.rfl, fun h => absurd (h c (by simp)) hd⟩
        unfold strings_trimRightASCII_l2
        rw [if_pos (by rw [hsz, decide_eq_true_eq]; omega), hw]
        refine ⟨c, hx, false, ⟨hc.1, hc.2, by rw [has c hc.1 hc.2, decide_eq_false hd]⟩, ?_⟩
        rw [if_pos (by decide)]
theorem trimL_ok {as : List Bool} (has : ∀ c : Int, 0 ≤ c → c < 256 → as.getD c.toNat false = decide (48 ≤ c ∧ c < 58)) : ∀ (d : List Int), d.length < 1000000000 → Oct d → ∃ m, Loops (strings_trimLeftASCII_l2 as) (bstr d) (bstr m) ∧ (AllDig m ↔ AllDig d) ∧ (AllDig m → m = [])
  | [], hb, ho => by
    refine ⟨[], .done ?_, Iff.rfl, fun _ => rfl⟩
    unfold strings_trimLeftASCII_l2
    rw [if_neg (by simp [size_bstr])]
  | c :: p, hb, ho => by
    have hsz : (bstr (c :: p)).size = p.length + 1 := size_bstr _
    have hc := ho c (by simp)
    have hx : idx (bints (bstr (c :: p))) 0 c := by rw [bb_of ho]; exact idx_at (k := 0) rfl (by simp)
    by_cases hd : 48 ≤ c ∧ c < 58
    · obtain ⟨m, h1, h2, h3⟩ := trimL_ok has p (by simp only [List.length_cons] at hb; omega) (fun x hx => ho x (List.mem_cons_of_mem _ hx))
      refine ⟨m, .next ?_ h1, h2.trans (allDig_cons hd).symm, h3⟩
      unfold strings_trimLeftASCII_l2
      rw [if_pos (by rw [hsz, decide_eq_true_eq]; omega)]
      refine ⟨c, hx, true, ⟨hc.1, hc.2, by rw [has c hc.1 hc.2, decide_eq_true hd]⟩, ?_⟩
      rw [if_neg (by decide)]
      refine ⟨by omega, ?_⟩
      rw [ext_bstr, hsz]
      congr 2
      rw [List.take_of_length_le (by simp)]; rfl
    · refine ⟨c :: p, .done ?_, Iff.rfl, fun h => absurd (h c (by simp)) hd⟩
      unfold strings_trimLeftASCII_l2
      rw [if_pos (by rw [hsz, decide_eq_true_eq]; omega)]
      refine ⟨c, hx, false, ⟨hc.1, hc.2, by rw [has c hc.1 hc.2, decide_eq_false hd]⟩, ?_⟩
      rw [if_pos (by decide)]
theorem bs_ne {l m : List Int} (h : l.length ≠ m.length) : ¬ bstr l = bstr m := fun e => h (by rw [← size_bstr l, e, size_bstr])
theorem bs_nil {l : List Int} : decide (bstr l = bstr []) = decide (l = []) := by
  by_cases h : l = []
  · subst h; simp
  · rw [decide_eq_false h, decide_eq_false (bs_ne (by simpa using h))]
theorem trim_ok {d : List Int} (hl : d.length < 1000000000) (ho : Oct d) : ∃ m, strings_Trim (bstr d) (bstr digS) (bstr m) ∧ (m = [] ↔ AllDig d) := by
  by_cases h0 : d = []
  · subst h0
    refine ⟨[], ?_, ⟨fun _ x hx => by simp at hx, fun _ => rfl⟩⟩
    unfold strings_Trim strings_Trim_j1
    rw [if_pos (by simp), if_pos rfl]
  · obtain ⟨as, ha, has⟩ := ascii_ok
    obtain ⟨m, h1, h2, h3, h4, h5⟩ := trimR_ok has d.length d (Nat.le_refl _) hl ho
    obtain ⟨m2, g1, g2, g3⟩ := trimL_ok has m (by omega) h2
    refine ⟨m2, ?_, ⟨fun e => h4.1 (g2.1 (by subst e; intro x hx; simp at hx)), fun h => g3 (g2.2 (h4.2 h))⟩⟩
    unfold strings_Trim strings_Trim_j1
    rw [if_neg (by rw [bs_nil]; simpa using h0), bs_nil, if_neg (by decide), if_neg (by rw [size_bstr]; decide)]
    unfold strings_Trim_j2
    rw [if_neg (by decide)]
    refine ⟨(as, true), ha, ?_⟩
    rw [if_pos rfl]
    exact ⟨_, ⟨_, h1, rfl⟩, _, ⟨_, g1, rfl⟩, rfl⟩
theorem trimPre_ok {l : List Int} (hl : l.length < 1000000000) (ho : Oct l) : strings_TrimPrefix (bstr l) (bstr [45]) (bstr (if l.head? = some 45 then l.tail else l)) := by
  have hsz : (bstr l).size = l.length := size_bstr _
  have h1 : (bstr [45]).size = 1 := by rw [size_bstr]; rfl
  refine ⟨_, ⟨decide (l.head? = some 45), ?_, ?_⟩, rfl⟩
  · unfold internal_stringslite_HasPrefix
    cases l with
    | nil => rw [if_neg (by rw [h1, hsz]; simp)]; rfl
    | cons c t =>
      rw [if_pos (by rw [h1, hsz, List.length_cons, decide_eq_true_eq]; omega)]
      refine ⟨by omega, by rw [h1, hsz, List.length_cons]; omega, ?_⟩
      show _ = _
      rw [h1, ext_bstr, List.drop_zero, show ((1 : Nat) : Int).toNat = 1 from rfl, List.take_succ_cons, List.take_zero]
      by_cases hc : c = 45
      · subst hc; simp
      · rw [decide_eq_false (by simpa using hc), decide_eq_false]
        intro e
        have := bs_inj (a := [c]) (b := [45]) (fun x hx => by rw [List.mem_singleton] at hx; subst hx; exact ho x (by simp)) (fun x hx => by rw [List.mem_singleton] at hx; subst hx; decide) e
        simp at this; exact hc this
  · by_cases h : l.head? = some 45
    · rw [decide_eq_true h, if_pos rfl, if_pos h]
      obtain ⟨t, rfl⟩ : ∃ t, l = 45 :: t := by cases l with | nil => simp at h | cons x l => simp at h; exact ⟨l, by rw [h]⟩
      refine ⟨by omega, by rw [h1, hsz]; simp; omega, ?_⟩
      rw [h1, hsz, ext_bstr, List.take_of_length_le (Nat.le_refl _)]; rfl
    · rw [decide_eq_false h, if_neg (by decide), if_neg h]
theorem sread_ok {l : List Int} (hl : l.length < 1000000000) (ho : Oct l) : say_Read (bstr l) (rdB l) := by
  have hpre := trimPre_ok hl ho
  have hd : (if l.head? = some 45 then l.tail else l).length ≤ l.length ∧ Oct (if l.head? = some 45 then l.tail else l) := by
    split
    · exact ⟨by simp, fun x hx => ho x (List.mem_of_mem_tail hx)⟩
    · exact ⟨Nat.le_refl _, ho⟩
  have hpi := @pi64_rd l
  unfold rdB at hpi ⊢
  simp only at hpi ⊢
  generalize hdd : (if l.head? = some 45 then l.tail else l) = d at hpre hd hpi ⊢
  refine ⟨pi64 (bints (bstr l)), ⟨rfl, rfl, by rw [size_bstr]; omega, rfl⟩, _, hpre, ?_⟩
  rw [bb_of ho, bs_nil]
  by_cases h0 : d = []
  · rw [if_pos (by simpa using h0), if_pos (.inl h0)]
    unfold say_Read_j1
    rw [if_pos rfl]
  rw [if_neg (by simpa using h0)]
  obtain ⟨m, hm, hma⟩ := trim_ok (d := d) (by omega) hd.2
  refine ⟨_, hm, ?_⟩
  rw [bs_nil]
  by_cases hall : AllDig d
  · rw [if_neg (by simp [hma.2 hall])]
    obtain ⟨c, t, rfl⟩ : ∃ c t, d = c :: t := by cases d with | nil => exact absurd rfl h0 | cons c t => exact ⟨_, _, rfl⟩
    refine ⟨c, by rw [bb_of hd.2]; exact idx_at (k := 0) rfl (by simp), ?_⟩
    have fin : ¬ (c :: t = [] ∨ ((c :: t).head? = some 48 ∧ l ≠ [48]) ∨ ¬ AllDig (c :: t)) → say_Read_j1 (pi64 l) false (if (c :: t) = [] ∨ ((c :: t).head? = some 48 ∧ l ≠ [48]) ∨ ¬ AllDig (c :: t) then ((0 : Int), (3 : Int)) else if l.head? = some 45 then (if dval 0 (c :: t) ≤ 9223372036854775808 then (-(dval 0 (c :: t) : Int), 0) else (0, 5)) else (if dval 0 (c :: t) ≤ 9223372036854775807 then ((dval 0 (c :: t) : Int), 0) else (0, 5))) := by
      intro hn
      have := hpi (by
        rw [if_neg hn]
        repeat' split
        all_goals simp)
      unfold say_Read_j1
      rw [if_neg (by decide)]
      rcases this with ⟨h1, h2⟩ | ⟨h1, h2⟩
      · rw [h1, if_neg (by decide), h2]
      · rw [h1, if_pos rfl, h2]
    by_cases hc : c = 48
    · subst hc
      rw [if_pos (by simp)]
      by_cases h48 : l = [48]
      · rw [decide_eq_true (by rw [h48])]
        exact fin (fun h => by rcases h with h | h | h; · simp at h
                               · exact h.2 h48
                               · exact h hall)
      · rw [decide_eq_false (fun e => h48 (bs_inj ho (fun x hx => by rw [List.mem_singleton] at hx; subst hx; decide) e)), if_pos (.inr (.inl ⟨rfl, h48⟩))]
        unfold say_Read_j1
        rw [if_pos (by decide)]
    · rw [if_neg (by simpa using hc)]
      exact fin (fun h => by rcases h with h | h | h; · simp at h
                             · simp at h; exact hc h.1
                             · exact h hall)
  · rw [if_pos (by simpa using fun e => hall (hma.1 e)), if_pos (.inr (.inr hall))]
    unfold say_Read_j1
    rw [if_pos rfl]
/-! ### The document's -/
/-! ### Words -/
def wrdsP (a : Nat) : List (List Int) → List (Int × ByteArray)
  | [] => []
  | w :: ws => ((a : Int), bstr w) :: wrdsP (a + w.length + 1) ws
theorem words_run {S : Type} {Y : Int × ByteArray → S → Bool × S → Prop} {s' : S} : ∀ (ws : List (List Int)) (a : Nat) (s : S), a + (ws.map List.length).sum + ws.length < 1000000000 → Run Y (wrdsP a ws) s s' →
    ∃ t, RunB (say_Words_1_l1 S Y) (ws.map bstr) (s, (a : Int)) t ∧ ((∃ n, t = .inl (s', n)) ∨ ∃ n, t = .inr (s', n))
  | [], a, s, h, hr => by cases hr; exact ⟨_, .nil, .inl ⟨_, rfl⟩⟩
  | w :: ws, a, s, h, hr => by
    simp only [List.map_cons, List.sum_cons, List.length_cons] at h
    have hw : IntKind.i64.wrap ((a : Int) + IntKind.i64.wrap (((bstr w).size : Int) + 1)) = ((a + w.length + 1 : Nat) : Int) := by
      rw [size_bstr, w_small (n := (w.length : Int) + 1) (by omega) (by omega), w_small (by omega) (by omega)]; omega
    rw [wrdsP] at hr
    cases hr with
    | go h1 h2 =>
      obtain ⟨t, h3, h4⟩ := words_run ws (a + w.length + 1) _ (by omega) h2
      refine ⟨t, .go ?_ h3, h4⟩
      refine ⟨true, _, h1, ?_⟩
      rw [if_neg (by decide), hw]
    | stop h1 =>
      refine ⟨.inr (s', (a : Int)), .stop ⟨false, _, h1, by rw [if_pos (by decide)]⟩, .inr ⟨_, rfl⟩⟩
theorem splitL_tot {c : Int} : ∀ l : List Int, ((splitL c l).map List.length).sum + (splitL c l).length = l.length + 1
  | [] => by simp [splitL]
  | x :: l => by
    have ih := @splitL_tot c l
    have hne := splitL_ne c l
    rw [splitL]
    split
    · simp only [List.map_cons, List.sum_cons, List.length_cons, List.length_nil]; omega
    · cases hq : splitL c l with
      | nil => exact absurd hq hne
      | cons p ps => rw [hq] at ih; simp only [glue, List.map_cons, List.sum_cons, List.length_cons, List.length_append, List.length_nil] at ih ⊢; omega
theorem words_itr {l : List Int} (hl : l.length < 100000000) (ho : Oct l) : Itr (say_Words_1 (bstr l)) (wrdsP 0 (splitL 32 l)) := by
  intro S Y s s' h
  have htot := @splitL_tot 32 l
  obtain ⟨t, h1, h2⟩ := words_run (splitL 32 l) 0 s (by omega) h
  obtain ⟨rest, h3⟩ := split_itr (c := 32) (by decide) (by omega) ho (run_yof h1)
  refine ⟨_, splitSeq_ok l 32, t, rest, h3, ?_⟩
  rcases h2 with ⟨n, rfl⟩ | ⟨n, rfl⟩ <;> rfl
theorem words_ok (s : ByteArray) : say_Words s (say_Words_1 s) := rfl
end Go.Rel
/-! Plain laws: texts cut at a byte, and joined. -/
namespace Go.Rel
open Go Go.Eng Go.Pl
theorem spl_join {c : Int} : ∀ {l w0 : List Int} {ws : List (List Int)}, splitL c l = w0 :: ws → l = w0 ++ ws.flatMap (fun w => c :: w)
  | [], w0, ws, h => by simp [splitL] at h; obtain ⟨rfl, rfl⟩ := h; rfl
  | x :: l, w0, ws, h => by
    unfold splitL at h
    cases hq : splitL c l with
    | nil => exact absurd hq (splitL_ne _ _)
    | cons p ps =>
      have ih := spl_join hq
      rw [hq] at h
      split at h
      · rename_i hx
        cases h
        rw [List.flatMap_cons, List.nil_append, List.cons_append, ← ih, hx]
      · simp only [glue, List.cons.injEq] at h
        obtain ⟨rfl, rfl⟩ := h
        simp only [List.cons_append, List.nil_append, ← ih]
theorem spl_words {c : Int} : ∀ {ws : List (List Int)} {w0 : List Int}, c ∉ w0 → (∀ w ∈ ws, c ∉ w) → splitL c (w0 ++ ws.flatMap (fun w => c :: w)) = w0 :: ws
  | [], w0, h, _ => by rw [List.flatMap_nil, List.append_nil, splitL_no h]
  | w :: ws, w0, h, hs => by
    rw [List.flatMap_cons, List.cons_append, splitL_at h, spl_words (hs w List.mem_cons_self) (fun v hv => hs v (List.mem_cons_of_mem _ hv))]
theorem spl_sub {c : Int} : ∀ {l : List Int}, ∀ w ∈ splitL c l, w.length ≤ l.length ∧ (∀ x ∈ w, x ∈ l)
  | [], w, h => by simp [splitL] at h; subst h; simp
  | x :: l, w, h => by
    unfold splitL at h
    split at h
    · rcases List.mem_cons.1 h with rfl | h
      · simp
      · have := spl_sub (l := l) w h
        exact ⟨by simp; omega, fun y hy => List.mem_cons_of_mem _ (this.2 y hy)⟩
    · have hs := @spl_sub c l
      cases hq : splitL c l with
      | nil => rw [hq] at h; simp [glue] at h; subst h; simp
      | cons p ps =>
        rw [hq] at h hs
        simp only [glue, List.mem_cons] at h
        rcases h with rfl | h
        · have := hs p List.mem_cons_self
          refine ⟨by simp; omega, fun y hy => ?_⟩
          simp only [List.cons_append, List.nil_append, List.mem_cons] at hy
          rcases hy with rfl | hy
          · exact List.mem_cons_self
          · exact List.mem_cons_of_mem _ (this.2 y hy)
        · have := hs w (List.mem_cons_of_mem _ h)
          exact ⟨by simp; omega, fun y hy => List.mem_cons_of_mem _ (this.2 y hy)⟩
theorem spl_len (c : Int) : ∀ l : List Int, (splitL c l).length ≤ l.length + 1
  | [] => by simp [splitL]
  | x :: l => by
    have := spl_len c l
    unfold splitL
    split
    · simp; omega
    · cases hq : splitL c l with
      | nil => simp [glue]
      | cons p ps => rw [hq] at this; simp [glue] at this ⊢; omega
theorem spl_no (c : Int) : ∀ (l : List Int), ∀ w ∈ splitL c l, c ∉ w
  | [], w, h => by simp [splitL] at h; subst h; simp
  | x :: l, w, h => by
    have ih := spl_no c l
    unfold splitL at h
    split at h
    · rcases List.mem_cons.1 h with rfl | h
      · simp
      · exact ih w h
    · rename_i hx
      cases hq : splitL c l with
      | nil => rw [hq] at h; simp [glue] at h; subst h; simpa using fun e => hx e.symm
      | cons p ps =>
        rw [hq] at h ih
        simp only [glue, List.mem_cons] at h
        rcases h with rfl | h
        · have := ih p List.mem_cons_self
          simp only [List.cons_append, List.nil_append, List.mem_cons, not_or]
          exact ⟨fun e => hx e.symm, this⟩
        · exact ih w (List.mem_cons_of_mem _ h)
end Go.Rel
/-! Plain laws: events: their lines, which are the same, the words of errors. -/
namespace Go.Rel
open Go Go.Eng Go.Pl
abbrev Ev := Int × Int × Int × Int × Mg
structure EvOk (e : Ev) : Prop where
  kind : IntOk .i64 e.1
  seq : IntOk .u32 e.2.1
  ver : IntOk .i64 e.2.2.1
  err : IntOk .i64 e.2.2.2.1
  msg : MgOk e.2.2.2.2
theorem sameB_refl (m : Mg) : sameB m m = true := by simp [sameB]
structure MgIn (m : Mg) : Prop where
  kind : IntOk .i64 m.1
  six : m.2.1.length = 6
  num : ∀ x ∈ m.2.1, IntOk .i64 x
  path : ∀ p ∈ m.2.2.1, IntOk .i64 p.1 ∧ IntOk .i64 p.2
  cells : ∀ x ∈ m.2.2.2.1, IntOk .i64 x
theorem ext_size (s : ByteArray) (n : Nat) : (s.extract 0 n).size ≤ n := by rw [ByteArray.size_extract]; omega
theorem cut_in {m : Mg} (h : MgIn m) : MgOk (cutM m) := ⟨h.kind, h.six, h.num, fun p hp => h.path p (List.mem_of_mem_take hp), fun x hx => h.cells x (List.mem_of_mem_take hx), by simp only [cutM, List.length_take]; omega, by simp only [cutM, List.length_take]; omega, by have := ext_size m.2.2.2.2.1 80; simp only [cutM]; omega, by have := ext_size m.2.2.2.2.2 80; simp only [cutM]; omega⟩
structure EvIn (e : Ev) : Prop where
  kind : IntOk .i64 e.1
  seq : IntOk .u32 e.2.1
  ver : IntOk .i64 e.2.2.1
  err : IntOk .i64 e.2.2.2.1
  msg : MgIn e.2.2.2.2
instance (k : IntKind) (n : Int) : Decidable (IntOk k n) := by unfold IntOk; infer_instance
def zM : Mg := (0, [0, 0, 0, 0, 0, 0], [], [], bstr [], bstr [])
theorem zM_ok : MgOk zM := ⟨by decide, rfl, by decide, by decide, by decide, by decide, by decide, by decide, by decide⟩
abbrev MgRaw (m : Mg) : Prop := IntOk .i64 m.1 ∧ (m.2.1.length = 6 ∧ ∀ x ∈ m.2.1, IntOk .i64 x) ∧ ListOk (fun p : Int × Int => IntOk .i64 p.1 ∧ IntOk .i64 p.2) m.2.2.1 ∧ ListOk (IntOk .i64) m.2.2.2.1 ∧ StrOk m.2.2.2.2.1 ∧ StrOk m.2.2.2.2.2
theorem mgIn {m : Mg} (h : MgRaw m) : MgIn m := ⟨h.1, h.2.1.1, h.2.1.2, h.2.2.1.1, h.2.2.2.1.1⟩
end Go.Rel
/-! Plain laws: a field's value is read. -/
namespace Go.Rel
open Go Go.Eng Go.Pl
/-! ### Numbers between commas -/
def numsR : List (List Int) → List Int → List Int × Int
  | [], acc => (acc, 0)
  | w :: ws, acc => if (rdB w).2 = 0 then numsR ws (acc ++ [(rdB w).1]) else ([], (rdB w).2)
theorem scells_walk : ∀ (ws : List (List Int)) (acc : List Int), (∀ w ∈ ws, w.length < 1000000 ∧ Oct w) → acc.length + ws.length < 1000000 → ∃ t, RunB say_cells_l1 (ws.map bstr) acc t ∧ (((numsR ws acc).2 = 0 ∧ t = .inl (numsR ws acc).1) ∨ (¬ (numsR ws acc).2 = 0 ∧ ∃ x, t = .inr ((numsR ws acc).2, x) ∧ (numsR ws acc).1 = []))
  | [], acc, _, _ => ⟨_, .nil, .inl ⟨rfl, rfl⟩⟩
  | w :: ws, acc, hP, hl => by
    simp only [List.length_cons] at hl
    obtain ⟨h1, h2⟩ := hP w (by simp)
    unfold numsR
    by_cases hr : (rdB w).2 = 0
    · rw [if_pos hr]
      obtain ⟨t, g1, g2⟩ := scells_walk ws (acc ++ [(rdB w).1]) (fun x hx => hP x (List.mem_cons_of_mem _ hx)) (by simp; omega)
      refine ⟨t, .go ⟨_, sread_ok (by omega) h2, ?_⟩ g1, g2⟩
      rw [if_neg (by simp [hr])]
      simp only [List.length_singleton]
      exact ⟨by omega, by omega, trivial⟩
    · rw [if_neg hr]
      refine ⟨_, .stop ⟨_, sread_ok (by omega) h2, by rw [if_pos (by simpa using hr)]⟩, .inr ⟨hr, _, rfl, rfl⟩⟩
theorem part_ok {c : Int} {w : List Int} (hl : w.length < 100000) (ho : Oct w) : ∀ x ∈ splitL c w, x.length < 1000000 ∧ Oct x := fun x hx => by
  have := spl_sub (c := c) x hx
  exact ⟨by omega, fun y hy => ho y (this.2 y hy)⟩
theorem scells_ok {w : List Int} (hl : w.length < 100000) (ho : Oct w) : say_cells (bstr w) (numsR (splitL 44 w) []) := by
  have hlen := spl_len 44 w
  obtain ⟨t, h1, h2⟩ := scells_walk (splitL 44 w) [] (part_ok hl ho) (by simp; omega)
  obtain ⟨rest, h3⟩ := split_itr (c := 44) (by decide) (by omega) ho (run_yof h1)
  refine ⟨_, splitSeq_ok w 44, t, rest, h3, ?_⟩
  rcases h2 with ⟨g1, rfl⟩ | ⟨g1, x, rfl, g2⟩
  · show _ = _; rw [← g1]
  · exact Prod.ext g2 rfl
/-! ### Points -/
def ptP (w : List Int) : (Int × Int) × Int := match splitL 44 w with
  | [a, b] => if (rdB a).2 = 0 then (if (rdB b).2 = 0 then (((rdB a).1, (rdB b).1), 0) else ((0, 0), (rdB b).2)) else ((0, 0), (rdB a).2)
  | _ => ((0, 0), 3)
def ptsR : List (List Int) → List (Int × Int) → List (Int × Int) × Int
  | [], acc => (acc, 0)
  | w :: ws, acc => if (ptP w).2 = 0 then ptsR ws (acc ++ [(ptP w).1]) else ([], (ptP w).2)
theorem ptP_two {w a b : List Int} (h : splitL 44 w = [a, b]) : ptP w = if (rdB a).2 = 0 then (if (rdB b).2 = 0 then (((rdB a).1, (rdB b).1), 0) else ((0, 0), (rdB b).2)) else ((0, 0), (rdB a).2) := by unfold ptP; rw [h]
theorem ptP_not {w : List Int} (h : (splitL 44 w).length ≠ 2) : ptP w = ((0, 0), 3) := by
  unfold ptP
  split
  · rename_i a b hq; rw [hq] at h; exact absurd rfl h
  · rfl
theorem spt_ok {w : List Int} (hl : w.length < 1000000) (ho : Oct w) {s : List (Int × Int)} (hs : s.length < 1000000) : say_points_l1 (bstr w) s (if (ptP w).2 = 0 then .inl (s ++ [(ptP w).1]) else .inr ((ptP w).2, s)) := by
  rcases first_at 44 w with h | ⟨p, q, rfl, h⟩
  · rw [ptP_not (by rw [splitL_no h]; simp)]
    refine ⟨_, scut_no (by decide) ho h, ?_⟩
    rw [if_pos (by simp), if_neg (by decide)]
    unfold say_points_j2
    rw [if_pos rfl]
  · have ho2 := oct_ap2 ho
    have hoq := oct_tl2 ho2.2
    simp only [List.length_append, List.length_cons] at hl
    refine ⟨_, scut_at (by decide) (by simp; omega) ho h, ?_⟩
    rw [if_neg (by simp)]
    have hsp := splitL_at (q := q) h
    by_cases hq : 44 ∈ q
    · obtain ⟨p2, q2, rfl, h2⟩ := (first_at 44 q).resolve_left (fun h => h hq)
      refine ⟨true, ⟨(p2.length : Int), ⟨44, one_bints (by decide), by rw [bb_of hoq, place_at h2]⟩, by simp⟩, ?_⟩
      rw [ptP_not (by
        rw [hsp, splitL_at h2]
        have := List.length_pos_iff.2 (splitL_ne 44 q2)
        simp only [List.length_cons]; omega), if_neg (by decide)]
      unfold say_points_j2
      rw [if_pos rfl]
    · refine ⟨false, ⟨-1, ⟨44, one_bints (by decide), by rw [bb_of hoq, place_no hq]⟩, by simp⟩, ?_⟩
      rw [ptP_two (by rw [hsp, splitL_no hq])]
      unfold say_points_j2
      rw [if_neg (by decide)]
      refine ⟨_, sread_ok (by omega) ho2.1, ?_⟩
      by_cases h1 : (rdB p).2 = 0
      · rw [if_neg (by simpa using h1), if_pos h1]
        refine ⟨_, sread_ok (by omega) hoq, ?_⟩
        by_cases h2 : (rdB q).2 = 0
        · rw [if_neg (by simpa using h2), if_pos h2, if_pos rfl]
          simp only [List.length_singleton]
          exact ⟨by omega, by omega, trivial⟩
        · rw [if_pos (by simpa using h2), if_neg h2, if_neg h2]
      · rw [if_pos (by simpa using h1), if_neg h1, if_neg h1]
theorem spoints_walk : ∀ (ws : List (List Int)) (acc : List (Int × Int)), (∀ w ∈ ws, w.length < 1000000 ∧ Oct w) → acc.length + ws.length < 1000000 → ∃ t, RunB say_points_l1 (ws.map bstr) acc t ∧ (((ptsR ws acc).2 = 0 ∧ t = .inl (ptsR ws acc).1) ∨ (¬ (ptsR ws acc).2 = 0 ∧ ∃ x, t = .inr ((ptsR ws acc).2, x) ∧ (ptsR ws acc).1 = []))
  | [], acc, _, _ => ⟨_, .nil, .inl ⟨rfl, rfl⟩⟩
  | w :: ws, acc, hP, hl => by
    simp only [List.length_cons] at hl
    obtain ⟨h1, h2⟩ := hP w (by simp)
    have hp := spt_ok (s := acc) h1 h2 (by omega)
    unfold ptsR
    by_cases hr : (ptP w).2 = 0
    · rw [if_pos hr] at hp ⊢
      obtain ⟨t, g1, g2⟩ := spoints_walk ws (acc ++ [(ptP w).1]) (fun x hx => hP x (List.mem_cons_of_mem _ hx)) (by simp; omega)
      exact ⟨t, .go hp g1, g2⟩
    · rw [if_neg hr] at hp ⊢
      exact ⟨_, .stop hp, .inr ⟨hr, _, rfl, rfl⟩⟩
theorem spoints_ok {w : List Int} (hl : w.length < 100000) (ho : Oct w) : say_points (bstr w) (ptsR (splitL 59 w) []) := by
  have hlen := spl_len 59 w
  obtain ⟨t, h1, h2⟩ := spoints_walk (splitL 59 w) [] (part_ok hl ho) (by simp; omega)
  obtain ⟨rest, h3⟩ := split_itr (c := 59) (by decide) (by omega) ho (run_yof h1)
  refine ⟨_, splitSeq_ok w 59, t, rest, h3, ?_⟩
  rcases h2 with ⟨g1, rfl⟩ | ⟨g1, x, rfl, g2⟩
  · show _ = _; rw [← g1]
  · exact Prod.ext g2 rfl
/-! ### Bytes -/
theorem shl4_or2 {x y : Int} (hx : 0 ≤ x ∧ x < 16) (hy : 0 ≤ y ∧ y < 16) : IntKind.u8.wrap (ior .i64 (ishl .i64 x 4) y) = 16 * x + y := by
  obtain ⟨a, rfl⟩ := Int.eq_ofNat_of_zero_le hx.1
  obtain ⟨b, rfl⟩ := Int.eq_ofNat_of_zero_le hy.1
  have ha : a < 16 := by omega
  have hb : b < 16 := by omega
  have key : ∀ a : Nat, a < 16 → ∀ b : Nat, b < 16 → IntKind.u8.wrap (ior .i64 (ishl .i64 (a : Int) 4) (b : Int)) = 16 * (a : Int) + (b : Int) := by decide
  exact key a ha b hb
theorem hv_neg2 {c : Int} : decide ((hv c).getD (-1) < 0) = (hv c).isNone := by
  cases hq : hv c with
  | none => rfl
  | some n => have := hv_some hq; simp; omega
theorem sunhex_run {w : List Int} (ho : Oct w) (hl : w.length < 1000000) : ∀ (n : Nat) (l pre out : List Int), l.length ≤ n → w = pre ++ l → l.length % 2 = 0 → out.length + l.length ≤ w.length →
    Loops (say_unhex_l3 (bstr w)) (out, (pre.length : Int)) (match unhexL l with
      | none => .inr (bstr [], 3)
      | some r => .inl (out ++ r))
  | n, [], pre, out, hn, hw, he, ho2 => by
    refine .done ?_
    unfold say_unhex_l3
    rw [if_neg (by rw [size_bstr, hw]; simp)]
    simp [unhexL]
  | n, [x], pre, out, hn, hw, he, ho2 => by simp at he
  | 0, a :: b :: l, pre, out, hn, hw, he, ho2 => by simp at hn
  | n + 1, a :: b :: l, pre, out, hn, hw, he, ho2 => by
    simp only [List.length_cons] at hn he ho2
    have hlen : w.length = pre.length + l.length + 2 := by rw [hw]; simp; omega
    have ha := ho a (by rw [hw]; simp)
    have hb := ho b (by rw [hw]; simp)
    have i1 : idx (bints (bstr w)) (pre.length : Int) a := by rw [bb_of ho, hw]; exact idx_at rfl (by simp)
    have i2 : idx (bints (bstr w)) (IntKind.i64.wrap ((pre.length : Int) + 1)) b := by
      rw [bb_of ho, w_small (by omega) (by omega)]
      exact idx_at (k := pre.length + 1) (by omega) (by rw [hw, List.getElem?_append_right (by omega)]; simp)
    have stp : ∀ o, say_unhex_j4 (out, (pre.length : Int)) ((hv a).getD (-1)) ((hv b).getD (-1)) ((hv a).isNone || (hv b).isNone) o → say_unhex_l3 (bstr w) (out, (pre.length : Int)) o := by
      intro o h
      unfold say_unhex_l3
      rw [if_pos (by rw [size_bstr, decide_eq_true_eq]; omega)]
      refine ⟨a, i1, _, place_hv ha, b, i2, _, place_hv hb, ?_⟩
      rw [hv_neg2, hv_neg2]
      cases hqa : (hv a).isNone with
      | true => rw [hqa] at h; rw [if_pos rfl]; simpa using h
      | false => rw [hqa] at h; rw [if_neg (by decide)]; simpa using h
    have bad : ((hv a).isNone || (hv b).isNone) = true → say_unhex_l3 (bstr w) (out, (pre.length : Int)) (.inr (.inr (bstr [], 3))) := fun h => stp _ (by
      rw [h]; unfold say_unhex_j4; rw [if_pos rfl])
    unfold unhexL
    cases hqa : hv a with
    | none => exact .done (bad (by rw [hqa]; rfl))
    | some x =>
      cases hqb : hv b with
      | none => exact .done (bad (by rw [hqa, hqb]; rfl))
      | some y =>
        have hx := hv_some hqa
        have hy := hv_some hqb
        have go : say_unhex_l3 (bstr w) (out, (pre.length : Int)) (.inl (out ++ [16 * x + y], ((pre ++ [a, b]).length : Int))) := stp _ (by
          rw [hqa, hqb]
          unfold say_unhex_j4
          rw [if_neg (by simp)]
          simp only [Option.getD_some, List.length_singleton]
          rw [shl4_or2 ⟨hx.1, hx.2.1⟩ ⟨hy.1, hy.2.1⟩]
          refine ⟨by omega, by omega, ?_⟩
          rw [w_small (by omega) (by omega)]; simp)
        have ih := sunhex_run ho hl n l (pre ++ [a, b]) (out ++ [16 * x + y]) (by omega) (by rw [hw]; simp) (by omega) (by rw [List.length_append, List.length_singleton]; omega)
        refine .next go ?_
        cases hr : unhexL l with
        | none => rw [hr] at ih; exact ih
        | some r => rw [hr] at ih; simpa using ih
theorem sunhex_ok {w : List Int} (ho : Oct w) (hl : w.length < 1000000) : say_unhex (bstr w) (bstr (unhexR w).1, (unhexR w).2) := by
  have h45 : Oct [45] := fun x hx => by simp at hx; omega
  have h0 : Oct [] := fun x hx => nomatch hx
  unfold say_unhex unhexR
  by_cases e1 : w = [45]
  · rw [if_pos (by simp [e1]), if_pos e1]
  · rw [if_neg (bstr_ne ho h45 e1), if_neg e1]
    by_cases e2 : w = []
    · rw [if_pos (by simp [e2]), if_pos e2]
      unfold say_unhex_j1; rw [if_pos rfl]
    · rw [if_neg (bstr_ne ho h0 e2), if_neg e2]
      unfold say_unhex_j1
      have hm : ((bstr w).size : Int).tmod 2 = ((w.length % 2 : Nat) : Int) := by rw [size_bstr, Int.tmod_eq_emod_of_nonneg (by omega)]; rfl
      rw [hm]
      by_cases e3 : w.length % 2 = 1
      · rw [if_pos (by rw [decide_eq_false (by omega)]; rfl), unhexL_odd w.length w (Nat.le_refl _) e3]
      · rw [if_neg (by rw [decide_eq_true (by omega)]; decide)]
        have h1 := sunhex_run ho hl w.length w [] [] (Nat.le_refl _) rfl (by omega) (by simp)
        refine ⟨_, h1, ?_⟩
        cases unhexL w with
        | none => rfl
        | some r => rfl
end Go.Rel
/-! Plain laws: the message of a line. -/
namespace Go.Rel
open Go Go.Eng Go.Pl
def readB (m : Mg) (f : Fd) (w : List Int) : Int × Mg :=
  if f.2.1 = 3 then ((ptsR (splitL 59 w) []).2, (m.1, n6 m.2.1, (ptsR (splitL 59 w) []).1, m.2.2.2.1, m.2.2.2.2.1, m.2.2.2.2.2))
  else if f.2.1 = 4 then ((numsR (splitL 44 w) []).2, (m.1, n6 m.2.1, m.2.2.1, (numsR (splitL 44 w) []).1, m.2.2.2.2.1, m.2.2.2.2.2))
  else if f.2.1 = 5 then ((unhexR w).2, (m.1, n6 m.2.1, m.2.2.1, m.2.2.2.1, bstr (unhexR w).1, m.2.2.2.2.2))
  else if f.2.1 = 6 then ((unhexR w).2, (m.1, n6 m.2.1, m.2.2.1, m.2.2.2.1, m.2.2.2.2.1, bstr (unhexR w).1))
  else ((rdB w).2, (m.1, n6 (putN 6 0 m.2.1 f.2.2.1.toNat (rdB w).1), m.2.2))
theorem fd_place {f : Fd} (h : fdOk f) (h3 : ¬ f.2.1 = 3) (h4 : ¬ f.2.1 = 4) (h5 : ¬ f.2.1 = 5) (h6 : ¬ f.2.1 = 6) : 0 ≤ f.2.2.1 ∧ f.2.2.1 < 6 := by
  obtain ⟨_, _, h⟩ := h
  omega
theorem sreadB_ok {m : Mg} {f : Fd} {w : List Int} (hf : fdOk f) (hl : w.length < 100000) (ho : Oct w) : say_read m f (bstr w) (readB m f w) := by
  unfold say_read readB say_read_j1
  by_cases h3 : f.2.1 = 3
  · rw [if_pos (by simpa using h3), if_pos h3]; exact ⟨_, spoints_ok hl ho, rfl⟩
  rw [if_neg (by simpa using h3), if_neg h3]
  by_cases h4 : f.2.1 = 4
  · rw [if_pos (by simpa using h4), if_pos h4]; exact ⟨_, scells_ok hl ho, rfl⟩
  rw [if_neg (by simpa using h4), if_neg h4]
  by_cases h5 : f.2.1 = 5
  · rw [if_pos (by simpa using h5), if_pos h5]; exact ⟨_, sunhex_ok ho (by omega), rfl⟩
  rw [if_neg (by simpa using h5), if_neg h5]
  by_cases h6 : f.2.1 = 6
  · rw [if_pos (by simpa using h6), if_pos h6]; exact ⟨_, sunhex_ok ho (by omega), rfl⟩
  rw [if_neg (by simpa using h6), if_neg h6]
  have := fd_place hf h3 h4 h5 h6
  exact ⟨_, sread_ok (by omega) ho, by omega, by omega, rfl⟩
/-! ### Field by field -/
def goF : List Fd → List (List Int) → Mg → Sum (List (List Int) × Mg) Int
  | [], ws, m => .inl (ws, m)
  | _ :: _, [], _ => .inr 13
  | f :: _, [n], _ => if n = bints f.1 then .inr 13 else .inr 3
  | f :: fs, n :: v :: ws, m => if n = bints f.1 then (if (readB m f v).1 = 0 then goF fs ws (readB m f v).2 else .inr (readB m f v).1) else .inr 3
theorem goF_ne {fs : List Fd} : ∀ {ws : List (List Int)} {m : Mg} {e : Int}, goF fs ws m = .inr e → e ≠ 0 := by
  induction fs with
  | nil => intro ws m e h; simp [goF] at h
  | cons f fs ih =>
    intro ws m e h
    match ws, h with
    | [], h => simp [goF] at h; omega
    | [n], h =>
      simp only [goF] at h
      split at h <;> · simp at h; omega
    | n :: v :: ws, h =>
      simp only [goF] at h
      split at h
      · split at h
        · exact ih h
        · rename_i hq; simp at h; rw [← h]; exact hq
      · simp at h; omega
abbrev StP := List ByteArray × Int × Int × Int × Int × Int × Int × Int × List (Int × Int) × List Int × ByteArray × ByteArray × Int
abbrev stP (ws : List ByteArray) (m : Mg) (e : Int) : StP := (ws, m.1, m.2.1.getD 0 0, m.2.1.getD 1 0, m.2.1.getD 2 0, m.2.1.getD 3 0, m.2.1.getD 4 0, m.2.1.getD 5 0, m.2.2.1, m.2.2.2.1, m.2.2.2.2.1, m.2.2.2.2.2, e)
theorem next_cons (w : ByteArray) (ws : List ByteArray) : say_Parse_1 (w :: ws) (w, true, ws) := by
  unfold say_Parse_1
  rw [if_neg (by simp; omega)]
  refine ⟨w, idx_at (k := 0) rfl rfl, by simp; omega, by omega, ?_⟩
  rw [show (1 : Int).toNat = 1 from rfl, List.drop_succ_cons, List.drop_zero, List.take_of_length_le (by simp)]
theorem next_nil : say_Parse_1 [] (bstr [], false, []) := by
  unfold say_Parse_1
  rw [if_pos (by simp)]
theorem six_readB {m : Mg} {f : Fd} {w : List Int} : (readB m f w).2.2.1.length = 6 := by
  unfold readB
  repeat' split
  all_goals rfl
theorem readB_six {m : Mg} (h : m.2.1.length = 6) : ((m.1, [m.2.1.getD 0 0, m.2.1.getD 1 0, m.2.1.getD 2 0, m.2.1.getD 3 0, m.2.1.getD 4 0, m.2.1.getD 5 0], m.2.2.1, m.2.2.2.1, m.2.2.2.2.1, m.2.2.2.2.2) : Mg) = m := by
  show (m.1, n6 m.2.1, m.2.2) = m
  rw [n6_eq h]
theorem name_eq {f : Fd} {n : List Int} (ho : Oct n) : decide (bstr n = f.1) = decide (n = bints f.1) := by
  by_cases h : n = bints f.1
  · rw [decide_eq_true h, decide_eq_true (by rw [h, bstr_bints])]
  · rw [decide_eq_false h, decide_eq_false (fun e => h (by rw [← e, bb_of ho]))]
theorem prog_run : ∀ (fs : List Fd) (ws : List (List Int)) (m : Mg), m.2.1.length = 6 → (∀ w ∈ ws, w.length < 100000 ∧ Oct w) → (∀ f ∈ fs, fdOk f) → ∃ t, RunB say_Parse_l4 fs (stP (ws.map bstr) m 0) t ∧ ((∃ ws' m', goF fs ws m = .inl (ws', m') ∧ t = .inl (stP (ws'.map bstr) m' 0) ∧ m'.2.1.length = 6) ∨ (∃ e ws' m', goF fs ws m = .inr e ∧ t = .inr (stP ws' m' e)))
  | [], ws, m, h6, _, _ => ⟨_, .nil, .inl ⟨ws, m, rfl, rfl, h6⟩⟩
  | f :: fs, [], m, h6, hw, hf => by
    refine ⟨_, .stop (e := stP [] m 13) ⟨_, next_nil, ?_⟩, .inr ⟨13, [], m, rfl, rfl⟩⟩
    rw [if_pos (by simp)]
  | f :: fs, [n], m, h6, hw, hf => by
    have ho := (hw n (by simp)).2
    unfold goF
    by_cases hn : n = bints f.1
    · rw [if_pos hn]
      refine ⟨_, .stop (e := stP [] m 13) ⟨_, next_cons _ _, ?_⟩, .inr ⟨13, [], m, rfl, rfl⟩⟩
      rw [if_neg (by simp), if_neg (by simp only; rw [name_eq ho, decide_eq_true hn]; decide)]
      refine ⟨_, next_nil, ?_⟩
      rw [if_pos (by simp)]
    · rw [if_neg hn]
      refine ⟨_, .stop (e := stP [] m 3) ⟨_, next_cons _ _, ?_⟩, .inr ⟨3, [], m, rfl, rfl⟩⟩
      rw [if_neg (by simp), if_pos (by simp only; rw [name_eq ho, decide_eq_false hn]; rfl)]; rfl
  | f :: fs, n :: v :: ws, m, h6, hw, hf => by
    have ho := (hw n (by simp)).2
    have hv := hw v (by simp)
    have hfd := hf f (by simp)
    unfold goF
    by_cases hn : n = bints f.1
    · rw [if_pos hn]
      have hr := sreadB_ok (m := m) (f := f) (w := v) hfd hv.1 hv.2
      by_cases he : (readB m f v).1 = 0
      · rw [if_pos he]
        obtain ⟨t, g1, g2⟩ := prog_run fs ws (readB m f v).2 six_readB (fun w hm => hw w (List.mem_cons_of_mem _ (List.mem_cons_of_mem _ hm))) (fun g hg => hf g (List.mem_cons_of_mem _ hg))
        refine ⟨t, .go (s1 := stP (ws.map bstr) (readB m f v).2 0) ⟨_, next_cons _ _, ?_⟩ g1, g2⟩
        rw [if_neg (by simp), if_neg (by simp only; rw [name_eq ho, decide_eq_true hn]; decide)]
        refine ⟨_, next_cons _ _, ?_⟩
        rw [if_neg (by simp)]
        refine ⟨_, by simp only; rw [readB_six h6]; exact hr, ?_⟩
        rw [if_neg (by simp [he]), he]
      · rw [if_neg he]
        refine ⟨_, .stop (e := stP (ws.map bstr) (readB m f v).2 (readB m f v).1) ⟨_, next_cons _ _, ?_⟩, .inr ⟨_, _, _, rfl, rfl⟩⟩
        rw [if_neg (by simp), if_neg (by simp only; rw [name_eq ho, decide_eq_true hn]; decide)]
        refine ⟨_, next_cons _ _, ?_⟩
        rw [if_neg (by simp)]
        refine ⟨_, by simp only; rw [readB_six h6]; exact hr, ?_⟩
        rw [if_pos (by simpa using he)]
    · rw [if_neg hn]
      refine ⟨_, .stop (e := stP ((v :: ws).map bstr) m 3) ⟨_, next_cons _ _, ?_⟩, .inr ⟨3, _, m, rfl, rfl⟩⟩
      rw [if_neg (by simp), if_pos (by simp only; rw [name_eq ho, decide_eq_false hn]; rfl)]
end Go.Rel
/-! Plain laws: the chapter's examples of lines. -/
namespace Go.Rel
open Go Go.Eng Go.Pl
end Go.Rel
/-! Plain laws: a message's line, parsed; to and fro. -/
namespace Go.Rel
open Go Go.Eng Go.Pl
theorem gatherS {B : Int × ByteArray → List ByteArray → Sum (List ByteArray) Unit → Prop} (hB : ∀ x s, s.length < 1000000000 → B x s (.inl (s ++ [x.2]))) : ∀ (ws : List (List Int)) (a : Nat) (s : List ByteArray), s.length + ws.length < 1000000000 → RunB B (wrdsP a ws) s (.inl (s ++ ws.map bstr))
  | [], a, s, _ => by rw [List.map_nil, List.append_nil]; exact .nil
  | w :: ws, a, s, h => by
    simp only [List.length_cons] at h
    have ih := gatherS hB ws (a + w.length + 1) (s ++ [bstr w]) (by simp; omega)
    rw [List.map_cons, show s ++ bstr w :: ws.map bstr = s ++ [bstr w] ++ ws.map bstr by simp]
    exact .go (hB _ _ (by omega)) ih
def kindW (w : List Int) : Int := if w = wordL 1 then 1 else if w = wordL 2 then 2 else if w = wordL 3 then 3 else if w = wordL 4 then 4 else if w = wordL 5 then 5 else 0
theorem oct_wordL (k : Int) : Oct (wordL k) := by unfold wordL; repeat' (first | decide | split)
theorem kinds_itr : Itr field_Kinds_1 [(1, bstr (wordL 1)), (2, bstr (wordL 2)), (3, bstr (wordL 3)), (4, bstr (wordL 4)), (5, bstr (wordL 5))] := by
  intro S Y s s' hr
  have key : ∀ (m : Nat) (k : Nat) (s : S), k + m = 6 → 1 ≤ k → Run Y ((List.range' k m).map fun k : Nat => ((k : Int), bstr (wordL (k : Int)))) s s' → Loops (field_Kinds_1_l1 S Y) (s, (k : Int)) (s', ()) := by
    intro m
    induction m with
    | zero =>
      intro k s hk _ hr
      cases hr
      refine .done ?_
      unfold field_Kinds_1_l1
      rw [if_neg (by rw [decide_eq_true_eq]; simp only; omega)]
    | succ m ih =>
      intro k s hk h1 hr
      rw [List.range'_succ, List.map_cons] at hr
      have stp : ∀ y u, Y ((k : Int), bstr (wordL (k : Int))) s (y, u) → field_Kinds_1_l1 S Y (s, (k : Int)) (if y = true then .inl (u, ((k + 1 : Nat) : Int)) else .inr (u, ())) := by
        intro y u hy
        unfold field_Kinds_1_l1
        simp only
        rw [if_pos (by rw [decide_eq_true_eq]; omega)]
        refine ⟨_, fword_ok _, y, u, hy, ?_⟩
        cases y with
        | true => rw [if_neg (by decide), if_pos rfl, w_small (by omega) (by omega)]; rfl
        | false => rw [if_pos (by decide), if_neg (by decide)]
      cases hr with
      | go a b => exact .next (stp true _ a) (ih (k + 1) _ (by omega) (by omega) b)
      | stop a => exact .done (stp false _ a)
  exact ⟨_, key 5 1 s rfl (by decide) hr, rfl⟩
theorem bs_dec {a b : List Int} (ha : Oct a) (hb : Oct b) : decide (bstr a = bstr b) = decide (b = a) := by
  by_cases h : b = a
  · rw [decide_eq_true h, h]; simp
  · rw [decide_eq_false h, decide_eq_false (fun e => h (bs_inj ha hb e).symm)]
theorem kind_ok {w : List Int} (ho : Oct w) : field_Kind (bstr w) (kindW w) := by
  have st : ∀ (k : Int), field_Kind_l1 (bstr w) (k, bstr (wordL k)) () (if w = wordL k then .inr k else .inl ()) := by
    intro k
    unfold field_Kind_l1
    simp only
    rw [bs_dec (oct_wordL k) ho]
    by_cases h : w = wordL k
    · rw [if_pos (by simpa using h), if_pos h]
    · rw [if_neg (by simpa using h), if_neg h]
  have go : ∀ k, ¬ w = wordL k → field_Kind_l1 (bstr w) (k, bstr (wordL k)) () (.inl ()) := fun k h => by have := st k; rwa [if_neg h] at this
  have no : ∀ k, w = wordL k → field_Kind_l1 (bstr w) (k, bstr (wordL k)) () (.inr k) := fun k h => by have := st k; rwa [if_pos h] at this
  have fin : ∀ t r, RunB (field_Kind_l1 (bstr w)) [(1, bstr (wordL 1)), (2, bstr (wordL 2)), (3, bstr (wordL 3)), (4, bstr (wordL 4)), (5, bstr (wordL 5))] () t → Aft (fun (_ : Unit) => r = 0) (fun p11 => r = p11) t → field_Kind (bstr w) r := fun t r h1 h2 => ⟨_, rfl, t, (), kinds_itr _ _ _ _ (run_yof h1), h2⟩
  unfold kindW
  by_cases h1 : w = wordL 1
  · rw [if_pos h1]; exact fin (.inr 1) 1 (.stop (no 1 h1)) rfl
  rw [if_neg h1]
  by_cases h2 : w = wordL 2
  · rw [if_pos h2]; exact fin (.inr 2) 2 (.go (go 1 h1) (.stop (no 2 h2))) rfl
  rw [if_neg h2]
  by_cases h3 : w = wordL 3
  · rw [if_pos h3]; exact fin (.inr 3) 3 (.go (go 1 h1) (.go (go 2 h2) (.stop (no 3 h3)))) rfl
  rw [if_neg h3]
  by_cases h4 : w = wordL 4
  · rw [if_pos h4]; exact fin (.inr 4) 4 (.go (go 1 h1) (.go (go 2 h2) (.go (go 3 h3) (.stop (no 4 h4))))) rfl
  rw [if_neg h4]
  by_cases h5 : w = wordL 5
  · rw [if_pos h5]; exact fin (.inr 5) 5 (.go (go 1 h1) (.go (go 2 h2) (.go (go 3 h3) (.go (go 4 h4) (.stop (no 5 h5)))))) rfl
  rw [if_neg h5]
  exact fin (.inl ()) 0 (.go (go 1 h1) (.go (go 2 h2) (.go (go 3 h3) (.go (go 4 h4) (.go (go 5 h5) .nil))))) rfl
def kM (k : Int) : Mg := (k, [0, 0, 0, 0, 0, 0], [], [], bstr [], bstr [])
def parseS (l : List Int) : Mg × Int := match splitL 32 l with
  | [] => (zM, 9)
  | w0 :: ws => if kindW w0 = 0 then (zM, 9) else match goF (fieldsB (kindW w0)) ws (kM (kindW w0)) with
    | .inr e => (zM, e)
    | .inl (ws', m) => if ws' ≠ [] then (zM, 6) else if checkB m = 0 then (m, 0) else (zM, checkB m)
/-! ### Bounds -/
theorem ptsR_len : ∀ (ws : List (List Int)) (acc : List (Int × Int)), (ptsR ws acc).1.length ≤ acc.length + ws.length
  | [], acc => by simp [ptsR]
  | w :: ws, acc => by
    unfold ptsR
    split
    · have := ptsR_len ws (acc ++ [(ptP w).1]); simp at this ⊢; omega
    · simp
theorem numsR_len : ∀ (ws : List (List Int)) (acc : List Int), (numsR ws acc).1.length ≤ acc.length + ws.length
  | [], acc => by simp [numsR]
  | w :: ws, acc => by
    unfold numsR
    split
    · have := numsR_len ws (acc ++ [(rdB w).1]); simp at this ⊢; omega
    · simp
theorem unhexL_len : ∀ {l r : List Int}, unhexL l = some r → 2 * r.length = l.length
  | [], r, h => by simp [unhexL] at h; subst h; rfl
  | [x], r, h => by simp [unhexL] at h
  | a :: b :: l, r, h => by
    simp only [unhexL] at h
    cases hqa : hv a with
    | none => rw [hqa] at h; simp at h
    | some x =>
      cases hqb : hv b with
      | none => rw [hqa, hqb] at h; simp at h
      | some y =>
        cases hr : unhexL l with
        | none => rw [hqa, hqb, hr] at h; simp at h
        | some r' =>
          rw [hqa, hqb, hr] at h
          simp only [Option.some.injEq] at h
          subst h
          have := unhexL_len hr
          simp only [List.length_cons]; omega
theorem unhexR_len (w : List Int) : (unhexR w).1.length ≤ w.length := by
  unfold unhexR
  split
  · simp
  · split
    · simp
    · cases h : unhexL w with
      | none => simp
      | some r => have := unhexL_len h; simp only; omega
structure Small (m : Mg) : Prop where
  p : m.2.2.1.length ≤ 200000
  c : m.2.2.2.1.length ≤ 200000
  t : m.2.2.2.2.1.size ≤ 200000
  g : m.2.2.2.2.2.size ≤ 200000
theorem readB_small {m : Mg} {f : Fd} {w : List Int} (h : Small m) (hl : w.length < 100000) : Small (readB m f w).2 := by
  have a1 := ptsR_len (splitL 59 w) []
  have a2 := numsR_len (splitL 44 w) []
  have a3 := unhexR_len w
  have b1 := spl_len 59 w
  have b2 := spl_len 44 w
  simp only [List.length_nil] at a1 a2
  unfold readB
  split
  · exact ⟨by simp only; omega, h.c, h.t, h.g⟩
  split
  · exact ⟨h.p, by simp only; omega, h.t, h.g⟩
  split
  · exact ⟨h.p, h.c, by simp only [size_bstr]; omega, h.g⟩
  split
  · exact ⟨h.p, h.c, h.t, by simp only [size_bstr]; omega⟩
  · exact ⟨h.p, h.c, h.t, h.g⟩
theorem goF_small {fs : List Fd} : ∀ {ws ws' : List (List Int)} {m m' : Mg}, Small m → (∀ w ∈ ws, w.length < 100000) → goF fs ws m = .inl (ws', m') → Small m' := by
  induction fs with
  | nil => intro ws ws' m m' h _ hg; simp [goF] at hg; rw [← hg.2]; exact h
  | cons f fs ih =>
    intro ws ws' m m' h hw hg
    match ws, hw, hg with
    | [], _, hg => simp [goF] at hg
    | [n], _, hg => simp only [goF] at hg; split at hg <;> simp at hg
    | n :: v :: ws, hw, hg =>
      simp only [goF] at hg
      split at hg
      · split at hg
        · exact ih (readB_small h (hw v (by simp))) (fun w hm => hw w (List.mem_cons_of_mem _ (List.mem_cons_of_mem _ hm))) hg
        · simp at hg
      · simp at hg
/-! ### Both parse alike -/
theorem sparse_ok {l : List Int} (hl : l.length < 100000) (ho : Oct l) : say_Parse (bstr l) (parseS l) := by
  have hlen := spl_len 32 l
  have hne := splitL_ne 32 l
  have hg := gatherS (B := say_Parse_l1) (fun x s hs => by
    unfold say_Parse_l1
    simp only [List.length_singleton]
    exact ⟨by omega, by omega, trivial⟩) (splitL 32 l) 0 [] (by simp only [List.length_nil]; omega)
  rw [List.nil_append] at hg
  have hsub := @spl_sub 32 l
  refine ⟨_, words_ok _, _, (), words_itr (by omega) ho _ _ _ _ (run_yof hg), ?_⟩
  unfold parseS
  cases hq : splitL 32 l with
  | nil => exact absurd hq hne
  | cons w0 ws =>
    rw [hq] at hsub
    have hs : ∀ w ∈ w0 :: ws, w.length < 100000 ∧ Oct w := fun w hm => by
      have := hsub w hm
      exact ⟨by omega, fun x hx => ho x (this.2 x hx)⟩
    refine ⟨_, next_cons _ _, _, kind_ok (hs w0 (by simp)).2, ?_⟩
    have j3e : ∀ (x : List ByteArray) (m : Mg) (e : Int), e ≠ 0 → say_Parse_j3 (stP x m e) (zM, e) := fun x m e he => by
      unfold say_Parse_j3
      rw [if_pos (by simpa using he)]; rfl
    by_cases h0 : kindW w0 = 0
    · rw [if_pos (by simpa using h0)]
      simp only [if_pos h0]
      rw [h0]
      refine ⟨_, rfl, _, (), all_itr 0 _ _ _ _ (run_yof .nil), ?_⟩
      exact j3e (ws.map bstr) (kM 0) 9 (by decide)
    · rw [if_neg (by simpa using h0)]
      simp only [if_neg h0]
      have hS : Small (kM (kindW w0)) := ⟨by simp [kM], by simp [kM], by simp [kM, size_bstr], by simp [kM, size_bstr]⟩
      have hsmall := fun ws' m' => goF_small (fs := fieldsB (kindW w0)) (ws := ws) (ws' := ws') (m' := m') hS (fun w hm => (hs w (List.mem_cons_of_mem _ hm)).1)
      obtain ⟨t, g1, g2⟩ := prog_run (fieldsB (kindW w0)) ws (kM (kindW w0)) rfl (fun w hm => hs w (List.mem_cons_of_mem _ hm)) (fields_fd _)
      refine ⟨_, rfl, t, (), all_itr _ _ _ _ _ (run_yof g1), ?_⟩
      rcases g2 with ⟨ws', m', k1, rfl, k3⟩ | ⟨e, x, m', k1, rfl⟩
      · rw [k1]
        have hsm := hsmall ws' m' k1
        have := hsm.p
        have := hsm.c
        simp only
        show say_Parse_j3 _ _
        unfold say_Parse_j3
        rw [if_neg (by simp)]
        simp only
        by_cases hw : ws' = []
        · subst hw
          rw [if_neg (by simp), if_neg (by simp), readB_six k3]
          refine ⟨_, mcheck_ok (by omega) (by omega), ?_⟩
          by_cases hc : checkB m' = 0
          · rw [if_neg (by simpa using hc), if_pos hc]
          · rw [if_pos (by simpa using hc), if_neg hc]; rfl
        · have := List.length_pos_iff.2 hw
          rw [if_pos (by rw [List.length_map, decide_eq_true_eq]; omega), if_pos hw]; rfl
      · rw [k1]
        exact j3e x m' e (goF_ne k1)
end Go.Rel
/-! Plain laws: a message's line, to and fro. -/
namespace Go.Rel
open Go Go.Eng Go.Pl
theorem joinL_flat (c : Int) : ∀ (w0 : List Int) (ws : List (List Int)), joinL [c] (w0 :: ws) = w0 ++ ws.flatMap fun w => c :: w
  | w0, [] => by simp [joinL]
  | w0, w :: ws => by
    rw [joinL_cons [c] w0 (List.cons_ne_nil w ws), joinL_flat c w ws]; simp
theorem split_joinL {c : Int} {ws : List (List Int)} (h0 : ws ≠ []) (h : ∀ w ∈ ws, c ∉ w) : splitL c (joinL [c] ws) = ws := by
  cases ws with
  | nil => exact absurd rfl h0
  | cons w0 ws => rw [joinL_flat, spl_words (h w0 (by simp)) (fun w hw => h w (List.mem_cons_of_mem _ hw))]
theorem unhexL_fw : ∀ {r : List Int}, Oct r → unhexL (hexL r) = some r
  | [], _ => rfl
  | x :: r, h => by
    have hx := h x (by simp)
    rw [show hexL (x :: r) = hexD (x / 16) :: hexD (x % 16) :: hexL r from rfl]
    simp only [unhexL, hv_hexD (n := x / 16) (by omega) (by omega), hv_hexD (n := x % 16) (by omega) (by omega), unhexL_fw (fun y hy => h y (List.mem_cons_of_mem _ hy))]
    rw [show 16 * (x / 16) + x % 16 = x by omega]
theorem unhexR_fw (s : ByteArray) : unhexR (hexV s) = (bints s, 0) := by
  unfold hexV
  by_cases h0 : s = bstr []
  · subst h0; rfl
  · rw [if_neg h0]
    have hb : bints s ≠ [] := fun e => h0 (bints_nil e)
    have hp := List.length_pos_iff.2 hb
    unfold unhexR
    rw [if_neg (hexL_one _), if_neg (fun e => by have := congrArg List.length e; rw [hexL_len, List.length_nil] at this; omega), unhexL_fw (bints_byt s)]
/-! ### Back -/
theorem flat_parts (m : Mg) : ∀ fs : List Fd, (fs.flatMap fun f => [bints f.1, valueL m f]).flatMap (fun w => 32 :: w) = bodyL m fs
  | [] => rfl
  | f :: fs => by
    have := flat_parts m fs
    simp only [List.flatMap_cons, List.flatMap_append, List.flatMap_nil, List.append_nil] at this ⊢
    rw [this]
    simp [bodyL, partL]
end Go.Rel
/-! Plain laws: the line of any message, parsed; the message of any text. -/
namespace Go.Rel
open Go Go.Eng Go.Pl
def setM (m0 : Mg) (f : Fd) (m : Mg) : Mg :=
  if f.2.1 = 3 then (m0.1, n6 m0.2.1, m.2.2.1, m0.2.2.2.1, m0.2.2.2.2.1, m0.2.2.2.2.2)
  else if f.2.1 = 4 then (m0.1, n6 m0.2.1, m0.2.2.1, m.2.2.2.1, m0.2.2.2.2.1, m0.2.2.2.2.2)
  else if f.2.1 = 5 then (m0.1, n6 m0.2.1, m0.2.2.1, m0.2.2.2.1, m.2.2.2.2.1, m0.2.2.2.2.2)
  else if f.2.1 = 6 then (m0.1, n6 m0.2.1, m0.2.2.1, m0.2.2.2.1, m0.2.2.2.2.1, m.2.2.2.2.2)
  else (m0.1, n6 (putN 6 0 m0.2.1 f.2.2.1.toNat (m.2.1.getD f.2.2.1.toNat 0)), m0.2.2)
theorem ptP_fwd {p : Int × Int} (h : IntOk .i64 p.1 ∧ IntOk .i64 p.2) : ptP (ptL p) = (p, 0) := by
  have hno : ∀ n : Int, (44 : Int) ∉ decI n := fun n => decI_no (by decide) (by decide) n
  have hs : splitL 44 (ptL p) = [decI p.1, decI p.2] := by
    unfold ptL
    rw [List.append_assoc, List.singleton_append, splitL_at (hno _), splitL_no (hno _)]
  rw [ptP_two hs]
  simp only [rdB_dec h.1, rdB_dec h.2, if_true]
theorem ptsR_fwd : ∀ {ps acc : List (Int × Int)}, (∀ p ∈ ps, IntOk .i64 p.1 ∧ IntOk .i64 p.2) → ptsR (ps.map ptL) acc = (acc ++ ps, 0)
  | [], acc, _ => by simp [ptsR]
  | p :: ps, acc, h => by
    rw [List.map_cons, ptsR, ptP_fwd (h p (by simp)), if_pos rfl, ptsR_fwd (fun q hq => h q (List.mem_cons_of_mem _ hq))]; simp
theorem numsR_fwd : ∀ {ns acc : List Int}, (∀ n ∈ ns, IntOk .i64 n) → numsR (ns.map decI) acc = (acc ++ ns, 0)
  | [], acc, _ => by simp [numsR]
  | n :: ns, acc, h => by
    rw [List.map_cons, numsR, rdB_dec (h n (by simp)), if_pos rfl, numsR_fwd (fun q hq => h q (List.mem_cons_of_mem _ hq))]; simp
theorem readB_fwd {m0 m : Mg} {f : Fd} (ok : MgOk m) (h3 : f.2.1 = 3 → m.2.2.1 ≠ []) (h4 : f.2.1 = 4 → m.2.2.2.1 ≠ []) : readB m0 f (valueL m f) = (0, setM m0 f m) := by
  unfold readB setM valueL
  by_cases c3 : f.2.1 = 3
  · rw [if_pos c3, if_pos c3, if_pos c3]
    rw [split_joinL (c := 59) (ws := m.2.2.1.map ptL) (by simpa using h3 c3) (fun w hw => by
      obtain ⟨p, _, rfl⟩ := List.mem_map.1 hw
      exact ptL_no (by decide) (by decide) (by decide) p), ptsR_fwd ok.path]
    rfl
  rw [if_neg c3, if_neg c3, if_neg c3]
  by_cases c4 : f.2.1 = 4
  · rw [if_pos c4, if_pos c4, if_pos c4]
    rw [split_joinL (c := 44) (ws := m.2.2.2.1.map decI) (by simpa using h4 c4) (fun w hw => by
      obtain ⟨p, _, rfl⟩ := List.mem_map.1 hw
      exact decI_no (by decide) (by decide) p), numsR_fwd ok.cells]
    rfl
  rw [if_neg c4, if_neg c4, if_neg c4]
  by_cases c5 : f.2.1 = 5
  · rw [if_pos c5, if_pos c5, if_pos c5, unhexR_fw]
    simp only
    rw [bstr_bints]
  rw [if_neg c5, if_neg c5, if_neg c5]
  by_cases c6 : f.2.1 = 6
  · rw [if_pos c6, if_pos c6, if_pos c6, unhexR_fw]
    simp only
    rw [bstr_bints]
  rw [if_neg c6, if_neg c6, if_neg c6, rdB_dec (ok.at _)]
def qM (l : List Fd) (m : Mg) (p : Nat) : Int := if hasN l p = true then m.2.1.getD p 0 else 0
def preM (l : List Fd) (m : Mg) : Mg := (m.1, [qM l m 0, qM l m 1, qM l m 2, qM l m 3, qM l m 4, qM l m 5], (if hasS l 3 = true then m.2.2.1 else []), (if hasS l 4 = true then m.2.2.2.1 else []), (if hasS l 5 = true then m.2.2.2.2.1 else bstr []), (if hasS l 6 = true then m.2.2.2.2.2 else bstr []))
theorem preM_nil (m : Mg) : preM [] m = kM m.1 := rfl
theorem qM_same {l : List Fd} {f : Fd} (h : ¬ sortN f) (m : Mg) (p : Nat) : qM (l ++ [f]) m p = qM l m p := by unfold qM; rw [nN_same h]
theorem hasS_same {l : List Fd} {f : Fd} {s : Int} (h : f.2.1 ≠ s) : hasS (l ++ [f]) s = hasS l s := by rw [hasS_snoc, decide_eq_false h, Bool.or_false]
theorem hasS_new {l : List Fd} {f : Fd} {s : Int} (h : f.2.1 = s) : hasS (l ++ [f]) s = true := by rw [hasS_snoc, decide_eq_true h, Bool.or_true]
theorem setM_pre (l : List Fd) {f : Fd} (m : Mg) (hf : fdOk f) : setM (preM l m) f m = preM (l ++ [f]) m := by
  unfold setM
  by_cases c3 : f.2.1 = 3
  · have hn : ¬ sortN f := fun h => h.1 c3
    rw [if_pos c3]
    unfold preM
    simp only [qM_same hn, hasS_new c3, hasS_same (show f.2.1 ≠ 4 by omega), hasS_same (show f.2.1 ≠ 5 by omega), hasS_same (show f.2.1 ≠ 6 by omega), if_true]
    rfl
  rw [if_neg c3]
  by_cases c4 : f.2.1 = 4
  · have hn : ¬ sortN f := fun h => h.2.1 c4
    rw [if_pos c4]
    unfold preM
    simp only [qM_same hn, hasS_new c4, hasS_same (show f.2.1 ≠ 3 by omega), hasS_same (show f.2.1 ≠ 5 by omega), hasS_same (show f.2.1 ≠ 6 by omega), if_true]
    rfl
  rw [if_neg c4]
  by_cases c5 : f.2.1 = 5
  · have hn : ¬ sortN f := fun h => h.2.2.1 c5
    rw [if_pos c5]
    unfold preM
    simp only [qM_same hn, hasS_new c5, hasS_same (show f.2.1 ≠ 3 by omega), hasS_same (show f.2.1 ≠ 4 by omega), hasS_same (show f.2.1 ≠ 6 by omega), if_true]
    rfl
  rw [if_neg c5]
  by_cases c6 : f.2.1 = 6
  · have hn : ¬ sortN f := fun h => h.2.2.2 c6
    rw [if_pos c6]
    unfold preM
    simp only [qM_same hn, hasS_new c6, hasS_same (show f.2.1 ≠ 3 by omega), hasS_same (show f.2.1 ≠ 4 by omega), hasS_same (show f.2.1 ≠ 5 by omega), if_true]
    rfl
  rw [if_neg c6]
  have hsN : sortN f := ⟨c3, c4, c5, c6⟩
  obtain ⟨p0, p1⟩ := fd_place hf c3 c4 c5 c6
  have hq : ∀ p, p < 6 → (putN 6 0 [qM l m 0, qM l m 1, qM l m 2, qM l m 3, qM l m 4, qM l m 5] f.2.2.1.toNat (m.2.1.getD f.2.2.1.toNat 0)).getD p 0 = qM (l ++ [f]) m p := by
    intro p hp
    rw [putN_getD hp]
    unfold qM
    rw [hasN_snoc]
    by_cases e : p = f.2.2.1.toNat
    · rw [if_pos e, decide_eq_true (show sortN f ∧ f.2.2.1.toNat = p from ⟨hsN, e.symm⟩), Bool.or_true, if_pos rfl, e]
    · rw [if_neg e, decide_eq_false (fun h => e h.2.symm), Bool.or_false]
      match p, hp with
      | 0, _ => rfl
      | 1, _ => rfl
      | 2, _ => rfl
      | 3, _ => rfl
      | 4, _ => rfl
      | 5, _ => rfl
  unfold preM n6
  simp only [hq 0 (by decide), hq 1 (by decide), hq 2 (by decide), hq 3 (by decide), hq 4 (by decide), hq 5 (by decide), hasS_same c3, hasS_same c4, hasS_same c5, hasS_same c6]
theorem goF_fwd {m : Mg} (ok : MgOk m) {all : List Fd} (hf : ∀ f ∈ all, fdOk f) (h3 : ∀ f ∈ all, f.2.1 = 3 → m.2.2.1 ≠ []) (h4 : ∀ f ∈ all, f.2.1 = 4 → m.2.2.2.1 ≠ []) : ∀ (fs pre : List Fd), all = pre ++ fs → goF fs (fs.flatMap fun f => [bints f.1, valueL m f]) (preM pre m) = .inl ([], preM all m)
  | [], pre, h => by rw [h, List.append_nil]; rfl
  | f :: fs, pre, h => by
    have hm : f ∈ all := by rw [h]; simp
    rw [List.flatMap_cons]
    show goF (f :: fs) (bints f.1 :: valueL m f :: fs.flatMap fun f => [bints f.1, valueL m f]) _ = _
    rw [goF, if_pos rfl, readB_fwd ok (h3 f hm) (h4 f hm), if_pos rfl, setM_pre pre m (hf f hm)]
    exact goF_fwd ok hf h3 h4 fs (pre ++ [f]) (by rw [h]; simp)
theorem six_of {l : List Int} (h : l.length = 6) (q : Nat → Int) (hq : ∀ p, p < 6 → q p = l.getD p 0) : [q 0, q 1, q 2, q 3, q 4, q 5] = l := by
  rw [hq 0 (by decide), hq 1 (by decide), hq 2 (by decide), hq 3 (by decide), hq 4 (by decide), hq 5 (by decide)]
  exact n6_eq h
theorem preM_all {m : Mg} (ok : MgOk m) (hc : checkB m = 0) : preM (fieldsB m.1) m = m := by
  obtain ⟨_, _, h⟩ := checkB_zero hc
  obtain ⟨a, b3, b4, b5, b6⟩ := clean_of h
  have hN : [qM (fieldsB m.1) m 0, qM (fieldsB m.1) m 1, qM (fieldsB m.1) m 2, qM (fieldsB m.1) m 3, qM (fieldsB m.1) m 4, qM (fieldsB m.1) m 5] = m.2.1 := six_of ok.six (qM (fieldsB m.1) m) (fun p hp => by
    unfold qM
    rcases a p hp with h | h
    · rw [if_pos h]
    · rw [h]; split <;> rfl)
  have el : ∀ {α : Type} (b : Bool) (x z : α), (b = true ∨ x = z) → (if b = true then x else z) = x := by
    intro α b x z h
    rcases h with h | h
    · rw [if_pos h]
    · rw [h]; split <;> rfl
  unfold preM
  rw [hN, el _ _ _ b3, el _ _ _ b4, el _ _ _ b5, el _ _ _ b6]
theorem names_no (k : Int) : ∀ f ∈ fieldsB k, (32 : Int) ∉ bints f.1 := by
  refine fields_all (fun f => (32 : Int) ∉ bints f.1) k (by decide) ?_
  decide
theorem kindW_fwd {k : Int} (h : k = 1 ∨ k = 2 ∨ k = 3 ∨ k = 4 ∨ k = 5) : kindW (wordL k) = k := by
  rcases h with rfl | rfl | rfl | rfl | rfl <;> decide
theorem parseS_fwd {m : Mg} (ok : MgOk m) (hc : checkB m = 0) : parseS (lineL m) = (m, 0) := by
  obtain ⟨h1, h2, _⟩ := checkB_zero hc
  have hk := kind_rng h1
  have hw : splitL 32 (lineL m) = wordL m.1 :: (fieldsB m.1).flatMap fun f => [bints f.1, valueL m f] := by
    unfold lineL
    rw [if_pos hc, ← flat_parts]
    refine spl_words (wordL_no32 _) (fun w hw => ?_)
    obtain ⟨f, hf, hw⟩ := List.mem_flatMap.1 hw
    simp only [List.mem_cons, List.not_mem_nil, or_false] at hw
    rcases hw with rfl | rfl
    · exact names_no _ f hf
    · exact valueL_no32 _ _
  have hwr := firstW_zero h2
  have hfd := fields_fd m.1
  have hg := goF_fwd ok (all := fieldsB m.1) hfd (fun f hf h3 hp => by
    have := hwr f hf
    unfold wrongB at this
    rw [if_pos h3] at this
    obtain ⟨_, _, hd⟩ := hfd f hf
    have hl : f.2.2.2.1 = 1 := by omega
    unfold pathB at this
    rw [hp, hl] at this
    simp [manyB] at this) (fun f hf h4 hp => by
    have := hwr f hf
    unfold wrongB at this
    rw [if_neg (by omega), if_pos h4] at this
    obtain ⟨_, _, hd⟩ := hfd f hf
    have hl : f.2.2.2.1 = 1 := by omega
    unfold cellsB at this
    rw [hp, hl] at this
    simp [manyB] at this) (fieldsB m.1) [] rfl
  rw [preM_nil, preM_all ok hc] at hg
  unfold parseS
  rw [hw]
  simp only
  rw [kindW_fwd hk, if_neg (by omega), hg]
  simp only
  rw [if_neg (by simp), if_pos hc]
end Go.Rel
/-! Plain laws: what arrives on a bad line, and its lines. -/
namespace Go.Rel
open Go Go.Eng Go.Pl
abbrev It := Int × Int × Int × Int × List Int
def wholeL : List Int := [119, 104, 111, 108, 101]
def cutL : List Int := [99, 117, 116]
def turnL : List Int := [116, 117, 114, 110]
def junkL : List Int := [106, 117, 110, 107]
def wordN (k : Int) : List Int := if k = 1 then wholeL else if k = 2 then cutL else if k = 3 then turnL else if k = 4 then junkL else []
def needN (k : Int) : Int := if k = 1 then 1 else if k = 2 then 3 else if k = 3 then 3 else 0
theorem nword_ok (k : Int) : noise_word k (bstr (wordN k), needN k) := by
  unfold noise_word wordN needN wholeL cutL turnL junkL
  by_cases h1 : k = 1
  · simp [h1]
  by_cases h2 : k = 2
  · simp [h2]
  by_cases h3 : k = 3
  · simp [h3]
  by_cases h4 : k = 4
  · simp [h4]
  simp [h1, h2, h3, h4]
/-! ### Lines -/
def hexE (l : List Int) : List Int := if l = [] then [45] else hexL l
theorem nhex_ok {l : List Int} (ho : Oct l) (hl : l.length < 1000000) : noise_hex l (bstr (hexE l)) := by
  unfold noise_hex hexE
  by_cases h0 : l = []
  · subst h0; rw [if_pos (by simp), if_pos rfl]
  · have hp := List.length_pos_iff.2 h0
    rw [if_neg (by rw [decide_eq_true_eq]; omega), if_neg h0]
    have := loops_count (step := noise_hex_l2 l) (e := hexL l) (fun k => (hexL (l.take k), (k : Int))) l.length (fun k hk => by
      have hb := ho _ (List.getElem_mem hk)
      have hs : (hexL (l.take k)).length ≤ 2 * l.length := by rw [hexL_len, List.length_take]; omega
      unfold noise_hex_l2
      rw [if_pos (by simpa using hk)]
      refine ⟨l[k], idx_of hk, hexD (l[k] / 16), ?_, hexD (l[k] % 16), ?_, ?_⟩
      · rw [ishr_4]; exact hex_at (by omega) (by omega)
      · rw [iand_15 hb.1 hb.2]; exact hex_at (by omega) (by omega)
      · simp only [List.length_cons, List.length_nil]
        refine ⟨by omega, by omega, ?_⟩
        rw [w_small (by omega) (by omega), List.take_succ_eq_append_getElem hk, hexL_snoc]; rfl) (by
      unfold noise_hex_l2
      rw [if_neg (by simp), List.take_length])
    exact ⟨hexL l, by simpa [hexL] using this, rfl⟩
theorem rhexE_ok {l : List Int} (ho : Oct l) (hl : l.length < 1000000) : ref26_Hex l (bstr (hexE l)) := by
  unfold hexE
  by_cases h0 : l = []
  · subst h0
    unfold ref26_Hex
    rw [if_pos (by simp), if_pos rfl]
  · rw [if_neg h0]; exact rhex26_ok ho hl h0
theorem hexE_len (l : List Int) : (hexE l).length ≤ 2 * l.length + 1 := by
  unfold hexE; split
  · simp
  · rw [hexL_len]; omega
def numL3 (it : It) : List Int := if it.1 = 1 then [it.2.1] else [it.2.1, it.2.2.1, it.2.2.2.1]
def lineN (it : It) : List Int := if it.1 = 4 then junkL ++ 32 :: hexE it.2.2.2.2 else if it.1 = 1 ∨ it.1 = 2 ∨ it.1 = 3 then wordN it.1 ++ (numL3 it).flatMap (fun n => 32 :: decI n) else []
structure ItOk (it : It) : Prop where
  k : IntOk .i64 it.1
  r : IntOk .i64 it.2.1
  a : IntOk .i64 it.2.2.1
  n : IntOk .i64 it.2.2.2.1
  o : Oct it.2.2.2.2
  l : it.2.2.2.2.length ≤ 1000
theorem nl_go {it : It} {w : ByteArray} {need : Int} {v : Int} {acc : List Int} (i : Nat) (hi : i < 3) (hn : (i : Int) < need) (hv : [it.2.1, it.2.2.1, it.2.2.2.1].getD i 0 = v) (ho : IntOk .i64 v) (ha : acc.length < 1000) : noise_Line_l2 it (w, need) (bstr acc, (i : Int)) (.inl (bstr (acc ++ 32 :: decI v), ((i + 1 : Nat) : Int))) := by
  have hd := decI_len ho
  unfold noise_Line_l2
  simp only
  rw [if_pos (by rw [decide_eq_true_eq]; omega)]
  refine ⟨by omega, by omega, ?_⟩
  rw [if_pos (by simpa using hn), Int.toNat_natCast, hv]
  refine ⟨bstr (decI v), ⟨_, itoa_ok ho, rfl⟩, by rw [size_bstr, size_bstr, List.length_singleton]; omega, by rw [ByteArray.size_append, size_bstr, size_bstr, size_bstr, List.length_singleton]; omega, ?_⟩
  unfold noise_Line_j3
  rw [← bstr_append, ← bstr_append, w_small (by omega) (by omega)]; rfl
theorem nl_skip {it : It} {w : ByteArray} {need : Int} {s : ByteArray} (i : Nat) (hi : i < 3) (hn : need ≤ (i : Int)) : noise_Line_l2 it (w, need) (s, (i : Int)) (.inl (s, ((i + 1 : Nat) : Int))) := by
  unfold noise_Line_l2
  simp only
  rw [if_pos (by rw [decide_eq_true_eq]; omega)]
  refine ⟨by omega, by omega, ?_⟩
  rw [if_neg (by rw [decide_eq_true_eq]; omega)]
  unfold noise_Line_j3
  rw [w_small (by omega) (by omega)]; rfl
theorem nl_end {it : It} {w : ByteArray} {need : Int} {s : ByteArray} : noise_Line_l2 it (w, need) (s, ((3 : Nat) : Int)) (.inr s) := by
  unfold noise_Line_l2
  rw [if_neg (by simp)]
theorem wordN_len (k : Int) : (wordN k).length ≤ 5 := by
  unfold wordN; repeat' split
  all_goals decide
theorem lineN_4 {it : It} (h : it.1 = 4) : lineN it = junkL ++ 32 :: hexE it.2.2.2.2 := if_pos h
theorem lineN_1 {it : It} (h : it.1 = 1) : lineN it = wholeL ++ 32 :: decI it.2.1 := by
  unfold lineN numL3; rw [if_neg (by omega), if_pos (.inl h), if_pos h, h]; simp [wordN]
theorem lineN_23 {it : It} (h : it.1 = 2 ∨ it.1 = 3) : lineN it = wordN it.1 ++ 32 :: decI it.2.1 ++ 32 :: decI it.2.2.1 ++ 32 :: decI it.2.2.2.1 := by
  unfold lineN numL3; rw [if_neg (by omega), if_pos (by omega), if_neg (by omega)]; simp
theorem lineN_no {it : It} (h : ¬ (1 ≤ it.1 ∧ it.1 ≤ 4)) : lineN it = [] := by
  unfold lineN; rw [if_neg (by omega), if_neg (by omega)]
theorem wordN_no {k : Int} (h : ¬ (1 ≤ k ∧ k ≤ 4)) : wordN k = [] := by
  unfold wordN; rw [if_neg (by omega), if_neg (by omega), if_neg (by omega), if_neg (by omega)]
theorem nline_ok {it : It} (h : ItOk it) : noise_Line it (bstr (lineN it)) := by
  refine ⟨_, nword_ok it.1, ?_⟩
  have hd1 := decI_len h.r
  have hd2 := decI_len h.a
  have hl := h.l
  have hx := hexE_len it.2.2.2.2
  simp only
  rw [bs_nil]
  by_cases h4 : it.1 = 4
  · rw [lineN_4 h4, h4, show wordN 4 = junkL from rfl, show needN 4 = 0 from rfl, if_neg (by decide), if_pos (by decide)]
    refine ⟨by rw [size_bstr, size_bstr]; decide, _, nhex_ok h.o (by omega), ?_, ?_⟩
    · rw [ByteArray.size_append, size_bstr, size_bstr, size_bstr]; simp only [junkL, List.length_cons, List.length_nil]; omega
    · rw [← bstr_append, ← bstr_append]; simp
  by_cases h1 : it.1 = 1
  · rw [lineN_1 h1, h1, show wordN 1 = wholeL from rfl, show needN 1 = 1 from rfl, if_neg (by decide), if_neg (by decide)]
    exact ⟨_, .next (nl_go (acc := wholeL) 0 (by decide) (by decide) rfl h.r (by decide)) (.next (nl_skip 1 (by decide) (by decide)) (.next (nl_skip 2 (by decide) (by decide)) (.done nl_end))), rfl⟩
  by_cases h23 : it.1 = 2 ∨ it.1 = 3
  · have hn : needN it.1 = 3 := by rcases h23 with h | h <;> rw [h] <;> rfl
    have hw : ¬ wordN it.1 = [] := by rcases h23 with h | h <;> rw [h] <;> decide
    have hwl := wordN_len it.1
    rw [lineN_23 h23, hn, if_neg (by simpa using hw), if_neg (by simp)]
    exact ⟨_, .next (nl_go (acc := wordN it.1) 0 (by decide) (by decide) rfl h.r (by omega)) (.next (nl_go (acc := wordN it.1 ++ 32 :: decI it.2.1) (v := it.2.2.1) 1 (by decide) (by decide) rfl h.a (by simp only [List.length_append, List.length_cons]; omega)) (.next (nl_go (acc := wordN it.1 ++ 32 :: decI it.2.1 ++ 32 :: decI it.2.2.1) (v := it.2.2.2.1) 2 (by decide) (by decide) rfl h.n (by simp only [List.length_append, List.length_cons]; omega)) (.done nl_end))), rfl⟩
  · rw [lineN_no (by omega), wordN_no (by omega), if_pos (by decide)]
theorem nrline_ok {it : It} (h : ItOk it) : ref26_Line it (bstr (lineN it)) := by
  have hd1 := decI_len h.r
  have hd2 := decI_len h.a
  have hd3 := decI_len h.n
  have hl := h.l
  have hx := hexE_len it.2.2.2.2
  refine ⟨_, digits_ok h.r, ?_, _, digits_ok h.a, ?_, ?_, _, digits_ok h.n, ?_, ?_⟩
  all_goals try (simp only [ByteArray.size_append, size_bstr, List.length_cons, List.length_nil]; omega)
  by_cases h1 : it.1 = 1
  · rw [lineN_1 h1, if_pos (by simpa using h1)]
    refine ⟨_, digits_ok h.r, ?_, ?_⟩
    · simp only [size_bstr, List.length_cons, List.length_nil]; omega
    · rw [← bstr_append]; rfl
  rw [if_neg (by simpa using h1)]
  by_cases h2 : it.1 = 2
  · rw [lineN_23 (.inl h2), if_pos (by simpa using h2), h2]
    refine ⟨?_, ?_⟩
    · simp only [ByteArray.size_append, size_bstr, List.length_cons, List.length_nil]; omega
    · simp only [← bstr_append]; simp [wordN, cutL]
  rw [if_neg (by simpa using h2)]
  by_cases h3 : it.1 = 3
  · rw [lineN_23 (.inr h3), if_pos (by simpa using h3), h3]
    refine ⟨?_, ?_⟩
    · simp only [ByteArray.size_append, size_bstr, List.length_cons, List.length_nil]; omega
    · simp only [← bstr_append]; simp [wordN, turnL]
  rw [if_neg (by simpa using h3)]
  by_cases h4 : it.1 = 4
  · rw [lineN_4 h4, if_pos (by simpa using h4)]
    refine ⟨_, rhexE_ok h.o (by omega), ?_, ?_⟩
    · simp only [size_bstr, List.length_cons, List.length_nil]; omega
    · rw [← bstr_append]; rfl
  · rw [lineN_no (by omega), if_neg (by simpa using h4)]
/-! ### A line is parsed -/
theorem shl4_or {x y : Int} (hx : 0 ≤ x ∧ x < 16) (hy : 0 ≤ y ∧ y < 16) : IntKind.u8.wrap (ior .i64 (ishl .i64 x 4) y) = 16 * x + y := by
  obtain ⟨a, rfl⟩ := Int.eq_ofNat_of_zero_le hx.1
  obtain ⟨b, rfl⟩ := Int.eq_ofNat_of_zero_le hy.1
  have ha : a < 16 := by omega
  have hb : b < 16 := by omega
  have key : ∀ a : Nat, a < 16 → ∀ b : Nat, b < 16 → IntKind.u8.wrap (ior .i64 (ishl .i64 (a : Int) 4) (b : Int)) = 16 * (a : Int) + (b : Int) := by decide
  exact key a ha b hb
theorem hv_neg {c : Int} : decide ((hv c).getD (-1) < 0) = (hv c).isNone := by
  cases hq : hv c with
  | none => rfl
  | some n => have := hv_some hq; simp; omega
theorem nunhex_run {w : List Int} (ho : Oct w) (hl : w.length < 1000000) : ∀ (n : Nat) (l pre out : List Int), l.length ≤ n → w = pre ++ l → l.length % 2 = 0 → out.length + l.length ≤ w.length →
    Loops (noise_unhex_l3 (bstr w)) (out, (pre.length : Int)) (match unhexL l with
      | none => .inr ([], 3)
      | some r => .inl (out ++ r))
  | n, [], pre, out, hn, hw, he, ho2 => by
    refine .done ?_
    unfold noise_unhex_l3
    rw [if_neg (by rw [size_bstr, hw]; simp)]
    simp [unhexL]
  | n, [x], pre, out, hn, hw, he, ho2 => by simp at he
  | 0, a :: b :: l, pre, out, hn, hw, he, ho2 => by simp at hn
  | n + 1, a :: b :: l, pre, out, hn, hw, he, ho2 => by
    simp only [List.length_cons] at hn he ho2
    have hlen : w.length = pre.length + l.length + 2 := by rw [hw]; simp; omega
    have ha := ho a (by rw [hw]; simp)
    have hb := ho b (by rw [hw]; simp)
    have i1 : idx (bints (bstr w)) (pre.length : Int) a := by rw [bb_of ho, hw]; exact idx_at rfl (by simp)
    have i2 : idx (bints (bstr w)) (IntKind.i64.wrap ((pre.length : Int) + 1)) b := by
      rw [bb_of ho, w_small (by omega) (by omega)]
      exact idx_at (k := pre.length + 1) (by omega) (by rw [hw, List.getElem?_append_right (by omega)]; simp)
    have stp : ∀ o, noise_unhex_j4 (out, (pre.length : Int)) ((hv a).getD (-1)) ((hv b).getD (-1)) ((hv a).isNone || (hv b).isNone) o → noise_unhex_l3 (bstr w) (out, (pre.length : Int)) o := by
      intro o h
      unfold noise_unhex_l3
      rw [if_pos (by rw [size_bstr, decide_eq_true_eq]; omega)]
      refine ⟨a, i1, _, place_hv ha, b, i2, _, place_hv hb, ?_⟩
      rw [hv_neg, hv_neg]
      cases hqa : (hv a).isNone with
      | true => rw [hqa] at h; rw [if_pos rfl]; simpa using h
      | false => rw [hqa] at h; rw [if_neg (by decide)]; simpa using h
    have bad : ((hv a).isNone || (hv b).isNone) = true → noise_unhex_l3 (bstr w) (out, (pre.length : Int)) (.inr (.inr ([], 3))) := fun h => stp _ (by
      rw [h]; unfold noise_unhex_j4; rw [if_pos rfl])
    unfold unhexL
    cases hqa : hv a with
    | none => exact .done (bad (by rw [hqa]; rfl))
    | some x =>
      cases hqb : hv b with
      | none => exact .done (bad (by rw [hqa, hqb]; rfl))
      | some y =>
        have hx := hv_some hqa
        have hy := hv_some hqb
        have go : noise_unhex_l3 (bstr w) (out, (pre.length : Int)) (.inl (out ++ [16 * x + y], ((pre ++ [a, b]).length : Int))) := stp _ (by
          rw [hqa, hqb]
          unfold noise_unhex_j4
          rw [if_neg (by simp)]
          simp only [Option.getD_some, List.length_singleton]
          rw [shl4_or ⟨hx.1, hx.2.1⟩ ⟨hy.1, hy.2.1⟩]
          refine ⟨by omega, by omega, ?_⟩
          rw [w_small (by omega) (by omega)]; simp)
        have ih := nunhex_run ho hl n l (pre ++ [a, b]) (out ++ [16 * x + y]) (by omega) (by rw [hw]; simp) (by omega) (by rw [List.length_append, List.length_singleton]; omega)
        refine .next go ?_
        cases hr : unhexL l with
        | none => rw [hr] at ih; exact ih
        | some r => rw [hr] at ih; simpa using ih
theorem nunhex_ok {w : List Int} (ho : Oct w) (hl : w.length < 1000000) : noise_unhex (bstr w) (unhexR w) := by
  have h45 : Oct [45] := fun x hx => by simp at hx; omega
  have h0 : Oct [] := fun x hx => nomatch hx
  unfold noise_unhex unhexR
  by_cases e1 : w = [45]
  · rw [if_pos (by simp [e1]), if_pos e1]
  · rw [if_neg (bstr_ne ho h45 e1), if_neg e1]
    by_cases e2 : w = []
    · rw [if_pos (by simp [e2]), if_pos e2]
      unfold noise_unhex_j1; rw [if_pos rfl]
    · rw [if_neg (bstr_ne ho h0 e2), if_neg e2]
      unfold noise_unhex_j1
      have hm : ((bstr w).size : Int).tmod 2 = ((w.length % 2 : Nat) : Int) := by rw [size_bstr, Int.tmod_eq_emod_of_nonneg (by omega)]; rfl
      rw [hm]
      by_cases e3 : w.length % 2 = 1
      · rw [if_pos (by rw [decide_eq_false (by omega)]; rfl), unhexL_odd w.length w (Nat.le_refl _) e3]
      · rw [if_neg (by rw [decide_eq_true (by omega)]; decide)]
        have h1 := nunhex_run ho hl w.length w [] [] (Nat.le_refl _) rfl (by omega) (by simp)
        refine ⟨_, h1, ?_⟩
        cases unhexL w with
        | none => rfl
        | some r => rfl
end Go.Rel
/-! Plain laws: the item of a line. -/
namespace Go.Rel
open Go Go.Eng Go.Pl
theorem gatherN {B : Int × ByteArray → List ByteArray → Sum (List ByteArray) Unit → Prop} (hB : ∀ x s, s.length < 1000000000 → B x s (.inl (s ++ [x.2]))) : ∀ (ws : List (List Int)) (a : Nat) (s : List ByteArray), s.length + ws.length < 1000000000 → RunB B (wrdsP a ws) s (.inl (s ++ ws.map bstr))
  | [], a, s, _ => by rw [List.map_nil, List.append_nil]; exact .nil
  | w :: ws, a, s, h => by
    simp only [List.length_cons] at h
    have ih := gatherN hB ws (a + w.length + 1) (s ++ [bstr w]) (by simp; omega)
    rw [List.map_cons, show s ++ bstr w :: ws.map bstr = s ++ [bstr w] ++ ws.map bstr by simp]
    exact .go (hB _ _ (by omega)) ih
def noI : It := (0, 0, 0, 0, [])
def kindN (w : List Int) : Int := if wordN 4 = w then 4 else if wordN 3 = w then 3 else if wordN 2 = w then 2 else if wordN 1 = w then 1 else 0
def numN (k : Int) : List (List Int) → It × Int
  | [w] => if k = 4 then (if (unhexR w).2 = 0 then ((4, 0, 0, 0, (unhexR w).1), 0) else (noI, (unhexR w).2)) else (if (rdB w).2 = 0 then ((k, (rdB w).1, 0, 0, []), 0) else (noI, (rdB w).2))
  | [w1, w2, w3] => if (rdB w1).2 ≠ 0 then (noI, (rdB w1).2) else if (rdB w2).2 ≠ 0 then (noI, (rdB w2).2) else if (rdB w3).2 ≠ 0 then (noI, (rdB w3).2) else ((k, (rdB w1).1, (rdB w2).1, (rdB w3).1, []), 0)
  | _ => (noI, 3)
theorem numN_1 (k : Int) (w : List Int) : numN k [w] = if k = 4 then (if (unhexR w).2 = 0 then ((4, 0, 0, 0, (unhexR w).1), 0) else (noI, (unhexR w).2)) else (if (rdB w).2 = 0 then ((k, (rdB w).1, 0, 0, []), 0) else (noI, (rdB w).2)) := rfl
theorem numN_3 (k : Int) (w1 w2 w3 : List Int) : numN k [w1, w2, w3] = if (rdB w1).2 ≠ 0 then (noI, (rdB w1).2) else if (rdB w2).2 ≠ 0 then (noI, (rdB w2).2) else if (rdB w3).2 ≠ 0 then (noI, (rdB w3).2) else ((k, (rdB w1).1, (rdB w2).1, (rdB w3).1, []), 0) := rfl
def noiseB (l : List Int) : It × Int := match splitL 32 l with
  | [] => (noI, 9)
  | w0 :: ws => if kindN w0 = 0 then (noI, 9) else if (ws.length : Int) ≠ max (needN (kindN w0)) 1 then (noI, 3) else numN (kindN w0) ws
theorem oct_word (k : Int) : Oct (wordN k) := by
  unfold wordN; repeat' split
  all_goals decide
theorem kindN_rng (w : List Int) : kindN w = 0 ∨ kindN w = 1 ∨ kindN w = 2 ∨ kindN w = 3 ∨ kindN w = 4 := by
  unfold kindN; repeat' split
  all_goals simp
theorem kindN_word {w : List Int} (h : kindN w ≠ 0) : wordN (kindN w) = w := by
  unfold kindN at h ⊢
  split
  · assumption
  · split
    · assumption
    · split
      · assumption
      · split
        · assumption
        · simp_all
section
variable {P : List ByteArray} {w : List Int} {n kd a b c a' b' c' need : Int}
theorem nk_step (k : Nat) (h1 : 1 ≤ k) (h4 : k ≤ 4) (hx : P[0]? = some (bstr w)) (ho : Oct w) : noise_Parse_l6 P (n, (k : Int), kd) (.inl (if wordN (k : Int) = w then needN (k : Int) else n, ((k + 1 : Nat) : Int), if wordN (k : Int) = w then (k : Int) else kd)) := by
  unfold noise_Parse_l6
  simp only
  rw [if_pos (by rw [decide_eq_true_eq]; omega)]
  refine ⟨_, nword_ok (k : Int), bstr w, idx_at (k := 0) rfl hx, ?_⟩
  unfold noise_Parse_j7
  simp only
  rw [w_small (by omega) (by omega)]
  by_cases h : wordN (k : Int) = w
  · rw [if_pos (by rw [h]; simp), if_pos h, if_pos h]; rfl
  · rw [if_neg (bstr_ne (oct_word _) ho h), if_neg h, if_neg h]; rfl
theorem nk_run (hx : P[0]? = some (bstr w)) (ho : Oct w) : Loops (noise_Parse_l6 P) (0, 1, 0) (needN (kindN w), kindN w) := by
  have e : (needN (kindN w), kindN w) = ((if wordN ((4 : Nat) : Int) = w then needN ((4 : Nat) : Int) else if wordN ((3 : Nat) : Int) = w then needN ((3 : Nat) : Int) else if wordN ((2 : Nat) : Int) = w then needN ((2 : Nat) : Int) else if wordN ((1 : Nat) : Int) = w then needN ((1 : Nat) : Int) else 0), (if wordN ((4 : Nat) : Int) = w then ((4 : Nat) : Int) else if wordN ((3 : Nat) : Int) = w then ((3 : Nat) : Int) else if wordN ((2 : Nat) : Int) = w then ((2 : Nat) : Int) else if wordN ((1 : Nat) : Int) = w then ((1 : Nat) : Int) else 0)) := by
    unfold kindN
    have c4 : ((4 : Nat) : Int) = 4 := rfl
    have c3 : ((3 : Nat) : Int) = 3 := rfl
    have c2 : ((2 : Nat) : Int) = 2 := rfl
    have c1 : ((1 : Nat) : Int) = 1 := rfl
    rw [c4, c3, c2, c1]
    by_cases h4 : wordN 4 = w
    · simp only [if_pos h4]
    · simp only [if_neg h4]
      by_cases h3 : wordN 3 = w
      · simp only [if_pos h3]
      · simp only [if_neg h3]
        by_cases h2 : wordN 2 = w
        · simp only [if_pos h2]
        · simp only [if_neg h2]
          by_cases h1 : wordN 1 = w
          · simp only [if_pos h1]
          · simp only [if_neg h1]; rfl
  rw [e]
  refine .next (nk_step 1 (by decide) (by decide) hx ho) (.next (nk_step 2 (by decide) (by decide) hx ho) (.next (nk_step 3 (by decide) (by decide) hx ho) (.next (nk_step 4 (by decide) (by decide) hx ho) (.done ?_))))
  unfold noise_Parse_l6
  rw [if_neg (by simp)]
theorem put3_0 (v : Int) : putN 3 0 [a, b, c] 0 v = [v, b, c] := rfl
theorem put3_1 (v : Int) : putN 3 0 [a, b, c] 1 v = [a, v, c] := rfl
theorem put3_2 (v : Int) : putN 3 0 [a, b, c] 2 v = [a, b, v] := rfl
theorem np_go (i : Nat) (hi : i < 3) (hn : (i : Int) < need) (hx : P[i + 1]? = some (bstr w)) (hl : w.length < 1000000000) (ho : Oct w) (hr : (rdB w).2 = 0) (hp : putN 3 0 [a, b, c] i (rdB w).1 = [a', b', c']) : noise_Parse_l5 P (need, kd) ((i : Int), a, b, c) (.inl (((i + 1 : Nat) : Int), a', b', c')) := by
  unfold noise_Parse_l5
  simp only
  rw [if_pos (by rw [decide_eq_true_eq]; omega)]
  refine ⟨by omega, by omega, ?_⟩
  rw [if_neg (by rw [decide_eq_true_eq]; omega), w_small (by omega) (by omega)]
  refine ⟨bstr w, idx_at (k := i + 1) (by omega) hx, rdB w, sread_ok hl ho, ?_⟩
  rw [if_neg (by simp [hr]), Int.toNat_natCast, hp]
  rfl
theorem np_no (i : Nat) (hi : i < 3) (hn : (i : Int) < need) (hx : P[i + 1]? = some (bstr w)) (hl : w.length < 1000000000) (ho : Oct w) (hr : ¬ (rdB w).2 = 0) : noise_Parse_l5 P (need, kd) ((i : Int), a, b, c) (.inr (.inr (noI, (rdB w).2))) := by
  unfold noise_Parse_l5
  simp only
  rw [if_pos (by rw [decide_eq_true_eq]; omega)]
  refine ⟨by omega, by omega, ?_⟩
  rw [if_neg (by rw [decide_eq_true_eq]; omega), w_small (by omega) (by omega)]
  refine ⟨bstr w, idx_at (k := i + 1) (by omega) hx, rdB w, sread_ok hl ho, ?_⟩
  rw [if_pos (by simpa using hr)]; rfl
theorem np_stop (i : Nat) (hn : need ≤ (i : Int) ∨ 3 ≤ i) : noise_Parse_l5 P (need, kd) ((i : Int), a, b, c) (.inr (.inl (a, b, c))) := by
  unfold noise_Parse_l5
  simp only
  by_cases h3 : i < 3
  · rw [if_pos (by rw [decide_eq_true_eq]; omega)]
    refine ⟨by omega, by omega, ?_⟩
    rw [if_pos (by rw [decide_eq_true_eq]; omega)]
    try trivial
  · rw [if_neg (by rw [decide_eq_true_eq]; omega)]
    try trivial
end
section
variable {w0 : List Int} {ws : List (List Int)} (hs : ∀ w ∈ w0 :: ws, w.length < 1000000 ∧ Oct w)
include hs
theorem nj3_num {k : Int} (hk : k = 1 ∧ ws.length = 1 ∨ (k = 2 ∨ k = 3) ∧ ws.length = 3) : noise_Parse_j3 ((w0 :: ws).map bstr) (needN k, k) (0, []) (numN k ws) := by
  unfold noise_Parse_j3
  rw [if_neg (by decide)]
  rcases hk with ⟨rfl, h⟩ | ⟨h23, h⟩
  · obtain ⟨w, rfl⟩ : ∃ w, ws = [w] := List.length_eq_one_iff.1 h
    obtain ⟨q1, q2⟩ := hs w (by simp)
    rw [show needN 1 = 1 from rfl]
    rw [numN_1, if_neg (by decide)]
    by_cases hr : (rdB w).2 = 0
    · rw [if_pos hr]
      exact ⟨_, .next (np_go (w := w) 0 (by decide) (by decide) rfl (by omega) q2 hr (put3_0 _)) (.done (np_stop 1 (.inl (by decide)))), rfl⟩
    · rw [if_neg hr]
      exact ⟨_, .done (np_no (w := w) 0 (by decide) (by decide) rfl (by omega) q2 hr), rfl⟩
  · obtain ⟨w1, w2, w3, rfl⟩ : ∃ w1 w2 w3, ws = [w1, w2, w3] := by
      match ws, h with
      | [w1, w2, w3], _ => exact ⟨_, _, _, rfl⟩
    obtain ⟨p1, q1⟩ := hs w1 (by simp)
    obtain ⟨p2, q2⟩ := hs w2 (by simp)
    obtain ⟨p3, q3⟩ := hs w3 (by simp)
    rw [show needN k = 3 by rcases h23 with rfl | rfl <;> rfl]
    rw [numN_3]
    by_cases h1 : (rdB w1).2 = 0
    · rw [if_neg (by simpa using h1)]
      have g1 := np_go (P := [w0, w1, w2, w3].map bstr) (need := 3) (kd := k) (w := w1) (a := 0) (b := 0) (c := 0) 0 (by decide) (by decide) rfl (by omega) q1 h1 (put3_0 _)
      by_cases h2 : (rdB w2).2 = 0
      · rw [if_neg (by simpa using h2)]
        have g2 := np_go (P := [w0, w1, w2, w3].map bstr) (need := 3) (kd := k) (w := w2) (a := (rdB w1).1) (b := 0) (c := 0) 1 (by decide) (by decide) rfl (by omega) q2 h2 (put3_1 _)
        by_cases h3 : (rdB w3).2 = 0
        · rw [if_neg (by simpa using h3)]
          have g3 := np_go (P := [w0, w1, w2, w3].map bstr) (need := 3) (kd := k) (w := w3) (a := (rdB w1).1) (b := (rdB w2).1) (c := 0) 2 (by decide) (by decide) rfl (by omega) q3 h3 (put3_2 _)
          exact ⟨_, .next g1 (.next g2 (.next g3 (.done (np_stop 3 (.inr (by decide)))))), rfl⟩
        · rw [if_pos (by simpa using h3)]
          exact ⟨_, .next g1 (.next g2 (.done (np_no (w := w3) 2 (by decide) (by decide) rfl (by omega) q3 h3))), rfl⟩
      · rw [if_pos (by simpa using h2)]
        exact ⟨_, .next g1 (.done (np_no (w := w2) 1 (by decide) (by decide) rfl (by omega) q2 h2)), rfl⟩
    · rw [if_pos (by simpa using h1)]
      exact ⟨_, .done (np_no (w := w1) 0 (by decide) (by decide) rfl (by omega) q1 h1), rfl⟩
end
theorem nj3_no {P : List ByteArray} {s : Int × Int} {e : Int} {b : List Int} (h : ¬ e = 0) : noise_Parse_j3 P s (e, b) (noI, e) := by
  unfold noise_Parse_j3
  rw [if_pos (by simpa using h)]; rfl
theorem need_cases {k : Int} {n : Nat} (hk : k = 1 ∨ k = 2 ∨ k = 3) (h : (n : Int) = max (needN k) 1) : k = 1 ∧ n = 1 ∨ (k = 2 ∨ k = 3) ∧ n = 3 := by
  rcases hk with rfl | rfl | rfl
  · rw [show max (needN 1) 1 = 1 from rfl] at h; omega
  · rw [show max (needN 2) 1 = 3 from rfl] at h; omega
  · rw [show max (needN 3) 1 = 3 from rfl] at h; omega
theorem nparse_ok {l : List Int} (hl : l.length < 100000) (ho : Oct l) : noise_Parse (bstr l) (noiseB l) := by
  have hlen := spl_len 32 l
  have hne := splitL_ne 32 l
  have hg := gatherN (B := noise_Parse_l1) (fun x s hs => by
    unfold noise_Parse_l1
    simp only [List.length_singleton]
    exact ⟨by omega, by omega, trivial⟩) (splitL 32 l) 0 [] (by simp only [List.length_nil]; omega)
  rw [List.nil_append] at hg
  have hsub := @spl_sub 32 l
  refine ⟨_, words_ok _, _, (), words_itr (by omega) ho _ _ _ _ (run_yof hg), ?_⟩
  unfold noiseB
  cases hq : splitL 32 l with
  | nil => exact absurd hq hne
  | cons w0 ws =>
    rw [hq] at hsub hlen
    have hs : ∀ w ∈ w0 :: ws, w.length < 1000000 ∧ Oct w := fun w hm => by
      have := hsub w hm
      exact ⟨by omega, fun x hx => ho x (this.2 x hx)⟩
    simp only [List.length_cons] at hlen
    refine ⟨_, nk_run (w := w0) rfl (hs w0 (by simp)).2, ?_⟩
    unfold noise_Parse_j2
    simp only
    by_cases h0 : kindN w0 = 0
    · rw [if_pos (by simpa using h0), if_pos h0]; exact nj3_no (by decide)
    · rw [if_neg (by simpa using h0), if_neg h0]
      have hmax : 1 ≤ max (needN (kindN w0)) 1 ∧ max (needN (kindN w0)) 1 ≤ 3 := by
        rcases kindN_rng w0 with h | h | h | h | h <;> rw [h] <;> decide
      rw [w_small (by omega) (by omega)]
      by_cases h1 : (ws.length : Int) = max (needN (kindN w0)) 1
      · rw [if_neg (by rw [List.length_map, List.length_cons, decide_eq_true (by omega)]; decide), if_neg (show ¬ ((ws.length : Int) ≠ max (needN (kindN w0)) 1) from fun q => q h1)]
        by_cases h4 : kindN w0 = 4
        · rw [h4] at h1 ⊢
          rw [show max (needN 4) 1 = 1 from rfl] at h1
          obtain ⟨w, rfl⟩ : ∃ w, ws = [w] := List.length_eq_one_iff.1 (by omega)
          obtain ⟨q1, q2⟩ := hs w (by simp)
          rw [show needN 4 = 0 from rfl, if_pos (by decide)]
          refine ⟨bstr w, idx_at (k := 1) rfl rfl, _, nunhex_ok q2 q1, ?_⟩
          rw [numN_1, if_pos rfl]
          by_cases he : (unhexR w).2 = 0
          · rw [if_pos he, he]
            unfold noise_Parse_j3
            rw [if_neg (by simp)]
            exact ⟨_, .done (np_stop 0 (.inl (by decide))), rfl⟩
          · rw [if_neg he]; exact nj3_no he
        · have hk : kindN w0 = 1 ∨ kindN w0 = 2 ∨ kindN w0 = 3 := by rcases kindN_rng w0 with h | h | h | h | h <;> simp_all
          have hn : needN (kindN w0) ≠ 0 := by rcases hk with h | h | h <;> rw [h] <;> decide
          rw [if_neg (by simpa using hn)]
          exact nj3_num hs (need_cases hk h1)
      · rw [if_pos (by rw [List.length_map, List.length_cons, decide_eq_false (by omega)]; rfl), if_pos (show (ws.length : Int) ≠ max (needN (kindN w0)) 1 from h1)]
        exact nj3_no (by decide)
end Go.Rel
