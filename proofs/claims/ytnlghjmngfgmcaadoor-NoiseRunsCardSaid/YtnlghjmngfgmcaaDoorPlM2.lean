import Derived.Test.YtnlghjmngfgmcaaDoorPlM1
/-! Plain laws: the number of digits. -/
namespace Go.Rel
open Go Go.Eng Go.Pl
/-- Are all digits? -/
def AllDig (d : List Int) : Prop := ∀ x ∈ d, 48 ≤ x ∧ x < 58
instance (d : List Int) : Decidable (AllDig d) := inferInstanceAs (Decidable (∀ x ∈ d, 48 ≤ x ∧ x < 58))
/-- The number of digits. -/
def dval (a : Nat) (d : List Int) : Nat := d.foldl (fun n c => 10 * n + (c - 48).toNat) a
theorem dval_cons (a : Nat) (c : Int) (d : List Int) : dval a (c :: d) = dval (10 * a + (c - 48).toNat) d := rfl
theorem dval_snoc (a : Nat) (c : Int) (d : List Int) : dval a (d ++ [c]) = 10 * dval a d + (c - 48).toNat := by simp [dval]
theorem dval_ge : ∀ (d : List Int) (a : Nat), a ≤ dval a d
  | [], a => Nat.le_refl a
  | c :: d, a => by rw [dval_cons]; have := dval_ge d (10 * a + (c - 48).toNat); omega
theorem dval_pos {c : Int} {d : List Int} (h : 49 ≤ c) : 1 ≤ dval 0 (c :: d) := by
  rw [dval_cons]; have := dval_ge d (10 * 0 + (c - 48).toNat); omega
theorem dval_dec : ∀ (n : Nat) (d : List Int), d.length ≤ n → AllDig d → d ≠ [] → (d.head? = some 48 → d.length = 1) → decL (dval 0 d) = d
  | 0, d, h, _, h0, _ => absurd (List.eq_nil_of_length_eq_zero (Nat.le_zero.1 h)) h0
  | n + 1, d, h, hd, h0, hz => by
    obtain ⟨p, c, rfl⟩ : ∃ p c, d = p ++ [c] := ⟨d.dropLast, d.getLast h0, (List.dropLast_concat_getLast h0).symm⟩
    have hc := hd c (by simp)
    rw [dval_snoc]
    by_cases hp : p = []
    · subst hp
      rw [show 10 * dval 0 [] + (c - 48).toNat = (c - 48).toNat by simp [dval], decL_lt (by omega)]
      simp; omega
    · have hdp : AllDig p := fun x hx => hd x (List.mem_append_left _ hx)
      have hh : (p ++ [c]).head? = p.head? := by cases p with | nil => exact absurd rfl hp | cons x p => rfl
      have hz' : p.head? ≠ some 48 := fun e => by
        have := hz (hh.trans e)
        rw [List.length_append] at this
        have := List.length_pos_iff.2 hp
        simp only [List.length_cons, List.length_nil] at *
        omega
      obtain ⟨x, p', rfl⟩ : ∃ x p', p = x :: p' := by cases p with | nil => exact absurd rfl hp | cons x p => exact ⟨_, _, rfl⟩
      have hx := hdp x (by simp)
      have h1 : 1 ≤ dval 0 (x :: p') := dval_pos (by
        have : x ≠ 48 := fun e => hz' (by simp [e])
        omega)
      have ih := dval_dec n (x :: p') (by simp only [List.length_append, List.length_cons, List.length_nil] at h ⊢; omega) hdp (by simp) (fun e => absurd e hz')
      rw [decL_ge (by omega), show (10 * dval 0 (x :: p') + (c - 48).toNat) / 10 = dval 0 (x :: p') by omega, show (10 * dval 0 (x :: p') + (c - 48).toNat) % 10 = (c - 48).toNat by omega, ih]
      rw [show (48 : Int) + ((c - 48).toNat : Int) = c by omega]
theorem dec_dval : ∀ (f u : Nat), u ≤ f → dval 0 (decL u) = u
  | 0, u, h => by obtain rfl : u = 0 := by omega
                  rfl
  | f + 1, u, h => by
    by_cases hu : u < 10
    · rw [decL_lt hu]; simp [dval]; omega
    · rw [decL_ge hu, dval_snoc, dec_dval f (u / 10) (by omega)]; omega
theorem decL_all (u : Nat) : AllDig (decL u) := decL_dig u u (Nat.le_refl _)
theorem decL_head : ∀ (f u : Nat), u ≤ f → (decL u).head? = some 48 → (decL u).length = 1
  | 0, u, h, _ => by obtain rfl : u = 0 := by omega
                     rfl
  | f + 1, u, h, hh => by
    by_cases hu : u < 10
    · rw [decL_lt hu]; rfl
    · exfalso
      rw [decL_ge hu] at hh
      have hne := decL_ne (u / 10)
      have h2 : (decL (u / 10)).head? = some 48 := by
        cases hq : decL (u / 10) with
        | nil => exact absurd hq hne
        | cons x p => rw [hq] at hh; simpa using hh
      have h3 := decL_head f (u / 10) (by omega) h2
      have h4 := dec_dval (u / 10) (u / 10) (Nat.le_refl _)
      obtain ⟨x, hx⟩ : ∃ x, decL (u / 10) = [x] := List.length_eq_one_iff.1 h3
      rw [hx] at h2 h4
      simp only [List.head?_cons, Option.some.injEq] at h2
      subst h2
      simp [dval] at h4
      omega
/-- A text's number: the number, the error. -/
def rdB (l : List Int) : Int × Int :=
  let d := if l.head? = some 45 then l.tail else l
  if d = [] ∨ (d.head? = some 48 ∧ l ≠ [48]) ∨ ¬ AllDig d then (0, 3)
  else if l.head? = some 45 then (if dval 0 d ≤ 9223372036854775808 then (-(dval 0 d : Int), 0) else (0, 5))
  else (if dval 0 d ≤ 9223372036854775807 then ((dval 0 d : Int), 0) else (0, 5))
theorem rdB_dec {n : Int} (h : IntOk .i64 n) : rdB (decI n) = (n, 0) := by
  have ⟨h0, h1⟩ := ok_i64 h
  unfold rdB decI
  by_cases hn : n < 0
  · rw [if_pos hn]
    simp only [List.head?_cons, List.tail_cons, if_true]
    have hv := dec_dval n.natAbs n.natAbs (Nat.le_refl _)
    have hne := decL_ne n.natAbs
    have hall := decL_all n.natAbs
    have hh : (decL n.natAbs).head? ≠ some 48 := fun e => by
      have h3 := decL_head n.natAbs n.natAbs (Nat.le_refl _) e
      obtain ⟨x, hx⟩ : ∃ x, decL n.natAbs = [x] := List.length_eq_one_iff.1 h3
      rw [hx] at e hv
      simp only [List.head?_cons, Option.some.injEq] at e
      subst e
      simp [dval] at hv
      omega
    rw [if_neg (fun hq => hq.elim hne (fun hq => hq.elim (fun h => hh h.1) (fun h => h hall))), hv, if_pos (by omega)]
    congr 1; omega
  · rw [if_neg hn]
    have hv := dec_dval n.toNat n.toNat (Nat.le_refl _)
    have hne := decL_ne n.toNat
    have hall := decL_all n.toNat
    have h45 : (decL n.toNat).head? ≠ some 45 := fun e => by
      have : (45 : Int) ∈ decL n.toNat := List.mem_of_mem_head? (by rw [e]; simp)
      have := hall _ this
      omega
    simp only [if_neg h45]
    rw [if_neg, hv, if_pos (by omega)]
    · congr 1; omega
    · rintro (h | h | h)
      · exact hne h
      · have h3 := decL_head n.toNat n.toNat (Nat.le_refl _) h.1
        obtain ⟨x, hx⟩ : ∃ x, decL n.toNat = [x] := List.length_eq_one_iff.1 h3
        rw [hx] at h
        simp at h
        try omega
      · exact h hall
theorem rdB_back {l : List Int} {n : Int} (h : rdB l = (n, 0)) : decI n = l ∧ IntOk .i64 n := by
  unfold rdB at h
  simp only at h
  by_cases h45 : l.head? = some 45
  · rw [if_pos h45, if_pos h45] at h
    by_cases hc : l.tail = [] ∨ (l.tail.head? = some 48 ∧ l ≠ [48]) ∨ ¬ AllDig l.tail
    · rw [if_pos hc] at h; simp at h
    · rw [if_neg hc] at h
      simp only [not_or, Decidable.not_not] at hc
      obtain ⟨c1, c2, c3⟩ := hc
      by_cases hb : dval 0 l.tail ≤ 9223372036854775808
      · rw [if_pos hb] at h
        have hn : -(dval 0 l.tail : Int) = n := by simpa using h
        have hl : l = 45 :: l.tail := by cases l with | nil => simp at h45 | cons x l => simp at h45; simp [h45]
        have hz : l.tail.head? ≠ some 48 := fun e => c2 ⟨e, fun e2 => by rw [e2] at h45; simp at h45⟩
        have hpos : 1 ≤ dval 0 l.tail := by
          cases ht : l.tail with
          | nil => exact absurd ht c1
          | cons x t =>
            have := c3 x (by rw [ht]; simp)
            rw [ht] at hz
            exact dval_pos (by simp at hz; omega)
        have hd := dval_dec l.tail.length l.tail (Nat.le_refl _) c3 c1 (fun e => absurd e hz)
        refine ⟨?_, by show (-9223372036854775808 : Int) ≤ n; omega, by show n ≤ 9223372036854775807; omega⟩
        unfold decI
        rw [if_pos (by omega), show n.natAbs = dval 0 l.tail by omega, hd, ← hl]
      · rw [if_neg hb] at h; simp at h
  · rw [if_neg h45, if_neg h45] at h
    by_cases hc : l = [] ∨ (l.head? = some 48 ∧ l ≠ [48]) ∨ ¬ AllDig l
    · rw [if_pos hc] at h; simp at h
    · rw [if_neg hc] at h
      simp only [not_or, Decidable.not_not] at hc
      obtain ⟨c1, c2, c3⟩ := hc
      by_cases hb : dval 0 l ≤ 9223372036854775807
      · rw [if_pos hb] at h
        have hn : (dval 0 l : Int) = n := by simpa using h
        have hd := dval_dec l.length l (Nat.le_refl _) c3 c1 (fun e => by
          have : l = [48] := Decidable.byContradiction fun e2 => c2 ⟨e, e2⟩
          rw [this]; rfl)
        refine ⟨?_, by show (-9223372036854775808 : Int) ≤ n; omega, by show n ≤ 9223372036854775807; omega⟩
        unfold decI
        rw [if_neg (by omega), show n.toNat = dval 0 l by omega, hd]
      · rw [if_neg hb] at h; simp at h
theorem rdB_cases (l : List Int) : (rdB l).2 = 0 ∨ ((rdB l).1 = 0 ∧ ((rdB l).2 = 3 ∨ (rdB l).2 = 5)) := by
  unfold rdB
  simp only
  repeat' split
  all_goals simp
/-- What the library's parser tells of digits. -/
theorem pu64_dig : ∀ (d : List Int) (a : Nat), AllDig d → a ≤ 18446744073709551615 → pu64 (a : Int) d = if dval a d ≤ 18446744073709551615 then (0, (dval a d : Int)) else (2, 0)
  | [], a, _, ha => by rw [if_pos (by simpa [dval] using ha)]; rfl
  | c :: d, a, h, ha => by
    have hc := h c (by simp)
    have hd : AllDig d := fun x hx => h x (List.mem_cons_of_mem _ hx)
    rw [pu64, if_pos (by omega), dval_cons]
    have hge := dval_ge d (10 * a + (c - 48).toNat)
    by_cases h1 : (1844674407370955162 : Int) ≤ (a : Int)
    · rw [if_pos h1, if_neg (by omega)]
    · rw [if_neg h1]
      by_cases h2 : (18446744073709551615 : Int) < (a : Int) * 10 + (c - 48)
      · rw [if_pos h2, if_neg (by omega)]
      · rw [if_neg h2, show (a : Int) * 10 + (c - 48) = ((10 * a + (c - 48).toNat : Nat) : Int) by omega]
        exact pu64_dig d _ hd (by omega)
theorem pi64_rd {l : List Int} (h3 : (rdB l).2 ≠ 3) : ((pi64 l).2 = false ∧ rdB l = ((pi64 l).1, 0)) ∨ ((pi64 l).2 = true ∧ rdB l = (0, 5)) := by
  unfold rdB at h3 ⊢
  simp only at h3 ⊢
  by_cases h45 : l.head? = some 45
  · obtain ⟨t, rfl⟩ : ∃ t, l = 45 :: t := by cases l with | nil => simp at h45 | cons x l => simp at h45; exact ⟨l, by rw [h45]⟩
    simp only [List.head?_cons, List.tail_cons, if_true] at h3 ⊢
    by_cases hc : t = [] ∨ (t.head? = some 48 ∧ 45 :: t ≠ [(48 : Int)]) ∨ ¬ AllDig t
    · rw [if_pos hc] at h3; simp at h3
    · rw [if_neg hc]
      simp only [not_or, Decidable.not_not] at hc
      have hp := pu64_dig t 0 hc.2.2 (by omega)
      rw [show ((0 : Nat) : Int) = 0 from rfl] at hp
      unfold pi64
      simp only [if_neg hc.1, or_true, if_true, hp]
      by_cases h1 : dval 0 t ≤ 18446744073709551615
      · rw [if_pos h1]
        simp only
        rw [if_neg (by decide), if_neg (by decide), if_neg (by simp)]
        by_cases h2 : dval 0 t ≤ 9223372036854775808
        · rw [if_neg (by omega), if_pos h2]; left; simp
        · rw [if_pos (by simp; omega), if_neg h2]; right; simp
      · rw [if_neg h1, if_neg (by omega)]
        simp
        try omega
  · rw [if_neg h45] at h3 ⊢
    rw [if_neg h45] at h3 ⊢
    by_cases hc : l = [] ∨ (l.head? = some 48 ∧ l ≠ [48]) ∨ ¬ AllDig l
    · rw [if_pos hc] at h3; simp at h3
    · rw [if_neg hc]
      simp only [not_or, Decidable.not_not] at hc
      have hp := pu64_dig l 0 hc.2.2 (by omega)
      rw [show ((0 : Nat) : Int) = 0 from rfl] at hp
      obtain ⟨x, t, rfl⟩ : ∃ x t, l = x :: t := by cases l with | nil => exact absurd rfl hc.1 | cons x l => exact ⟨_, _, rfl⟩
      have hx := hc.2.2 x (by simp)
      have hx45 : ¬ x = 45 := by omega
      have hx43 : ¬ x = 43 := by omega
      have hxn : ¬ (x :: t = []) := by simp
      simp only [pi64, hx43, hx45, or_false, if_false, hxn, hp]
      by_cases h1 : dval 0 (x :: t) ≤ 18446744073709551615
      · rw [if_pos h1]
        simp only
        rw [if_neg (by decide), if_neg (by decide)]
        by_cases h2 : dval 0 (x :: t) ≤ 9223372036854775807
        · rw [if_neg (by omega), if_neg (by simp), if_pos h2]; left; simp
        · rw [if_pos (by simp; omega), if_neg h2]; right; simp
      · rw [if_neg h1, if_neg (by omega)]
        simp
        try omega
end Go.Rel
/-! Plain laws: a number is read; the words of a text. -/
namespace Go.Rel
open Go Go.Eng Go.Pl
def digS : List Int := [48, 49, 50, 51, 52, 53, 54, 55, 56, 57]
theorem ascii_ok : ∃ as, strings_makeASCIISet (bstr digS) (as, true) ∧ ∀ c : Int, 0 ≤ c → c < 256 → as.getD c.toNat false = decide (48 ≤ c ∧ c < 58) := by
  have hb : bints (bstr digS) = digS := bb_of (by unfold Oct digS; decide)
  have hs : (bstr digS).size = 10 := by rw [size_bstr]; rfl
  have key := loops_inv (step := strings_makeASCIISet_l2 (bstr digS)) (s := (0, List.replicate 256 false)) (fun k (s : Int × List Bool) => s.1 = (k : Int) ∧ ∀ c : Int, 0 ≤ c → c < 256 → s.2.getD c.toNat false = decide (48 ≤ c ∧ c < 48 + k)) (fun e => ∃ as, e = .inl as ∧ ∀ c : Int, 0 ≤ c → c < 256 → as.getD c.toNat false = decide (48 ≤ c ∧ c < 58)) 10 ⟨rfl, fun c h0 h1 => by
    rw [List.getD_eq_getElem?_getD, List.getElem?_replicate, if_pos (by omega)]
    symm; simp⟩ ?_ ?_
  · obtain ⟨e, h1, as, rfl, h2⟩ := key
    exact ⟨as, ⟨_, h1, rfl⟩, h2⟩
  · rintro k ⟨i, xs⟩ hk ⟨h1, h2⟩
    simp only at h1 h2
    subst h1
    left
    have hx : idx (bints (bstr digS)) (k : Int) (48 + k) := by
      rw [hb]
      refine ⟨by omega, ?_⟩
      rw [Int.toNat_natCast]
      have : k = 0 ∨ k = 1 ∨ k = 2 ∨ k = 3 ∨ k = 4 ∨ k = 5 ∨ k = 6 ∨ k = 7 ∨ k = 8 ∨ k = 9 := by omega
      rcases this with rfl | rfl | rfl | rfl | rfl | rfl | rfl | rfl | rfl | rfl <;> rfl
    refine ⟨((k + 1 : Nat), putN 256 false xs (48 + (k : Int)).toNat true), ?_, rfl, ?_⟩
    · unfold strings_makeASCIISet_l2
      simp only
      rw [if_pos (by rw [hs, decide_eq_true_eq]; omega)]
      refine ⟨_, hx, ?_⟩
      rw [if_neg (by rw [decide_eq_true_eq]; omega)]
      refine ⟨by omega, by omega, ?_⟩
      rw [w_small (by omega) (by omega)]; rfl
    · intro c h0 h1
      rw [putN_getD (by omega), h2 c h0 h1]
      by_cases hc : c = 48 + (k : Int)
      · rw [if_pos (by omega)]; symm; rw [decide_eq_true_eq]; omega
      · rw [if_neg (by omega)]
        by_cases h : 48 ≤ c ∧ c < 48 + (k : Int)
        · rw [decide_eq_true h, decide_eq_true (by omega)]
        · rw [decide_eq_false h, decide_eq_false (by omega)]
  · rintro ⟨i, xs⟩ ⟨h1, h2⟩
    simp only at h1 h2
    subst h1
    refine ⟨.inl xs, ?_, xs, rfl, h2⟩
    unfold strings_makeASCIISet_l2
    rw [if_neg (by rw [hs, decide_eq_true_eq]; simp)]
theorem allDig_snoc {p : List Int} {c : Int} (hc : 48 ≤ c ∧ c < 58) : AllDig (p ++ [c]) ↔ AllDig p :=
  ⟨fun h x hx => h x (List.mem_append_left _ hx), fun h x hx => by
    rcases List.mem_append.1 hx with hx | hx
    · exact h x hx
    · rw [List.mem_singleton] at hx; subst hx; exact hc⟩
theorem allDig_cons {p : List Int} {c : Int} (hc : 48 ≤ c ∧ c < 58) : AllDig (c :: p) ↔ AllDig p :=
  ⟨fun h x hx => h x (List.mem_cons_of_mem _ hx), fun h x hx => by
    rcases List.mem_cons.1 hx with rfl | hx
    · exact hc
    · exact h x hx⟩
theorem trimR_ok {as : List Bool} (has : ∀ c : Int, 0 ≤ c → c < 256 → as.getD c.toNat false = decide (48 ≤ c ∧ c < 58)) : ∀ (n : Nat) (d : List Int), d.length ≤ n → n < 1000000000 → Oct d → ∃ m, Loops (strings_trimRightASCII_l2 as) (bstr d) (bstr m) ∧ Oct m ∧ m.length ≤ d.length ∧ (AllDig m ↔ AllDig d) ∧ (AllDig m → m = [])
  | n, d, hn, hb, ho => by
    have hsz : (bstr d).size = d.length := size_bstr _
    by_cases h0 : d = []
    · subst h0
      refine ⟨[], .done ?_, ho, by simp, Iff.rfl, fun _ => rfl⟩
      unfold strings_trimRightASCII_l2
      rw [if_neg (by simp [size_bstr])]
    · obtain ⟨p, c, rfl⟩ : ∃ p c, d = p ++ [c] := ⟨d.dropLast, d.getLast h0, (List.dropLast_concat_getLast h0).symm⟩
      have hc := ho c (by simp)
      have hl : (p ++ [c]).length = p.length + 1 := by simp
      have hw : IntKind.i64.wrap (((bstr (p ++ [c])).size : Int) - 1) = (p.length : Int) := by rw [hsz, hl, w_small (by omega) (by omega)]; omega
      have hx : idx (bints (bstr (p ++ [c]))) (p.length : Int) c := by rw [bb_of ho]; exact idx_at rfl (by simp)
      by_cases hd : 48 ≤ c ∧ c < 58
      · match n, hn with
        | 0, hn => omega
        | n + 1, hn =>
          obtain ⟨m, h1, h2, h3, h4, h5⟩ := trimR_ok has n p (by omega) (by omega) (fun x hx => ho x (List.mem_append_left _ hx))
          refine ⟨m, .next ?_ h1, h2, by omega, h4.trans (allDig_snoc hd).symm, h5⟩
          unfold strings_trimRightASCII_l2
          rw [if_pos (by rw [hsz, decide_eq_true_eq]; omega), hw]
          refine ⟨c, hx, true, ⟨hc.1, hc.2, by rw [has c hc.1 hc.2, decide_eq_true hd]⟩, ?_⟩
          rw [if_neg (by decide)]
          refine ⟨by omega, by omega, ?_⟩
          rw [ext_bstr, Int.toNat_natCast, List.take_left' rfl, List.drop_zero]
      · refine ⟨p ++ [c], .done ?_, ho, by omega, Iff.rfl, fun h => absurd (h c (by simp)) hd⟩
        unfold strings_trimRightASCII_l2
        rw [if_pos (by rw [hsz, decide_eq_true_eq]; omega), hw]
        refine ⟨c, hx, false, ⟨hc.1, hc.2, by rw [has c hc.1 hc.2, decide_eq_false hd]⟩, ?_⟩
        rw [if_pos (by decide)]
theorem trimL_ok {as : List Bool} (has : ∀ c : Int, 0 ≤ c → c < 256 → as.getD c.toNat false = decide (48 ≤ c ∧ c < 58)) : ∀ (d : List Int), d.length < 1000000000 → Oct d → ∃ m, Loops (strings_trimLeftASCII_l2 as) (bstr d) (bstr m) ∧ (AllDig m ↔ AllDig d) ∧ (AllDig m → m = [])
  | [], hb, ho => by
    refine ⟨[], .done ?_, Iff.rfl, fun _ => rfl⟩
    unfold strings_trimLeftASCII_l2
    rw [if_neg (by simp [size_bstr])]
  | c :: p, hb, ho => by
    have hsz : (bstr (c :: p)).size = p.length + 1 := size_bstr _
    have hc := ho c (by simp)
    have hx : idx (bints (bstr (c :: p))) 0 c := by rw [bb_of ho]; exact idx_at (k := 0) rfl (by simp)
    by_cases hd : 48 ≤ c ∧ c < 58
    · obtain ⟨m, h1, h2, h3⟩ := trimL_ok has p (by simp only [List.length_cons] at hb; omega) (fun x hx => ho x (List.mem_cons_of_mem _ hx))
      refine ⟨m, .next ?_ h1, h2.trans (allDig_cons hd).symm, h3⟩
      unfold strings_trimLeftASCII_l2
      rw [if_pos (by rw [hsz, decide_eq_true_eq]; omega)]
      refine ⟨c, hx, true, ⟨hc.1, hc.2, by rw [has c hc.1 hc.2, decide_eq_true hd]⟩, ?_⟩
      rw [if_neg (by decide)]
      refine ⟨by omega, ?_⟩
      rw [ext_bstr, hsz]
      congr 2
      rw [List.take_of_length_le (by simp)]; rfl
    · refine ⟨c :: p, .done ?_, Iff.rfl, fun h => absurd (h c (by simp)) hd⟩
      unfold strings_trimLeftASCII_l2
      rw [if_pos (by rw [hsz, decide_eq_true_eq]; omega)]
      refine ⟨c, hx, false, ⟨hc.1, hc.2, by rw [has c hc.1 hc.2, decide_eq_false hd]⟩, ?_⟩
      rw [if_pos (by decide)]
theorem bs_ne {l m : List Int} (h : l.length ≠ m.length) : ¬ bstr l = bstr m := fun e => h (by rw [← size_bstr l, e, size_bstr])
theorem bs_nil {l : List Int} : decide (bstr l = bstr []) = decide (l = []) := by
  by_cases h : l = []
  · subst h; simp
  · rw [decide_eq_false h, decide_eq_false (bs_ne (by simpa using h))]
theorem trim_ok {d : List Int} (hl : d.length < 1000000000) (ho : Oct d) : ∃ m, strings_Trim (bstr d) (bstr digS) (bstr m) ∧ (m = [] ↔ AllDig d) := by
  by_cases h0 : d = []
  · subst h0
    refine ⟨[], ?_, ⟨fun _ x hx => by simp at hx, fun _ => rfl⟩⟩
    unfold strings_Trim strings_Trim_j1
    rw [if_pos (by simp), if_pos rfl]
  · obtain ⟨as, ha, has⟩ := ascii_ok
    obtain ⟨m, h1, h2, h3, h4, h5⟩ := trimR_ok has d.length d (Nat.le_refl _) hl ho
    obtain ⟨m2, g1, g2, g3⟩ := trimL_ok has m (by omega) h2
    refine ⟨m2, ?_, ⟨fun e => h4.1 (g2.1 (by subst e; intro x hx; simp at hx)), fun h => g3 (g2.2 (h4.2 h))⟩⟩
    unfold strings_Trim strings_Trim_j1
    rw [if_neg (by rw [bs_nil]; simpa using h0), bs_nil, if_neg (by decide), if_neg (by rw [size_bstr]; decide)]
    unfold strings_Trim_j2
    rw [if_neg (by decide)]
    refine ⟨(as, true), ha, ?_⟩
    rw [if_pos rfl]
    exact ⟨_, ⟨_, h1, rfl⟩, _, ⟨_, g1, rfl⟩, rfl⟩
theorem trimPre_ok {l : List Int} (hl : l.length < 1000000000) (ho : Oct l) : strings_TrimPrefix (bstr l) (bstr [45]) (bstr (if l.head? = some 45 then l.tail else l)) := by
  have hsz : (bstr l).size = l.length := size_bstr _
  have h1 : (bstr [45]).size = 1 := by rw [size_bstr]; rfl
  refine ⟨_, ⟨decide (l.head? = some 45), ?_, ?_⟩, rfl⟩
  · unfold internal_stringslite_HasPrefix
    cases l with
    | nil => rw [if_neg (by rw [h1, hsz]; simp)]; rfl
    | cons c t =>
      rw [if_pos (by rw [h1, hsz, List.length_cons, decide_eq_true_eq]; omega)]
      refine ⟨by omega, by rw [h1, hsz, List.length_cons]; omega, ?_⟩
      show _ = _
      rw [h1, ext_bstr, List.drop_zero, show ((1 : Nat) : Int).toNat = 1 from rfl, List.take_succ_cons, List.take_zero]
      by_cases hc : c = 45
      · subst hc; simp
      · rw [decide_eq_false (by simpa using hc), decide_eq_false]
        intro e
        have := bs_inj (a := [c]) (b := [45]) (fun x hx => by rw [List.mem_singleton] at hx; subst hx; exact ho x (by simp)) (fun x hx => by rw [List.mem_singleton] at hx; subst hx; decide) e
        simp at this; exact hc this
  · by_cases h : l.head? = some 45
    · rw [decide_eq_true h, if_pos rfl, if_pos h]
      obtain ⟨t, rfl⟩ : ∃ t, l = 45 :: t := by cases l with | nil => simp at h | cons x l => simp at h; exact ⟨l, by rw [h]⟩
      refine ⟨by omega, by rw [h1, hsz]; simp; omega, ?_⟩
      rw [h1, hsz, ext_bstr, List.take_of_length_le (Nat.le_refl _)]; rfl
    · rw [decide_eq_false h, if_neg (by decide), if_neg h]
theorem sread_ok {l : List Int} (hl : l.length < 1000000000) (ho : Oct l) : say_Read (bstr l) (rdB l) := by
  have hpre := trimPre_ok hl ho
  have hd : (if l.head? = some 45 then l.tail else l).length ≤ l.length ∧ Oct (if l.head? = some 45 then l.tail else l) := by
    split
    · exact ⟨by simp, fun x hx => ho x (List.mem_of_mem_tail hx)⟩
    · exact ⟨Nat.le_refl _, ho⟩
  have hpi := @pi64_rd l
  unfold rdB at hpi ⊢
  simp only at hpi ⊢
  generalize hdd : (if l.head? = some 45 then l.tail else l) = d at hpre hd hpi ⊢
  refine ⟨pi64 (bints (bstr l)), ⟨rfl, rfl, by rw [size_bstr]; omega, rfl⟩, _, hpre, ?_⟩
  rw [bb_of ho, bs_nil]
  by_cases h0 : d = []
  · rw [if_pos (by simpa using h0), if_pos (.inl h0)]
    unfold say_Read_j1
    rw [if_pos rfl]
  rw [if_neg (by simpa using h0)]
  obtain ⟨m, hm, hma⟩ := trim_ok (d := d) (by omega) hd.2
  refine ⟨_, hm, ?_⟩
  rw [bs_nil]
  by_cases hall : AllDig d
  · rw [if_neg (by simp [hma.2 hall])]
    obtain ⟨c, t, rfl⟩ : ∃ c t, d = c :: t := by cases d with | nil => exact absurd rfl h0 | cons c t => exact ⟨_, _, rfl⟩
    refine ⟨c, by rw [bb_of hd.2]; exact idx_at (k := 0) rfl (by simp), ?_⟩
    have fin : ¬ (c :: t = [] ∨ ((c :: t).head? = some 48 ∧ l ≠ [48]) ∨ ¬ AllDig (c :: t)) → say_Read_j1 (pi64 l) false (if (c :: t) = [] ∨ ((c :: t).head? = some 48 ∧ l ≠ [48]) ∨ ¬ AllDig (c :: t) then ((0 : Int), (3 : Int)) else if l.head? = some 45 then (if dval 0 (c :: t) ≤ 9223372036854775808 then (-(dval 0 (c :: t) : Int), 0) else (0, 5)) else (if dval 0 (c :: t) ≤ 9223372036854775807 then ((dval 0 (c :: t) : Int), 0) else (0, 5))) := by
      intro hn
      have := hpi (by
        rw [if_neg hn]
        repeat' split
        all_goals simp)
      unfold say_Read_j1
      rw [if_neg (by decide)]
      rcases this with ⟨h1, h2⟩ | ⟨h1, h2⟩
      · rw [h1, if_neg (by decide), h2]
      · rw [h1, if_pos rfl, h2]
    by_cases hc : c = 48
    · subst hc
      rw [if_pos (by simp)]
      by_cases h48 : l = [48]
      · rw [decide_eq_true (by rw [h48])]
        exact fin (fun h => by rcases h with h | h | h; · simp at h
                               · exact h.2 h48
                               · exact h hall)
      · rw [decide_eq_false (fun e => h48 (bs_inj ho (fun x hx => by rw [List.mem_singleton] at hx; subst hx; decide) e)), if_pos (.inr (.inl ⟨rfl, h48⟩))]
        unfold say_Read_j1
        rw [if_pos (by decide)]
    · rw [if_neg (by simpa using hc)]
      exact fin (fun h => by rcases h with h | h | h; · simp at h
                             · simp at h; exact hc h.1
                             · exact h hall)
  · rw [if_pos (by simpa using fun e => hall (hma.1 e)), if_pos (.inr (.inr hall))]
    unfold say_Read_j1
    rw [if_pos rfl]
/-! ### The document's -/
theorem rr6 {l : List Int} (hl : l.length < 1000000000) (ho : Oct l) : ∀ (d p : List Int), l = p ++ d → Loops (ref20_Read_l6 (bstr l)) (p.length : Int) (if AllDig d then .inl () else .inr (0, 3))
  | [], p, h => by
    rw [if_pos (show AllDig [] from fun x hx => by simp at hx)]
    refine .done ?_
    unfold ref20_Read_l6
    rw [if_neg (by rw [size_bstr, h]; simp)]
  | c :: d, p, h => by
    have hlen : l.length = p.length + d.length + 1 := by rw [h]; simp; omega
    have hx : idx (bints (bstr l)) (p.length : Int) c := by rw [bb_of ho, h]; exact idx_at rfl (by simp)
    have hw : IntKind.i64.wrap ((p.length : Int) + 1) = ((p ++ [c]).length : Int) := by rw [w_small (by omega) (by omega)]; simp
    by_cases hc : 48 ≤ c ∧ c < 58
    · have ih := rr6 hl ho d (p ++ [c]) (by rw [h]; simp)
      rw [show (if AllDig (c :: d) then (Sum.inl () : Sum Unit (Int × Int)) else .inr (0, 3)) = if AllDig d then .inl () else .inr (0, 3) by
        by_cases h : AllDig d
        · rw [if_pos h, if_pos ((allDig_cons hc).2 h)]
        · rw [if_neg h, if_neg (fun hq => h ((allDig_cons hc).1 hq))]]
      refine .next ?_ ih
      unfold ref20_Read_l6
      rw [if_pos (by rw [size_bstr, decide_eq_true_eq]; omega)]
      refine ⟨c, hx, ?_⟩
      rw [if_neg (by rw [decide_eq_true_eq]; omega)]
      refine ⟨c, hx, ?_⟩
      unfold ref20_Read_j7
      rw [if_neg (by rw [decide_eq_true_eq]; omega), hw]
    · rw [if_neg (fun hq => hc (hq c (by simp)))]
      refine .done ?_
      unfold ref20_Read_l6
      rw [if_pos (by rw [size_bstr, decide_eq_true_eq]; omega)]
      refine ⟨c, hx, ?_⟩
      by_cases h48 : c < 48
      · rw [if_pos (by simpa using h48)]; unfold ref20_Read_j7; rw [if_pos rfl]
      · rw [if_neg (by simpa using h48)]
        refine ⟨c, hx, ?_⟩
        unfold ref20_Read_j7
        rw [if_pos (by rw [decide_eq_true_eq]; omega)]
theorem rr5 {l : List Int} (hl : l.length < 1000000000) (ho : Oct l) : ∀ (d p : List Int) (v : Nat), l = p ++ d → AllDig d → v ≤ 9223372036854775808 → Loops (ref20_Read_l5 (bstr l)) (-(v : Int), (p.length : Int)) (if dval v d ≤ 9223372036854775808 then .inl (-(dval v d : Int)) else .inr (0, 5))
  | [], p, v, h, hd, hv => by
    rw [if_pos (show dval v [] ≤ _ from hv)]
    refine .done ?_
    unfold ref20_Read_l5
    rw [if_neg (by rw [size_bstr, h]; simp)]
    rfl
  | c :: d, p, v, h, hd, hv => by
    have hlen : l.length = p.length + d.length + 1 := by rw [h]; simp; omega
    have hx : idx (bints (bstr l)) (p.length : Int) c := by rw [bb_of ho, h]; exact idx_at rfl (by simp)
    have hw : IntKind.i64.wrap ((p.length : Int) + 1) = ((p ++ [c]).length : Int) := by rw [w_small (by omega) (by omega)]; simp
    have hc := hd c (by simp)
    have e1 : IntKind.i64.wrap (IntKind.i64.wrap c - 48) = c - 48 := by rw [w_small (n := c) (by omega) (by omega), w_small (by omega) (by omega)]
    have e2 : IntKind.i64.wrap ((IntKind.i64.wrap ((-9223372036854775808) + (c - 48))).tdiv 10) = -((9223372036854775808 - (c - 48)) / 10) := by
      rw [w_small (n := (-9223372036854775808) + (c - 48)) (by omega) (by omega), show (-9223372036854775808 : Int) + (c - 48) = -(9223372036854775808 - (c - 48)) by omega, Int.neg_tdiv, Int.tdiv_eq_ediv_of_nonneg (by omega), w_small (by omega) (by omega)]
    rw [dval_cons]
    by_cases hov : 10 * v + (c - 48).toNat ≤ 9223372036854775808
    · have ih := rr5 hl ho d (p ++ [c]) (10 * v + (c - 48).toNat) (by rw [h]; simp) (fun x hx => hd x (List.mem_cons_of_mem _ hx)) hov
      refine .next ?_ ih
      unfold ref20_Read_l5
      simp only
      rw [if_pos (by rw [size_bstr, decide_eq_true_eq]; omega)]
      refine ⟨c, hx, ?_⟩
      rw [e1, e2, if_neg (by rw [decide_eq_true_eq]; omega), hw, w_small (n := 10 * -(v : Int)) (by omega) (by omega), w_small (by omega) (by omega)]
      congr 2; omega
    · have hge := dval_ge d (10 * v + (c - 48).toNat)
      rw [if_neg (by omega)]
      refine .done ?_
      unfold ref20_Read_l5
      simp only
      rw [if_pos (by rw [size_bstr, decide_eq_true_eq]; omega)]
      refine ⟨c, hx, ?_⟩
      rw [e1, e2, if_pos (by rw [decide_eq_true_eq]; omega)]
      try trivial
theorem rr_j1 {l p d : List Int} (hl : l.length < 1000000000) (ho : Oct l) (h : l = p ++ d) (hp : p = [] ∨ p = [45]) (s1 : Int) (hs1 : s1 = (p.length : Int)) : ref20_Read_j1 (bstr l) s1 (if d = [] ∨ (d.head? = some 48 ∧ l ≠ [48]) ∨ ¬ AllDig d then (0, 3) else if s1 = 1 then (if dval 0 d ≤ 9223372036854775808 then (-(dval 0 d : Int), 0) else (0, 5)) else (if dval 0 d ≤ 9223372036854775807 then ((dval 0 d : Int), 0) else (0, 5))) := by
  subst hs1
  unfold ref20_Read_j1
  have hlen : l.length = p.length + d.length := by rw [h]; simp
  by_cases h0 : d = []
  · rw [if_pos (show d = [] ∨ _ ∨ _ from .inl h0), if_pos (by rw [size_bstr, decide_eq_true_eq, hlen, h0]; simp)]
    unfold ref20_Read_j2
    rw [if_pos rfl]
  · have hdp := List.length_pos_iff.2 h0
    rw [if_neg (by rw [size_bstr, decide_eq_true_eq]; omega)]
    obtain ⟨c, t, rfl⟩ : ∃ c t, d = c :: t := by cases d with | nil => exact absurd rfl h0 | cons c t => exact ⟨_, _, rfl⟩
    refine ⟨c, by rw [bb_of ho, h]; exact idx_at rfl (by simp), ?_⟩
    have fin : ¬ ((c :: t).head? = some 48 ∧ l ≠ [48]) → ref20_Read_j2 (bstr l) (p.length : Int) false (if c :: t = [] ∨ ((c :: t).head? = some 48 ∧ l ≠ [48]) ∨ ¬ AllDig (c :: t) then (0, 3) else if (p.length : Int) = 1 then (if dval 0 (c :: t) ≤ 9223372036854775808 then (-(dval 0 (c :: t) : Int), 0) else (0, 5)) else (if dval 0 (c :: t) ≤ 9223372036854775807 then ((dval 0 (c :: t) : Int), 0) else (0, 5))) := by
      intro hn
      unfold ref20_Read_j2
      rw [if_neg (by decide)]
      have h6 := rr6 hl ho (c :: t) p h
      refine ⟨_, h6, ?_⟩
      by_cases hall : AllDig (c :: t)
      · rw [if_pos hall, if_neg (fun hq => hq.elim (by simp) (fun hq => hq.elim hn (fun h => h hall)))]
        show ref20_Read_j3 _ _ () _
        have h5 := rr5 hl ho (c :: t) p 0 h hall (by omega)
        rw [show -((0 : Nat) : Int) = 0 from rfl] at h5
        refine ⟨_, h5, ?_⟩
        by_cases hv : dval 0 (c :: t) ≤ 9223372036854775808
        · simp only [if_pos hv]
          show ref20_Read_j4 _ _ _
          unfold ref20_Read_j4
          by_cases h1 : (p.length : Int) = 1
          · rw [if_pos (by simpa using h1), if_pos h1]
          · rw [if_neg (by simpa using h1), if_neg h1]
            by_cases hv2 : dval 0 (c :: t) ≤ 9223372036854775807
            · rw [if_neg (by rw [decide_eq_true_eq]; omega), if_pos hv2, w_small (by omega) (by omega)]
              congr 1; omega
            · rw [if_pos (by rw [decide_eq_true_eq]; omega), if_neg hv2]
        · have hv2 : ¬ dval 0 (c :: t) ≤ 9223372036854775807 := by omega
          simp only [if_neg hv, if_neg hv2]
          show (if (p.length : Int) = 1 then ((0 : Int), (5 : Int)) else (0, 5)) = (0, 5)
          split <;> rfl
      · rw [if_neg hall, if_pos (.inr (.inr hall))]; rfl
    by_cases hc : c = 48
    · subst hc
      rw [if_pos (by simp)]
      by_cases h48 : l = [48]
      · rw [decide_eq_false (by rw [size_bstr, h48]; decide)]
        exact fin (fun h => h.2 h48)
      · have : decide ((1 : Int) < ((bstr l).size : Int)) = true := by
          rw [size_bstr, decide_eq_true_eq]
          rcases hp with rfl | rfl
          · cases t with
            | nil => exact absurd h h48
            | cons x t => rw [h]; simp; omega
          · rw [h]; simp; omega
        rw [this, if_pos (.inr (.inl ⟨rfl, h48⟩))]
        unfold ref20_Read_j2
        rw [if_pos rfl]
    · rw [if_neg (by simpa using hc)]
      exact fin (fun h => hc (by simpa using h.1))
theorem rread_ok {l : List Int} (hl : l.length < 1000000000) (ho : Oct l) : ref20_Read (bstr l) (rdB l) := by
  unfold ref20_Read rdB
  by_cases h45 : l.head? = some 45
  · obtain ⟨t, rfl⟩ : ∃ t, l = 45 :: t := by cases l with | nil => simp at h45 | cons x l => simp at h45; exact ⟨l, by rw [h45]⟩
    rw [if_pos (by rw [size_bstr]; simp)]
    refine ⟨45, by rw [bb_of ho]; exact idx_at (k := 0) rfl (by simp), ?_⟩
    unfold ref20_Read_j8
    rw [if_pos (by decide)]
    have := rr_j1 (p := [45]) (d := t) hl ho rfl (.inr rfl) 1 rfl
    simpa using this
  · have := rr_j1 (p := []) (d := l) hl ho rfl (.inl rfl) 0 rfl
    simp only [if_neg h45]
    rw [if_neg (show ¬ (0 : Int) = 1 by decide)] at this
    cases l with
    | nil =>
      rw [if_neg (by rw [size_bstr]; decide)]
      unfold ref20_Read_j8
      rw [if_neg (by decide)]; exact this
    | cons c t =>
      rw [if_pos (by rw [size_bstr]; simp)]
      refine ⟨c, by rw [bb_of ho]; exact idx_at (k := 0) rfl (by simp), ?_⟩
      unfold ref20_Read_j8
      rw [decide_eq_false (fun e => h45 (by simp [e])), if_neg (by decide)]; exact this
/-! ### Words -/
def wrdsP (a : Nat) : List (List Int) → List (Int × ByteArray)
  | [] => []
  | w :: ws => ((a : Int), bstr w) :: wrdsP (a + w.length + 1) ws
theorem wrdsP_len : ∀ (ws : List (List Int)) (a : Nat), (wrdsP a ws).length = ws.length
  | [], _ => rfl
  | w :: ws, a => by simp [wrdsP, wrdsP_len ws]
theorem words_run {S : Type} {Y : Int × ByteArray → S → Bool × S → Prop} {s' : S} : ∀ (ws : List (List Int)) (a : Nat) (s : S), a + (ws.map List.length).sum + ws.length < 1000000000 → Run Y (wrdsP a ws) s s' →
    ∃ t, RunB (say_Words_1_l1 S Y) (ws.map bstr) (s, (a : Int)) t ∧ ((∃ n, t = .inl (s', n)) ∨ ∃ n, t = .inr (s', n))
  | [], a, s, h, hr => by cases hr; exact ⟨_, .nil, .inl ⟨_, rfl⟩⟩
  | w :: ws, a, s, h, hr => by
    simp only [List.map_cons, List.sum_cons, List.length_cons] at h
    have hw : IntKind.i64.wrap ((a : Int) + IntKind.i64.wrap (((bstr w).size : Int) + 1)) = ((a + w.length + 1 : Nat) : Int) := by
      rw [size_bstr, w_small (n := (w.length : Int) + 1) (by omega) (by omega), w_small (by omega) (by omega)]; omega
    rw [wrdsP] at hr
    cases hr with
    | go h1 h2 =>
      obtain ⟨t, h3, h4⟩ := words_run ws (a + w.length + 1) _ (by omega) h2
      refine ⟨t, .go ?_ h3, h4⟩
      refine ⟨true, _, h1, ?_⟩
      rw [if_neg (by decide), hw]
    | stop h1 =>
      refine ⟨.inr (s', (a : Int)), .stop ⟨false, _, h1, by rw [if_pos (by decide)]⟩, .inr ⟨_, rfl⟩⟩
theorem splitL_tot {c : Int} : ∀ l : List Int, ((splitL c l).map List.length).sum + (splitL c l).length = l.length + 1
  | [] => by simp [splitL]
  | x :: l => by
    have ih := @splitL_tot c l
    have hne := splitL_ne c l
    rw [splitL]
    split
    · simp only [List.map_cons, List.sum_cons, List.length_cons, List.length_nil]; omega
    · cases hq : splitL c l with
      | nil => exact absurd hq hne
      | cons p ps => rw [hq] at ih; simp only [glue, List.map_cons, List.sum_cons, List.length_cons, List.length_append, List.length_nil] at ih ⊢; omega
theorem words_itr {l : List Int} (hl : l.length < 100000000) (ho : Oct l) : Itr (say_Words_1 (bstr l)) (wrdsP 0 (splitL 32 l)) := by
  intro S Y s s' h
  have htot := @splitL_tot 32 l
  obtain ⟨t, h1, h2⟩ := words_run (splitL 32 l) 0 s (by omega) h
  obtain ⟨rest, h3⟩ := split_itr (c := 32) (by decide) (by omega) ho (run_yof h1)
  refine ⟨_, splitSeq_ok l 32, t, rest, h3, ?_⟩
  rcases h2 with ⟨n, rfl⟩ | ⟨n, rfl⟩ <;> rfl
theorem words_ok (s : ByteArray) : say_Words s (say_Words_1 s) := rfl
end Go.Rel
/-! Plain laws: texts cut at a byte, and joined. -/
namespace Go.Rel
open Go Go.Eng Go.Pl
theorem spl_join {c : Int} : ∀ {l w0 : List Int} {ws : List (List Int)}, splitL c l = w0 :: ws → l = w0 ++ ws.flatMap (fun w => c :: w)
  | [], w0, ws, h => by simp [splitL] at h; obtain ⟨rfl, rfl⟩ := h; rfl
  | x :: l, w0, ws, h => by
    unfold splitL at h
    cases hq : splitL c l with
    | nil => exact absurd hq (splitL_ne _ _)
    | cons p ps =>
      have ih := spl_join hq
      rw [hq] at h
      split at h
      · rename_i hx
        cases h
        rw [List.flatMap_cons, List.nil_append, List.cons_append, ← ih, hx]
      · simp only [glue, List.cons.injEq] at h
        obtain ⟨rfl, rfl⟩ := h
        simp only [List.cons_append, List.nil_append, ← ih]
theorem spl_words {c : Int} : ∀ {ws : List (List Int)} {w0 : List Int}, c ∉ w0 → (∀ w ∈ ws, c ∉ w) → splitL c (w0 ++ ws.flatMap (fun w => c :: w)) = w0 :: ws
  | [], w0, h, _ => by rw [List.flatMap_nil, List.append_nil, splitL_no h]
  | w :: ws, w0, h, hs => by
    rw [List.flatMap_cons, List.cons_append, splitL_at h, spl_words (hs w List.mem_cons_self) (fun v hv => hs v (List.mem_cons_of_mem _ hv))]
theorem spl_sub {c : Int} : ∀ {l : List Int}, ∀ w ∈ splitL c l, w.length ≤ l.length ∧ (∀ x ∈ w, x ∈ l)
  | [], w, h => by simp [splitL] at h; subst h; simp
  | x :: l, w, h => by
    unfold splitL at h
    split at h
    · rcases List.mem_cons.1 h with rfl | h
      · simp
      · have := spl_sub (l := l) w h
        exact ⟨by simp; omega, fun y hy => List.mem_cons_of_mem _ (this.2 y hy)⟩
    · have hs := @spl_sub c l
      cases hq : splitL c l with
      | nil => rw [hq] at h; simp [glue] at h; subst h; simp
      | cons p ps =>
        rw [hq] at h hs
        simp only [glue, List.mem_cons] at h
        rcases h with rfl | h
        · have := hs p List.mem_cons_self
          refine ⟨by simp; omega, fun y hy => ?_⟩
          simp only [List.cons_append, List.nil_append, List.mem_cons] at hy
          rcases hy with rfl | hy
          · exact List.mem_cons_self
          · exact List.mem_cons_of_mem _ (this.2 y hy)
        · have := hs w (List.mem_cons_of_mem _ h)
          exact ⟨by simp; omega, fun y hy => List.mem_cons_of_mem _ (this.2 y hy)⟩
theorem spl_len (c : Int) : ∀ l : List Int, (splitL c l).length ≤ l.length + 1
  | [] => by simp [splitL]
  | x :: l => by
    have := spl_len c l
    unfold splitL
    split
    · simp; omega
    · cases hq : splitL c l with
      | nil => simp [glue]
      | cons p ps => rw [hq] at this; simp [glue] at this ⊢; omega
theorem spl_no (c : Int) : ∀ (l : List Int), ∀ w ∈ splitL c l, c ∉ w
  | [], w, h => by simp [splitL] at h; subst h; simp
  | x :: l, w, h => by
    have ih := spl_no c l
    unfold splitL at h
    split at h
    · rcases List.mem_cons.1 h with rfl | h
      · simp
      · exact ih w h
    · rename_i hx
      cases hq : splitL c l with
      | nil => rw [hq] at h; simp [glue] at h; subst h; simpa using fun e => hx e.symm
      | cons p ps =>
        rw [hq] at h ih
        simp only [glue, List.mem_cons] at h
        rcases h with rfl | h
        · have := ih p List.mem_cons_self
          simp only [List.cons_append, List.nil_append, List.mem_cons, not_or]
          exact ⟨fun e => hx e.symm, this⟩
        · exact ih w (List.mem_cons_of_mem _ h)
end Go.Rel
/-! Plain laws: what arrives on a bad line, and its lines. -/
namespace Go.Rel
open Go Go.Eng Go.Pl
theorem nsame_ok {a b : List Int} (hlen : a.length < 4611686018427387904) : ref01_Same a b (decide (a = b)) := by
  unfold ref01_Same
  by_cases hl : a.length = b.length
  · rw [if_neg (by simp; omega)]
    have key := loops_inv (step := ref01_Same_l2 a b) (s := 0) (fun k (s : Int) => s = (k : Int) ∧ ∀ j (h : j < a.length), j < k → a[j] = b[j]'(by omega)) (fun e => Aft (fun p18 => ref01_Same_j1 p18 (decide (a = b))) (fun p19 => decide (a = b) = p19) e) a.length ⟨rfl, fun j _ h => by omega⟩ ?_ ?_
    · exact key
    · rintro k s hk ⟨rfl, h2⟩
      by_cases he : a[k] = b[k]'(by omega)
      · left
        refine ⟨((k + 1 : Nat) : Int), ?_, rfl, fun j h hj => ?_⟩
        · unfold ref01_Same_l2
          rw [if_pos (by simp; omega)]
          refine ⟨a[k], idx_of hk, b[k]'(by omega), idx_of (by omega), ?_⟩
          rw [if_neg (by simp [he]), w_small (by omega) (by omega)]; rfl
        · by_cases e : j = k
          · subst e; exact he
          · exact h2 j h (by omega)
      · right
        refine ⟨.inr false, ?_, ?_⟩
        · unfold ref01_Same_l2
          rw [if_pos (by simp; omega)]
          refine ⟨a[k], idx_of hk, b[k]'(by omega), idx_of (by omega), ?_⟩
          rw [if_pos (by simpa using he)]
        · show decide (a = b) = false
          rw [decide_eq_false]
          intro e; subst e; exact he rfl
    · rintro s ⟨rfl, h2⟩
      refine ⟨.inl (), ?_, ?_⟩
      · unfold ref01_Same_l2
        rw [if_neg (by simp)]
      · show decide (a = b) = true
        rw [decide_eq_true]
        exact List.ext_getElem hl fun j h _ => h2 j h h
  · rw [if_pos (by simp; omega), decide_eq_false]
    intro e; exact hl (by rw [e])
abbrev It := Int × Int × Int × Int × List Int
def wholeL : List Int := [119, 104, 111, 108, 101]
def cutL : List Int := [99, 117, 116]
def turnL : List Int := [116, 117, 114, 110]
def junkL : List Int := [106, 117, 110, 107]
def wordN (k : Int) : List Int := if k = 1 then wholeL else if k = 2 then cutL else if k = 3 then turnL else if k = 4 then junkL else []
def needN (k : Int) : Int := if k = 1 then 1 else if k = 2 then 3 else if k = 3 then 3 else 0
theorem word_ok (k : Int) : noise_word k (bstr (wordN k), needN k) := by
  unfold noise_word wordN needN wholeL cutL turnL junkL
  by_cases h1 : k = 1
  · simp [h1]
  by_cases h2 : k = 2
  · simp [h2]
  by_cases h3 : k = 3
  · simp [h3]
  by_cases h4 : k = 4
  · simp [h4]
  simp [h1, h2, h3, h4]
/-! ### Lines -/
def hexE (l : List Int) : List Int := if l = [] then [45] else hexL l
theorem nhex_ok {l : List Int} (ho : Oct l) (hl : l.length < 1000000) : noise_hex l (bstr (hexE l)) := by
  unfold noise_hex hexE
  by_cases h0 : l = []
  · subst h0; rw [if_pos (by simp), if_pos rfl]
  · have hp := List.length_pos_iff.2 h0
    rw [if_neg (by rw [decide_eq_true_eq]; omega), if_neg h0]
    have := loops_count (step := noise_hex_l2 l) (e := hexL l) (fun k => (hexL (l.take k), (k : Int))) l.length (fun k hk => by
      have hb := ho _ (List.getElem_mem hk)
      have hs : (hexL (l.take k)).length ≤ 2 * l.length := by rw [hexL_len, List.length_take]; omega
      unfold noise_hex_l2
      rw [if_pos (by simpa using hk)]
      refine ⟨l[k], idx_of hk, hexD (l[k] / 16), ?_, hexD (l[k] % 16), ?_, ?_⟩
      · rw [ishr_4]; exact hex_at (by omega) (by omega)
      · rw [iand_15 hb.1 hb.2]; exact hex_at (by omega) (by omega)
      · simp only [List.length_cons, List.length_nil]
        refine ⟨by omega, by omega, ?_⟩
        rw [w_small (by omega) (by omega), List.take_succ_eq_append_getElem hk, hexL_snoc]; rfl) (by
      unfold noise_hex_l2
      rw [if_neg (by simp), List.take_length])
    exact ⟨hexL l, by simpa [hexL] using this, rfl⟩
theorem rhexE_ok {l : List Int} (ho : Oct l) (hl : l.length < 1000000) : ref26_Hex l (bstr (hexE l)) := by
  unfold hexE
  by_cases h0 : l = []
  · subst h0
    unfold ref26_Hex
    rw [if_pos (by simp), if_pos rfl]
  · rw [if_neg h0]; exact rhex26_ok ho hl h0
theorem hexE_len (l : List Int) : (hexE l).length ≤ 2 * l.length + 1 := by
  unfold hexE; split
  · simp
  · rw [hexL_len]; omega
def numL3 (it : It) : List Int := if it.1 = 1 then [it.2.1] else [it.2.1, it.2.2.1, it.2.2.2.1]
def lineN (it : It) : List Int := if it.1 = 4 then junkL ++ 32 :: hexE it.2.2.2.2 else if it.1 = 1 ∨ it.1 = 2 ∨ it.1 = 3 then wordN it.1 ++ (numL3 it).flatMap (fun n => 32 :: decI n) else []
structure ItOk (it : It) : Prop where
  k : IntOk .i64 it.1
  r : IntOk .i64 it.2.1
  a : IntOk .i64 it.2.2.1
  n : IntOk .i64 it.2.2.2.1
  o : Oct it.2.2.2.2
  l : it.2.2.2.2.length ≤ 1000
theorem nl_go {it : It} {w : ByteArray} {need : Int} {v : Int} {acc : List Int} (i : Nat) (hi : i < 3) (hn : (i : Int) < need) (hv : [it.2.1, it.2.2.1, it.2.2.2.1].getD i 0 = v) (ho : IntOk .i64 v) (ha : acc.length < 1000) : noise_Line_l2 it (w, need) (bstr acc, (i : Int)) (.inl (bstr (acc ++ 32 :: decI v), ((i + 1 : Nat) : Int))) := by
  have hd := decI_len ho
  unfold noise_Line_l2
  simp only
  rw [if_pos (by rw [decide_eq_true_eq]; omega)]
  refine ⟨by omega, by omega, ?_⟩
  rw [if_pos (by simpa using hn), Int.toNat_natCast, hv]
  refine ⟨bstr (decI v), ⟨_, itoa_ok ho, rfl⟩, by rw [size_bstr, size_bstr, List.length_singleton]; omega, by rw [ByteArray.size_append, size_bstr, size_bstr, size_bstr, List.length_singleton]; omega, ?_⟩
  unfold noise_Line_j3
  rw [← bstr_append, ← bstr_append, w_small (by omega) (by omega)]; rfl
theorem nl_skip {it : It} {w : ByteArray} {need : Int} {s : ByteArray} (i : Nat) (hi : i < 3) (hn : need ≤ (i : Int)) : noise_Line_l2 it (w, need) (s, (i : Int)) (.inl (s, ((i + 1 : Nat) : Int))) := by
  unfold noise_Line_l2
  simp only
  rw [if_pos (by rw [decide_eq_true_eq]; omega)]
  refine ⟨by omega, by omega, ?_⟩
  rw [if_neg (by rw [decide_eq_true_eq]; omega)]
  unfold noise_Line_j3
  rw [w_small (by omega) (by omega)]; rfl
theorem nl_end {it : It} {w : ByteArray} {need : Int} {s : ByteArray} : noise_Line_l2 it (w, need) (s, ((3 : Nat) : Int)) (.inr s) := by
  unfold noise_Line_l2
  rw [if_neg (by simp)]
theorem wordN_len (k : Int) : (wordN k).length ≤ 5 := by
  unfold wordN; repeat' split
  all_goals decide
theorem lineN_4 {it : It} (h : it.1 = 4) : lineN it = junkL ++ 32 :: hexE it.2.2.2.2 := if_pos h
theorem lineN_1 {it : It} (h : it.1 = 1) : lineN it = wholeL ++ 32 :: decI it.2.1 := by
  unfold lineN numL3; rw [if_neg (by omega), if_pos (.inl h), if_pos h, h]; simp [wordN]
theorem lineN_23 {it : It} (h : it.1 = 2 ∨ it.1 = 3) : lineN it = wordN it.1 ++ 32 :: decI it.2.1 ++ 32 :: decI it.2.2.1 ++ 32 :: decI it.2.2.2.1 := by
  unfold lineN numL3; rw [if_neg (by omega), if_pos (by omega), if_neg (by omega)]; simp
theorem lineN_no {it : It} (h : ¬ (1 ≤ it.1 ∧ it.1 ≤ 4)) : lineN it = [] := by
  unfold lineN; rw [if_neg (by omega), if_neg (by omega)]
theorem wordN_no {k : Int} (h : ¬ (1 ≤ k ∧ k ≤ 4)) : wordN k = [] := by
  unfold wordN; rw [if_neg (by omega), if_neg (by omega), if_neg (by omega), if_neg (by omega)]
theorem nline_ok {it : It} (h : ItOk it) : noise_Line it (bstr (lineN it)) := by
  refine ⟨_, word_ok it.1, ?_⟩
  have hd1 := decI_len h.r
  have hd2 := decI_len h.a
  have hl := h.l
  have hx := hexE_len it.2.2.2.2
  simp only
  rw [bs_nil]
  by_cases h4 : it.1 = 4
  · rw [lineN_4 h4, h4, show wordN 4 = junkL from rfl, show needN 4 = 0 from rfl, if_neg (by decide), if_pos (by decide)]
    refine ⟨by rw [size_bstr, size_bstr]; decide, _, nhex_ok h.o (by omega), ?_, ?_⟩
    · rw [ByteArray.size_append, size_bstr, size_bstr, size_bstr]; simp only [junkL, List.length_cons, List.length_nil]; omega
    · rw [← bstr_append, ← bstr_append]; simp
  by_cases h1 : it.1 = 1
  · rw [lineN_1 h1, h1, show wordN 1 = wholeL from rfl, show needN 1 = 1 from rfl, if_neg (by decide), if_neg (by decide)]
    exact ⟨_, .next (nl_go (acc := wholeL) 0 (by decide) (by decide) rfl h.r (by decide)) (.next (nl_skip 1 (by decide) (by decide)) (.next (nl_skip 2 (by decide) (by decide)) (.done nl_end))), rfl⟩
  by_cases h23 : it.1 = 2 ∨ it.1 = 3
  · have hn : needN it.1 = 3 := by rcases h23 with h | h <;> rw [h] <;> rfl
    have hw : ¬ wordN it.1 = [] := by rcases h23 with h | h <;> rw [h] <;> decide
    have hwl := wordN_len it.1
    rw [lineN_23 h23, hn, if_neg (by simpa using hw), if_neg (by simp)]
    exact ⟨_, .next (nl_go (acc := wordN it.1) 0 (by decide) (by decide) rfl h.r (by omega)) (.next (nl_go (acc := wordN it.1 ++ 32 :: decI it.2.1) (v := it.2.2.1) 1 (by decide) (by decide) rfl h.a (by simp only [List.length_append, List.length_cons]; omega)) (.next (nl_go (acc := wordN it.1 ++ 32 :: decI it.2.1 ++ 32 :: decI it.2.2.1) (v := it.2.2.2.1) 2 (by decide) (by decide) rfl h.n (by simp only [List.length_append, List.length_cons]; omega)) (.done nl_end))), rfl⟩
  · rw [lineN_no (by omega), wordN_no (by omega), if_pos (by decide)]
theorem nrline_ok {it : It} (h : ItOk it) : ref26_Line it (bstr (lineN it)) := by
  have hd1 := decI_len h.r
  have hd2 := decI_len h.a
  have hd3 := decI_len h.n
  have hl := h.l
  have hx := hexE_len it.2.2.2.2
  refine ⟨_, digits_ok h.r, ?_, _, digits_ok h.a, ?_, ?_, _, digits_ok h.n, ?_, ?_⟩
  all_goals try (simp only [ByteArray.size_append, size_bstr, List.length_cons, List.length_nil]; omega)
  by_cases h1 : it.1 = 1
  · rw [lineN_1 h1, if_pos (by simpa using h1)]
    refine ⟨_, digits_ok h.r, ?_, ?_⟩
    · simp only [size_bstr, List.length_cons, List.length_nil]; omega
    · rw [← bstr_append]; rfl
  rw [if_neg (by simpa using h1)]
  by_cases h2 : it.1 = 2
  · rw [lineN_23 (.inl h2), if_pos (by simpa using h2), h2]
    refine ⟨?_, ?_⟩
    · simp only [ByteArray.size_append, size_bstr, List.length_cons, List.length_nil]; omega
    · simp only [← bstr_append]; simp [wordN, cutL]
  rw [if_neg (by simpa using h2)]
  by_cases h3 : it.1 = 3
  · rw [lineN_23 (.inr h3), if_pos (by simpa using h3), h3]
    refine ⟨?_, ?_⟩
    · simp only [ByteArray.size_append, size_bstr, List.length_cons, List.length_nil]; omega
    · simp only [← bstr_append]; simp [wordN, turnL]
  rw [if_neg (by simpa using h3)]
  by_cases h4 : it.1 = 4
  · rw [lineN_4 h4, if_pos (by simpa using h4)]
    refine ⟨_, rhexE_ok h.o (by omega), ?_, ?_⟩
    · simp only [size_bstr, List.length_cons, List.length_nil]; omega
    · rw [← bstr_append]; rfl
  · rw [lineN_no (by omega), if_neg (by simpa using h4)]
/-! ### A line is parsed -/
theorem shl4_or {x y : Int} (hx : 0 ≤ x ∧ x < 16) (hy : 0 ≤ y ∧ y < 16) : IntKind.u8.wrap (ior .i64 (ishl .i64 x 4) y) = 16 * x + y := by
  obtain ⟨a, rfl⟩ := Int.eq_ofNat_of_zero_le hx.1
  obtain ⟨b, rfl⟩ := Int.eq_ofNat_of_zero_le hy.1
  have ha : a < 16 := by omega
  have hb : b < 16 := by omega
  have key : ∀ a : Nat, a < 16 → ∀ b : Nat, b < 16 → IntKind.u8.wrap (ior .i64 (ishl .i64 (a : Int) 4) (b : Int)) = 16 * (a : Int) + (b : Int) := by decide
  exact key a ha b hb
theorem hv_neg {c : Int} : decide ((hv c).getD (-1) < 0) = (hv c).isNone := by
  cases hq : hv c with
  | none => rfl
  | some n => have := hv_some hq; simp; omega
theorem nunhex_run {w : List Int} (ho : Oct w) (hl : w.length < 1000000) : ∀ (n : Nat) (l pre out : List Int), l.length ≤ n → w = pre ++ l → l.length % 2 = 0 → out.length + l.length ≤ w.length →
    Loops (noise_unhex_l3 (bstr w)) (out, (pre.length : Int)) (match unhexL l with
      | none => .inr ([], 3)
      | some r => .inl (out ++ r))
  | n, [], pre, out, hn, hw, he, ho2 => by
    refine .done ?_
    unfold noise_unhex_l3
    rw [if_neg (by rw [size_bstr, hw]; simp)]
    simp [unhexL]
  | n, [x], pre, out, hn, hw, he, ho2 => by simp at he
  | 0, a :: b :: l, pre, out, hn, hw, he, ho2 => by simp at hn
  | n + 1, a :: b :: l, pre, out, hn, hw, he, ho2 => by
    simp only [List.length_cons] at hn he ho2
    have hlen : w.length = pre.length + l.length + 2 := by rw [hw]; simp; omega
    have ha := ho a (by rw [hw]; simp)
    have hb := ho b (by rw [hw]; simp)
    have i1 : idx (bints (bstr w)) (pre.length : Int) a := by rw [bb_of ho, hw]; exact idx_at rfl (by simp)
    have i2 : idx (bints (bstr w)) (IntKind.i64.wrap ((pre.length : Int) + 1)) b := by
      rw [bb_of ho, w_small (by omega) (by omega)]
      exact idx_at (k := pre.length + 1) (by omega) (by rw [hw, List.getElem?_append_right (by omega)]; simp)
    have stp : ∀ o, noise_unhex_j4 (out, (pre.length : Int)) ((hv a).getD (-1)) ((hv b).getD (-1)) ((hv a).isNone || (hv b).isNone) o → noise_unhex_l3 (bstr w) (out, (pre.length : Int)) o := by
      intro o h
      unfold noise_unhex_l3
      rw [if_pos (by rw [size_bstr, decide_eq_true_eq]; omega)]
      refine ⟨a, i1, _, place_hv ha, b, i2, _, place_hv hb, ?_⟩
      rw [hv_neg, hv_neg]
      cases hqa : (hv a).isNone with
      | true => rw [hqa] at h; rw [if_pos rfl]; simpa using h
      | false => rw [hqa] at h; rw [if_neg (by decide)]; simpa using h
    have bad : ((hv a).isNone || (hv b).isNone) = true → noise_unhex_l3 (bstr w) (out, (pre.length : Int)) (.inr (.inr ([], 3))) := fun h => stp _ (by
      rw [h]; unfold noise_unhex_j4; rw [if_pos rfl])
    unfold unhexL
    cases hqa : hv a with
    | none => exact .done (bad (by rw [hqa]; rfl))
    | some x =>
      cases hqb : hv b with
      | none => exact .done (bad (by rw [hqa, hqb]; rfl))
      | some y =>
        have hx := hv_some hqa
        have hy := hv_some hqb
        have go : noise_unhex_l3 (bstr w) (out, (pre.length : Int)) (.inl (out ++ [16 * x + y], ((pre ++ [a, b]).length : Int))) := stp _ (by
          rw [hqa, hqb]
          unfold noise_unhex_j4
          rw [if_neg (by simp)]
          simp only [Option.getD_some, List.length_singleton]
          rw [shl4_or ⟨hx.1, hx.2.1⟩ ⟨hy.1, hy.2.1⟩]
          refine ⟨by omega, by omega, ?_⟩
          rw [w_small (by omega) (by omega)]; simp)
        have ih := nunhex_run ho hl n l (pre ++ [a, b]) (out ++ [16 * x + y]) (by omega) (by rw [hw]; simp) (by omega) (by rw [List.length_append, List.length_singleton]; omega)
        refine .next go ?_
        cases hr : unhexL l with
        | none => rw [hr] at ih; exact ih
        | some r => rw [hr] at ih; simpa using ih
theorem nunhex_ok {w : List Int} (ho : Oct w) (hl : w.length < 1000000) : noise_unhex (bstr w) (unhexR w) := by
  have h45 : Oct [45] := fun x hx => by simp at hx; omega
  have h0 : Oct [] := fun x hx => nomatch hx
  unfold noise_unhex unhexR
  by_cases e1 : w = [45]
  · rw [if_pos (by simp [e1]), if_pos e1]
  · rw [if_neg (bstr_ne ho h45 e1), if_neg e1]
    by_cases e2 : w = []
    · rw [if_pos (by simp [e2]), if_pos e2]
      unfold noise_unhex_j1; rw [if_pos rfl]
    · rw [if_neg (bstr_ne ho h0 e2), if_neg e2]
      unfold noise_unhex_j1
      have hm : ((bstr w).size : Int).tmod 2 = ((w.length % 2 : Nat) : Int) := by rw [size_bstr, Int.tmod_eq_emod_of_nonneg (by omega)]; rfl
      rw [hm]
      by_cases e3 : w.length % 2 = 1
      · rw [if_pos (by rw [decide_eq_false (by omega)]; rfl), unhexL_odd w.length w (Nat.le_refl _) e3]
      · rw [if_neg (by rw [decide_eq_true (by omega)]; decide)]
        have h1 := nunhex_run ho hl w.length w [] [] (Nat.le_refl _) rfl (by omega) (by simp)
        refine ⟨_, h1, ?_⟩
        cases unhexL w with
        | none => rfl
        | some r => rfl
end Go.Rel
/-! Plain laws: the item of a line. -/
namespace Go.Rel
open Go Go.Eng Go.Pl
theorem gatherN {B : Int × ByteArray → List ByteArray → Sum (List ByteArray) Unit → Prop} (hB : ∀ x s, s.length < 1000000000 → B x s (.inl (s ++ [x.2]))) : ∀ (ws : List (List Int)) (a : Nat) (s : List ByteArray), s.length + ws.length < 1000000000 → RunB B (wrdsP a ws) s (.inl (s ++ ws.map bstr))
  | [], a, s, _ => by rw [List.map_nil, List.append_nil]; exact .nil
  | w :: ws, a, s, h => by
    simp only [List.length_cons] at h
    have ih := gatherN hB ws (a + w.length + 1) (s ++ [bstr w]) (by simp; omega)
    rw [List.map_cons, show s ++ bstr w :: ws.map bstr = s ++ [bstr w] ++ ws.map bstr by simp]
    exact .go (hB _ _ (by omega)) ih
def noI : It := (0, 0, 0, 0, [])
def kindN (w : List Int) : Int := if wordN 4 = w then 4 else if wordN 3 = w then 3 else if wordN 2 = w then 2 else if wordN 1 = w then 1 else 0
def numN (k : Int) : List (List Int) → It × Int
  | [w] => if k = 4 then (if (unhexR w).2 = 0 then ((4, 0, 0, 0, (unhexR w).1), 0) else (noI, (unhexR w).2)) else (if (rdB w).2 = 0 then ((k, (rdB w).1, 0, 0, []), 0) else (noI, (rdB w).2))
  | [w1, w2, w3] => if (rdB w1).2 ≠ 0 then (noI, (rdB w1).2) else if (rdB w2).2 ≠ 0 then (noI, (rdB w2).2) else if (rdB w3).2 ≠ 0 then (noI, (rdB w3).2) else ((k, (rdB w1).1, (rdB w2).1, (rdB w3).1, []), 0)
  | _ => (noI, 3)
theorem numN_1 (k : Int) (w : List Int) : numN k [w] = if k = 4 then (if (unhexR w).2 = 0 then ((4, 0, 0, 0, (unhexR w).1), 0) else (noI, (unhexR w).2)) else (if (rdB w).2 = 0 then ((k, (rdB w).1, 0, 0, []), 0) else (noI, (rdB w).2)) := rfl
theorem numN_3 (k : Int) (w1 w2 w3 : List Int) : numN k [w1, w2, w3] = if (rdB w1).2 ≠ 0 then (noI, (rdB w1).2) else if (rdB w2).2 ≠ 0 then (noI, (rdB w2).2) else if (rdB w3).2 ≠ 0 then (noI, (rdB w3).2) else ((k, (rdB w1).1, (rdB w2).1, (rdB w3).1, []), 0) := rfl
def noiseB (l : List Int) : It × Int := match splitL 32 l with
  | [] => (noI, 9)
  | w0 :: ws => if kindN w0 = 0 then (noI, 9) else if (ws.length : Int) ≠ max (needN (kindN w0)) 1 then (noI, 3) else numN (kindN w0) ws
theorem oct_word (k : Int) : Oct (wordN k) := by
  unfold wordN; repeat' split
  all_goals decide
theorem kindN_rng (w : List Int) : kindN w = 0 ∨ kindN w = 1 ∨ kindN w = 2 ∨ kindN w = 3 ∨ kindN w = 4 := by
  unfold kindN; repeat' split
  all_goals simp
theorem kindN_word {w : List Int} (h : kindN w ≠ 0) : wordN (kindN w) = w := by
  unfold kindN at h ⊢
  split
  · assumption
  · split
    · assumption
    · split
      · assumption
      · split
        · assumption
        · simp_all
section
variable {P : List ByteArray} {w : List Int} {n kd a b c a' b' c' need : Int}
theorem nk_step (k : Nat) (h1 : 1 ≤ k) (h4 : k ≤ 4) (hx : P[0]? = some (bstr w)) (ho : Oct w) : noise_Parse_l6 P (n, (k : Int), kd) (.inl (if wordN (k : Int) = w then needN (k : Int) else n, ((k + 1 : Nat) : Int), if wordN (k : Int) = w then (k : Int) else kd)) := by
  unfold noise_Parse_l6
  simp only
  rw [if_pos (by rw [decide_eq_true_eq]; omega)]
  refine ⟨_, word_ok (k : Int), bstr w, idx_at (k := 0) rfl hx, ?_⟩
  unfold noise_Parse_j7
  simp only
  rw [w_small (by omega) (by omega)]
  by_cases h : wordN (k : Int) = w
  · rw [if_pos (by rw [h]; simp), if_pos h, if_pos h]; rfl
  · rw [if_neg (bstr_ne (oct_word _) ho h), if_neg h, if_neg h]; rfl
theorem nk_run (hx : P[0]? = some (bstr w)) (ho : Oct w) : Loops (noise_Parse_l6 P) (0, 1, 0) (needN (kindN w), kindN w) := by
  have e : (needN (kindN w), kindN w) = ((if wordN ((4 : Nat) : Int) = w then needN ((4 : Nat) : Int) else if wordN ((3 : Nat) : Int) = w then needN ((3 : Nat) : Int) else if wordN ((2 : Nat) : Int) = w then needN ((2 : Nat) : Int) else if wordN ((1 : Nat) : Int) = w then needN ((1 : Nat) : Int) else 0), (if wordN ((4 : Nat) : Int) = w then ((4 : Nat) : Int) else if wordN ((3 : Nat) : Int) = w then ((3 : Nat) : Int) else if wordN ((2 : Nat) : Int) = w then ((2 : Nat) : Int) else if wordN ((1 : Nat) : Int) = w then ((1 : Nat) : Int) else 0)) := by
    unfold kindN
    have c4 : ((4 : Nat) : Int) = 4 := rfl
    have c3 : ((3 : Nat) : Int) = 3 := rfl
    have c2 : ((2 : Nat) : Int) = 2 := rfl
    have c1 : ((1 : Nat) : Int) = 1 := rfl
    rw [c4, c3, c2, c1]
    by_cases h4 : wordN 4 = w
    · simp only [if_pos h4]
    · simp only [if_neg h4]
      by_cases h3 : wordN 3 = w
      · simp only [if_pos h3]
      · simp only [if_neg h3]
        by_cases h2 : wordN 2 = w
        · simp only [if_pos h2]
        · simp only [if_neg h2]
          by_cases h1 : wordN 1 = w
          · simp only [if_pos h1]
          · simp only [if_neg h1]; rfl
  rw [e]
  refine .next (nk_step 1 (by decide) (by decide) hx ho) (.next (nk_step 2 (by decide) (by decide) hx ho) (.next (nk_step 3 (by decide) (by decide) hx ho) (.next (nk_step 4 (by decide) (by decide) hx ho) (.done ?_))))
  unfold noise_Parse_l6
  rw [if_neg (by simp)]
theorem put3_0 (v : Int) : putN 3 0 [a, b, c] 0 v = [v, b, c] := rfl
theorem put3_1 (v : Int) : putN 3 0 [a, b, c] 1 v = [a, v, c] := rfl
theorem put3_2 (v : Int) : putN 3 0 [a, b, c] 2 v = [a, b, v] := rfl
theorem np_go (i : Nat) (hi : i < 3) (hn : (i : Int) < need) (hx : P[i + 1]? = some (bstr w)) (hl : w.length < 1000000000) (ho : Oct w) (hr : (rdB w).2 = 0) (hp : putN 3 0 [a, b, c] i (rdB w).1 = [a', b', c']) : noise_Parse_l5 P (need, kd) ((i : Int), a, b, c) (.inl (((i + 1 : Nat) : Int), a', b', c')) := by
  unfold noise_Parse_l5
  simp only
  rw [if_pos (by rw [decide_eq_true_eq]; omega)]
  refine ⟨by omega, by omega, ?_⟩
  rw [if_neg (by rw [decide_eq_true_eq]; omega), w_small (by omega) (by omega)]
  refine ⟨bstr w, idx_at (k := i + 1) (by omega) hx, rdB w, sread_ok hl ho, ?_⟩
  rw [if_neg (by simp [hr]), Int.toNat_natCast, hp]
  rfl
theorem np_no (i : Nat) (hi : i < 3) (hn : (i : Int) < need) (hx : P[i + 1]? = some (bstr w)) (hl : w.length < 1000000000) (ho : Oct w) (hr : ¬ (rdB w).2 = 0) : noise_Parse_l5 P (need, kd) ((i : Int), a, b, c) (.inr (.inr (noI, (rdB w).2))) := by
  unfold noise_Parse_l5
  simp only
  rw [if_pos (by rw [decide_eq_true_eq]; omega)]
  refine ⟨by omega, by omega, ?_⟩
  rw [if_neg (by rw [decide_eq_true_eq]; omega), w_small (by omega) (by omega)]
  refine ⟨bstr w, idx_at (k := i + 1) (by omega) hx, rdB w, sread_ok hl ho, ?_⟩
  rw [if_pos (by simpa using hr)]; rfl
theorem np_stop (i : Nat) (hn : need ≤ (i : Int) ∨ 3 ≤ i) : noise_Parse_l5 P (need, kd) ((i : Int), a, b, c) (.inr (.inl (a, b, c))) := by
  unfold noise_Parse_l5
  simp only
  by_cases h3 : i < 3
  · rw [if_pos (by rw [decide_eq_true_eq]; omega)]
    refine ⟨by omega, by omega, ?_⟩
    rw [if_pos (by rw [decide_eq_true_eq]; omega)]
    try trivial
  · rw [if_neg (by rw [decide_eq_true_eq]; omega)]
    try trivial
theorem rp_go (i : Nat) (hi : i < 3) (hn : (i : Int) < need) (hx : P[i + 1]? = some (bstr w)) (hl : w.length < 1000000000) (ho : Oct w) (hr : (rdB w).2 = 0) (hp : putN 3 0 [a, b, c] i (rdB w).1 = [a', b', c']) : ref26_Parse_l3 P (need, kd) ((i : Int), a, b, c) (.inl (((i + 1 : Nat) : Int), a', b', c')) := by
  unfold ref26_Parse_l3
  simp only
  rw [if_pos (by rw [decide_eq_true_eq]; omega), w_small (by omega) (by omega)]
  refine ⟨bstr w, idx_at (k := i + 1) (by omega) hx, rdB w, rread_ok hl ho, ?_⟩
  rw [if_neg (by simp [hr])]
  refine ⟨by omega, by omega, ?_⟩
  rw [Int.toNat_natCast, hp]
  rfl
theorem rp_no (i : Nat) (hi : i < 3) (hn : (i : Int) < need) (hx : P[i + 1]? = some (bstr w)) (hl : w.length < 1000000000) (ho : Oct w) (hr : ¬ (rdB w).2 = 0) : ref26_Parse_l3 P (need, kd) ((i : Int), a, b, c) (.inr (.inr (noI, (rdB w).2))) := by
  unfold ref26_Parse_l3
  simp only
  rw [if_pos (by rw [decide_eq_true_eq]; omega), w_small (by omega) (by omega)]
  refine ⟨bstr w, idx_at (k := i + 1) (by omega) hx, rdB w, rread_ok hl ho, ?_⟩
  rw [if_pos (by simpa using hr)]; rfl
theorem rp_stop (i : Nat) (hn : need ≤ (i : Int)) : ref26_Parse_l3 P (need, kd) ((i : Int), a, b, c) (.inr (.inl (a, b, c))) := by
  unfold ref26_Parse_l3
  simp only
  rw [if_neg (by rw [decide_eq_true_eq]; omega)]
  try trivial
end
section
variable {w0 : List Int} {ws : List (List Int)} (hs : ∀ w ∈ w0 :: ws, w.length < 1000000 ∧ Oct w)
include hs
theorem nj3_num {k : Int} (hk : k = 1 ∧ ws.length = 1 ∨ (k = 2 ∨ k = 3) ∧ ws.length = 3) : noise_Parse_j3 ((w0 :: ws).map bstr) (needN k, k) (0, []) (numN k ws) := by
  unfold noise_Parse_j3
  rw [if_neg (by decide)]
  rcases hk with ⟨rfl, h⟩ | ⟨h23, h⟩
  · obtain ⟨w, rfl⟩ : ∃ w, ws = [w] := List.length_eq_one_iff.1 h
    obtain ⟨q1, q2⟩ := hs w (by simp)
    rw [show needN 1 = 1 from rfl]
    rw [numN_1, if_neg (by decide)]
    by_cases hr : (rdB w).2 = 0
    · rw [if_pos hr]
      exact ⟨_, .next (np_go (w := w) 0 (by decide) (by decide) rfl (by omega) q2 hr (put3_0 _)) (.done (np_stop 1 (.inl (by decide)))), rfl⟩
    · rw [if_neg hr]
      exact ⟨_, .done (np_no (w := w) 0 (by decide) (by decide) rfl (by omega) q2 hr), rfl⟩
  · obtain ⟨w1, w2, w3, rfl⟩ : ∃ w1 w2 w3, ws = [w1, w2, w3] := by
      match ws, h with
      | [w1, w2, w3], _ => exact ⟨_, _, _, rfl⟩
    obtain ⟨p1, q1⟩ := hs w1 (by simp)
    obtain ⟨p2, q2⟩ := hs w2 (by simp)
    obtain ⟨p3, q3⟩ := hs w3 (by simp)
    rw [show needN k = 3 by rcases h23 with rfl | rfl <;> rfl]
    rw [numN_3]
    by_cases h1 : (rdB w1).2 = 0
    · rw [if_neg (by simpa using h1)]
      have g1 := np_go (P := [w0, w1, w2, w3].map bstr) (need := 3) (kd := k) (w := w1) (a := 0) (b := 0) (c := 0) 0 (by decide) (by decide) rfl (by omega) q1 h1 (put3_0 _)
      by_cases h2 : (rdB w2).2 = 0
      · rw [if_neg (by simpa using h2)]
        have g2 := np_go (P := [w0, w1, w2, w3].map bstr) (need := 3) (kd := k) (w := w2) (a := (rdB w1).1) (b := 0) (c := 0) 1 (by decide) (by decide) rfl (by omega) q2 h2 (put3_1 _)
        by_cases h3 : (rdB w3).2 = 0
        · rw [if_neg (by simpa using h3)]
          have g3 := np_go (P := [w0, w1, w2, w3].map bstr) (need := 3) (kd := k) (w := w3) (a := (rdB w1).1) (b := (rdB w2).1) (c := 0) 2 (by decide) (by decide) rfl (by omega) q3 h3 (put3_2 _)
          exact ⟨_, .next g1 (.next g2 (.next g3 (.done (np_stop 3 (.inr (by decide)))))), rfl⟩
        · rw [if_pos (by simpa using h3)]
          exact ⟨_, .next g1 (.next g2 (.done (np_no (w := w3) 2 (by decide) (by decide) rfl (by omega) q3 h3))), rfl⟩
      · rw [if_pos (by simpa using h2)]
        exact ⟨_, .next g1 (.done (np_no (w := w2) 1 (by decide) (by decide) rfl (by omega) q2 h2)), rfl⟩
    · rw [if_pos (by simpa using h1)]
      exact ⟨_, .done (np_no (w := w1) 0 (by decide) (by decide) rfl (by omega) q1 h1), rfl⟩
theorem rj_num {k : Int} (hk : k = 1 ∧ ws.length = 1 ∨ (k = 2 ∨ k = 3) ∧ ws.length = 3) : ∃ e, Loops (ref26_Parse_l3 ((w0 :: ws).map bstr) (needN k, k)) (0, 0, 0, 0) e ∧ Aft (fun p36 => ref26_Parse_j2 (needN k, k) p36 (numN k ws)) (fun p37 => numN k ws = p37) e := by
  rcases hk with ⟨rfl, h⟩ | ⟨h23, h⟩
  · obtain ⟨w, rfl⟩ : ∃ w, ws = [w] := List.length_eq_one_iff.1 h
    obtain ⟨q1, q2⟩ := hs w (by simp)
    rw [show needN 1 = 1 from rfl]
    rw [numN_1, if_neg (by decide)]
    by_cases hr : (rdB w).2 = 0
    · rw [if_pos hr]
      exact ⟨_, .next (rp_go (w := w) 0 (by decide) (by decide) rfl (by omega) q2 hr (put3_0 _)) (.done (rp_stop 1 (by decide))), rfl⟩
    · rw [if_neg hr]
      exact ⟨_, .done (rp_no (w := w) 0 (by decide) (by decide) rfl (by omega) q2 hr), rfl⟩
  · obtain ⟨w1, w2, w3, rfl⟩ : ∃ w1 w2 w3, ws = [w1, w2, w3] := by
      match ws, h with
      | [w1, w2, w3], _ => exact ⟨_, _, _, rfl⟩
    obtain ⟨p1, q1⟩ := hs w1 (by simp)
    obtain ⟨p2, q2⟩ := hs w2 (by simp)
    obtain ⟨p3, q3⟩ := hs w3 (by simp)
    rw [show needN k = 3 by rcases h23 with rfl | rfl <;> rfl]
    rw [numN_3]
    by_cases h1 : (rdB w1).2 = 0
    · rw [if_neg (by simpa using h1)]
      have g1 := rp_go (P := [w0, w1, w2, w3].map bstr) (need := 3) (kd := k) (w := w1) (a := 0) (b := 0) (c := 0) 0 (by decide) (by decide) rfl (by omega) q1 h1 (put3_0 _)
      by_cases h2 : (rdB w2).2 = 0
      · rw [if_neg (by simpa using h2)]
        have g2 := rp_go (P := [w0, w1, w2, w3].map bstr) (need := 3) (kd := k) (w := w2) (a := (rdB w1).1) (b := 0) (c := 0) 1 (by decide) (by decide) rfl (by omega) q2 h2 (put3_1 _)
        by_cases h3 : (rdB w3).2 = 0
        · rw [if_neg (by simpa using h3)]
          have g3 := rp_go (P := [w0, w1, w2, w3].map bstr) (need := 3) (kd := k) (w := w3) (a := (rdB w1).1) (b := (rdB w2).1) (c := 0) 2 (by decide) (by decide) rfl (by omega) q3 h3 (put3_2 _)
          exact ⟨_, .next g1 (.next g2 (.next g3 (.done (rp_stop 3 (by decide))))), rfl⟩
        · rw [if_pos (by simpa using h3)]
          exact ⟨_, .next g1 (.next g2 (.done (rp_no (w := w3) 2 (by decide) (by decide) rfl (by omega) q3 h3))), rfl⟩
      · rw [if_pos (by simpa using h2)]
        exact ⟨_, .next g1 (.done (rp_no (w := w2) 1 (by decide) (by decide) rfl (by omega) q2 h2)), rfl⟩
    · rw [if_pos (by simpa using h1)]
      exact ⟨_, .done (rp_no (w := w1) 0 (by decide) (by decide) rfl (by omega) q1 h1), rfl⟩
end
theorem nj3_no {P : List ByteArray} {s : Int × Int} {e : Int} {b : List Int} (h : ¬ e = 0) : noise_Parse_j3 P s (e, b) (noI, e) := by
  unfold noise_Parse_j3
  rw [if_pos (by simpa using h)]; rfl
theorem need_cases {k : Int} {n : Nat} (hk : k = 1 ∨ k = 2 ∨ k = 3) (h : (n : Int) = max (needN k) 1) : k = 1 ∧ n = 1 ∨ (k = 2 ∨ k = 3) ∧ n = 3 := by
  rcases hk with rfl | rfl | rfl
  · rw [show max (needN 1) 1 = 1 from rfl] at h; omega
  · rw [show max (needN 2) 1 = 3 from rfl] at h; omega
  · rw [show max (needN 3) 1 = 3 from rfl] at h; omega
theorem nparse_ok {l : List Int} (hl : l.length < 100000) (ho : Oct l) : noise_Parse (bstr l) (noiseB l) := by
  have hlen := spl_len 32 l
  have hne := splitL_ne 32 l
  have hg := gatherN (B := noise_Parse_l1) (fun x s hs => by
    unfold noise_Parse_l1
    simp only [List.length_singleton]
    exact ⟨by omega, by omega, trivial⟩) (splitL 32 l) 0 [] (by simp only [List.length_nil]; omega)
  rw [List.nil_append] at hg
  have hsub := @spl_sub 32 l
  refine ⟨_, words_ok _, _, (), words_itr (by omega) ho _ _ _ _ (run_yof hg), ?_⟩
  unfold noiseB
  cases hq : splitL 32 l with
  | nil => exact absurd hq hne
  | cons w0 ws =>
    rw [hq] at hsub hlen
    have hs : ∀ w ∈ w0 :: ws, w.length < 1000000 ∧ Oct w := fun w hm => by
      have := hsub w hm
      exact ⟨by omega, fun x hx => ho x (this.2 x hx)⟩
    simp only [List.length_cons] at hlen
    refine ⟨_, nk_run (w := w0) rfl (hs w0 (by simp)).2, ?_⟩
    unfold noise_Parse_j2
    simp only
    by_cases h0 : kindN w0 = 0
    · rw [if_pos (by simpa using h0), if_pos h0]; exact nj3_no (by decide)
    · rw [if_neg (by simpa using h0), if_neg h0]
      have hmax : 1 ≤ max (needN (kindN w0)) 1 ∧ max (needN (kindN w0)) 1 ≤ 3 := by
        rcases kindN_rng w0 with h | h | h | h | h <;> rw [h] <;> decide
      rw [w_small (by omega) (by omega)]
      by_cases h1 : (ws.length : Int) = max (needN (kindN w0)) 1
      · rw [if_neg (by rw [List.length_map, List.length_cons, decide_eq_true (by omega)]; decide), if_neg (show ¬ ((ws.length : Int) ≠ max (needN (kindN w0)) 1) from fun q => q h1)]
        by_cases h4 : kindN w0 = 4
        · rw [h4] at h1 ⊢
          rw [show max (needN 4) 1 = 1 from rfl] at h1
          obtain ⟨w, rfl⟩ : ∃ w, ws = [w] := List.length_eq_one_iff.1 (by omega)
          obtain ⟨q1, q2⟩ := hs w (by simp)
          rw [show needN 4 = 0 from rfl, if_pos (by decide)]
          refine ⟨bstr w, idx_at (k := 1) rfl rfl, _, nunhex_ok q2 q1, ?_⟩
          rw [numN_1, if_pos rfl]
          by_cases he : (unhexR w).2 = 0
          · rw [if_pos he, he]
            unfold noise_Parse_j3
            rw [if_neg (by simp)]
            exact ⟨_, .done (np_stop 0 (.inl (by decide))), rfl⟩
          · rw [if_neg he]; exact nj3_no he
        · have hk : kindN w0 = 1 ∨ kindN w0 = 2 ∨ kindN w0 = 3 := by rcases kindN_rng w0 with h | h | h | h | h <;> simp_all
          have hn : needN (kindN w0) ≠ 0 := by rcases hk with h | h | h <;> rw [h] <;> decide
          rw [if_neg (by simpa using hn)]
          exact nj3_num hs (need_cases hk h1)
      · rw [if_pos (by rw [List.length_map, List.length_cons, decide_eq_false (by omega)]; rfl), if_pos (show (ws.length : Int) ≠ max (needN (kindN w0)) 1 from h1)]
        exact nj3_no (by decide)
theorem rnparse_ok {l : List Int} (hl : l.length < 100000) (ho : Oct l) : ref26_Parse (bstr l) (noiseB l) := by
  have hlen := spl_len 32 l
  have hne := splitL_ne 32 l
  have hsub := @spl_sub 32 l
  refine ⟨_, rsplit_ok (c := 32) (by omega) ho, ?_⟩
  unfold noiseB
  cases hq : splitL 32 l with
  | nil => exact absurd hq hne
  | cons w0 ws =>
    rw [hq] at hsub hlen
    have hs : ∀ w ∈ w0 :: ws, w.length < 1000000 ∧ Oct w := fun w hm => by
      have := hsub w hm
      exact ⟨by omega, fun x hx => ho x (this.2 x hx)⟩
    simp only [List.length_cons] at hlen
    have ho0 := (hs w0 (by simp)).2
    refine ⟨bstr w0, idx_at (k := 0) rfl rfl, ?_⟩
    simp only
    have j1 : ∀ n k : Int, k = kindN w0 → n = max (needN k) 1 → k ≠ 0 → ref26_Parse_j1 ((w0 :: ws).map bstr) (n, k) (if kindN w0 = 0 then (noI, 9) else if (ws.length : Int) ≠ max (needN (kindN w0)) 1 then (noI, 3) else numN (kindN w0) ws) := by
      rintro n k hk hn h0
      rw [← hk, if_neg h0]
      have hkr : k = 1 ∨ k = 2 ∨ k = 3 ∨ k = 4 := by rcases kindN_rng w0 with h | h | h | h | h <;> omega
      have hmax : 1 ≤ max (needN k) 1 ∧ max (needN k) 1 ≤ 3 := by
        rcases hkr with h | h | h | h <;> rw [h] <;> decide
      unfold ref26_Parse_j1
      simp only
      rw [hn, w_small (by omega) (by omega)]
      by_cases h1 : (ws.length : Int) = max (needN k) 1
      · rw [if_neg (by rw [List.length_map, List.length_cons, decide_eq_true (by omega)]; decide), if_neg (show ¬ ((ws.length : Int) ≠ max (needN k) 1) from fun q => q h1)]
        by_cases h4 : k = 4
        · subst h4
          rw [show max (needN 4) 1 = 1 from rfl] at h1
          obtain ⟨w, rfl⟩ : ∃ w, ws = [w] := List.length_eq_one_iff.1 (by omega)
          obtain ⟨q1, q2⟩ := hs w (by simp)
          rw [if_pos (by decide)]
          refine ⟨bstr w, idx_at (k := 1) rfl rfl, _, runhex_ok q2 q1, ?_⟩
          rw [numN_1, if_pos rfl]
          by_cases he : (unhexR w).2 = 0
          · rw [if_neg (by simpa using he), if_pos he]
          · rw [if_pos (by simpa using he), if_neg he]; rfl
        · have hk3 : k = 1 ∨ k = 2 ∨ k = 3 := by omega
          rw [if_neg (by simpa using h4), show max (needN k) 1 = needN k by rcases hk3 with h | h | h <;> rw [h] <;> decide]
          exact rj_num hs (need_cases hk3 h1)
      · rw [if_pos (by rw [List.length_map, List.length_cons, decide_eq_false (by omega)]; rfl), if_pos (show (ws.length : Int) ≠ max (needN k) 1 from h1)]; rfl
    by_cases c1 : w0 = wholeL
    · rw [if_pos (by rw [c1]; decide)]
      exact j1 1 1 (by rw [c1]; decide) (by decide) (by decide)
    rw [if_neg (show ¬ decide (bstr w0 = bstr [119, 104, 111, 108, 101]) = true from bstr_ne ho0 (oct_word 1) c1)]
    by_cases c2 : w0 = cutL
    · rw [if_pos (by rw [c2]; decide)]
      exact j1 3 2 (by rw [c2]; decide) (by decide) (by decide)
    rw [if_neg (show ¬ decide (bstr w0 = bstr [99, 117, 116]) = true from bstr_ne ho0 (oct_word 2) c2)]
    by_cases c3 : w0 = turnL
    · rw [if_pos (by rw [c3]; decide)]
      exact j1 3 3 (by rw [c3]; decide) (by decide) (by decide)
    rw [if_neg (show ¬ decide (bstr w0 = bstr [116, 117, 114, 110]) = true from bstr_ne ho0 (oct_word 3) c3)]
    by_cases c4 : w0 = junkL
    · rw [if_pos (by rw [c4]; decide)]
      exact j1 1 4 (by rw [c4]; decide) (by decide) (by decide)
    rw [if_neg (show ¬ decide (bstr w0 = bstr [106, 117, 110, 107]) = true from bstr_ne ho0 (oct_word 4) c4)]
    have : kindN w0 = 0 := by
      unfold kindN
      rw [if_neg (fun e => c4 e.symm), if_neg (fun e => c3 e.symm), if_neg (fun e => c2 e.symm), if_neg (fun e => c1 e.symm)]
    rw [if_pos this]; rfl
end Go.Rel
/-! Plain laws: an item's line, to and fro. -/
namespace Go.Rel
open Go Go.Eng Go.Pl
theorem unhexL_back : ∀ {l r : List Int}, unhexL l = some r → hexL r = l ∧ Oct r
  | [], r, h => by simp [unhexL] at h; subst h; exact ⟨rfl, fun x hx => nomatch hx⟩
  | [x], r, h => by simp [unhexL] at h
  | a :: b :: l, r, h => by
    simp only [unhexL] at h
    cases hqa : hv a with
    | none => rw [hqa] at h; simp at h
    | some x =>
      cases hqb : hv b with
      | none => rw [hqa, hqb] at h; simp at h
      | some y =>
        cases hr : unhexL l with
        | none => rw [hqa, hqb, hr] at h; simp at h
        | some r' =>
          rw [hqa, hqb, hr] at h
          simp only [Option.some.injEq] at h
          subst h
          obtain ⟨h1, h2⟩ := unhexL_back hr
          have hx := hv_some hqa
          have hy := hv_some hqb
          refine ⟨?_, fun z hz => ?_⟩
          · rw [show hexL ((16 * x + y) :: r') = hexD ((16 * x + y) / 16) :: hexD ((16 * x + y) % 16) :: hexL r' from rfl, h1, show (16 * x + y) / 16 = x by omega, show (16 * x + y) % 16 = y by omega, hx.2.2, hy.2.2]
          · rcases List.mem_cons.1 hz with rfl | hz
            · omega
            · exact h2 z hz
theorem unhexL_fwd : ∀ {r : List Int}, Oct r → unhexL (hexL r) = some r
  | [], _ => rfl
  | x :: r, h => by
    have hx := h x (by simp)
    rw [show hexL (x :: r) = hexD (x / 16) :: hexD (x % 16) :: hexL r from rfl]
    simp only [unhexL, hv_hexD (n := x / 16) (by omega) (by omega), hv_hexD (n := x % 16) (by omega) (by omega), unhexL_fwd (fun y hy => h y (List.mem_cons_of_mem _ hy))]
    rw [show 16 * (x / 16) + x % 16 = x by omega]
theorem unhexR_back {w b : List Int} (h : unhexR w = (b, 0)) : hexE b = w ∧ Oct b := by
  unfold unhexR at h
  split at h
  · rename_i h1
    simp only [Prod.mk.injEq, and_true] at h
    subst h
    exact ⟨h1.symm, fun x hx => nomatch hx⟩
  · split at h
    · simp at h
    · rename_i h1 h2
      cases hr : unhexL w with
      | none => rw [hr] at h; simp at h
      | some r =>
        rw [hr] at h
        simp only [Prod.mk.injEq, and_true] at h
        subst h
        obtain ⟨h3, h4⟩ := unhexL_back hr
        refine ⟨?_, h4⟩
        unfold hexE
        rw [if_neg (fun e => h2 (by rw [← h3, e]; rfl)), h3]
theorem unhexR_fwd {b : List Int} (h : Oct b) : unhexR (hexE b) = (b, 0) := by
  unfold hexE
  by_cases h0 : b = []
  · subst h0; rfl
  · rw [if_neg h0]
    unfold unhexR
    have hp := List.length_pos_iff.2 h0
    rw [if_neg (hexL_one b), if_neg (fun e => by have := congrArg List.length e; rw [hexL_len, List.length_nil] at this; omega), unhexL_fwd h]
theorem noiseB_back {l : List Int} (hl : l.length ≤ 1000) {it : It} (h : noiseB l = (it, 0)) : ItOk it ∧ (1 ≤ it.1 ∧ it.1 ≤ 4) ∧ lineN it = l := by
  unfold noiseB at h
  split at h
  · simp at h
  · rename_i w0 ws hq
    have hj := spl_join hq
    split at h
    · simp at h
    · rename_i h0
      have hw := kindN_word h0
      have hi : ∀ n : Int, 0 ≤ n → n ≤ 4 → IntOk .i64 n := fun n h0 h1 => ⟨by show (-9223372036854775808 : Int) ≤ n; omega, by show n ≤ 9223372036854775807; omega⟩
      have hk := kindN_rng w0
      split at h
      · simp at h
      · rename_i h1
        generalize kindN w0 = k at *
        unfold numN at h
        split at h
        · rename_i w
          split at h
          · rename_i h4
            subst h4
            split at h
            · rename_i he
              simp only [Prod.mk.injEq, and_true] at h
              subst h
              obtain ⟨e1, e2⟩ := unhexR_back (w := w) (b := (unhexR w).1) (by rw [← he])
              have hll : (hexE (unhexR w).1).length ≤ l.length := by rw [e1, hj]; simp; omega
              refine ⟨⟨hi 4 (by decide) (by decide), hi 0 (by decide) (by decide), hi 0 (by decide) (by decide), hi 0 (by decide) (by decide), e2, ?_⟩, ⟨show (1 : Int) ≤ 4 by decide, show (4 : Int) ≤ 4 by decide⟩, ?_⟩
              · show (unhexR w).1.length ≤ 1000
                unfold hexE at hll
                split at hll
                · rename_i h0; rw [h0]; simp
                · rw [hexL_len] at hll; omega
              · rw [lineN_4 rfl, hj]
                simp only
                rw [e1, ← hw]; simp [wordN]
            · rename_i he; simp only [Prod.mk.injEq] at h; exact absurd h.2 he
          · rename_i h4
            split at h
            · rename_i he
              simp only [Prod.mk.injEq, and_true] at h
              subst h
              obtain ⟨e1, o1⟩ := rdB_back (l := w) (n := (rdB w).1) (by rw [← he])
              have hk1 : k = 1 := by
                simp only [List.length_singleton, ne_eq, Decidable.not_not] at h1
                rcases hk with h | h | h | h | h
                · exact absurd h h0
                · exact h
                · rw [h] at h1; exact absurd h1 (by decide)
                · rw [h] at h1; exact absurd h1 (by decide)
                · exact absurd h h4
              subst hk1
              refine ⟨⟨hi 1 (by decide) (by decide), o1, hi 0 (by decide) (by decide), hi 0 (by decide) (by decide), (fun x hx => nomatch hx), by simp⟩, ⟨show (1 : Int) ≤ 1 by decide, show (1 : Int) ≤ 4 by decide⟩, ?_⟩
              rw [lineN_1 rfl, hj]
              simp only
              rw [e1, ← hw]; simp [wordN]
            · rename_i he; simp only [Prod.mk.injEq] at h; exact absurd h.2 he
        · rename_i w1 w2 w3
          split at h
          · rename_i he; simp only [Prod.mk.injEq] at h; exact absurd h.2 he
          split at h
          · rename_i he; simp only [Prod.mk.injEq] at h; exact absurd h.2 he
          split at h
          · rename_i he; simp only [Prod.mk.injEq] at h; exact absurd h.2 he
          rename_i g1 g2 g3
          simp only [ne_eq, Decidable.not_not] at g1 g2 g3
          simp only [Prod.mk.injEq, and_true] at h
          subst h
          obtain ⟨e1, o1⟩ := rdB_back (l := w1) (n := (rdB w1).1) (by rw [← g1])
          obtain ⟨e2, o2⟩ := rdB_back (l := w2) (n := (rdB w2).1) (by rw [← g2])
          obtain ⟨e3, o3⟩ := rdB_back (l := w3) (n := (rdB w3).1) (by rw [← g3])
          have hk23 : k = 2 ∨ k = 3 := by
            simp only [List.length_cons, List.length_nil, ne_eq, Decidable.not_not] at h1
            rcases hk with h | h | h | h | h
            · exact absurd h h0
            · rw [h] at h1; exact absurd h1 (by decide)
            · exact .inl h
            · exact .inr h
            · rw [h] at h1; exact absurd h1 (by decide)
          refine ⟨⟨hi k (by omega) (by omega), o1, o2, o3, (fun x hx => nomatch hx), by simp⟩, ⟨show 1 ≤ k by omega, show k ≤ 4 by omega⟩, ?_⟩
          rw [lineN_23 hk23, hj]
          simp only
          rw [e1, e2, e3, hw]; simp
        · simp at h
theorem hexE_no32 (b : List Int) (ho : Oct b) : (32 : Int) ∉ hexE b := by
  unfold hexE
  split
  · decide
  · intro h
    simp only [hexL, List.mem_flatMap, List.mem_cons, List.not_mem_nil, or_false] at h
    obtain ⟨x, hx, h⟩ := h
    have := ho x hx
    rcases h with h | h
    · have := hexD_rng (a := x / 16) (by omega); omega
    · have := hexD_rng (a := x % 16) (by omega); omega
theorem noiseB_fwd {it : It} (h : ItOk it) : ((noiseB (lineN it)).2 = 0) ↔ (1 ≤ it.1 ∧ it.1 ≤ 4) := by
  have hno : ∀ n : Int, (32 : Int) ∉ decI n := fun n => decI_no (by decide) (by decide) n
  by_cases hk : 1 ≤ it.1 ∧ it.1 ≤ 4
  · refine ⟨fun _ => hk, fun _ => ?_⟩
    by_cases h4 : it.1 = 4
    · have hw : splitL 32 (lineN it) = [junkL, hexE it.2.2.2.2] := by
        rw [lineN_4 h4]
        have := spl_words (c := 32) (w0 := junkL) (ws := [hexE it.2.2.2.2]) (by decide) (fun w hw => by simp at hw; rw [hw]; exact hexE_no32 _ h.o)
        simpa using this
      unfold noiseB
      rw [hw]
      simp only
      rw [if_neg (by decide), if_neg (by simp only [List.length_cons, List.length_nil]; decide), show kindN junkL = 4 by decide]
      rw [numN_1, if_pos rfl, unhexR_fwd h.o, if_pos rfl]
    by_cases h1 : it.1 = 1
    · have hw : splitL 32 (lineN it) = [wholeL, decI it.2.1] := by
        rw [lineN_1 h1]
        have := spl_words (c := 32) (w0 := wholeL) (ws := [decI it.2.1]) (by decide) (fun w hw => by simp at hw; rw [hw]; exact hno _)
        simpa using this
      unfold noiseB
      rw [hw]
      simp only
      rw [if_neg (by decide), if_neg (by simp only [List.length_cons, List.length_nil]; decide), show kindN wholeL = 1 by decide]
      rw [numN_1, if_neg (by decide), rdB_dec h.r, if_pos rfl]
    · have h23 : it.1 = 2 ∨ it.1 = 3 := by omega
      have hw : splitL 32 (lineN it) = [wordN it.1, decI it.2.1, decI it.2.2.1, decI it.2.2.2.1] := by
        rw [lineN_23 h23]
        have := spl_words (c := 32) (w0 := wordN it.1) (ws := [decI it.2.1, decI it.2.2.1, decI it.2.2.2.1]) (by rcases h23 with h | h <;> rw [h] <;> decide) (fun w hw => by
          simp only [List.mem_cons, List.not_mem_nil, or_false] at hw
          rcases hw with rfl | rfl | rfl <;> exact hno _)
        simpa using this
      unfold noiseB
      rw [hw]
      have hkn : kindN (wordN it.1) = it.1 := by rcases h23 with h | h <;> rw [h] <;> decide
      simp only [hkn]
      rw [if_neg (by omega), if_neg (by simp only [List.length_cons, List.length_nil]; rcases h23 with h | h <;> rw [h] <;> decide)]
      rw [numN_3]
      simp only [rdB_dec h.r, rdB_dec h.a, rdB_dec h.n]
      rw [if_neg (by decide), if_neg (by decide), if_neg (by decide)]
  · refine ⟨fun h2 => ?_, fun h => absurd h hk⟩
    rw [lineN_no hk] at h2
    exact absurd h2 (by decide)
theorem lineN_byt {it : It} (h : ItOk it) : Oct (lineN it) := by
  have hd : ∀ n : Int, Oct (32 :: decI n) := fun n x hx => by
    rcases List.mem_cons.1 hx with rfl | hx
    · decide
    · rcases decI_signs n x hx with h | h <;> omega
  unfold lineN
  split
  · intro x hx
    rcases List.mem_append.1 hx with hx | hx
    · exact oct_word 4 x hx
    · rcases List.mem_cons.1 hx with rfl | hx
      · decide
      · unfold hexE at hx
        split at hx
        · simp at hx; subst hx; decide
        · simp only [hexL, List.mem_flatMap, List.mem_cons, List.not_mem_nil, or_false] at hx
          obtain ⟨y, hy, hx⟩ := hx
          have := h.o y hy
          rcases hx with rfl | rfl
          · have := hexD_rng (a := y / 16) (by omega); omega
          · have := hexD_rng (a := y % 16) (by omega); omega
  · split
    · intro x hx
      rcases List.mem_append.1 hx with hx | hx
      · exact oct_word _ x hx
      · obtain ⟨n, _, hx⟩ := List.mem_flatMap.1 hx
        exact hd n x hx
    · intro x hx; nomatch hx
theorem lineN_len {it : It} (h : ItOk it) : (lineN it).length ≤ 3000 := by
  have hd1 := decI_len h.r
  have hd2 := decI_len h.a
  have hd3 := decI_len h.n
  have hl := h.l
  have hx := hexE_len it.2.2.2.2
  have hw := wordN_len it.1
  by_cases h4 : it.1 = 4
  · rw [lineN_4 h4]; simp [junkL]; omega
  by_cases h1 : it.1 = 1
  · rw [lineN_1 h1]; simp [wholeL]; omega
  by_cases h23 : it.1 = 2 ∨ it.1 = 3
  · rw [lineN_23 h23]; simp; omega
  · rw [lineN_no (by omega)]; simp
end Go.Rel
/-! Plain laws: what items let arrive. -/
namespace Go.Rel
open Go Go.Eng Go.Pl
def tailN (it : It) : Int := if ((it.1 = 2 ∨ it.1 = 3) ∧ (it.2.2.1 < 0 ∨ it.2.2.2.1 < 0)) ∨ (it.1 = 3 ∧ 255 < it.2.2.2.1) then 5 else 0
def checkN (it : It) (rows : Int) : Int := if ¬ (1 ≤ it.1 ∧ it.1 ≤ 4) then 9 else if it.1 ≠ 4 ∧ (it.2.1 < 0 ∨ rows ≤ it.2.1) then 7 else tailN it
theorem nj1_ok (it : It) (b : Bool) : noise_Check_j1 it b (if b = true then 7 else tailN it) := by
  unfold noise_Check_j1 noise_Check_j2 tailN
  cases b with
  | true => rfl
  | false =>
    rw [if_neg (show ¬ (false = true) by decide), if_neg (show ¬ (false = true) by decide)]
    by_cases k2 : it.1 = 2
    · by_cases h3 : it.2.2.1 < 0
      · simp [k2, h3]
      · by_cases h5 : it.2.2.2.1 < 0 <;> simp [k2, h3, h5]
    · by_cases k3 : it.1 = 3
      · by_cases h3 : it.2.2.1 < 0
        · simp [k3, h3]
        · by_cases h5 : it.2.2.2.1 < 0
          · simp [k3, h3, h5]
          · by_cases h6 : 255 < it.2.2.2.1 <;> simp [k3, h3, h5, h6]
      · simp [k2, k3]
theorem nrj2_ok (it : It) (b : Bool) : ref26_Check_j2 it b (if b = true then 7 else tailN it) := by
  unfold ref26_Check_j2 ref26_Check_j3 tailN
  cases b with
  | true => rfl
  | false =>
    rw [if_neg (show ¬ (false = true) by decide), if_neg (show ¬ (false = true) by decide)]
    by_cases k2 : it.1 = 2
    · by_cases h3 : it.2.2.1 < 0
      · simp [k2, h3]
      · by_cases h5 : it.2.2.2.1 < 0 <;> simp [k2, h3, h5]
    · by_cases k3 : it.1 = 3
      · by_cases h3 : it.2.2.1 < 0
        · simp [k3, h3]
        · by_cases h5 : it.2.2.2.1 < 0
          · simp [k3, h3, h5]
          · by_cases h6 : 255 < it.2.2.2.1 <;> simp [k3, h3, h5, h6]
      · simp [k2, k3]
theorem checkN_4 {it : It} {rows : Int} (h : it.1 = 4) : checkN it rows = tailN it := by
  unfold checkN; rw [if_neg (by omega), if_neg (by omega)]
theorem checkN_k {it : It} {rows : Int} (h : 1 ≤ it.1 ∧ it.1 ≤ 3) : checkN it rows = if it.2.1 < 0 ∨ rows ≤ it.2.1 then 7 else tailN it := by
  unfold checkN; rw [if_neg (by omega)]
  by_cases c : it.2.1 < 0 ∨ rows ≤ it.2.1
  · rw [if_pos c, if_pos ⟨by omega, c⟩]
  · rw [if_neg c, if_neg (fun q => c q.2)]
theorem checkN_no {it : It} {rows : Int} (h : ¬ (1 ≤ it.1 ∧ it.1 ≤ 4)) : checkN it rows = 9 := if_pos h
theorem ncheck_ok (it : It) (rows : Int) : noise_Check it rows (checkN it rows) := by
  refine ⟨_, word_ok it.1, ?_⟩
  simp only
  rw [bs_nil]
  by_cases hk : 1 ≤ it.1 ∧ it.1 ≤ 4
  · have hw : ¬ wordN it.1 = [] := by
      have : it.1 = 1 ∨ it.1 = 2 ∨ it.1 = 3 ∨ it.1 = 4 := by omega
      rcases this with h | h | h | h <;> rw [h] <;> decide
    rw [if_neg (by simpa using hw)]
    by_cases h4 : it.1 = 4
    · rw [checkN_4 h4, if_neg (by simp [h4])]
      exact nj1_ok it false
    · rw [checkN_k (by omega), if_pos (by simp [h4])]
      by_cases h1 : it.2.1 < 0
      · rw [if_pos (by simpa using h1), if_pos (.inl h1)]; exact nj1_ok it true
      · rw [if_neg (by simpa using h1)]
        by_cases h2 : rows ≤ it.2.1
        · rw [decide_eq_true h2, if_pos (.inr h2)]; exact nj1_ok it true
        · rw [decide_eq_false h2, if_neg (by omega)]; exact nj1_ok it false
  · rw [wordN_no hk, if_pos (by decide), checkN_no hk]
theorem nrcheck_ok (it : It) (rows : Int) : ref26_Check it rows (checkN it rows) := by
  unfold ref26_Check ref26_Check_j1
  by_cases a1 : it.1 < 1
  · rw [if_pos (by simpa using a1), if_pos rfl, checkN_no (by omega)]
  rw [if_neg (by simpa using a1)]
  by_cases a4 : 4 < it.1
  · rw [decide_eq_true a4, if_pos rfl, checkN_no (by omega)]
  rw [decide_eq_false a4, if_neg (by decide)]
  by_cases h4 : it.1 = 4
  · rw [checkN_4 h4, if_neg (by simp [h4])]
    exact nrj2_ok it false
  · rw [checkN_k (by omega), if_pos (by simp [h4])]
    by_cases h1 : it.2.1 < 0
    · rw [if_pos (by simpa using h1), if_pos (.inl h1)]; exact nrj2_ok it true
    · rw [if_neg (by simpa using h1)]
      by_cases h2 : rows ≤ it.2.1
      · rw [decide_eq_true h2, if_pos (.inr h2)]; exact nrj2_ok it true
      · rw [decide_eq_false h2, if_neg (by omega)]; exact nrj2_ok it false
def turnN (row : List Int) (it : It) : List Int := row.set it.2.2.1.toNat (ixor .u8 (row.getD it.2.2.1.toNat 0) (IntKind.u8.wrap it.2.2.2.1))
def rowN (row : List Int) (it : It) : List Int := if it.1 = 2 then (row.drop it.2.2.1.toNat).take it.2.2.2.1.toNat else if it.1 = 3 then turnN row it else row
def bytesN (sent : List (List Int)) (it : It) : List Int := if checkN it sent.length ≠ 0 then [] else if it.1 = 4 then it.2.2.2.2 else rowN (sent.getD it.2.1.toNat []) it
theorem checkN_zero {it : It} {n : Int} (h : checkN it n = 0) : (1 ≤ it.1 ∧ it.1 ≤ 4) ∧ (it.1 ≠ 4 → 0 ≤ it.2.1 ∧ it.2.1 < n) ∧ (it.1 = 2 ∨ it.1 = 3 → 0 ≤ it.2.2.1 ∧ 0 ≤ it.2.2.2.1) := by
  unfold checkN at h
  split at h
  · omega
  · split at h
    · omega
    · unfold tailN at h
      split at h <;> omega
structure RowsOk (sent : List (List Int)) : Prop where
  n : sent.length ≤ 100
  l : ∀ r ∈ sent, r.length ≤ 2000
theorem nbytes_ok {sent : List (List Int)} {it : It} (hS : RowsOk sent) (hI : ItOk it) : noise_Bytes sent it (bytesN sent it) := by
  have hlen := hI.l
  have ha := ok_i64 hI.a
  have hn := ok_i64 hI.n
  refine ⟨_, ncheck_ok it sent.length, ?_⟩
  unfold bytesN
  by_cases h0 : checkN it sent.length = 0
  · rw [if_neg (by simpa using h0), if_neg (show ¬ (checkN it sent.length ≠ 0) from fun q => q h0)]
    obtain ⟨hk, hr, hm⟩ := checkN_zero h0
    by_cases h4 : it.1 = 4
    · rw [if_pos (by simpa using h4), if_pos h4]
      refine ⟨by simp only [List.length_nil]; omega, by simp only [List.length_nil]; omega, by simp⟩
    · rw [if_neg (by simpa using h4), if_neg h4]
      obtain ⟨r0, r1⟩ := hr h4
      have hlt : it.2.1.toNat < sent.length := by omega
      have hrow : sent.getD it.2.1.toNat [] = sent[it.2.1.toNat] := by rw [List.getD_eq_getElem?_getD, List.getElem?_eq_getElem hlt]; rfl
      have hrl := hS.l _ (List.getElem_mem hlt)
      rw [hrow]
      generalize hq : sent[it.2.1.toNat] = row at hrl
      refine ⟨row, ⟨r0, by rw [List.getElem?_eq_getElem hlt, hq]⟩, by simp only [List.length_nil]; omega, by simp only [List.length_nil]; omega, ?_⟩
      rw [List.nil_append]
      unfold rowN
      by_cases h2 : it.1 = 2
      · obtain ⟨m1, m2⟩ := hm (.inl h2)
        rw [if_pos (by simpa using h2), if_pos h2]
        have e1 : (row.drop (min it.2.2.1 (row.length : Int)).toNat).take ((row.length : Int) - (min it.2.2.1 (row.length : Int))).toNat = row.drop it.2.2.1.toNat := by
          rw [List.take_of_length_le (by rw [List.length_drop]; omega)]
          by_cases hle : it.2.2.1 ≤ row.length
          · rw [Int.min_eq_left hle]
          · rw [Int.min_eq_right (by omega), Int.toNat_natCast, List.drop_length, List.drop_eq_nil_of_le (by omega)]
        rw [e1]
        refine ⟨by omega, by omega, by omega, by omega, by omega, ?_⟩
        show _ = _
        rw [show (0 : Int).toNat = 0 from rfl, List.drop_zero]
        by_cases hle : it.2.2.2.1 ≤ (row.drop it.2.2.1.toNat).length
        · rw [Int.min_eq_left hle, Int.sub_zero]
        · rw [Int.min_eq_right (by omega), Int.sub_zero, Int.toNat_natCast, List.take_length, List.take_of_length_le (by omega)]
      · rw [if_neg (by simpa using h2), if_neg h2]
        by_cases h3 : it.1 = 3
        · obtain ⟨m1, m2⟩ := hm (.inr h3)
          rw [if_pos (by simpa using h3), if_pos h3]
          unfold turnN
          by_cases hlt2 : it.2.2.1 < row.length
          · have hx : idx row it.2.2.1 (row.getD it.2.2.1.toNat 0) := ⟨m1, by rw [List.getD_eq_getElem?_getD, List.getElem?_eq_getElem (show it.2.2.1.toNat < row.length by omega)]; rfl⟩
            rw [if_pos (by simpa using hlt2)]
            exact ⟨_, hx, _, hx, rfl⟩
          · rw [if_neg (by simpa using hlt2), List.set_eq_of_length_le (by omega)]; rfl
        · rw [if_neg (by simpa using h3), if_neg h3]; rfl
  · rw [if_pos (by simpa using h0), if_pos h0]
theorem cut_step {row : List Int} {a n k : Nat} (hk : k < row.length) : ((row.take (k + 1)).drop a).take n = if k < a ∨ n ≤ k - a then ((row.take k).drop a).take n else ((row.take k).drop a).take n ++ [row[k]] := by
  have hl : (row.take k).length = k := by rw [List.length_take]; omega
  rw [List.take_succ_eq_append_getElem hk, List.drop_append, hl]
  by_cases h1 : k < a
  · rw [if_pos (.inl h1), List.drop_eq_nil_of_le (as := [row[k]]) (by simp; omega), List.append_nil]
  · rw [show a - k = 0 by omega, List.drop_zero, List.take_append, List.length_drop, hl]
    by_cases h2 : n ≤ k - a
    · rw [if_pos (.inr h2), show n - (k - a) = 0 by omega]; simp
    · rw [if_neg (by omega), List.take_of_length_le (l := [row[k]]) (by simp; omega)]
theorem nrbytes_ok {sent : List (List Int)} {it : It} (hS : RowsOk sent) (hI : ItOk it) : ref26_Bytes sent it (bytesN sent it) := by
  have ha := ok_i64 hI.a
  have hn := ok_i64 hI.n
  refine ⟨_, nrcheck_ok it sent.length, ?_⟩
  unfold bytesN
  by_cases h0 : checkN it sent.length = 0
  · rw [if_neg (by simpa using h0), if_neg (show ¬ (checkN it sent.length ≠ 0) from fun q => q h0)]
    obtain ⟨hk, hr, hm⟩ := checkN_zero h0
    by_cases h4 : it.1 = 4
    · rw [if_pos (by simpa using h4), if_pos h4]
    · rw [if_neg (by simpa using h4), if_neg h4]
      obtain ⟨r0, r1⟩ := hr h4
      have hlt : it.2.1.toNat < sent.length := by omega
      have hrow : sent.getD it.2.1.toNat [] = sent[it.2.1.toNat] := by rw [List.getD_eq_getElem?_getD, List.getElem?_eq_getElem hlt]; rfl
      have hrl := hS.l _ (List.getElem_mem hlt)
      rw [hrow]
      generalize hq : sent[it.2.1.toNat] = row at hrl
      refine ⟨row, ⟨r0, by rw [List.getElem?_eq_getElem hlt, hq]⟩, rowN row it, ?_, rfl⟩
      have j5 : ∀ (out : List Int) (k : Nat) (x : Int) z, out.length ≤ k → k < 5000 → z = (out ++ [x], ((k + 1 : Nat) : Int)) → ref26_Bytes_j5 (out, (k : Int)) x (.inl z) := by
        rintro out k x z h1 h2 rfl
        unfold ref26_Bytes_j5 ref26_Bytes_j3
        simp only [List.length_singleton]
        refine ⟨by omega, by omega, ?_⟩
        rw [w_small (by omega) (by omega)]; rfl
      have j3 : ∀ (out : List Int) (k : Nat) z, k < 5000 → z = (out, ((k + 1 : Nat) : Int)) → ref26_Bytes_j4 it row (out, (k : Int)) true (.inl z) := by
        rintro out k z h2 rfl
        unfold ref26_Bytes_j4 ref26_Bytes_j3
        rw [if_pos rfl, w_small (by omega) (by omega)]; rfl
      unfold rowN
      by_cases h2 : it.1 = 2
      · obtain ⟨m1, m2⟩ := hm (.inl h2)
        rw [if_pos h2]
        have := loops_count (step := ref26_Bytes_l2 it row) (e := (row.drop it.2.2.1.toNat).take it.2.2.2.1.toNat) (fun k => (((row.take k).drop it.2.2.1.toNat).take it.2.2.2.1.toNat, (k : Int))) row.length (fun k hk => by
          have hout : (((row.take k).drop it.2.2.1.toNat).take it.2.2.2.1.toNat).length ≤ k := by rw [List.length_take, List.length_drop, List.length_take]; omega
          unfold ref26_Bytes_l2
          simp only
          rw [if_pos (by simpa using hk), if_pos (by simpa using h2)]
          rw [cut_step hk]
          by_cases c1 : (k : Int) < it.2.2.1
          · rw [if_pos (by simpa using c1), if_pos (.inl (by omega))]
            exact j3 _ k _ (by omega) rfl
          · rw [if_neg (by simpa using c1), w_small (by omega) (by omega)]
            by_cases c2 : it.2.2.2.1 ≤ (k : Int) - it.2.2.1
            · rw [decide_eq_true c2, if_pos (.inr (by omega))]
              exact j3 _ k _ (by omega) rfl
            · rw [decide_eq_false c2, if_neg (by omega)]
              unfold ref26_Bytes_j4
              rw [if_neg (by decide)]
              refine ⟨row[k], idx_of hk, ?_⟩
              rw [if_neg (by rw [h2]; decide)]
              unfold ref26_Bytes_j6
              rw [if_neg (by decide)]
              exact j5 _ k _ _ hout (by omega) rfl) (by
          unfold ref26_Bytes_l2
          rw [if_neg (by simp), List.take_length])
        simpa using this
      · rw [if_neg h2]
        by_cases h3 : it.1 = 3
        · obtain ⟨m1, m2⟩ := hm (.inr h3)
          rw [if_pos h3]
          have htl : (turnN row it).length = row.length := by unfold turnN; rw [List.length_set]
          have := loops_count (step := ref26_Bytes_l2 it row) (e := turnN row it) (fun k => ((turnN row it).take k, (k : Int))) row.length (fun k hk => by
            unfold ref26_Bytes_l2
            simp only
            rw [if_pos (by simpa using hk), if_neg (by simpa using h2)]
            unfold ref26_Bytes_j4
            rw [if_neg (by decide)]
            refine ⟨row[k], idx_of hk, ?_⟩
            rw [if_pos (by simpa using h3)]
            rw [List.take_succ_eq_append_getElem (by rw [htl]; exact hk)]
            have hout : ((turnN row it).take k).length ≤ k := by rw [List.length_take]; omega
            have hg : (turnN row it)[k]'(by rw [htl]; exact hk) = if it.2.2.1.toNat = k then ixor .u8 (row.getD it.2.2.1.toNat 0) (IntKind.u8.wrap it.2.2.2.1) else row[k] := by
              unfold turnN; rw [List.getElem_set]
            rw [hg]
            unfold ref26_Bytes_j6
            simp only
            by_cases c : (k : Int) = it.2.2.1
            · rw [decide_eq_true c, if_pos rfl, if_pos (by omega), List.getD_eq_getElem?_getD, show it.2.2.1.toNat = k by omega, List.getElem?_eq_getElem hk]
              exact j5 _ k _ _ hout (by omega) rfl
            · rw [decide_eq_false c, if_neg (by decide), if_neg (by omega)]
              exact j5 _ k _ _ hout (by omega) rfl) (by
            unfold ref26_Bytes_l2
            rw [if_neg (by simp), ← htl, List.take_length])
          simpa using this
        · rw [if_neg h3]
          have := loops_count (step := ref26_Bytes_l2 it row) (e := row) (fun k => (row.take k, (k : Int))) row.length (fun k hk => by
            unfold ref26_Bytes_l2
            simp only
            rw [if_pos (by simpa using hk), if_neg (by simpa using h2)]
            unfold ref26_Bytes_j4
            rw [if_neg (by decide)]
            refine ⟨row[k], idx_of hk, ?_⟩
            rw [if_neg (by simpa using h3), List.take_succ_eq_append_getElem hk]
            unfold ref26_Bytes_j6
            rw [if_neg (by decide)]
            exact j5 _ k _ _ (by rw [List.length_take]; omega) (by omega) rfl) (by
            unfold ref26_Bytes_l2
            rw [if_neg (by simp), List.take_length])
          simpa using this
  · rw [if_pos (by simpa using h0), if_pos h0]
theorem bytesN_len {sent : List (List Int)} {it : It} (hS : RowsOk sent) (hI : ItOk it) : (bytesN sent it).length ≤ 2000 := by
  unfold bytesN
  split
  · simp
  · split
    · have := hI.l; omega
    · have hr : (sent.getD it.2.1.toNat []).length ≤ 2000 := by
        rw [List.getD_eq_getElem?_getD]
        by_cases h : it.2.1.toNat < sent.length
        · rw [List.getElem?_eq_getElem h]; exact hS.l _ (List.getElem_mem h)
        · rw [List.getElem?_eq_none (by omega)]; simp
      unfold rowN turnN
      split
      · rw [List.length_take, List.length_drop]; omega
      · split
        · rw [List.length_set]; exact hr
        · exact hr
/-! ### One by one -/
def eachN (sent : List (List Int)) (a : Nat) : List It → List (Int × List Int)
  | [] => []
  | it :: l => ((a : Int), bytesN sent it) :: eachN sent (a + 1) l
theorem neach_itr {sent : List (List Int)} {l : List It} (hS : RowsOk sent) (hI : ∀ it ∈ l, ItOk it) (hl : l.length < 1000000) : Itr (noise_Each_1 l sent) (eachN sent 0 l) := by
  intro S Y s s' hr
  have key : ∀ (m pre : List It) (s : S), l = pre ++ m → Run Y (eachN sent pre.length m) s s' → Loops (noise_Each_1_l1 S Y l sent) (s, (pre.length : Int)) (s', ()) := by
    intro m
    induction m with
    | nil =>
      intro pre s h hr
      cases hr
      refine .done ?_
      unfold noise_Each_1_l1
      rw [if_neg (by rw [h]; simp)]
    | cons it m ih =>
      intro pre s h hr
      have hlen : l.length = pre.length + m.length + 1 := by rw [h]; simp; omega
      have hit : ItOk it := hI it (by rw [h]; simp)
      have stp : ∀ y u, Y ((pre.length : Int), bytesN sent it) s (y, u) → noise_Each_1_l1 S Y l sent (s, (pre.length : Int)) (if y = true then .inl (u, ((pre.length + 1 : Nat) : Int)) else .inr (u, ())) := by
        intro y u hy
        unfold noise_Each_1_l1
        simp only
        rw [if_pos (by rw [decide_eq_true_eq]; omega)]
        refine ⟨it, idx_at rfl (by rw [h]; simp), _, nbytes_ok hS hit, y, u, hy, ?_⟩
        cases y with
        | true => rw [if_neg (by decide), if_pos rfl, w_small (by omega) (by omega)]; rfl
        | false => rw [if_pos (by decide), if_neg (by decide)]
      rw [eachN] at hr
      cases hr with
      | go h1 h2 =>
        have := ih (pre ++ [it]) _ (by rw [h]; simp) (by rw [List.length_append]; exact h2)
        rw [List.length_append] at this
        exact .next (stp true _ h1) this
      | stop h1 => exact .done (stp false _ h1)
  exact ⟨_, key l [] s rfl hr, rfl⟩
theorem eachN_len (sent : List (List Int)) : ∀ (l : List It) (a : Nat), (eachN sent a l).length = l.length
  | [], _ => rfl
  | it :: l, a => by simp [eachN, eachN_len sent l]
theorem nrun_walk {sent : List (List Int)} (hS : RowsOk sent) : ∀ (l : List It) (a : Nat) (acc : List Int), (∀ it ∈ l, ItOk it) → acc.length + 2000 * l.length < 1000000000 → RunB noise_Run_l1 (eachN sent a l) acc (.inl (acc ++ l.flatMap (bytesN sent)))
  | [], a, acc, _, _ => by rw [List.flatMap_nil, List.append_nil]; exact .nil
  | it :: l, a, acc, hI, hb => by
    simp only [List.length_cons] at hb
    have hl := bytesN_len hS (hI it (by simp))
    have ih := nrun_walk hS l (a + 1) (acc ++ bytesN sent it) (fun x hx => hI x (List.mem_cons_of_mem _ hx)) (by rw [List.length_append]; omega)
    rw [List.flatMap_cons, ← List.append_assoc]
    exact .go ⟨by simp only; omega, by simp only; omega, rfl⟩ ih
theorem nrunN_ok {sent : List (List Int)} {l : List It} (hS : RowsOk sent) (hI : ∀ it ∈ l, ItOk it) (hl : l.length < 1000) : noise_Run sent l (l.flatMap (bytesN sent)) := by
  have hw := nrun_walk hS l 0 [] hI (by simp only [List.length_nil]; omega)
  rw [List.nil_append] at hw
  exact ⟨_, rfl, _, (), neach_itr hS hI (by omega) _ _ _ _ (run_yof hw), rfl⟩
theorem known26_ok : law26_known true := by
  have i0 : ∀ n : Int, 0 ≤ n → n ≤ 1000 → IntOk .i64 n := fun n h0 h1 => ⟨by show (-9223372036854775808 : Int) ≤ n; omega, by show n ≤ 9223372036854775807; omega⟩
  have hS : RowsOk [[1, 2, 3]] := ⟨by decide, by decide⟩
  have hI : ∀ it ∈ [((2, 0, 1, 5, []) : It), (3, 0, 2, 255, [])], ItOk it := by
    intro it h
    simp only [List.mem_cons, List.not_mem_nil, or_false] at h
    rcases h with rfl | rfl
    · exact ⟨i0 2 (by decide) (by decide), i0 0 (by decide) (by decide), i0 1 (by decide) (by decide), i0 5 (by decide) (by decide), (fun x hx => nomatch hx), by decide⟩
    · exact ⟨i0 3 (by decide) (by decide), i0 0 (by decide) (by decide), i0 2 (by decide) (by decide), i0 255 (by decide) (by decide), (fun x hx => nomatch hx), by decide⟩
  refine ⟨_, nrunN_ok hS hI (by decide), _, nparse_ok (l := [106, 117, 110, 107, 32, 48, 48, 48, 57]) (by decide) (by unfold Oct; decide), _, nsame_ok (by decide), ?_⟩
  rw [if_pos (by decide), if_pos (by decide), if_pos (by decide)]
  refine ⟨_, nsame_ok (by decide), ?_⟩
  show true = _
  decide
theorem isame_ok (x : It) (h : x.2.2.2.2.length < 1000000) : ref26_Same x x true := by
  unfold ref26_Same
  rw [if_pos (by simp), if_pos (by simp), if_pos (by simp), if_pos (by simp)]
  refine ⟨_, nsame_ok (by omega), ?_⟩
  show true = _
  simp
theorem noiseB_bytes {l : List Int} : (noiseB l).1.2.2.2.2.length ≤ l.length + 1 := by
  unfold noiseB
  split
  · simp [noI]
  · rename_i w0 ws hq
    have hsub := @spl_sub 32 l
    rw [hq] at hsub
    split
    · simp [noI]
    · split
      · simp [noI]
      · unfold numN
        split
        · rename_i w _
          have hw := hsub w (by simp)
          split
          · split
            · rename_i he
              obtain ⟨e1, e2⟩ := unhexR_back (w := w) (b := (unhexR w).1) (by rw [← he])
              have : (hexE (unhexR w).1).length ≤ l.length := by rw [e1]; omega
              simp only
              unfold hexE at this
              split at this
              · rename_i h0; rw [h0]; simp
              · rw [hexL_len] at this; omega
            · simp [noI]
          · split <;> simp [noI]
        · split
          · simp [noI]
          · split
            · simp [noI]
            · split <;> simp [noI]
        · simp [noI]
end Go.Rel
/-! Plain laws: the line of any item, the item of any text. -/
namespace Go.Rel
open Go Go.Eng Go.Pl
theorem noiseParses_true {s : ByteArray} : law26_NoiseParses s true := by
  have h300 := ext_min s 300
  rw [show ((300 : Nat) : Int) = 300 from rfl] at h300
  have hsz : (s.extract 0 300).size ≤ 300 := by rw [ByteArray.size_extract]; omega
  unfold law26_NoiseParses
  rw [h300]
  refine ⟨by omega, by omega, ?_⟩
  generalize s.extract 0 300 = t at hsz
  obtain ⟨l, rfl, ho⟩ : ∃ l, t = bstr l ∧ Oct l := ⟨bints t, (bstr_bints t).symm, bints_byt t⟩
  rw [size_bstr] at hsz
  have hb := @noiseB_bytes l
  refine ⟨_, nparse_ok (l := l) (by omega) ho, _, rnparse_ok (l := l) (by omega) ho, true, known26_ok, _, fun _ => rfl, _, fun _ => isame_ok _ (by omega), ?_⟩
  by_cases h : (noiseB l).2 = 0
  · obtain ⟨h1, h2, h3⟩ := noiseB_back (l := l) (it := (noiseB l).1) (by omega) (by rw [← h])
    refine ⟨_, fun _ => nline_ok h1, ?_⟩
    rw [h3]; simp
  · refine ⟨bstr [], fun q => ?_, ?_⟩
    · have := q.2; simp [h] at this
    · simp [h]
theorem noiseParses_claim {s : ByteArray} (_h : StrOk s) : law26_NoiseParses s true := noiseParses_true
theorem noiseLines_true {it : It} (h : ItOk (it.1, it.2.1, it.2.2.1, it.2.2.2.1, it.2.2.2.2.take 300)) : law26_NoiseLines it true := by
  have h300 := take_min it.2.2.2.2 300
  rw [show ((300 : Nat) : Int) = 300 from rfl] at h300
  refine ⟨(it.1, it.2.1, it.2.2.1, it.2.2.2.1, it.2.2.2.2.take 300), ⟨by omega, by omega, by rw [h300]⟩, ?_⟩
  generalize hx : ((it.1, it.2.1, it.2.2.1, it.2.2.2.1, it.2.2.2.2.take 300) : It) = x at h
  have hlen := lineN_len h
  have ho := lineN_byt h
  have hb := @noiseB_bytes (lineN x)
  refine ⟨_, nline_ok h, _, rfl, _, nrline_ok h, ?_⟩
  rw [if_neg (by simp)]
  refine ⟨_, nparse_ok (by omega) ho, _, rnparse_ok (by omega) ho, _, fun _ => rfl, _, fun _ => isame_ok _ (by omega), ?_⟩
  rw [if_neg (by simp)]
  refine ⟨true, known26_ok, ?_⟩
  rw [if_pos rfl]
  have hf := noiseB_fwd h
  by_cases hk : 1 ≤ x.1 ∧ x.1 ≤ 4
  · have h0 := hf.2 hk
    have hl : (lineN x).length ≤ 1000 := by
      have hd1 := decI_len h.r
      have hd2 := decI_len h.a
      have hd3 := decI_len h.n
      have hw := wordN_len x.1
      have hb300 : x.2.2.2.2.length ≤ 300 := by rw [← hx]; simp only [List.length_take]; omega
      have hxl := hexE_len x.2.2.2.2
      by_cases h4 : x.1 = 4
      · rw [lineN_4 h4]; simp [junkL]; omega
      by_cases h1 : x.1 = 1
      · rw [lineN_1 h1]; simp [wholeL]; omega
      · rw [lineN_23 (by omega)]; simp; omega
    obtain ⟨h1, h2, h3⟩ := noiseB_back (l := lineN x) (it := (noiseB (lineN x)).1) hl (by rw [← h0])
    rw [if_pos (by simpa using hk.1), if_pos (by simp [h0, hk.2]), if_neg (by simp [h0])]
    refine ⟨_, nline_ok h1, ?_⟩
    rw [h3]
    show true = _
    simp
  · have h0 : ¬ (noiseB (lineN x)).2 = 0 := fun q => hk (hf.1 q)
    by_cases h1 : 1 ≤ x.1
    · rw [if_pos (by simpa using h1), if_pos (by rw [decide_eq_true_eq, decide_eq_false h0, decide_eq_false (by omega)]), if_pos (by simpa using h0)]; rfl
    · rw [if_neg (by simpa using h1), if_pos (by rw [decide_eq_true_eq, decide_eq_false h0]), if_pos (by simpa using h0)]; rfl
theorem it_cut {it : It} (h : IntOk .i64 it.1 ∧ IntOk .i64 it.2.1 ∧ IntOk .i64 it.2.2.1 ∧ IntOk .i64 it.2.2.2.1 ∧ ListOk (IntOk .u8) it.2.2.2.2) : ItOk (it.1, it.2.1, it.2.2.1, it.2.2.2.1, it.2.2.2.2.take 300) :=
  ⟨h.1, h.2.1, h.2.2.1, h.2.2.2.1, fun x hx => ok_u8 (h.2.2.2.2.1 x (List.mem_of_mem_take hx)), by simp only [List.length_take]; omega⟩
theorem noiseLines_claim {it : It} (h : IntOk .i64 it.1 ∧ IntOk .i64 it.2.1 ∧ IntOk .i64 it.2.2.1 ∧ IntOk .i64 it.2.2.2.1 ∧ ListOk (IntOk .u8) it.2.2.2.2) : law26_NoiseLines it true := noiseLines_true (it_cut h)
end Go.Rel
/-! Plain law: what any items let arrive. -/
namespace Go.Rel
open Go Go.Eng Go.Pl
def rowsC (a : List (List Int)) : List (List Int) := (a.take 20).map fun r => r.take 300
theorem lrows_ok (a : List (List Int)) : law26_Rows a (rowsC a) := by
  have hlen : (rowsC a).length = min 20 a.length := by simp [rowsC]
  have := loops_count (step := law26_Rows_l2 a) (e := rowsC a) (fun k => ((rowsC a).take k, (k : Int))) (min 20 a.length) (fun k hk => by
    have hka : k < a.length := by omega
    unfold law26_Rows_l2
    rw [if_pos (by rw [decide_eq_true_eq]; simp only; omega)]
    unfold law26_Rows_j3
    rw [if_pos (by rw [decide_eq_true_eq]; simp only; omega)]
    have h300 := take_min a[k] 300
    rw [show ((300 : Nat) : Int) = 300 from rfl] at h300
    refine ⟨a[k], idx_of hka, a[k], idx_of hka, by omega, by omega, ?_⟩
    rw [h300]
    simp only [List.length_take, List.length_singleton]
    refine ⟨by omega, by omega, ?_⟩
    rw [w_small (by omega) (by omega), List.take_succ_eq_append_getElem (l := rowsC a) (by omega)]
    have hg : (rowsC a)[k]'(by omega) = a[k].take 300 := by simp [rowsC]
    rw [hg]; rfl) (by
    unfold law26_Rows_l2
    simp only
    have hall : (rowsC a).take (min 20 a.length) = rowsC a := List.take_of_length_le (by omega)
    rw [hall]
    by_cases h : a.length ≤ 20
    · rw [if_neg (by rw [decide_eq_true_eq]; omega)]
      unfold law26_Rows_j3
      rw [if_neg (by decide)]
    · rw [if_pos (by rw [decide_eq_true_eq]; omega)]
      unfold law26_Rows_j3
      rw [if_neg (by rw [decide_eq_true_eq]; omega)])
  exact ⟨_, by simpa using this, rfl⟩
theorem rowsC_ok (a : List (List Int)) : RowsOk (rowsC a) := ⟨by simp [rowsC]; omega, fun r hr => by
  simp only [rowsC, List.mem_map] at hr
  obtain ⟨x, _, rfl⟩ := hr
  rw [List.length_take]; omega⟩
def cutI (it : It) : It := (it.1, it.2.1, it.2.2.1, it.2.2.2.1, it.2.2.2.2.take 300)
theorem lcut_ok (it : It) : law26_Cut it (cutI it) := by
  have h300 := take_min it.2.2.2.2 300
  rw [show ((300 : Nat) : Int) = 300 from rfl] at h300
  exact ⟨by omega, by omega, by rw [h300]; rfl⟩
def someC (l : List It) : List It := (l.take 20).map cutI
theorem noiseRuns_true {a : List (List Int)} {l : List It} (hI : ∀ it ∈ l, ItOk (cutI it)) : law26_NoiseRuns a l true := by
  have hS := rowsC_ok a
  refine ⟨_, lrows_ok a, ?_⟩
  generalize rowsC a = sent at hS
  have hlen : (someC l).length = min 20 l.length := by simp [someC]
  have hIs : ∀ it ∈ someC l, ItOk it := by
    intro it h
    simp only [someC, List.mem_map] at h
    obtain ⟨x, hx, rfl⟩ := h
    exact hI x (List.mem_of_mem_take hx)
  have hflat : ∀ k, k ≤ 20 → (((someC l).take k).flatMap (bytesN sent)).length ≤ 2000 * k := by
    intro k
    induction k with
    | zero => intro _; simp
    | succ k ih =>
      intro hk
      have := ih (by omega)
      by_cases hks : k < (someC l).length
      · rw [List.take_succ_eq_append_getElem hks, List.flatMap_append, List.length_append]
        have hb := bytesN_len hS (hIs _ (List.getElem_mem hks))
        simp only [List.flatMap_cons, List.flatMap_nil, List.append_nil]
        omega
      · rw [List.take_of_length_le (by omega)] at this ⊢; omega
  have hloop := loops_count (step := law26_NoiseRuns_l4 l sent) (e := .inl ((someC l).flatMap (bytesN sent), someC l)) (fun k => (((someC l).take k).flatMap (bytesN sent), (k : Int), (someC l).take k)) (min 20 l.length) (fun k hk => by
    have hka : k < l.length := by omega
    have hks : k < (someC l).length := by omega
    unfold law26_NoiseRuns_l4
    rw [if_pos (by rw [decide_eq_true_eq]; simp only; omega)]
    unfold law26_NoiseRuns_j5
    rw [if_pos (by rw [decide_eq_true_eq]; simp only; omega)]
    have hg : (someC l)[k] = cutI l[k] := by simp [someC]
    have hit : ItOk (cutI l[k]) := hI _ (List.getElem_mem hka)
    have hb := bytesN_len hS hit
    have hf := hflat k (by omega)
    refine ⟨l[k], idx_of hka, _, lcut_ok _, ?_⟩
    simp only [List.length_take, List.length_singleton]
    refine ⟨by omega, by omega, _, rfl, _, nrbytes_ok hS hit, by omega, by omega, _, ncheck_ok _ _, _, rfl, _, nrcheck_ok _ _, _, fun _ => nbytes_ok hS hit, _, fun _ => nsame_ok (by omega), ?_⟩
    rw [if_neg (by simp), w_small (by omega) (by omega), List.take_succ_eq_append_getElem hks, hg, List.flatMap_append]
    simp) (by
    unfold law26_NoiseRuns_l4
    simp only
    have hall : (someC l).take (min 20 l.length) = someC l := List.take_of_length_le (by omega)
    rw [hall]
    by_cases h : l.length ≤ 20
    · rw [if_neg (by rw [decide_eq_true_eq]; omega)]
      unfold law26_NoiseRuns_j5
      rw [if_neg (by decide)]
    · rw [if_pos (by rw [decide_eq_true_eq]; omega)]
      unfold law26_NoiseRuns_j5
      rw [if_neg (by rw [decide_eq_true_eq]; omega)])
  refine ⟨_, by simpa using hloop, ?_⟩
  show law26_NoiseRuns_j1 _ _ _
  generalize hso : someC l = some_ at hlen hIs hflat
  have hwalk : ∀ (m pre : List It), some_ = pre ++ m → RunB (law26_NoiseRuns_l2 sent (some_.flatMap (bytesN sent), some_)) (eachN sent pre.length m) (pre.length : Int) (.inl (some_.length : Int)) := by
    intro m
    induction m with
    | nil => intro pre h; rw [h, List.append_nil]; exact .nil
    | cons it m ih =>
      intro pre h
      have hl : some_.length = pre.length + m.length + 1 := by rw [h]; simp; omega
      have := ih (pre ++ [it]) (by rw [h]; simp)
      rw [List.length_append] at this
      have hit : ItOk it := hIs it (by rw [h]; simp)
      refine .go (s1 := ((pre.length + 1 : Nat) : Int)) ?_ this
      refine ⟨it, fun _ => idx_at rfl (by rw [h]; simp), _, fun _ => rfl, _, fun _ => nrbytes_ok hS hit, _, fun _ => nsame_ok (by have := bytesN_len hS hit; simp only; omega), ?_⟩
      rw [if_neg (by simp; omega), w_small (by omega) (by omega)]
      rfl
  have hw := hwalk some_ [] rfl
  refine ⟨_, rfl, _, (), neach_itr hS hIs (by omega) _ _ _ _ (run_yof hw), true, known26_ok, ?_⟩
  rw [if_pos rfl, if_pos (by simp)]
  refine ⟨_, nrunN_ok hS hIs (by simp only; omega), _, nsame_ok ?_, ?_⟩
  · simp only
    have := hflat 20 (Nat.le_refl _)
    rw [List.take_of_length_le (by omega)] at this
    omega
  · show true = _
    simp
theorem noiseRuns_claim {a : List (List Int)} {l : List It} {p : Prop} (_h0 : p) (h1 : ListOk (fun it : It => IntOk .i64 it.1 ∧ (fun x : Int × Int × Int × List Int => IntOk .i64 x.1 ∧ (fun x : Int × Int × List Int => IntOk .i64 x.1 ∧ (fun x : Int × List Int => IntOk .i64 x.1 ∧ ListOk (IntOk .u8) x.2) x.2) x.2) it.2) l) : law26_NoiseRuns a l true :=
  noiseRuns_true fun it hit => it_cut (h1.1 it hit)
end Go.Rel
