import Derived.Test.YtemehkcopcjekaaGreatDoorPlM1
/-! Plain laws: the number of digits. -/
namespace Go.Rel
open Go Go.Eng Go.Pl
def AllDig (d : List Int) : Prop := ∀ x ∈ d, 48 ≤ x ∧ x < 58
instance (d : List Int) : Decidable (AllDig d) := inferInstanceAs (Decidable (∀ x ∈ d, 48 ≤ x ∧ x < 58))
def dval (a : Nat) (d : List Int) : Nat := d.foldl (fun n c => 10 * n + (c - 48).toNat) a
theorem dval_cons (a : Nat) (c : Int) (d : List Int) : dval a (c :: d) = dval (10 * a + (c - 48).toNat) d := rfl
theorem dval_snoc (a : Nat) (c : Int) (d : List Int) : dval a (d ++ [c]) = 10 * dval a d + (c - 48).toNat := by simp [dval]
theorem dval_ge : ∀ (d : List Int) (a : Nat), a ≤ dval a d
 | [], a => Nat.le_refl a
 | c :: d, a => by rw [dval_cons]; have := dval_ge d (10 * a + (c - 48).toNat); omega
theorem dval_pos {c : Int} {d : List Int} (h : 49 ≤ c) : 1 ≤ dval 0 (c :: d) := by
 rw [dval_cons]; have := dval_ge d (10 * 0 + (c - 48).toNat); omega
theorem dval_dec : ∀ (n : Nat) (d : List Int), d.length ≤ n → AllDig d → d ≠ [] → (d.head? = some 48 → d.length = 1) → decL (dval 0 d) = d
 | 0, d, h, _, h0, _ => absurd (List.eq_nil_of_length_eq_zero (Nat.le_zero.1 h)) h0
 | n + 1, d, h, hd, h0, hz => by
  obtain ⟨p, c, rfl⟩ : ∃ p c, d = p ++ [c] := ⟨d.dropLast, d.getLast h0, (List.dropLast_concat_getLast h0).symm⟩
  have hc := hd c (by simp)
  rw [dval_snoc]
  by_cases hp : p = []
  ·subst hp
   rw [show 10 * dval 0 [] + (c - 48).toNat = (c - 48).toNat by simp [dval], decL_lt (by omega)]
   simp; omega
  ·have hdp : AllDig p := fun x hx => hd x (List.mem_append_left _ hx)
   have hh : (p ++ [c]).head? = p.head? := by cases p with | nil => exact absurd rfl hp | cons x p => rfl
   have hz' : p.head? ≠ some 48 := fun e => by
    have := hz (hh.trans e)
    rw [List.length_append] at this
    have := List.length_pos_iff.2 hp
    simp only [List.length_cons, List.length_nil] at *
    omega
   obtain ⟨x, p', rfl⟩ : ∃ x p', p = x :: p' := by cases p with | nil => exact absurd rfl hp | cons x p => exact ⟨_, _, rfl⟩
   have hx := hdp x (by simp)
   have h1 : 1 ≤ dval 0 (x :: p') := dval_pos (by
    have : x ≠ 48 := fun e => hz' (by simp [e])
    omega)
   have ih := dval_dec n (x :: p') (by simp only [List.length_append, List.length_cons, List.length_nil] at h ⊢; omega) hdp (by simp) (fun e => absurd e hz')
   rw [decL_ge (by omega), show (10 * dval 0 (x :: p') + (c - 48).toNat) / 10 = dval 0 (x :: p') by omega, show (10 * dval 0 (x :: p') + (c - 48).toNat) % 10 = (c - 48).toNat by omega, ih]
   rw [show (48 : Int) + ((c - 48).toNat : Int) = c by omega]
def rdB (l : List Int) : Int × Int :=
 let d := if l.head? = some 45 then l.tail else l
 if d = [] ∨ (d.head? = some 48 ∧ l ≠ [48]) ∨ ¬ AllDig d then (0, 3)
 else if l.head? = some 45 then (if dval 0 d ≤ 9223372036854775808 then (-(dval 0 d : Int), 0) else (0, 5))
 else (if dval 0 d ≤ 9223372036854775807 then ((dval 0 d : Int), 0) else (0, 5))
theorem rdB_back {l : List Int} {n : Int} (h : rdB l = (n, 0)) : decI n = l ∧ IntOk .i64 n := by
 unfold rdB at h
 simp only at h
 by_cases h45 : l.head? = some 45
 ·rw [if_pos h45, if_pos h45] at h
  by_cases hc : l.tail = [] ∨ (l.tail.head? = some 48 ∧ l ≠ [48]) ∨ ¬ AllDig l.tail
  ·rw [if_pos hc] at h; simp at h
  ·rw [if_neg hc] at h
   simp only [not_or, Decidable.not_not] at hc
   obtain ⟨c1, c2, c3⟩ := hc
   by_cases hb : dval 0 l.tail ≤ 9223372036854775808
   ·rw [if_pos hb] at h
    have hn : -(dval 0 l.tail : Int) = n := by simpa using h
    have hl : l = 45 :: l.tail := by cases l with | nil => simp at h45 | cons x l => simp at h45; simp [h45]
    have hz : l.tail.head? ≠ some 48 := fun e => c2 ⟨e, fun e2 => by rw [e2] at h45; simp at h45⟩
    have hpos : 1 ≤ dval 0 l.tail := by
     cases ht : l.tail with
     | nil => exact absurd ht c1
     | cons x t =>
      have := c3 x (by rw [ht]; simp)
      rw [ht] at hz
      exact dval_pos (by simp at hz; omega)
    have hd := dval_dec l.tail.length l.tail (Nat.le_refl _) c3 c1 (fun e => absurd e hz)
    refine ⟨?_, by show (-9223372036854775808 : Int) ≤ n; omega, by show n ≤ 9223372036854775807; omega⟩
    unfold decI
    rw [if_pos (by omega), show n.natAbs = dval 0 l.tail by omega, hd, ← hl]
   ·rw [if_neg hb] at h; simp at h
 ·rw [if_neg h45, if_neg h45] at h
  by_cases hc : l = [] ∨ (l.head? = some 48 ∧ l ≠ [48]) ∨ ¬ AllDig l
  ·rw [if_pos hc] at h; simp at h
  ·rw [if_neg hc] at h
   simp only [not_or, Decidable.not_not] at hc
   obtain ⟨c1, c2, c3⟩ := hc
   by_cases hb : dval 0 l ≤ 9223372036854775807
   ·rw [if_pos hb] at h
    have hn : (dval 0 l : Int) = n := by simpa using h
    have hd := dval_dec l.length l (Nat.le_refl _) c3 c1 (fun e => by
     have : l = [48] := Decidable.byContradiction fun e2 => c2 ⟨e, e2⟩
     rw [this]; rfl)
    refine ⟨?_, by show (-9223372036854775808 : Int) ≤ n; omega, by show n ≤ 9223372036854775807; omega⟩
    unfold decI
    rw [if_neg (by omega), show n.toNat = dval 0 l by omega, hd]
   ·rw [if_neg hb] at h; simp at h
theorem pu64_dig : ∀ (d : List Int) (a : Nat), AllDig d → a ≤ 18446744073709551615 → pu64 (a : Int) d = if dval a d ≤ 18446744073709551615 then (0, (dval a d : Int)) else (2, 0)
 | [], a, _, ha => by rw [if_pos (by simpa [dval] using ha)]; rfl
 | c :: d, a, h, ha => by
  have hc := h c (by simp)
  have hd : AllDig d := fun x hx => h x (List.mem_cons_of_mem _ hx)
  rw [pu64, if_pos (by omega), dval_cons]
  have hge := dval_ge d (10 * a + (c - 48).toNat)
  by_cases h1 : (1844674407370955162 : Int) ≤ (a : Int)
  ·rw [if_pos h1, if_neg (by omega)]
  ·rw [if_neg h1]
   by_cases h2 : (18446744073709551615 : Int) < (a : Int) * 10 + (c - 48)
   ·rw [if_pos h2, if_neg (by omega)]
   ·rw [if_neg h2, show (a : Int) * 10 + (c - 48) = ((10 * a + (c - 48).toNat : Nat) : Int) by omega]
    exact pu64_dig d _ hd (by omega)
theorem pi64_rd {l : List Int} (h3 : (rdB l).2 ≠ 3) : ((pi64 l).2 = false ∧ rdB l = ((pi64 l).1, 0)) ∨ ((pi64 l).2 = true ∧ rdB l = (0, 5)) := by
 unfold rdB at h3 ⊢
 simp only at h3 ⊢
 by_cases h45 : l.head? = some 45
 ·obtain ⟨t, rfl⟩ : ∃ t, l = 45 :: t := by cases l with | nil => simp at h45 | cons x l => simp at h45; exact ⟨l, by rw [h45]⟩
  simp only [List.head?_cons, List.tail_cons, if_true] at h3 ⊢
  by_cases hc : t = [] ∨ (t.head? = some 48 ∧ 45 :: t ≠ [(48 : Int)]) ∨ ¬ AllDig t
  ·rw [if_pos hc] at h3; simp at h3
  ·rw [if_neg hc]
   simp only [not_or, Decidable.not_not] at hc
   have hp := pu64_dig t 0 hc.2.2 (by omega)
   rw [show ((0 : Nat) : Int) = 0 from rfl] at hp
   unfold pi64
   simp only [if_neg hc.1, or_true, if_true, hp]
   by_cases h1 : dval 0 t ≤ 18446744073709551615
   ·rw [if_pos h1]
    simp only
    rw [if_neg (by decide), if_neg (by decide), if_neg (by simp)]
    by_cases h2 : dval 0 t ≤ 9223372036854775808
    ·rw [if_neg (by omega), if_pos h2]; left; simp
    ·rw [if_pos (by simp; omega), if_neg h2]; right; simp
   ·rw [if_neg h1, if_neg (by omega)]
    simp
    try omega
 ·rw [if_neg h45] at h3 ⊢
  rw [if_neg h45] at h3 ⊢
  by_cases hc : l = [] ∨ (l.head? = some 48 ∧ l ≠ [48]) ∨ ¬ AllDig l
  ·rw [if_pos hc] at h3; simp at h3
  ·rw [if_neg hc]
   simp only [not_or, Decidable.not_not] at hc
   have hp := pu64_dig l 0 hc.2.2 (by omega)
   rw [show ((0 : Nat) : Int) = 0 from rfl] at hp
   obtain ⟨x, t, rfl⟩ : ∃ x t, l = x :: t := by cases l with | nil => exact absurd rfl hc.1 | cons x l => exact ⟨_, _, rfl⟩
   have hx := hc.2.2 x (by simp)
   have hx45 : ¬ x = 45 := by omega
   have hx43 : ¬ x = 43 := by omega
   have hxn : ¬ (x :: t = []) := by simp
   simp only [pi64, hx43, hx45, or_false, if_false, hxn, hp]
   by_cases h1 : dval 0 (x :: t) ≤ 18446744073709551615
   ·rw [if_pos h1]
    simp only
    rw [if_neg (by decide), if_neg (by decide)]
    by_cases h2 : dval 0 (x :: t) ≤ 9223372036854775807
    ·rw [if_neg (by omega), if_neg (by simp), if_pos h2]; left; simp
    ·rw [if_pos (by simp; omega), if_neg h2]; right; simp
   ·rw [if_neg h1, if_neg (by omega)]
    simp
    try omega
end Go.Rel
/-! Plain laws: a number is read; the words of a text. -/
namespace Go.Rel
open Go Go.Eng Go.Pl
def digS : List Int := [48, 49, 50, 51, 52, 53, 54, 55, 56, 57]
theorem ascii_ok : ∃ as, strings_makeASCIISet (bstr digS) (as, true) ∧ ∀ c : Int, 0 ≤ c → c < 256 → as.getD c.toNat false = decide (48 ≤ c ∧ c < 58) := by
 have hb : bints (bstr digS) = digS := bb_of (by unfold Oct digS; decide)
 have hs : (bstr digS).size = 10 := by rw [size_bstr]; rfl
 have key := loops_inv (step := strings_makeASCIISet_l2 (bstr digS)) (s := (0, List.replicate 256 false)) (fun k (s : Int × List Bool) => s.1 = (k : Int) ∧ ∀ c : Int, 0 ≤ c → c < 256 → s.2.getD c.toNat false = decide (48 ≤ c ∧ c < 48 + k)) (fun e => ∃ as, e = .inl as ∧ ∀ c : Int, 0 ≤ c → c < 256 → as.getD c.toNat false = decide (48 ≤ c ∧ c < 58)) 10 ⟨rfl, fun c h0 h1 => by
  rw [List.getD_eq_getElem?_getD, List.getElem?_replicate, if_pos (by omega)]
  symm; simp⟩ ?_ ?_
 ·obtain ⟨e, h1, as, rfl, h2⟩ := key
  exact ⟨as, ⟨_, h1, rfl⟩, h2⟩
 ·rintro k ⟨i, xs⟩ hk ⟨h1, h2⟩
  simp only at h1 h2
  subst h1
  left
  have hx : idx (bints (bstr digS)) (k : Int) (48 + k) := by
   rw [hb]
   refine ⟨by omega, ?_⟩
   rw [Int.toNat_natCast]
   have : k = 0 ∨ k = 1 ∨ k = 2 ∨ k = 3 ∨ k = 4 ∨ k = 5 ∨ k = 6 ∨ k = 7 ∨ k = 8 ∨ k = 9 := by omega
   rcases this with rfl | rfl | rfl | rfl | rfl | rfl | rfl | rfl | rfl | rfl <;> rfl
  refine ⟨((k + 1 : Nat), putN 256 false xs (48 + (k : Int)).toNat true), ?_, rfl, ?_⟩
  ·unfold strings_makeASCIISet_l2
   simp only
   rw [if_pos (by rw [hs, decide_eq_true_eq]; omega)]
   refine ⟨_, hx, ?_⟩
   rw [if_neg (by rw [decide_eq_true_eq]; omega)]
   refine ⟨by omega, by omega, ?_⟩
   rw [w_small (by omega) (by omega)]; rfl
  ·intro c h0 h1
   rw [putN_getD (by omega), h2 c h0 h1]
   by_cases hc : c = 48 + (k : Int)
   ·rw [if_pos (by omega)]; symm; rw [decide_eq_true_eq]; omega
   ·rw [if_neg (by omega)]
    by_cases h : 48 ≤ c ∧ c < 48 + (k : Int)
    ·rw [decide_eq_true h, decide_eq_true (by omega)]
    ·rw [decide_eq_false h, decide_eq_false (by omega)]
 ·rintro ⟨i, xs⟩ ⟨h1, h2⟩
  simp only at h1 h2
  subst h1
  refine ⟨.inl xs, ?_, xs, rfl, h2⟩
  unfold strings_makeASCIISet_l2
  rw [if_neg (by rw [hs, decide_eq_true_eq]; simp)]
theorem allDig_snoc {p : List Int} {c : Int} (hc : 48 ≤ c ∧ c < 58) : AllDig (p ++ [c]) ↔ AllDig p :=
 ⟨fun h x hx => h x (List.mem_append_left _ hx), fun h x hx => by
  rcases List.mem_append.1 hx with hx | hx
  ·exact h x hx
  ·rw [List.mem_singleton] at hx; subst hx; exact hc⟩
theorem allDig_cons {p : List Int} {c : Int} (hc : 48 ≤ c ∧ c < 58) : AllDig (c :: p) ↔ AllDig p :=
 ⟨fun h x hx => h x (List.mem_cons_of_mem _ hx), fun h x hx => by
  rcases List.mem_cons.1 hx with rfl | hx
  ·exact hc
  ·exact h x hx⟩
theorem trimR_ok {as : List Bool} (has : ∀ c : Int, 0 ≤ c → c < 256 → as.getD c.toNat false = decide (48 ≤ c ∧ c < 58)) : ∀ (n : Nat) (d : List Int), d.length ≤ n → n < 1000000000 → Oct d → ∃ m, Loops (strings_trimRightASCII_l2 as) (bstr d) (bstr m) ∧ Oct m ∧ m.length ≤ d.length ∧ (AllDig m ↔ AllDig d) ∧ (AllDig m → m = [])
 | n, d, hn, hb, ho => by
  have hsz : (bstr d).size = d.length := size_bstr _
  by_cases h0 : d = []
  ·subst h0
   refine ⟨[], .done ?_, ho, by simp, Iff.rfl, fun _ => rfl⟩
   unfold strings_trimRightASCII_l2
   rw [if_neg (by simp [size_bstr])]
  ·obtain ⟨p, c, rfl⟩ : ∃ p c, d = p ++ [c] := ⟨d.dropLast, d.getLast h0, (List.dropLast_concat_getLast h0).symm⟩
   have hc := ho c (by simp)
   have hl : (p ++ [c]).length = p.length + 1 := by simp
   have hw : IntKind.i64.wrap (((bstr (p ++ [c])).size : Int) - 1) = (p.length : Int) := by rw [hsz, hl, w_small (by omega) (by omega)]; omega
   have hx : idx (bints (bstr (p ++ [c]))) (p.length : Int) c := by rw [bb_of ho]; exact idx_at rfl (by simp)
   by_cases hd : 48 ≤ c ∧ c < 58
   ·match n, hn with
    | 0, hn => omega
    | n + 1, hn =>
     obtain ⟨m, h1, h2, h3, h4, h5⟩ := trimR_ok has n p (by omega) (by omega) (fun x hx => ho x (List.mem_append_left _ hx))
     refine ⟨m, .next ?_ h1, h2, by omega, h4.trans (allDig_snoc hd).symm, h5⟩
     unfold strings_trimRightASCII_l2
     rw [if_pos (by rw [hsz, decide_eq_true_eq]; omega), hw]
     refine ⟨c, hx, true, ⟨hc.1, hc.2, by rw [has c hc.1 hc.2, decide_eq_true hd]⟩, ?_⟩
     rw [if_neg (by decide)]
     refine ⟨by omega, by omega, ?_⟩
     rw [ext_bstr, Int.toNat_natCast, List.take_left' rfl, List.drop_zero]
   ·refine ⟨p ++ [c], .done ?_, ho, by omega, Iff.rfl, fun h => absurd (h c (by simp)) hd⟩
    unfold strings_trimRightASCII_l2
    rw [if_pos (by rw [hsz, decide_eq_true_eq]; omega), hw]
    refine ⟨c, hx, false, ⟨hc.1, hc.2, by rw [has c hc.1 hc.2, decide_eq_false hd]⟩, ?_⟩
    rw [if_pos (by decide)]
theorem trimL_ok {as : List Bool} (has : ∀ c : Int, 0 ≤ c → c < 256 → as.getD c.toNat false = decide (48 ≤ c ∧ c < 58)) : ∀ (d : List Int), d.length < 1000000000 → Oct d → ∃ m, Loops (strings_trimLeftASCII_l2 as) (bstr d) (bstr m) ∧ (AllDig m ↔ AllDig d) ∧ (AllDig m → m = [])
 | [], hb, ho => by
  refine ⟨[], .done ?_, Iff.rfl, fun _ => rfl⟩
  unfold strings_trimLeftASCII_l2
  rw [if_neg (by simp [size_bstr])]
 | c :: p, hb, ho => by
  have hsz : (bstr (c :: p)).size = p.length + 1 := size_bstr _
  have hc := ho c (by simp)
  have hx : idx (bints (bstr (c :: p))) 0 c := by rw [bb_of ho]; exact idx_at (k := 0) rfl (by simp)
  by_cases hd : 48 ≤ c ∧ c < 58
  ·obtain ⟨m, h1, h2, h3⟩ := trimL_ok has p (by simp only [List.length_cons] at hb; omega) (fun x hx => ho x (List.mem_cons_of_mem _ hx))
   refine ⟨m, .next ?_ h1, h2.trans (allDig_cons hd).symm, h3⟩
   unfold strings_trimLeftASCII_l2
   rw [if_pos (by rw [hsz, decide_eq_true_eq]; omega)]
   refine ⟨c, hx, true, ⟨hc.1, hc.2, by rw [has c hc.1 hc.2, decide_eq_true hd]⟩, ?_⟩
   rw [if_neg (by decide)]
   refine ⟨by omega, ?_⟩
   rw [ext_bstr, hsz]
   congr 2
   rw [List.take_of_length_le (by simp)]; rfl
  ·refine ⟨c :: p, .done ?_, Iff.rfl, fun h => absurd (h c (by simp)) hd⟩
   unfold strings_trimLeftASCII_l2
   rw [if_pos (by rw [hsz, decide_eq_true_eq]; omega)]
   refine ⟨c, hx, false, ⟨hc.1, hc.2, by rw [has c hc.1 hc.2, decide_eq_false hd]⟩, ?_⟩
   rw [if_pos (by decide)]
theorem bs_ne {l m : List Int} (h : l.length ≠ m.length) : ¬ bstr l = bstr m := fun e => h (by rw [← size_bstr l, e, size_bstr])
theorem bs_nil {l : List Int} : decide (bstr l = bstr []) = decide (l = []) := by
 by_cases h : l = []
 ·subst h; simp
 ·rw [decide_eq_false h, decide_eq_false (bs_ne (by simpa using h))]
theorem trim_ok {d : List Int} (hl : d.length < 1000000000) (ho : Oct d) : ∃ m, strings_Trim (bstr d) (bstr digS) (bstr m) ∧ (m = [] ↔ AllDig d) := by
 by_cases h0 : d = []
 ·subst h0
  refine ⟨[], ?_, ⟨fun _ x hx => by simp at hx, fun _ => rfl⟩⟩
  unfold strings_Trim strings_Trim_j1
  rw [if_pos (by simp), if_pos rfl]
 ·obtain ⟨as, ha, has⟩ := ascii_ok
  obtain ⟨m, h1, h2, h3, h4, h5⟩ := trimR_ok has d.length d (Nat.le_refl _) hl ho
  obtain ⟨m2, g1, g2, g3⟩ := trimL_ok has m (by omega) h2
  refine ⟨m2, ?_, ⟨fun e => h4.1 (g2.1 (by subst e; intro x hx; simp at hx)), fun h => g3 (g2.2 (h4.2 h))⟩⟩
  unfold strings_Trim strings_Trim_j1
  rw [if_neg (by rw [bs_nil]; simpa using h0), bs_nil, if_neg (by decide), if_neg (by rw [size_bstr]; decide)]
  unfold strings_Trim_j2
  rw [if_neg (by decide)]
  refine ⟨(as, true), ha, ?_⟩
  rw [if_pos rfl]
  exact ⟨_, ⟨_, h1, rfl⟩, _, ⟨_, g1, rfl⟩, rfl⟩
theorem trimPre_ok {l : List Int} (hl : l.length < 1000000000) (ho : Oct l) : strings_TrimPrefix (bstr l) (bstr [45]) (bstr (if l.head? = some 45 then l.tail else l)) := by
 have hsz : (bstr l).size = l.length := size_bstr _
 have h1 : (bstr [45]).size = 1 := by rw [size_bstr]; rfl
 refine ⟨_, ⟨decide (l.head? = some 45), ?_, ?_⟩, rfl⟩
 ·unfold internal_stringslite_HasPrefix
  cases l with
  | nil => rw [if_neg (by rw [h1, hsz]; simp)]; rfl
  | cons c t =>
   rw [if_pos (by rw [h1, hsz, List.length_cons, decide_eq_true_eq]; omega)]
   refine ⟨by omega, by rw [h1, hsz, List.length_cons]; omega, ?_⟩
   show _ = _
   rw [h1, ext_bstr, List.drop_zero, show ((1 : Nat) : Int).toNat = 1 from rfl, List.take_succ_cons, List.take_zero]
   by_cases hc : c = 45
   ·subst hc; simp
   ·rw [decide_eq_false (by simpa using hc), decide_eq_false]
    intro e
    have := bs_inj (a := [c]) (b := [45]) (fun x hx => by rw [List.mem_singleton] at hx; subst hx; exact ho x (by simp)) (fun x hx => by rw [List.mem_singleton] at hx; subst hx; decide) e
    simp at this; exact hc this
 ·by_cases h : l.head? = some 45
  ·rw [decide_eq_true h, if_pos rfl, if_pos h]
   obtain ⟨t, rfl⟩ : ∃ t, l = 45 :: t := by cases l with | nil => simp at h | cons x l => simp at h; exact ⟨l, by rw [h]⟩
   refine ⟨by omega, by rw [h1, hsz]; simp; omega, ?_⟩
   rw [h1, hsz, ext_bstr, List.take_of_length_le (Nat.le_refl _)]; rfl
  ·rw [decide_eq_false h, if_neg (by decide), if_neg h]
theorem sread_ok {l : List Int} (hl : l.length < 1000000000) (ho : Oct l) : say_Read (bstr l) (rdB l) := by
  have hpre := trimPre_ok hl ho
  have hd : (if l.head? = some 45 then l.tail else l).length ≤ l.length ∧ Oct (if l.head? = some 45 then l.tail else l) := by
    split
    · exact ⟨by simp, fun x hx => ho x (List.mem_of_mem_tail hx)⟩
    · exact ⟨Nat.le_refl _, ho⟩
  have hpi := @pi64_rd l
  unfold rdB at hpi ⊢
  simp only at hpi ⊢
  generalize hdd : (if l.head? = some 45 then l.tail else l) = d at hpre hd hpi ⊢
  refine ⟨pi64 (bints (bstr l)), ⟨rfl, rfl, by rw [size_bstr]; omega, rfl⟩, _, hpre, ?_⟩
  rw [bb_of ho, bs_nil]
  by_cases h0 : d = []
  · rw [if_pos (by simpa using h0), if_pos (.inl h0)]
    unfold say_Read_j1
    rw [if_pos rfl]
  rw [if_neg (by simpa using h0)]
  obtain ⟨m, hm, hma⟩ := trim_ok (d := d) (by omega) hd.2
  refine ⟨_, hm, ?_⟩
  rw [bs_nil]
  by_cases hall : AllDig d
  · rw [if_neg (by simp [hma.2 hall])]
    obtain ⟨c, t, rfl⟩ : ∃ c t, d = c :: t := by cases d with | nil => exact absurd rfl h0 | cons c t => exact ⟨_, _, rfl⟩
    refine ⟨c, by rw [bb_of hd.2]; exact idx_at (k := 0) rfl (by simp), ?_⟩
    have fin : ¬ (c :: t = [] ∨ ((c :: t).head? = some 48 ∧ l ≠ [48]) ∨ ¬ AllDig (c :: t)) → say_Read_j1 (pi64 l) false (if (c :: t) = [] ∨ ((c :: t).head? = some 48 ∧ l ≠ [48]) ∨ ¬ AllDig (c :: t) then ((0 : Int), (3 : Int)) else if l.head? = some 45 then (if dval 0 (c :: t) ≤ 9223372036854775808 then (-(dval 0 (c :: t) : Int), 0) else (0, 5)) else (if dval 0 (c :: t) ≤ 9223372036854775807 then ((dval 0 (c :: t) : Int), 0) else (0, 5))) := by
      intro hn
      have := hpi (by
        rw [if_neg hn]
        repeat' split
        all_goals simp)
      unfold say_Read_j1
      rw [if_neg (by decide)]
      rcases this with ⟨h1, h2⟩ | ⟨h1, h2⟩
      · rw [h1, if_neg (by decide), h2]
      · rw [h1, if_pos rfl, h2]
    by_cases hc : c = 48
    · subst hc
      rw [if_pos (by simp)]
      by_cases h48 : l = [48]
      · rw [decide_eq_true (by rw [h48])]
        exact fin (fun h => by rcases h with h | h | h; · simp at h
                               · exact h.2 h48
                               · exact h hall)
      · rw [decide_eq_false (fun e => h48 (bs_inj ho (fun x hx => by rw [List.mem_singleton] at hx; subst hx; decide) e)), if_pos (.inr (.inl ⟨rfl, h48⟩))]
        unfold say_Read_j1
        rw [if_pos (by decide)]
    · rw [if_neg (by simpa using hc)]
      exact fin (fun h => by rcases h with h | h | h; · simp at h
                             · simp at h; exact hc h.1
                             · exact h hall)
  · rw [if_pos (by simpa using fun e => hall (hma.1 e)), if_pos (.inr (.inr hall))]
    unfold say_Read_j1
    rw [if_pos rfl]
/-! ### The document's -/
theorem rr6 {l : List Int} (hl : l.length < 1000000000) (ho : Oct l) : ∀ (d p : List Int), l = p ++ d → Loops (ref20_Read_l6 (bstr l)) (p.length : Int) (if AllDig d then .inl () else .inr (0, 3))
 | [], p, h => by
  rw [if_pos (show AllDig [] from fun x hx => by simp at hx)]
  refine .done ?_
  unfold ref20_Read_l6
  rw [if_neg (by rw [size_bstr, h]; simp)]
 | c :: d, p, h => by
  have hlen : l.length = p.length + d.length + 1 := by rw [h]; simp; omega
  have hx : idx (bints (bstr l)) (p.length : Int) c := by rw [bb_of ho, h]; exact idx_at rfl (by simp)
  have hw : IntKind.i64.wrap ((p.length : Int) + 1) = ((p ++ [c]).length : Int) := by rw [w_small (by omega) (by omega)]; simp
  by_cases hc : 48 ≤ c ∧ c < 58
  ·have ih := rr6 hl ho d (p ++ [c]) (by rw [h]; simp)
   rw [show (if AllDig (c :: d) then (Sum.inl () : Sum Unit (Int × Int)) else .inr (0, 3)) = if AllDig d then .inl () else .inr (0, 3) by
    by_cases h : AllDig d
    ·rw [if_pos h, if_pos ((allDig_cons hc).2 h)]
    ·rw [if_neg h, if_neg (fun hq => h ((allDig_cons hc).1 hq))]]
   refine .next ?_ ih
   unfold ref20_Read_l6
   rw [if_pos (by rw [size_bstr, decide_eq_true_eq]; omega)]
   refine ⟨c, hx, ?_⟩
   rw [if_neg (by rw [decide_eq_true_eq]; omega)]
   refine ⟨c, hx, ?_⟩
   unfold ref20_Read_j7
   rw [if_neg (by rw [decide_eq_true_eq]; omega), hw]
  ·rw [if_neg (fun hq => hc (hq c (by simp)))]
   refine .done ?_
   unfold ref20_Read_l6
   rw [if_pos (by rw [size_bstr, decide_eq_true_eq]; omega)]
   refine ⟨c, hx, ?_⟩
   by_cases h48 : c < 48
   ·rw [if_pos (by simpa using h48)]; unfold ref20_Read_j7; rw [if_pos rfl]
   ·rw [if_neg (by simpa using h48)]
    refine ⟨c, hx, ?_⟩
    unfold ref20_Read_j7
    rw [if_pos (by rw [decide_eq_true_eq]; omega)]
theorem rr5 {l : List Int} (hl : l.length < 1000000000) (ho : Oct l) : ∀ (d p : List Int) (v : Nat), l = p ++ d → AllDig d → v ≤ 9223372036854775808 → Loops (ref20_Read_l5 (bstr l)) (-(v : Int), (p.length : Int)) (if dval v d ≤ 9223372036854775808 then .inl (-(dval v d : Int)) else .inr (0, 5))
 | [], p, v, h, hd, hv => by
  rw [if_pos (show dval v [] ≤ _ from hv)]
  refine .done ?_
  unfold ref20_Read_l5
  rw [if_neg (by rw [size_bstr, h]; simp)]
  rfl
 | c :: d, p, v, h, hd, hv => by
  have hlen : l.length = p.length + d.length + 1 := by rw [h]; simp; omega
  have hx : idx (bints (bstr l)) (p.length : Int) c := by rw [bb_of ho, h]; exact idx_at rfl (by simp)
  have hw : IntKind.i64.wrap ((p.length : Int) + 1) = ((p ++ [c]).length : Int) := by rw [w_small (by omega) (by omega)]; simp
  have hc := hd c (by simp)
  have e1 : IntKind.i64.wrap (IntKind.i64.wrap c - 48) = c - 48 := by rw [w_small (n := c) (by omega) (by omega), w_small (by omega) (by omega)]
  have e2 : IntKind.i64.wrap ((IntKind.i64.wrap ((-9223372036854775808) + (c - 48))).tdiv 10) = -((9223372036854775808 - (c - 48)) / 10) := by
   rw [w_small (n := (-9223372036854775808) + (c - 48)) (by omega) (by omega), show (-9223372036854775808 : Int) + (c - 48) = -(9223372036854775808 - (c - 48)) by omega, Int.neg_tdiv, Int.tdiv_eq_ediv_of_nonneg (by omega), w_small (by omega) (by omega)]
  rw [dval_cons]
  by_cases hov : 10 * v + (c - 48).toNat ≤ 9223372036854775808
  ·have ih := rr5 hl ho d (p ++ [c]) (10 * v + (c - 48).toNat) (by rw [h]; simp) (fun x hx => hd x (List.mem_cons_of_mem _ hx)) hov
   refine .next ?_ ih
   unfold ref20_Read_l5
   simp only
   rw [if_pos (by rw [size_bstr, decide_eq_true_eq]; omega)]
   refine ⟨c, hx, ?_⟩
   rw [e1, e2, if_neg (by rw [decide_eq_true_eq]; omega), hw, w_small (n := 10 * -(v : Int)) (by omega) (by omega), w_small (by omega) (by omega)]
   congr 2; omega
  ·have hge := dval_ge d (10 * v + (c - 48).toNat)
   rw [if_neg (by omega)]
   refine .done ?_
   unfold ref20_Read_l5
   simp only
   rw [if_pos (by rw [size_bstr, decide_eq_true_eq]; omega)]
   refine ⟨c, hx, ?_⟩
   rw [e1, e2, if_pos (by rw [decide_eq_true_eq]; omega)]
   try trivial
theorem rr_j1 {l p d : List Int} (hl : l.length < 1000000000) (ho : Oct l) (h : l = p ++ d) (hp : p = [] ∨ p = [45]) (s1 : Int) (hs1 : s1 = (p.length : Int)) : ref20_Read_j1 (bstr l) s1 (if d = [] ∨ (d.head? = some 48 ∧ l ≠ [48]) ∨ ¬ AllDig d then (0, 3) else if s1 = 1 then (if dval 0 d ≤ 9223372036854775808 then (-(dval 0 d : Int), 0) else (0, 5)) else (if dval 0 d ≤ 9223372036854775807 then ((dval 0 d : Int), 0) else (0, 5))) := by
 subst hs1
 unfold ref20_Read_j1
 have hlen : l.length = p.length + d.length := by rw [h]; simp
 by_cases h0 : d = []
 ·rw [if_pos (show d = [] ∨ _ ∨ _ from .inl h0), if_pos (by rw [size_bstr, decide_eq_true_eq, hlen, h0]; simp)]
  unfold ref20_Read_j2
  rw [if_pos rfl]
 ·have hdp := List.length_pos_iff.2 h0
  rw [if_neg (by rw [size_bstr, decide_eq_true_eq]; omega)]
  obtain ⟨c, t, rfl⟩ : ∃ c t, d = c :: t := by cases d with | nil => exact absurd rfl h0 | cons c t => exact ⟨_, _, rfl⟩
  refine ⟨c, by rw [bb_of ho, h]; exact idx_at rfl (by simp), ?_⟩
  have fin : ¬ ((c :: t).head? = some 48 ∧ l ≠ [48]) → ref20_Read_j2 (bstr l) (p.length : Int) false (if c :: t = [] ∨ ((c :: t).head? = some 48 ∧ l ≠ [48]) ∨ ¬ AllDig (c :: t) then (0, 3) else if (p.length : Int) = 1 then (if dval 0 (c :: t) ≤ 9223372036854775808 then (-(dval 0 (c :: t) : Int), 0) else (0, 5)) else (if dval 0 (c :: t) ≤ 9223372036854775807 then ((dval 0 (c :: t) : Int), 0) else (0, 5))) := by
   intro hn
   unfold ref20_Read_j2
   rw [if_neg (by decide)]
   have h6 := rr6 hl ho (c :: t) p h
   refine ⟨_, h6, ?_⟩
   by_cases hall : AllDig (c :: t)
   ·rw [if_pos hall, if_neg (fun hq => hq.elim (by simp) (fun hq => hq.elim hn (fun h => h hall)))]
    show ref20_Read_j3 _ _ () _
    have h5 := rr5 hl ho (c :: t) p 0 h hall (by omega)
    rw [show -((0 : Nat) : Int) = 0 from rfl] at h5
    refine ⟨_, h5, ?_⟩
    by_cases hv : dval 0 (c :: t) ≤ 9223372036854775808
    ·simp only [if_pos hv]
     show ref20_Read_j4 _ _ _
     unfold ref20_Read_j4
     by_cases h1 : (p.length : Int) = 1
     ·rw [if_pos (by simpa using h1), if_pos h1]
     ·rw [if_neg (by simpa using h1), if_neg h1]
      by_cases hv2 : dval 0 (c :: t) ≤ 9223372036854775807
      ·rw [if_neg (by rw [decide_eq_true_eq]; omega), if_pos hv2, w_small (by omega) (by omega)]
       congr 1; omega
      ·rw [if_pos (by rw [decide_eq_true_eq]; omega), if_neg hv2]
    ·have hv2 : ¬ dval 0 (c :: t) ≤ 9223372036854775807 := by omega
     simp only [if_neg hv, if_neg hv2]
     show (if (p.length : Int) = 1 then ((0 : Int), (5 : Int)) else (0, 5)) = (0, 5)
     split <;> rfl
   ·rw [if_neg hall, if_pos (.inr (.inr hall))]; rfl
  by_cases hc : c = 48
  ·subst hc
   rw [if_pos (by simp)]
   by_cases h48 : l = [48]
   ·rw [decide_eq_false (by rw [size_bstr, h48]; decide)]
    exact fin (fun h => h.2 h48)
   ·have : decide ((1 : Int) < ((bstr l).size : Int)) = true := by
     rw [size_bstr, decide_eq_true_eq]
     rcases hp with rfl | rfl
     ·cases t with
      | nil => exact absurd h h48
      | cons x t => rw [h]; simp; omega
     ·rw [h]; simp; omega
    rw [this, if_pos (.inr (.inl ⟨rfl, h48⟩))]
    unfold ref20_Read_j2
    rw [if_pos rfl]
  ·rw [if_neg (by simpa using hc)]
   exact fin (fun h => hc (by simpa using h.1))
theorem rread_ok {l : List Int} (hl : l.length < 1000000000) (ho : Oct l) : ref20_Read (bstr l) (rdB l) := by
 unfold ref20_Read rdB
 by_cases h45 : l.head? = some 45
 ·obtain ⟨t, rfl⟩ : ∃ t, l = 45 :: t := by cases l with | nil => simp at h45 | cons x l => simp at h45; exact ⟨l, by rw [h45]⟩
  rw [if_pos (by rw [size_bstr]; simp)]
  refine ⟨45, by rw [bb_of ho]; exact idx_at (k := 0) rfl (by simp), ?_⟩
  unfold ref20_Read_j8
  rw [if_pos (by decide)]
  have := rr_j1 (p := [45]) (d := t) hl ho rfl (.inr rfl) 1 rfl
  simpa using this
 ·have := rr_j1 (p := []) (d := l) hl ho rfl (.inl rfl) 0 rfl
  simp only [if_neg h45]
  rw [if_neg (show ¬ (0 : Int) = 1 by decide)] at this
  cases l with
  | nil =>
   rw [if_neg (by rw [size_bstr]; decide)]
   unfold ref20_Read_j8
   rw [if_neg (by decide)]; exact this
  | cons c t =>
   rw [if_pos (by rw [size_bstr]; simp)]
   refine ⟨c, by rw [bb_of ho]; exact idx_at (k := 0) rfl (by simp), ?_⟩
   unfold ref20_Read_j8
   rw [decide_eq_false (fun e => h45 (by simp [e])), if_neg (by decide)]; exact this
/-! ### Words -/
def wrdsP (a : Nat) : List (List Int) → List (Int × ByteArray)
 | [] => []
 | w :: ws => ((a : Int), bstr w) :: wrdsP (a + w.length + 1) ws
theorem words_run {S : Type} {Y : Int × ByteArray → S → Bool × S → Prop} {s' : S} : ∀ (ws : List (List Int)) (a : Nat) (s : S), a + (ws.map List.length).sum + ws.length < 1000000000 → Run Y (wrdsP a ws) s s' →
    ∃ t, RunB (say_Words_1_l1 S Y) (ws.map bstr) (s, (a : Int)) t ∧ ((∃ n, t = .inl (s', n)) ∨ ∃ n, t = .inr (s', n))
  | [], a, s, h, hr => by cases hr; exact ⟨_, .nil, .inl ⟨_, rfl⟩⟩
  | w :: ws, a, s, h, hr => by
    simp only [List.map_cons, List.sum_cons, List.length_cons] at h
    have hw : IntKind.i64.wrap ((a : Int) + IntKind.i64.wrap (((bstr w).size : Int) + 1)) = ((a + w.length + 1 : Nat) : Int) := by
      rw [size_bstr, w_small (n := (w.length : Int) + 1) (by omega) (by omega), w_small (by omega) (by omega)]; omega
    rw [wrdsP] at hr
    cases hr with
    | go h1 h2 =>
      obtain ⟨t, h3, h4⟩ := words_run ws (a + w.length + 1) _ (by omega) h2
      refine ⟨t, .go ?_ h3, h4⟩
      refine ⟨true, _, h1, ?_⟩
      rw [if_neg (by decide), hw]
    | stop h1 =>
      refine ⟨.inr (s', (a : Int)), .stop ⟨false, _, h1, by rw [if_pos (by decide)]⟩, .inr ⟨_, rfl⟩⟩
theorem splitL_tot {c : Int} : ∀ l : List Int, ((splitL c l).map List.length).sum + (splitL c l).length = l.length + 1
 | [] => by simp [splitL]
 | x :: l => by
  have ih := @splitL_tot c l
  have hne := splitL_ne c l
  rw [splitL]
  split
  ·simp only [List.map_cons, List.sum_cons, List.length_cons, List.length_nil]; omega
  ·cases hq : splitL c l with
   | nil => exact absurd hq hne
   | cons p ps => rw [hq] at ih; simp only [glue, List.map_cons, List.sum_cons, List.length_cons, List.length_append, List.length_nil] at ih ⊢; omega
theorem words_itr {l : List Int} (hl : l.length < 100000000) (ho : Oct l) : Itr (say_Words_1 (bstr l)) (wrdsP 0 (splitL 32 l)) := by
 intro S Y s s' h
 have htot := @splitL_tot 32 l
 obtain ⟨t, h1, h2⟩ := words_run (splitL 32 l) 0 s (by omega) h
 obtain ⟨rest, h3⟩ := split_itr (c := 32) (by decide) (by omega) ho (run_yof h1)
 refine ⟨_, splitSeq_ok l 32, t, rest, h3, ?_⟩
 rcases h2 with ⟨n, rfl⟩ | ⟨n, rfl⟩ <;> rfl
theorem words_ok (s : ByteArray) : say_Words s (say_Words_1 s) := rfl
end Go.Rel
/-! Plain laws: texts cut at a byte, and joined. -/
namespace Go.Rel
open Go Go.Eng Go.Pl
theorem spl_join {c : Int} : ∀ {l w0 : List Int} {ws : List (List Int)}, splitL c l = w0 :: ws → l = w0 ++ ws.flatMap (fun w => c :: w)
 | [], w0, ws, h => by simp [splitL] at h; obtain ⟨rfl, rfl⟩ := h; rfl
 | x :: l, w0, ws, h => by
  unfold splitL at h
  cases hq : splitL c l with
  | nil => exact absurd hq (splitL_ne _ _)
  | cons p ps =>
   have ih := spl_join hq
   rw [hq] at h
   split at h
   ·rename_i hx
    cases h
    rw [List.flatMap_cons, List.nil_append, List.cons_append, ← ih, hx]
   ·simp only [glue, List.cons.injEq] at h
    obtain ⟨rfl, rfl⟩ := h
    simp only [List.cons_append, List.nil_append, ← ih]
theorem spl_sub {c : Int} : ∀ {l : List Int}, ∀ w ∈ splitL c l, w.length ≤ l.length ∧ (∀ x ∈ w, x ∈ l)
 | [], w, h => by simp [splitL] at h; subst h; simp
 | x :: l, w, h => by
  unfold splitL at h
  split at h
  ·rcases List.mem_cons.1 h with rfl | h
   ·simp
   ·have := spl_sub (l := l) w h
    exact ⟨by simp; omega, fun y hy => List.mem_cons_of_mem _ (this.2 y hy)⟩
  ·have hs := @spl_sub c l
   cases hq : splitL c l with
   | nil => rw [hq] at h; simp [glue] at h; subst h; simp
   | cons p ps =>
    rw [hq] at h hs
    simp only [glue, List.mem_cons] at h
    rcases h with rfl | h
    ·have := hs p List.mem_cons_self
     refine ⟨by simp; omega, fun y hy => ?_⟩
     simp only [List.cons_append, List.nil_append, List.mem_cons] at hy
     rcases hy with rfl | hy
     ·exact List.mem_cons_self
     ·exact List.mem_cons_of_mem _ (this.2 y hy)
    ·have := hs w (List.mem_cons_of_mem _ h)
     exact ⟨by simp; omega, fun y hy => List.mem_cons_of_mem _ (this.2 y hy)⟩
theorem spl_len (c : Int) : ∀ l : List Int, (splitL c l).length ≤ l.length + 1
 | [] => by simp [splitL]
 | x :: l => by
  have := spl_len c l
  unfold splitL
  split
  ·simp; omega
  ·cases hq : splitL c l with
   | nil => simp [glue]
   | cons p ps => rw [hq] at this; simp [glue] at this ⊢; omega
theorem spl_no (c : Int) : ∀ (l : List Int), ∀ w ∈ splitL c l, c ∉ w
 | [], w, h => by simp [splitL] at h; subst h; simp
 | x :: l, w, h => by
  have ih := spl_no c l
  unfold splitL at h
  split at h
  ·rcases List.mem_cons.1 h with rfl | h
   ·simp
   ·exact ih w h
  ·rename_i hx
   cases hq : splitL c l with
   | nil => rw [hq] at h; simp [glue] at h; subst h; simpa using fun e => hx e.symm
   | cons p ps =>
    rw [hq] at h ih
    simp only [glue, List.mem_cons] at h
    rcases h with rfl | h
    ·have := ih p List.mem_cons_self
     simp only [List.cons_append, List.nil_append, List.mem_cons, not_or]
     exact ⟨fun e => hx e.symm, this⟩
    ·exact ih w (List.mem_cons_of_mem _ h)
end Go.Rel
/-! Plain laws: events: their lines, which are the same, the words of errors. -/
namespace Go.Rel
open Go Go.Eng Go.Pl
abbrev Ev := Int × Int × Int × Int × Mg
structure EvOk (e : Ev) : Prop where
 kind : IntOk .i64 e.1
 seq : IntOk .u32 e.2.1
 ver : IntOk .i64 e.2.2.1
 err : IntOk .i64 e.2.2.2.1
 msg : MgOk e.2.2.2.2
theorem sameB_refl (m : Mg) : sameB m m = true := by simp [sameB]
structure MgIn (m : Mg) : Prop where
 kind : IntOk .i64 m.1
 six : m.2.1.length = 6
 num : ∀ x ∈ m.2.1, IntOk .i64 x
 path : ∀ p ∈ m.2.2.1, IntOk .i64 p.1 ∧ IntOk .i64 p.2
 cells : ∀ x ∈ m.2.2.2.1, IntOk .i64 x
theorem ext_size (s : ByteArray) (n : Nat) : (s.extract 0 n).size ≤ n := by rw [ByteArray.size_extract]; omega
structure EvIn (e : Ev) : Prop where
 kind : IntOk .i64 e.1
 seq : IntOk .u32 e.2.1
 ver : IntOk .i64 e.2.2.1
 err : IntOk .i64 e.2.2.2.1
 msg : MgIn e.2.2.2.2
instance (k : IntKind) (n : Int) : Decidable (IntOk k n) := by unfold IntOk; infer_instance
def zM : Mg := (0, [0, 0, 0, 0, 0, 0], [], [], bstr [], bstr [])
theorem zM_ok : MgOk zM := ⟨by decide, rfl, by decide, by decide, by decide, by decide, by decide, by decide, by decide⟩
end Go.Rel
/-! Plain laws: a field's value is read. -/
namespace Go.Rel
open Go Go.Eng Go.Pl
/-! ### Numbers between commas -/
def numsR : List (List Int) → List Int → List Int × Int
 | [], acc => (acc, 0)
 | w :: ws, acc => if (rdB w).2 = 0 then numsR ws (acc ++ [(rdB w).1]) else ([], (rdB w).2)
theorem rnums_run {P : List (List Int)} (hP : ∀ w ∈ P, w.length < 1000000 ∧ Oct w) (hl : P.length < 1000000) : ∀ (ws pre : List (List Int)) (acc : List Int), P = pre ++ ws → acc.length = pre.length → Loops (ref20_numbers_l2 (P.map bstr)) (acc, (pre.length : Int)) (if (numsR ws acc).2 = 0 then .inl (numsR ws acc).1 else .inr (numsR ws acc))
 | [], pre, acc, h, hc => by
  refine .done ?_
  unfold ref20_numbers_l2
  rw [if_neg (by rw [List.length_map, h]; simp)]
  simp [numsR]
 | w :: ws, pre, acc, h, hc => by
  have hlen : P.length = pre.length + ws.length + 1 := by rw [h]; simp; omega
  obtain ⟨h1, h2⟩ := hP w (by rw [h]; simp)
  have hx : idx (P.map bstr) (pre.length : Int) (bstr w) := idx_at rfl (by rw [h]; simp)
  unfold numsR
  by_cases hr : (rdB w).2 = 0
  ·rw [if_pos hr]
   have ih := rnums_run hP hl ws (pre ++ [w]) (acc ++ [(rdB w).1]) (by rw [h]; simp) (by simp [hc])
   refine .next (s' := (acc ++ [(rdB w).1], ((pre ++ [w]).length : Int))) ?_ ih
   unfold ref20_numbers_l2
   rw [if_pos (by rw [List.length_map, decide_eq_true_eq]; simp only; omega)]
   refine ⟨_, hx, _, rread_ok (by omega) h2, ?_⟩
   rw [if_neg (by simp [hr])]
   simp only [List.length_singleton]
   refine ⟨by omega, by omega, ?_⟩
   rw [w_small (by omega) (by omega)]; simp
  ·rw [if_neg hr, if_neg hr]
   refine .done ?_
   unfold ref20_numbers_l2
   rw [if_pos (by rw [List.length_map, decide_eq_true_eq]; simp only; omega)]
   refine ⟨_, hx, _, rread_ok (by omega) h2, ?_⟩
   rw [if_pos (by simpa using hr)]
theorem rnums_ok {P : List (List Int)} (hP : ∀ w ∈ P, w.length < 1000000 ∧ Oct w) (hl : P.length < 1000000) : ref20_numbers (P.map bstr) (numsR P []) := by
 have := rnums_run hP hl P [] [] rfl rfl
 refine ⟨_, this, ?_⟩
 by_cases h : (numsR P []).2 = 0
 ·rw [if_pos h]; show _ = _; rw [← h]
 ·rw [if_neg h]; rfl
theorem scells_walk : ∀ (ws : List (List Int)) (acc : List Int), (∀ w ∈ ws, w.length < 1000000 ∧ Oct w) → acc.length + ws.length < 1000000 → ∃ t, RunB say_cells_l1 (ws.map bstr) acc t ∧ (((numsR ws acc).2 = 0 ∧ t = .inl (numsR ws acc).1) ∨ (¬ (numsR ws acc).2 = 0 ∧ ∃ x, t = .inr ((numsR ws acc).2, x) ∧ (numsR ws acc).1 = []))
 | [], acc, _, _ => ⟨_, .nil, .inl ⟨rfl, rfl⟩⟩
 | w :: ws, acc, hP, hl => by
  simp only [List.length_cons] at hl
  obtain ⟨h1, h2⟩ := hP w (by simp)
  unfold numsR
  by_cases hr : (rdB w).2 = 0
  ·rw [if_pos hr]
   obtain ⟨t, g1, g2⟩ := scells_walk ws (acc ++ [(rdB w).1]) (fun x hx => hP x (List.mem_cons_of_mem _ hx)) (by simp; omega)
   refine ⟨t, .go ⟨_, sread_ok (by omega) h2, ?_⟩ g1, g2⟩
   rw [if_neg (by simp [hr])]
   simp only [List.length_singleton]
   exact ⟨by omega, by omega, trivial⟩
  ·rw [if_neg hr]
   refine ⟨_, .stop ⟨_, sread_ok (by omega) h2, by rw [if_pos (by simpa using hr)]⟩, .inr ⟨hr, _, rfl, rfl⟩⟩
theorem part_ok {c : Int} {w : List Int} (hl : w.length < 100000) (ho : Oct w) : ∀ x ∈ splitL c w, x.length < 1000000 ∧ Oct x := fun x hx => by
 have := spl_sub (c := c) x hx
 exact ⟨by omega, fun y hy => ho y (this.2 y hy)⟩
theorem scells_ok {w : List Int} (hl : w.length < 100000) (ho : Oct w) : say_cells (bstr w) (numsR (splitL 44 w) []) := by
 have hlen := spl_len 44 w
 obtain ⟨t, h1, h2⟩ := scells_walk (splitL 44 w) [] (part_ok hl ho) (by simp; omega)
 obtain ⟨rest, h3⟩ := split_itr (c := 44) (by decide) (by omega) ho (run_yof h1)
 refine ⟨_, splitSeq_ok w 44, t, rest, h3, ?_⟩
 rcases h2 with ⟨g1, rfl⟩ | ⟨g1, x, rfl, g2⟩
 ·show _ = _; rw [← g1]
 ·exact Prod.ext g2 rfl
/-! ### Points -/
def ptP (w : List Int) : (Int × Int) × Int := match splitL 44 w with
 | [a, b] => if (rdB a).2 = 0 then (if (rdB b).2 = 0 then (((rdB a).1, (rdB b).1), 0) else ((0, 0), (rdB b).2)) else ((0, 0), (rdB a).2)
 | _ => ((0, 0), 3)
def ptsR : List (List Int) → List (Int × Int) → List (Int × Int) × Int
 | [], acc => (acc, 0)
 | w :: ws, acc => if (ptP w).2 = 0 then ptsR ws (acc ++ [(ptP w).1]) else ([], (ptP w).2)
theorem ptP_two {w a b : List Int} (h : splitL 44 w = [a, b]) : ptP w = if (rdB a).2 = 0 then (if (rdB b).2 = 0 then (((rdB a).1, (rdB b).1), 0) else ((0, 0), (rdB b).2)) else ((0, 0), (rdB a).2) := by unfold ptP; rw [h]
theorem ptP_not {w : List Int} (h : (splitL 44 w).length ≠ 2) : ptP w = ((0, 0), 3) := by
 unfold ptP
 split
 ·rename_i a b hq; rw [hq] at h; exact absurd rfl h
 ·rfl
theorem spt_ok {w : List Int} (hl : w.length < 1000000) (ho : Oct w) {s : List (Int × Int)} (hs : s.length < 1000000) : say_points_l1 (bstr w) s (if (ptP w).2 = 0 then .inl (s ++ [(ptP w).1]) else .inr ((ptP w).2, s)) := by
 rcases first_at 44 w with h | ⟨p, q, rfl, h⟩
 ·rw [ptP_not (by rw [splitL_no h]; simp)]
  refine ⟨_, scut_no (by decide) ho h, ?_⟩
  rw [if_pos (by simp), if_neg (by decide)]
  unfold say_points_j2
  rw [if_pos rfl]
 ·have ho2 := oct_ap2 ho
  have hoq := oct_tl2 ho2.2
  simp only [List.length_append, List.length_cons] at hl
  refine ⟨_, scut_at (by decide) (by simp; omega) ho h, ?_⟩
  rw [if_neg (by simp)]
  have hsp := splitL_at (q := q) h
  by_cases hq : 44 ∈ q
  ·obtain ⟨p2, q2, rfl, h2⟩ := (first_at 44 q).resolve_left (fun h => h hq)
   refine ⟨true, ⟨(p2.length : Int), ⟨44, one_bints (by decide), by rw [bb_of hoq, place_at h2]⟩, by simp⟩, ?_⟩
   rw [ptP_not (by
    rw [hsp, splitL_at h2]
    have := List.length_pos_iff.2 (splitL_ne 44 q2)
    simp only [List.length_cons]; omega), if_neg (by decide)]
   unfold say_points_j2
   rw [if_pos rfl]
  ·refine ⟨false, ⟨-1, ⟨44, one_bints (by decide), by rw [bb_of hoq, place_no hq]⟩, by simp⟩, ?_⟩
   rw [ptP_two (by rw [hsp, splitL_no hq])]
   unfold say_points_j2
   rw [if_neg (by decide)]
   refine ⟨_, sread_ok (by omega) ho2.1, ?_⟩
   by_cases h1 : (rdB p).2 = 0
   ·rw [if_neg (by simpa using h1), if_pos h1]
    refine ⟨_, sread_ok (by omega) hoq, ?_⟩
    by_cases h2 : (rdB q).2 = 0
    ·rw [if_neg (by simpa using h2), if_pos h2, if_pos rfl]
     simp only [List.length_singleton]
     exact ⟨by omega, by omega, trivial⟩
    ·rw [if_pos (by simpa using h2), if_neg h2, if_neg h2]
   ·rw [if_pos (by simpa using h1), if_neg h1, if_neg h1]
theorem spoints_walk : ∀ (ws : List (List Int)) (acc : List (Int × Int)), (∀ w ∈ ws, w.length < 1000000 ∧ Oct w) → acc.length + ws.length < 1000000 → ∃ t, RunB say_points_l1 (ws.map bstr) acc t ∧ (((ptsR ws acc).2 = 0 ∧ t = .inl (ptsR ws acc).1) ∨ (¬ (ptsR ws acc).2 = 0 ∧ ∃ x, t = .inr ((ptsR ws acc).2, x) ∧ (ptsR ws acc).1 = []))
 | [], acc, _, _ => ⟨_, .nil, .inl ⟨rfl, rfl⟩⟩
 | w :: ws, acc, hP, hl => by
  simp only [List.length_cons] at hl
  obtain ⟨h1, h2⟩ := hP w (by simp)
  have hp := spt_ok (s := acc) h1 h2 (by omega)
  unfold ptsR
  by_cases hr : (ptP w).2 = 0
  ·rw [if_pos hr] at hp ⊢
   obtain ⟨t, g1, g2⟩ := spoints_walk ws (acc ++ [(ptP w).1]) (fun x hx => hP x (List.mem_cons_of_mem _ hx)) (by simp; omega)
   exact ⟨t, .go hp g1, g2⟩
  ·rw [if_neg hr] at hp ⊢
   exact ⟨_, .stop hp, .inr ⟨hr, _, rfl, rfl⟩⟩
theorem spoints_ok {w : List Int} (hl : w.length < 100000) (ho : Oct w) : say_points (bstr w) (ptsR (splitL 59 w) []) := by
 have hlen := spl_len 59 w
 obtain ⟨t, h1, h2⟩ := spoints_walk (splitL 59 w) [] (part_ok hl ho) (by simp; omega)
 obtain ⟨rest, h3⟩ := split_itr (c := 59) (by decide) (by omega) ho (run_yof h1)
 refine ⟨_, splitSeq_ok w 59, t, rest, h3, ?_⟩
 rcases h2 with ⟨g1, rfl⟩ | ⟨g1, x, rfl, g2⟩
 ·show _ = _; rw [← g1]
 ·exact Prod.ext g2 rfl
theorem rpts_run {a0 : Mr} {P : List (List Int)} (hP : ∀ w ∈ P, w.length < 100000 ∧ Oct w) (hl : P.length < 1000000) : ∀ (ws pre : List (List Int)) (acc : List (Int × Int)), P = pre ++ ws → acc.length = pre.length → ∃ e, Loops (ref20_value_l2 a0 (P.map bstr)) ((pre.length : Int), acc.map ofP) e ∧ (((ptsR ws acc).2 = 0 ∧ e = .inl (0, (a0.2.1.getD 0 0), (a0.2.1.getD 1 0), (a0.2.1.getD 2 0), (a0.2.1.getD 3 0), (a0.2.1.getD 4 0), (a0.2.1.getD 5 0), (ptsR ws acc).1.map ofP, a0.2.2.2.1, a0.2.2.2.2.1, a0.2.2.2.2.2)) ∨ (¬ (ptsR ws acc).2 = 0 ∧ ∃ x, e = .inr (x, (ptsR ws acc).2)))
 | [], pre, acc, h, hc => by
  refine ⟨_, .done ?_, .inl ⟨rfl, rfl⟩⟩
  unfold ref20_value_l2
  rw [if_neg (by rw [List.length_map, h]; simp)]
  rfl
 | w :: ws, pre, acc, h, hc => by
  have hlen : P.length = pre.length + ws.length + 1 := by rw [h]; simp; omega
  obtain ⟨h1, h2⟩ := hP w (by rw [h]; simp)
  have hx : idx (P.map bstr) (pre.length : Int) (bstr w) := idx_at rfl (by rw [h]; simp)
  have hpart := part_ok (c := 44) h1 h2
  have hsl := spl_len 44 w
  have stp : ∀ o, (∃ r27 : List ByteArray, ref20_Split (bstr w) 44 r27 ∧ if (!(decide ((r27.length : Int) = 2))) = true then (o = .inr (.inr ((a0.1, a0.2.1, acc.map ofP, a0.2.2.2.1, a0.2.2.2.2.1, a0.2.2.2.2.2), 3))) else (∃ r33 : List Int × Int, ref20_numbers r27 r33 ∧ if (!(decide (r33.2 = 0))) = true then (o = .inr (.inr ((a0.1, a0.2.1, acc.map ofP, a0.2.2.2.1, a0.2.2.2.2.1, a0.2.2.2.2.2), r33.2))) else (∃ q53 : Int, idx r33.1 0 q53 ∧ ∃ q58 : Int, idx r33.1 1 q58 ∧ o = .inl (((pre.length + 1 : Nat) : Int), acc.map ofP ++ [[q53, q58]])))) → ref20_value_l2 a0 (P.map bstr) ((pre.length : Int), acc.map ofP) o := by
   rintro o ⟨r27, k1, k2⟩
   unfold ref20_value_l2
   rw [if_pos (by rw [List.length_map, decide_eq_true_eq]; simp only; omega)]
   refine ⟨_, hx, r27, k1, ?_⟩
   by_cases c1 : (r27.length : Int) = 2
   ·rw [if_neg (by simp [c1])] at k2 ⊢
    obtain ⟨r33, k3, k4⟩ := k2
    refine ⟨r33, k3, ?_⟩
    by_cases c2 : r33.2 = 0
    ·rw [if_neg (by simp [c2])] at k4 ⊢
     obtain ⟨q53, k5, q58, k6, rfl⟩ := k4
     simp only [List.length_map, List.length_nil, List.nil_append, List.length_singleton]
     refine ⟨by omega, by omega, q53, k5, q58, k6, by omega, by omega, ?_⟩
     rw [w_small (by omega) (by omega)]; rfl
    ·rw [if_pos (by simpa using c2)] at k4 ⊢; exact k4
   ·rw [if_pos (by simpa using c1)] at k2 ⊢; exact k2
  unfold ptsR
  by_cases h2p : (splitL 44 w).length = 2
  ·obtain ⟨a, b, hab⟩ : ∃ a b, splitL 44 w = [a, b] := by
    match splitL 44 w, h2p with
    | [a, b], _ => exact ⟨_, _, rfl⟩
   rw [hab] at hpart
   have hpt := ptP_two hab
   have hn := rnums_ok (P := [a, b]) hpart (by simp)
   have hsp := rsplit_ok (c := 44) (l := w) (by omega) h2
   rw [hab] at hsp
   by_cases c1 : (rdB a).2 = 0
   ·by_cases c2 : (rdB b).2 = 0
    ·have hv : numsR [a, b] [] = ([(rdB a).1, (rdB b).1], 0) := by simp [numsR, c1, c2]
     rw [hpt, if_pos c1, if_pos c2, if_pos rfl]
     rw [hv] at hn
     obtain ⟨e, g1, g2⟩ := rpts_run (a0 := a0) hP hl ws (pre ++ [w]) (acc ++ [((rdB a).1, (rdB b).1)]) (by rw [h]; simp) (by simp [hc])
     refine ⟨e, .next (stp (.inl (((pre.length + 1 : Nat) : Int), acc.map ofP ++ [[(rdB a).1, (rdB b).1]])) ⟨_, hsp, ?_⟩) ?_, g2⟩
     ·rw [if_neg (by simp)]
      refine ⟨_, hn, ?_⟩
      rw [if_neg (by simp)]
      exact ⟨_, ⟨by decide, rfl⟩, _, ⟨by decide, rfl⟩, rfl⟩
     ·rw [List.length_append, List.map_append] at g1; exact g1
    ·have hv : numsR [a, b] [] = ([], (rdB b).2) := by simp [numsR, c1, c2]
     rw [hpt, if_pos c1, if_neg c2, if_neg c2]
     rw [hv] at hn
     refine ⟨.inr ((a0.1, a0.2.1, acc.map ofP, a0.2.2.2.1, a0.2.2.2.2.1, a0.2.2.2.2.2), (rdB b).2), .done (stp _ ⟨_, hsp, ?_⟩), .inr ⟨c2, (a0.1, a0.2.1, acc.map ofP, a0.2.2.2.1, a0.2.2.2.2.1, a0.2.2.2.2.2), rfl⟩⟩
     rw [if_neg (by simp)]
     exact ⟨_, hn, by rw [if_pos (by simpa using c2)]⟩
   ·have hv : numsR [a, b] [] = ([], (rdB a).2) := by simp [numsR, c1]
    rw [hpt, if_neg c1, if_neg c1]
    rw [hv] at hn
    refine ⟨.inr ((a0.1, a0.2.1, acc.map ofP, a0.2.2.2.1, a0.2.2.2.2.1, a0.2.2.2.2.2), (rdB a).2), .done (stp _ ⟨_, hsp, ?_⟩), .inr ⟨c1, (a0.1, a0.2.1, acc.map ofP, a0.2.2.2.1, a0.2.2.2.2.1, a0.2.2.2.2.2), rfl⟩⟩
    rw [if_neg (by simp)]
    exact ⟨_, hn, by rw [if_pos (by simpa using c1)]⟩
  ·rw [ptP_not h2p, if_neg (by decide)]
   refine ⟨.inr ((a0.1, a0.2.1, acc.map ofP, a0.2.2.2.1, a0.2.2.2.2.1, a0.2.2.2.2.2), 3), .done (stp _ ⟨_, rsplit_ok (c := 44) (l := w) (by omega) h2, ?_⟩), .inr ⟨by decide, (a0.1, a0.2.1, acc.map ofP, a0.2.2.2.1, a0.2.2.2.2.1, a0.2.2.2.2.2), rfl⟩⟩
   rw [if_pos (by rw [List.length_map, decide_eq_false (by omega)]; rfl)]
/-! ### Bytes -/
theorem shl4_or2 {x y : Int} (hx : 0 ≤ x ∧ x < 16) (hy : 0 ≤ y ∧ y < 16) : IntKind.u8.wrap (ior .i64 (ishl .i64 x 4) y) = 16 * x + y := by
 obtain ⟨a, rfl⟩ := Int.eq_ofNat_of_zero_le hx.1
 obtain ⟨b, rfl⟩ := Int.eq_ofNat_of_zero_le hy.1
 have ha : a < 16 := by omega
 have hb : b < 16 := by omega
 have key : ∀ a : Nat, a < 16 → ∀ b : Nat, b < 16 → IntKind.u8.wrap (ior .i64 (ishl .i64 (a : Int) 4) (b : Int)) = 16 * (a : Int) + (b : Int) := by decide
 exact key a ha b hb
theorem hv_neg2 {c : Int} : decide ((hv c).getD (-1) < 0) = (hv c).isNone := by
 cases hq : hv c with
 | none => rfl
 | some n => have := hv_some hq; simp; omega
theorem sunhex_run {w : List Int} (ho : Oct w) (hl : w.length < 1000000) : ∀ (n : Nat) (l pre out : List Int), l.length ≤ n → w = pre ++ l → l.length % 2 = 0 → out.length + l.length ≤ w.length →
    Loops (say_unhex_l3 (bstr w)) (out, (pre.length : Int)) (match unhexL l with
      | none => .inr (bstr [], 3)
      | some r => .inl (out ++ r))
  | n, [], pre, out, hn, hw, he, ho2 => by
    refine .done ?_
    unfold say_unhex_l3
    rw [if_neg (by rw [size_bstr, hw]; simp)]
    simp [unhexL]
  | n, [x], pre, out, hn, hw, he, ho2 => by simp at he
  | 0, a :: b :: l, pre, out, hn, hw, he, ho2 => by simp at hn
  | n + 1, a :: b :: l, pre, out, hn, hw, he, ho2 => by
    simp only [List.length_cons] at hn he ho2
    have hlen : w.length = pre.length + l.length + 2 := by rw [hw]; simp; omega
    have ha := ho a (by rw [hw]; simp)
    have hb := ho b (by rw [hw]; simp)
    have i1 : idx (bints (bstr w)) (pre.length : Int) a := by rw [bb_of ho, hw]; exact idx_at rfl (by simp)
    have i2 : idx (bints (bstr w)) (IntKind.i64.wrap ((pre.length : Int) + 1)) b := by
      rw [bb_of ho, w_small (by omega) (by omega)]
      exact idx_at (k := pre.length + 1) (by omega) (by rw [hw, List.getElem?_append_right (by omega)]; simp)
    have stp : ∀ o, say_unhex_j4 (out, (pre.length : Int)) ((hv a).getD (-1)) ((hv b).getD (-1)) ((hv a).isNone || (hv b).isNone) o → say_unhex_l3 (bstr w) (out, (pre.length : Int)) o := by
      intro o h
      unfold say_unhex_l3
      rw [if_pos (by rw [size_bstr, decide_eq_true_eq]; omega)]
      refine ⟨a, i1, _, place_hv ha, b, i2, _, place_hv hb, ?_⟩
      rw [hv_neg2, hv_neg2]
      cases hqa : (hv a).isNone with
      | true => rw [hqa] at h; rw [if_pos rfl]; simpa using h
      | false => rw [hqa] at h; rw [if_neg (by decide)]; simpa using h
    have bad : ((hv a).isNone || (hv b).isNone) = true → say_unhex_l3 (bstr w) (out, (pre.length : Int)) (.inr (.inr (bstr [], 3))) := fun h => stp _ (by
      rw [h]; unfold say_unhex_j4; rw [if_pos rfl])
    unfold unhexL
    cases hqa : hv a with
    | none => exact .done (bad (by rw [hqa]; rfl))
    | some x =>
      cases hqb : hv b with
      | none => exact .done (bad (by rw [hqa, hqb]; rfl))
      | some y =>
        have hx := hv_some hqa
        have hy := hv_some hqb
        have go : say_unhex_l3 (bstr w) (out, (pre.length : Int)) (.inl (out ++ [16 * x + y], ((pre ++ [a, b]).length : Int))) := stp _ (by
          rw [hqa, hqb]
          unfold say_unhex_j4
          rw [if_neg (by simp)]
          simp only [Option.getD_some, List.length_singleton]
          rw [shl4_or2 ⟨hx.1, hx.2.1⟩ ⟨hy.1, hy.2.1⟩]
          refine ⟨by omega, by omega, ?_⟩
          rw [w_small (by omega) (by omega)]; simp)
        have ih := sunhex_run ho hl n l (pre ++ [a, b]) (out ++ [16 * x + y]) (by omega) (by rw [hw]; simp) (by omega) (by rw [List.length_append, List.length_singleton]; omega)
        refine .next go ?_
        cases hr : unhexL l with
        | none => rw [hr] at ih; exact ih
        | some r => rw [hr] at ih; simpa using ih
theorem sunhex_ok {w : List Int} (ho : Oct w) (hl : w.length < 1000000) : say_unhex (bstr w) (bstr (unhexR w).1, (unhexR w).2) := by
 have h45 : Oct [45] := fun x hx => by simp at hx; omega
 have h0 : Oct [] := fun x hx => nomatch hx
 unfold say_unhex unhexR
 by_cases e1 : w = [45]
 ·rw [if_pos (by simp [e1]), if_pos e1]
 ·rw [if_neg (bstr_ne ho h45 e1), if_neg e1]
  by_cases e2 : w = []
  ·rw [if_pos (by simp [e2]), if_pos e2]
   unfold say_unhex_j1; rw [if_pos rfl]
  ·rw [if_neg (bstr_ne ho h0 e2), if_neg e2]
   unfold say_unhex_j1
   have hm : ((bstr w).size : Int).tmod 2 = ((w.length % 2 : Nat) : Int) := by rw [size_bstr, Int.tmod_eq_emod_of_nonneg (by omega)]; rfl
   rw [hm]
   by_cases e3 : w.length % 2 = 1
   ·rw [if_pos (by rw [decide_eq_false (by omega)]; rfl), unhexL_odd w.length w (Nat.le_refl _) e3]
   ·rw [if_neg (by rw [decide_eq_true (by omega)]; decide)]
    have h1 := sunhex_run ho hl w.length w [] [] (Nat.le_refl _) rfl (by omega) (by simp)
    refine ⟨_, h1, ?_⟩
    cases unhexL w with
    | none => rfl
    | some r => rfl
theorem rdig20_ok {n : Int} (h0 : 0 ≤ n) (h1 : n < 16) : ref20_digit n (hexD n) := rdigit_ok h0 h1
theorem seek20 {w : List Int} {c : Int} {s : List Int × Int × Int} (hx : idx (bints (bstr w)) s.2.2 c) : Loops (ref20_unhex_l6 (bstr w) s) (-1, 0) ((hv c).getD (-1)) := by
 have := loops_count (step := ref20_unhex_l6 (bstr w) s) (e := (hv c).getD (-1)) (fun k => (match hv c with | some v => if v < (k : Int) then v else -1 | none => -1, (k : Int))) 16 (fun k hk => by
  unfold ref20_unhex_l6
  rw [if_pos (by rw [decide_eq_true_eq]; simp only; omega)]
  refine ⟨hexD (k : Int), ?_, c, hx, ?_⟩
  ·rw [w_u8, show (k : Int) % 256 = (k : Int) by omega]; exact rdig20_ok (by omega) (by omega)
  ·unfold ref20_unhex_j7
   simp only
   rw [w_small (by omega) (by omega)]
   by_cases he : hexD (k : Int) = c
   ·have hv' : hv c = some (k : Int) := by rw [← he]; exact hv_hexD (by omega) (by omega)
    rw [if_pos (by simpa using he), hv']
    simp only
    rw [if_pos (by omega)]; rfl
   ·rw [if_neg (by simpa using he)]
    cases hq : hv c with
    | none => rfl
    | some v =>
     have hv2 := hv_some hq
     have : v ≠ (k : Int) := fun e => he (by rw [← e]; exact hv2.2.2)
     simp only
     by_cases hlt : v < (k : Int)
     ·rw [if_pos hlt, if_pos (by omega)]; rfl
     ·rw [if_neg hlt, if_neg (by omega)]; rfl) (by
  unfold ref20_unhex_l6
  rw [if_neg (by simp)]
  cases hq : hv c with
  | none => rfl
  | some v => have := hv_some hq; simp; omega)
 have e0 : (match hv c with | some v => if v < ((0 : Nat) : Int) then v else -1 | none => (-1 : Int)) = -1 := by
  cases hq : hv c with
  | none => rfl
  | some v => have := hv_some hq; simp only; rw [if_neg (by omega)]
 simp only [e0] at this
 exact this
theorem runhex20_run {w : List Int} (ho : Oct w) (hl : w.length < 1000000) : ∀ (n : Nat) (l pre out : List Int), l.length ≤ n → w = pre ++ l → l.length % 2 = 0 → pre.length % 2 = 0 → out.length + l.length ≤ w.length →
    Loops (ref20_unhex_l3 (bstr w)) (out, 0, (pre.length : Int)) (match unhexL l with
      | none => .inr (bstr [], 3)
      | some r => .inl (out ++ r))
  | n, [], pre, out, hn, hw, he, hp, ho2 => by
    refine .done ?_
    unfold ref20_unhex_l3
    rw [if_neg (by rw [size_bstr, hw]; simp)]
    simp [unhexL]
  | n, [x], pre, out, hn, hw, he, hp, ho2 => by simp at he
  | 0, a :: b :: l, pre, out, hn, hw, he, hp, ho2 => by simp at hn
  | n + 1, a :: b :: l, pre, out, hn, hw, he, hp, ho2 => by
    simp only [List.length_cons] at hn he ho2
    have hlen : w.length = pre.length + l.length + 2 := by rw [hw]; simp; omega
    have i1 : idx (bints (bstr w)) (pre.length : Int) a := by rw [bb_of ho, hw]; exact idx_at rfl (by simp)
    have i2 : idx (bints (bstr w)) ((pre.length + 1 : Nat) : Int) b := by
      rw [bb_of ho]
      exact idx_at (k := pre.length + 1) (by omega) (by rw [hw, List.getElem?_append_right (by omega)]; simp)
    have s1 : ∀ o, ref20_unhex_j5 (out, 0, (pre.length : Int)) ((hv a).getD (-1)) o → ref20_unhex_l3 (bstr w) (out, 0, (pre.length : Int)) o := fun o h => by
      unfold ref20_unhex_l3
      rw [if_pos (by rw [size_bstr, decide_eq_true_eq]; simp only; omega)]
      exact ⟨_, seek20 (s := (out, 0, (pre.length : Int))) i1, h⟩
    unfold unhexL
    cases hqa : hv a with
    | none =>
      refine .done (s1 _ ?_)
      rw [hqa]; unfold ref20_unhex_j5
      rw [if_pos (by decide)]
    | some x =>
      have hx := hv_some hqa
      have g1 : ref20_unhex_l3 (bstr w) (out, 0, (pre.length : Int)) (.inl (out, x, ((pre.length + 1 : Nat) : Int))) := s1 _ (by
        rw [hqa]; unfold ref20_unhex_j5
        simp only [Option.getD_some]
        rw [if_neg (by rw [decide_eq_true_eq]; omega), if_neg (by rw [Int.tmod_eq_emod_of_nonneg (by omega), decide_eq_true_eq]; omega)]
        unfold ref20_unhex_j4
        simp only
        rw [w_small (n := 16 * 0) (by omega) (by omega), w_small (by omega) (by omega), w_small (by omega) (by omega)]
        simp)
      have s2 : ∀ o, ref20_unhex_j5 (out, x, ((pre.length + 1 : Nat) : Int)) ((hv b).getD (-1)) o → ref20_unhex_l3 (bstr w) (out, x, ((pre.length + 1 : Nat) : Int)) o := fun o h => by
        unfold ref20_unhex_l3
        rw [if_pos (by rw [size_bstr, decide_eq_true_eq]; simp only; omega)]
        exact ⟨_, seek20 (s := (out, x, ((pre.length + 1 : Nat) : Int))) i2, h⟩
      cases hqb : hv b with
      | none =>
        refine .next g1 (.done (s2 _ ?_))
        rw [hqb]; unfold ref20_unhex_j5
        rw [if_pos (by decide)]
      | some y =>
        have hy := hv_some hqb
        have g2 : ref20_unhex_l3 (bstr w) (out, x, ((pre.length + 1 : Nat) : Int)) (.inl (out ++ [16 * x + y], 0, ((pre ++ [a, b]).length : Int))) := s2 _ (by
          rw [hqb]; unfold ref20_unhex_j5
          simp only [Option.getD_some, List.length_singleton]
          rw [if_neg (by rw [decide_eq_true_eq]; omega), if_pos (by rw [Int.tmod_eq_emod_of_nonneg (by omega), decide_eq_true_eq]; omega)]
          refine ⟨by omega, by omega, ?_⟩
          unfold ref20_unhex_j4
          simp only
          rw [w_small (n := 16 * x) (by omega) (by omega), w_small (n := 16 * x + y) (by omega) (by omega), w_u8, show (16 * x + y) % 256 = 16 * x + y by omega, w_small (by omega) (by omega)]
          simp; omega)
        have ih := runhex20_run ho hl n l (pre ++ [a, b]) (out ++ [16 * x + y]) (by omega) (by rw [hw]; simp) (by omega) (by simp; omega) (by rw [List.length_append, List.length_singleton]; omega)
        refine .next g1 (.next g2 ?_)
        cases hr : unhexL l with
        | none => rw [hr] at ih; exact ih
        | some r => rw [hr] at ih; simpa using ih
theorem runhex20_ok {w : List Int} (ho : Oct w) (hl : w.length < 1000000) : ref20_unhex (bstr w) (bstr (unhexR w).1, (unhexR w).2) := by
 have h45 : Oct [45] := fun x hx => by simp at hx; omega
 have h0 : Oct [] := fun x hx => nomatch hx
 unfold ref20_unhex unhexR
 by_cases e1 : w = [45]
 ·rw [if_pos (by simp [e1]), if_pos e1]
 ·rw [if_neg (bstr_ne ho h45 e1), if_neg e1]
  by_cases e2 : w = []
  ·rw [if_pos (by simp [e2]), if_pos e2]
   unfold ref20_unhex_j1; rw [if_pos rfl]
  ·rw [if_neg (bstr_ne ho h0 e2), if_neg e2]
   unfold ref20_unhex_j1
   have hm : ((bstr w).size : Int).tmod 2 = ((w.length % 2 : Nat) : Int) := by rw [size_bstr, Int.tmod_eq_emod_of_nonneg (by omega)]; rfl
   rw [hm]
   by_cases e3 : w.length % 2 = 1
   ·rw [if_pos (by rw [decide_eq_true_eq]; omega), unhexL_odd w.length w (Nat.le_refl _) e3]
   ·rw [if_neg (by rw [decide_eq_true_eq]; omega)]
    have h1 := runhex20_run ho hl w.length w [] [] (Nat.le_refl _) rfl (by omega) rfl (by simp)
    refine ⟨_, h1, ?_⟩
    cases unhexL w with
    | none => rfl
    | some r => rfl
end Go.Rel
/-! Plain laws: the message of a line. -/
namespace Go.Rel
open Go Go.Eng Go.Pl
def readB (m : Mg) (f : Fd) (w : List Int) : Int × Mg :=
 if f.2.1 = 3 then ((ptsR (splitL 59 w) []).2, (m.1, n6 m.2.1, (ptsR (splitL 59 w) []).1, m.2.2.2.1, m.2.2.2.2.1, m.2.2.2.2.2))
 else if f.2.1 = 4 then ((numsR (splitL 44 w) []).2, (m.1, n6 m.2.1, m.2.2.1, (numsR (splitL 44 w) []).1, m.2.2.2.2.1, m.2.2.2.2.2))
 else if f.2.1 = 5 then ((unhexR w).2, (m.1, n6 m.2.1, m.2.2.1, m.2.2.2.1, bstr (unhexR w).1, m.2.2.2.2.2))
 else if f.2.1 = 6 then ((unhexR w).2, (m.1, n6 m.2.1, m.2.2.1, m.2.2.2.1, m.2.2.2.2.1, bstr (unhexR w).1))
 else ((rdB w).2, (m.1, n6 (putN 6 0 m.2.1 f.2.2.1.toNat (rdB w).1), m.2.2))
theorem fd_place {f : Fd} (h : fdOk f) (h3 : ¬ f.2.1 = 3) (h4 : ¬ f.2.1 = 4) (h5 : ¬ f.2.1 = 5) (h6 : ¬ f.2.1 = 6) : 0 ≤ f.2.2.1 ∧ f.2.2.1 < 6 := by
 obtain ⟨_, _, h⟩ := h
 omega
theorem sreadB_ok {m : Mg} {f : Fd} {w : List Int} (hf : fdOk f) (hl : w.length < 100000) (ho : Oct w) : say_read m f (bstr w) (readB m f w) := by
 unfold say_read readB say_read_j1
 by_cases h3 : f.2.1 = 3
 ·rw [if_pos (by simpa using h3), if_pos h3]; exact ⟨_, spoints_ok hl ho, rfl⟩
 rw [if_neg (by simpa using h3), if_neg h3]
 by_cases h4 : f.2.1 = 4
 ·rw [if_pos (by simpa using h4), if_pos h4]; exact ⟨_, scells_ok hl ho, rfl⟩
 rw [if_neg (by simpa using h4), if_neg h4]
 by_cases h5 : f.2.1 = 5
 ·rw [if_pos (by simpa using h5), if_pos h5]; exact ⟨_, sunhex_ok ho (by omega), rfl⟩
 rw [if_neg (by simpa using h5), if_neg h5]
 by_cases h6 : f.2.1 = 6
 ·rw [if_pos (by simpa using h6), if_pos h6]; exact ⟨_, sunhex_ok ho (by omega), rfl⟩
 rw [if_neg (by simpa using h6), if_neg h6]
 have := fd_place hf h3 h4 h5 h6
 exact ⟨_, sread_ok (by omega) ho, by omega, by omega, rfl⟩
theorem rvalue_ok {m : Mg} {f : Fd} {w : List Int} (hf : fdOk f) (hl : w.length < 100000) (ho : Oct w) (hp : f.2.1 = 3 → m.2.2.1 = []) : ∃ r, ref20_value (ofM m) f (bstr w) r ∧ r.2 = (readB m f w).1 ∧ ((readB m f w).1 = 0 → r.1 = ofM (readB m f w).2) := by
 unfold ref20_value readB ref20_value_j1
 by_cases h3 : f.2.1 = 3
 ·simp only [if_pos (show decide (f.2.1 = 3) = true by simpa using h3), if_pos h3]
  have hlen := spl_len 59 w
  obtain ⟨e, g1, g2⟩ := rpts_run (a0 := ofM m) (P := splitL 59 w) (fun x hx => by
   have := spl_sub (c := 59) x hx
   exact ⟨by omega, fun y hy => ho y (this.2 y hy)⟩) (by omega) (splitL 59 w) [] [] rfl rfl
  have h0 : (ofM m).2.2.1 = [] := by unfold ofM; simp [hp h3]
  have g1' : Loops (ref20_value_l2 (ofM m) ((splitL 59 w).map bstr)) (0, (ofM m).2.2.1) e := by rw [h0]; exact g1
  rcases g2 with ⟨c, rfl⟩ | ⟨c, x, rfl⟩
  ·exact ⟨(ofM (m.1, n6 m.2.1, (ptsR (splitL 59 w) []).1, m.2.2.2.1, m.2.2.2.2.1, m.2.2.2.2.2), 0), ⟨_, rsplit_ok (c := 59) (by omega) ho, _, g1', rfl⟩, c.symm, fun _ => rfl⟩
  ·exact ⟨(x, (ptsR (splitL 59 w) []).2), ⟨_, rsplit_ok (c := 59) (by omega) ho, _, g1', rfl⟩, rfl, fun h => absurd h c⟩
 simp only [if_neg (show ¬ decide (f.2.1 = 3) = true by simpa using h3), if_neg h3]
 by_cases h4 : f.2.1 = 4
 ·simp only [if_pos (show decide (f.2.1 = 4) = true by simpa using h4), if_pos h4]
  have hlen := spl_len 44 w
  exact ⟨_, ⟨_, rsplit_ok (c := 44) (by omega) ho, _, rnums_ok (part_ok hl ho) (by omega), rfl⟩, rfl, fun _ => rfl⟩
 simp only [if_neg (show ¬ decide (f.2.1 = 4) = true by simpa using h4), if_neg h4]
 by_cases h5 : f.2.1 = 5
 ·simp only [if_pos (show decide (f.2.1 = 5) = true by simpa using h5), if_pos h5]
  exact ⟨_, ⟨_, runhex20_ok ho (by omega), rfl⟩, rfl, fun _ => rfl⟩
 simp only [if_neg (show ¬ decide (f.2.1 = 5) = true by simpa using h5), if_neg h5]
 by_cases h6 : f.2.1 = 6
 ·simp only [if_pos (show decide (f.2.1 = 6) = true by simpa using h6), if_pos h6]
  exact ⟨_, ⟨_, runhex20_ok ho (by omega), rfl⟩, rfl, fun _ => rfl⟩
 simp only [if_neg (show ¬ decide (f.2.1 = 6) = true by simpa using h6), if_neg h6]
 have := fd_place hf h3 h4 h5 h6
 exact ⟨_, ⟨_, rread_ok (by omega) ho, by omega, by omega, rfl⟩, rfl, fun _ => rfl⟩
/-! ### Field by field -/
def goF : List Fd → List (List Int) → Mg → Sum (List (List Int) × Mg) Int
 | [], ws, m => .inl (ws, m)
 | _ :: _, [], _ => .inr 13
 | f :: _, [n], _ => if n = bints f.1 then .inr 13 else .inr 3
 | f :: fs, n :: v :: ws, m => if n = bints f.1 then (if (readB m f v).1 = 0 then goF fs ws (readB m f v).2 else .inr (readB m f v).1) else .inr 3
theorem goF_ne {fs : List Fd} : ∀ {ws : List (List Int)} {m : Mg} {e : Int}, goF fs ws m = .inr e → e ≠ 0 := by
  induction fs with
  | nil => intro ws m e h; simp [goF] at h
  | cons f fs ih =>
    intro ws m e h
    match ws, h with
    | [], h => simp [goF] at h; omega
    | [n], h =>
      simp only [goF] at h
      split at h <;> · simp at h; omega
    | n :: v :: ws, h =>
      simp only [goF] at h
      split at h
      · split at h
        · exact ih h
        · rename_i hq; simp at h; rw [← h]; exact hq
      · simp at h; omega
abbrev StP := List ByteArray × Int × Int × Int × Int × Int × Int × Int × List (Int × Int) × List Int × ByteArray × ByteArray × Int
abbrev stP (ws : List ByteArray) (m : Mg) (e : Int) : StP := (ws, m.1, m.2.1.getD 0 0, m.2.1.getD 1 0, m.2.1.getD 2 0, m.2.1.getD 3 0, m.2.1.getD 4 0, m.2.1.getD 5 0, m.2.2.1, m.2.2.2.1, m.2.2.2.2.1, m.2.2.2.2.2, e)
theorem next_cons (w : ByteArray) (ws : List ByteArray) : say_Parse_1 (w :: ws) (w, true, ws) := by
 unfold say_Parse_1
 rw [if_neg (by simp; omega)]
 refine ⟨w, idx_at (k := 0) rfl rfl, by simp; omega, by omega, ?_⟩
 rw [show (1 : Int).toNat = 1 from rfl, List.drop_succ_cons, List.drop_zero, List.take_of_length_le (by simp)]
theorem next_nil : say_Parse_1 [] (bstr [], false, []) := by
 unfold say_Parse_1
 rw [if_pos (by simp)]
theorem six_readB {m : Mg} {f : Fd} {w : List Int} : (readB m f w).2.2.1.length = 6 := by
 unfold readB
 repeat' split
 all_goals rfl
theorem readB_six {m : Mg} (h : m.2.1.length = 6) : ((m.1, [m.2.1.getD 0 0, m.2.1.getD 1 0, m.2.1.getD 2 0, m.2.1.getD 3 0, m.2.1.getD 4 0, m.2.1.getD 5 0], m.2.2.1, m.2.2.2.1, m.2.2.2.2.1, m.2.2.2.2.2) : Mg) = m := by
 show (m.1, n6 m.2.1, m.2.2) = m
 rw [n6_eq h]
theorem name_eq {f : Fd} {n : List Int} (ho : Oct n) : decide (bstr n = f.1) = decide (n = bints f.1) := by
 by_cases h : n = bints f.1
 ·rw [decide_eq_true h, decide_eq_true (by rw [h, bstr_bints])]
 ·rw [decide_eq_false h, decide_eq_false (fun e => h (by rw [← e, bb_of ho]))]
theorem prog_run : ∀ (fs : List Fd) (ws : List (List Int)) (m : Mg), m.2.1.length = 6 → (∀ w ∈ ws, w.length < 100000 ∧ Oct w) → (∀ f ∈ fs, fdOk f) → ∃ t, RunB say_Parse_l4 fs (stP (ws.map bstr) m 0) t ∧ ((∃ ws' m', goF fs ws m = .inl (ws', m') ∧ t = .inl (stP (ws'.map bstr) m' 0) ∧ m'.2.1.length = 6) ∨ (∃ e ws' m', goF fs ws m = .inr e ∧ t = .inr (stP ws' m' e)))
 | [], ws, m, h6, _, _ => ⟨_, .nil, .inl ⟨ws, m, rfl, rfl, h6⟩⟩
 | f :: fs, [], m, h6, hw, hf => by
  refine ⟨_, .stop (e := stP [] m 13) ⟨_, next_nil, ?_⟩, .inr ⟨13, [], m, rfl, rfl⟩⟩
  rw [if_pos (by simp)]
 | f :: fs, [n], m, h6, hw, hf => by
  have ho := (hw n (by simp)).2
  unfold goF
  by_cases hn : n = bints f.1
  ·rw [if_pos hn]
   refine ⟨_, .stop (e := stP [] m 13) ⟨_, next_cons _ _, ?_⟩, .inr ⟨13, [], m, rfl, rfl⟩⟩
   rw [if_neg (by simp), if_neg (by simp only; rw [name_eq ho, decide_eq_true hn]; decide)]
   refine ⟨_, next_nil, ?_⟩
   rw [if_pos (by simp)]
  ·rw [if_neg hn]
   refine ⟨_, .stop (e := stP [] m 3) ⟨_, next_cons _ _, ?_⟩, .inr ⟨3, [], m, rfl, rfl⟩⟩
   rw [if_neg (by simp), if_pos (by simp only; rw [name_eq ho, decide_eq_false hn]; rfl)]; rfl
 | f :: fs, n :: v :: ws, m, h6, hw, hf => by
  have ho := (hw n (by simp)).2
  have hv := hw v (by simp)
  have hfd := hf f (by simp)
  unfold goF
  by_cases hn : n = bints f.1
  ·rw [if_pos hn]
   have hr := sreadB_ok (m := m) (f := f) (w := v) hfd hv.1 hv.2
   by_cases he : (readB m f v).1 = 0
   ·rw [if_pos he]
    obtain ⟨t, g1, g2⟩ := prog_run fs ws (readB m f v).2 six_readB (fun w hm => hw w (List.mem_cons_of_mem _ (List.mem_cons_of_mem _ hm))) (fun g hg => hf g (List.mem_cons_of_mem _ hg))
    refine ⟨t, .go (s1 := stP (ws.map bstr) (readB m f v).2 0) ⟨_, next_cons _ _, ?_⟩ g1, g2⟩
    rw [if_neg (by simp), if_neg (by simp only; rw [name_eq ho, decide_eq_true hn]; decide)]
    refine ⟨_, next_cons _ _, ?_⟩
    rw [if_neg (by simp)]
    refine ⟨_, by simp only; rw [readB_six h6]; exact hr, ?_⟩
    rw [if_neg (by simp [he]), he]
   ·rw [if_neg he]
    refine ⟨_, .stop (e := stP (ws.map bstr) (readB m f v).2 (readB m f v).1) ⟨_, next_cons _ _, ?_⟩, .inr ⟨_, _, _, rfl, rfl⟩⟩
    rw [if_neg (by simp), if_neg (by simp only; rw [name_eq ho, decide_eq_true hn]; decide)]
    refine ⟨_, next_cons _ _, ?_⟩
    rw [if_neg (by simp)]
    refine ⟨_, by simp only; rw [readB_six h6]; exact hr, ?_⟩
    rw [if_pos (by simpa using he)]
  ·rw [if_neg hn]
   refine ⟨_, .stop (e := stP ((v :: ws).map bstr) m 3) ⟨_, next_cons _ _, ?_⟩, .inr ⟨3, _, m, rfl, rfl⟩⟩
   rw [if_neg (by simp), if_pos (by simp only; rw [name_eq ho, decide_eq_false hn]; rfl)]
def slotF (f : Fd) : Int := if f.2.1 = 3 ∨ f.2.1 = 4 ∨ f.2.1 = 5 ∨ f.2.1 = 6 then 100 + f.2.1 else f.2.2.1
theorem fields_apart (k : Int) : (fieldsB k).Pairwise fun f g => slotF f ≠ slotF g := by
 unfold fieldsB robotF
 repeat' split
 all_goals decide
theorem readB_path {m : Mg} {f : Fd} {w : List Int} (h : ¬ f.2.1 = 3) : (readB m f w).2.2.2.1 = m.2.2.1 := by
 unfold readB
 rw [if_neg h]
 repeat' split
 all_goals rfl
abbrev StR := Int × Int × Int × Int × Int × Int × Int × Int × Int × List (List Int) × List Int × ByteArray × ByteArray
abbrev stQ (at_ i : Int) (m : Mg) : StR := (at_, i, m.1, m.2.1.getD 0 0, m.2.1.getD 1 0, m.2.1.getD 2 0, m.2.1.getD 3 0, m.2.1.getD 4 0, m.2.1.getD 5 0, m.2.2.1.map ofP, m.2.2.2.1, m.2.2.2.2.1, m.2.2.2.2.2)
def zR : Mr := (0, [0, 0, 0, 0, 0, 0], [], [], bstr [], bstr [])
theorem ofM_six {m : Mg} (h : m.2.1.length = 6) : ((m.1, [m.2.1.getD 0 0, m.2.1.getD 1 0, m.2.1.getD 2 0, m.2.1.getD 3 0, m.2.1.getD 4 0, m.2.1.getD 5 0], m.2.2.1.map ofP, m.2.2.2.1, m.2.2.2.2.1, m.2.2.2.2.2) : Mr) = ofM m := by
 show (m.1, n6 m.2.1, m.2.2.1.map ofP, m.2.2.2.1, m.2.2.2.2.1, m.2.2.2.2.2) = _
 rw [n6_eq h]; rfl
theorem ref_run {W : List (List Int)} {all : List Fd} (hW : ∀ w ∈ W, w.length < 100000 ∧ Oct w) (hWl : W.length < 1000000) (hall : all.length < 100) (hfd : ∀ f ∈ all, fdOk f) : ∀ (fs pre : List Fd) (ws P : List (List Int)) (m : Mg), all = pre ++ fs → W = P ++ ws → m.2.1.length = 6 → (∀ f ∈ fs, f.2.1 = 3 → m.2.2.1 = []) → fs.Pairwise (fun f g => slotF f ≠ slotF g) →
    ∃ e, Loops (ref20_Parse_l3 (W.map bstr) all) (stQ (P.length : Int) (pre.length : Int) m) e ∧ ((∃ ws' m', goF fs ws m = .inl (ws', m') ∧ m'.2.1.length = 6 ∧ e = .inl ((stQ ((W.length : Int) - (ws'.length : Int)) 0 m').1, (stQ 0 0 m').2.2)) ∨ (∃ x, goF fs ws m = .inr x ∧ e = .inr (zR, x)))
  | [], pre, ws, P, m, ha, hP, h6, hp, hpw => by
    refine ⟨_, .done ?_, .inl ⟨ws, m, rfl, h6, rfl⟩⟩
    have : W.length = P.length + ws.length := by rw [hP]; simp
    unfold ref20_Parse_l3
    rw [if_neg (by rw [decide_eq_true_eq, ha]; simp)]
    rw [show (W.length : Int) - (ws.length : Int) = (P.length : Int) by omega]
  | f :: fs, pre, [], P, m, ha, hP, h6, hp, hpw => by
    refine ⟨_, .done ?_, .inr ⟨13, rfl, rfl⟩⟩
    unfold ref20_Parse_l3
    rw [if_pos (by rw [decide_eq_true_eq, ha]; simp; omega), if_pos (by rw [decide_eq_true_eq, hP]; simp)]; rfl
  | f :: fs, pre, n :: ws0, P, m, ha, hP, h6, hp, hpw => by
    have hlen : W.length = P.length + ws0.length + 1 := by rw [hP]; simp; omega
    have hal : all.length = pre.length + fs.length + 1 := by rw [ha]; simp; omega
    have hn1 := hW n (by rw [hP]; simp)
    have hf := hfd f (by rw [ha]; simp)
    have i1 : idx (W.map bstr) (P.length : Int) (bstr n) := idx_at rfl (by rw [hP]; simp)
    have i2 : idx all (pre.length : Int) f := idx_at rfl (by rw [ha]; simp)
    have hd : ∀ o, (if (!(decide (bstr n = f.1))) = true then o = .inr (.inr (zR, 3)) else (if (decide ((W.length : Int) ≤ (P.length : Int) + 1)) = true then (o = .inr (.inr (zR, 13))) else (∃ q50 : ByteArray, idx (W.map bstr) ((P.length : Int) + 1) q50 ∧ ∃ r55 : Mr × Int, ref20_value (ofM m) f q50 r55 ∧ if (!(decide (r55.2 = 0))) = true then (o = .inr (.inr (zR, r55.2))) else (o = .inl ((P.length : Int) + 2, (pre.length : Int) + 1, r55.1.1, (r55.1.2.1.getD 0 0), (r55.1.2.1.getD 1 0), (r55.1.2.1.getD 2 0), (r55.1.2.1.getD 3 0), (r55.1.2.1.getD 4 0), (r55.1.2.1.getD 5 0), r55.1.2.2.1, r55.1.2.2.2.1, r55.1.2.2.2.2.1, r55.1.2.2.2.2.2))))) → ref20_Parse_l3 (W.map bstr) all (stQ (P.length : Int) (pre.length : Int) m) o := by
      intro o h
      unfold ref20_Parse_l3
      simp only [List.length_map]
      rw [if_pos (by rw [decide_eq_true_eq]; omega), if_neg (by rw [decide_eq_true_eq]; omega)]
      refine ⟨_, i1, f, i2, ?_⟩
      rw [w_small (n := (P.length : Int) + 1) (by omega) (by omega), w_small (n := (P.length : Int) + 2) (by omega) (by omega), w_small (n := (pre.length : Int) + 1) (by omega) (by omega)]
      by_cases c1 : bstr n = f.1
      · rw [if_neg (by simp [c1])] at h ⊢
        by_cases c2 : (W.length : Int) ≤ (P.length : Int) + 1
        · rw [if_pos (by simpa using c2)] at h ⊢; exact h
        · rw [if_neg (by simpa using c2)] at h ⊢
          obtain ⟨q50, g1, r55, g2, g3⟩ := h
          refine ⟨f, i2, q50, g1, r55, ?_, g3⟩
          rw [ofM_six h6]; exact g2
      · rw [if_pos (by simpa using c1)] at h ⊢; exact h
    match ws0, hP, hlen with
    | [], hP, hlen =>
      unfold goF
      by_cases hn : n = bints f.1
      · rw [if_pos hn]
        refine ⟨_, .done (hd _ ?_), .inr ⟨13, rfl, rfl⟩⟩
        rw [if_neg (by rw [name_eq hn1.2, decide_eq_true hn]; decide), if_pos (by rw [decide_eq_true_eq, hlen]; simp)]
      · rw [if_neg hn]
        refine ⟨_, .done (hd _ ?_), .inr ⟨3, rfl, rfl⟩⟩
        rw [if_pos (by rw [name_eq hn1.2, decide_eq_false hn]; rfl)]
    | v :: ws, hP, hlen =>
      simp only [List.length_cons] at hlen
      unfold goF
      by_cases hn : n = bints f.1
      · rw [if_pos hn]
        have hv := hW v (by rw [hP]; simp)
        have i3 : idx (W.map bstr) ((P.length : Int) + 1) (bstr v) := idx_at (k := P.length + 1) (by omega) (by rw [hP, List.map_append, List.getElem?_append_right (by simp)]; simp)
        obtain ⟨r, g1, g2, g3⟩ := rvalue_ok (m := m) (f := f) (w := v) hf hv.1 hv.2 (hp f (by simp))
        by_cases he : (readB m f v).1 = 0
        · rw [if_pos he]
          have g3 := g3 he
          have hpw2 := List.pairwise_cons.1 hpw
          obtain ⟨e, k1, k2⟩ := ref_run hW hWl hall hfd fs (pre ++ [f]) ws (P ++ [n, v]) (readB m f v).2 (by rw [ha]; simp) (by rw [hP]; simp) six_readB (fun g hg h3 => by
            have hne : ¬ f.2.1 = 3 := fun hf3 => hpw2.1 g hg (by unfold slotF; rw [if_pos (.inl hf3), if_pos (.inl h3), hf3, h3])
            rw [readB_path hne]; exact hp g (List.mem_cons_of_mem _ hg) h3) hpw2.2
          refine ⟨e, .next (hd _ ?_) k1, k2⟩
          rw [if_neg (by rw [name_eq hn1.2, decide_eq_true hn]; decide), if_neg (by rw [decide_eq_true_eq]; omega)]
          refine ⟨_, i3, r, g1, ?_⟩
          rw [if_neg (by simp [g2, he]), g3]
          simp [stQ, ofM]
        · rw [if_neg he]
          refine ⟨_, .done (hd _ ?_), .inr ⟨_, rfl, rfl⟩⟩
          rw [if_neg (by rw [name_eq hn1.2, decide_eq_true hn]; decide), if_neg (by rw [decide_eq_true_eq]; omega)]
          refine ⟨_, i3, r, g1, ?_⟩
          rw [if_pos (by rw [g2]; simpa using he), g2]
      · rw [if_neg hn]
        refine ⟨_, .done (hd _ ?_), .inr ⟨3, rfl, rfl⟩⟩
        rw [if_pos (by rw [name_eq hn1.2, decide_eq_false hn]; rfl)]
end Go.Rel
/-! Plain laws: the chapter's examples of lines. -/
namespace Go.Rel
open Go Go.Eng Go.Pl
end Go.Rel
/-! Plain laws: a message's line, parsed; to and fro. -/
namespace Go.Rel
open Go Go.Eng Go.Pl
theorem gatherS {B : Int × ByteArray → List ByteArray → Sum (List ByteArray) Unit → Prop} (hB : ∀ x s, s.length < 1000000000 → B x s (.inl (s ++ [x.2]))) : ∀ (ws : List (List Int)) (a : Nat) (s : List ByteArray), s.length + ws.length < 1000000000 → RunB B (wrdsP a ws) s (.inl (s ++ ws.map bstr))
 | [], a, s, _ => by rw [List.map_nil, List.append_nil]; exact .nil
 | w :: ws, a, s, h => by
  simp only [List.length_cons] at h
  have ih := gatherS hB ws (a + w.length + 1) (s ++ [bstr w]) (by simp; omega)
  rw [List.map_cons, show s ++ bstr w :: ws.map bstr = s ++ [bstr w] ++ ws.map bstr by simp]
  exact .go (hB _ _ (by omega)) ih
theorem i64_of' {n : Int} (h0 : -9223372036854775808 ≤ n) (h1 : n ≤ 9223372036854775807) : IntOk .i64 n := ⟨h0, h1⟩
def kindW (w : List Int) : Int := if w = wordL 1 then 1 else if w = wordL 2 then 2 else if w = wordL 3 then 3 else if w = wordL 4 then 4 else if w = wordL 5 then 5 else 0
theorem oct_wordL (k : Int) : Oct (wordL k) := by unfold wordL; repeat' (first | decide | split)
theorem kindW_rng (w : List Int) : kindW w = 0 ∨ kindW w = 1 ∨ kindW w = 2 ∨ kindW w = 3 ∨ kindW w = 4 ∨ kindW w = 5 := by
 unfold kindW; repeat' split
 all_goals simp
theorem kindW_word {w : List Int} (h : kindW w ≠ 0) : w = wordL (kindW w) := by
 unfold kindW at h ⊢
 split
 ·assumption
 ·split
  ·assumption
  ·split
   ·assumption
   ·split
    ·assumption
    ·split
     ·assumption
     ·simp_all
theorem kinds_itr : Itr field_Kinds_1 [(1, bstr (wordL 1)), (2, bstr (wordL 2)), (3, bstr (wordL 3)), (4, bstr (wordL 4)), (5, bstr (wordL 5))] := by
 intro S Y s s' hr
 have key : ∀ (m : Nat) (k : Nat) (s : S), k + m = 6 → 1 ≤ k → Run Y ((List.range' k m).map fun k : Nat => ((k : Int), bstr (wordL (k : Int)))) s s' → Loops (field_Kinds_1_l1 S Y) (s, (k : Int)) (s', ()) := by
  intro m
  induction m with
  | zero =>
   intro k s hk _ hr
   cases hr
   refine .done ?_
   unfold field_Kinds_1_l1
   rw [if_neg (by rw [decide_eq_true_eq]; simp only; omega)]
  | succ m ih =>
   intro k s hk h1 hr
   rw [List.range'_succ, List.map_cons] at hr
   have stp : ∀ y u, Y ((k : Int), bstr (wordL (k : Int))) s (y, u) → field_Kinds_1_l1 S Y (s, (k : Int)) (if y = true then .inl (u, ((k + 1 : Nat) : Int)) else .inr (u, ())) := by
    intro y u hy
    unfold field_Kinds_1_l1
    simp only
    rw [if_pos (by rw [decide_eq_true_eq]; omega)]
    refine ⟨_, fword_ok _, y, u, hy, ?_⟩
    cases y with
    | true => rw [if_neg (by decide), if_pos rfl, w_small (by omega) (by omega)]; rfl
    | false => rw [if_pos (by decide), if_neg (by decide)]
   cases hr with
   | go a b => exact .next (stp true _ a) (ih (k + 1) _ (by omega) (by omega) b)
   | stop a => exact .done (stp false _ a)
 exact ⟨_, key 5 1 s rfl (by decide) hr, rfl⟩
theorem bs_dec {a b : List Int} (ha : Oct a) (hb : Oct b) : decide (bstr a = bstr b) = decide (b = a) := by
 by_cases h : b = a
 ·rw [decide_eq_true h, h]; simp
 ·rw [decide_eq_false h, decide_eq_false (fun e => h (bs_inj ha hb e).symm)]
theorem kind_ok {w : List Int} (ho : Oct w) : field_Kind (bstr w) (kindW w) := by
 have st : ∀ (k : Int), field_Kind_l1 (bstr w) (k, bstr (wordL k)) () (if w = wordL k then .inr k else .inl ()) := by
  intro k
  unfold field_Kind_l1
  simp only
  rw [bs_dec (oct_wordL k) ho]
  by_cases h : w = wordL k
  ·rw [if_pos (by simpa using h), if_pos h]
  ·rw [if_neg (by simpa using h), if_neg h]
 have go : ∀ k, ¬ w = wordL k → field_Kind_l1 (bstr w) (k, bstr (wordL k)) () (.inl ()) := fun k h => by have := st k; rwa [if_neg h] at this
 have no : ∀ k, w = wordL k → field_Kind_l1 (bstr w) (k, bstr (wordL k)) () (.inr k) := fun k h => by have := st k; rwa [if_pos h] at this
 have fin : ∀ t r, RunB (field_Kind_l1 (bstr w)) [(1, bstr (wordL 1)), (2, bstr (wordL 2)), (3, bstr (wordL 3)), (4, bstr (wordL 4)), (5, bstr (wordL 5))] () t → Aft (fun (_ : Unit) => r = 0) (fun p11 => r = p11) t → field_Kind (bstr w) r := fun t r h1 h2 => ⟨_, rfl, t, (), kinds_itr _ _ _ _ (run_yof h1), h2⟩
 unfold kindW
 by_cases h1 : w = wordL 1
 ·rw [if_pos h1]; exact fin (.inr 1) 1 (.stop (no 1 h1)) rfl
 rw [if_neg h1]
 by_cases h2 : w = wordL 2
 ·rw [if_pos h2]; exact fin (.inr 2) 2 (.go (go 1 h1) (.stop (no 2 h2))) rfl
 rw [if_neg h2]
 by_cases h3 : w = wordL 3
 ·rw [if_pos h3]; exact fin (.inr 3) 3 (.go (go 1 h1) (.go (go 2 h2) (.stop (no 3 h3)))) rfl
 rw [if_neg h3]
 by_cases h4 : w = wordL 4
 ·rw [if_pos h4]; exact fin (.inr 4) 4 (.go (go 1 h1) (.go (go 2 h2) (.go (go 3 h3) (.stop (no 4 h4))))) rfl
 rw [if_neg h4]
 by_cases h5 : w = wordL 5
 ·rw [if_pos h5]; exact fin (.inr 5) 5 (.go (go 1 h1) (.go (go 2 h2) (.go (go 3 h3) (.go (go 4 h4) (.stop (no 5 h5)))))) rfl
 rw [if_neg h5]
 exact fin (.inl ()) 0 (.go (go 1 h1) (.go (go 2 h2) (.go (go 3 h3) (.go (go 4 h4) (.go (go 5 h5) .nil))))) rfl
theorem rkind_ok {P : List ByteArray} {w : List Int} (hx : P[0]? = some (bstr w)) (ho : Oct w) : Loops (ref20_Parse_l4 P) (1, 0) (kindW w) := by
 have st : ∀ (k : Nat) (kd : Int), 1 ≤ k → k ≤ 5 → ref20_Parse_l4 P ((k : Int), kd) (.inl (((k + 1 : Nat) : Int), if w = wordL (k : Int) then (k : Int) else kd)) := by
  intro k kd h1 h5
  unfold ref20_Parse_l4
  simp only
  rw [if_pos (by rw [decide_eq_true_eq]; omega)]
  refine ⟨_, rword_ok (i64_of' (by omega) (by omega)), _, idx_at (k := 0) rfl hx, ?_⟩
  unfold ref20_Parse_j5
  simp only
  rw [bs_dec (oct_wordL _) ho, w_small (by omega) (by omega)]
  by_cases h : w = wordL (k : Int)
  ·rw [if_pos (by simpa using h), if_pos h]; rfl
  ·rw [if_neg (by simpa using h), if_neg h]; rfl
 have e : kindW w = (if w = wordL ((5 : Nat) : Int) then ((5 : Nat) : Int) else if w = wordL ((4 : Nat) : Int) then ((4 : Nat) : Int) else if w = wordL ((3 : Nat) : Int) then ((3 : Nat) : Int) else if w = wordL ((2 : Nat) : Int) then ((2 : Nat) : Int) else if w = wordL ((1 : Nat) : Int) then ((1 : Nat) : Int) else 0) := by
  have c5 : ((5 : Nat) : Int) = 5 := rfl
  have c4 : ((4 : Nat) : Int) = 4 := rfl
  have c3 : ((3 : Nat) : Int) = 3 := rfl
  have c2 : ((2 : Nat) : Int) = 2 := rfl
  have c1 : ((1 : Nat) : Int) = 1 := rfl
  rw [c5, c4, c3, c2, c1]
  unfold kindW
  by_cases h1 : w = wordL 1
  ·subst h1; decide
  by_cases h2 : w = wordL 2
  ·subst h2; decide
  by_cases h3 : w = wordL 3
  ·subst h3; decide
  by_cases h4 : w = wordL 4
  ·subst h4; decide
  by_cases h5 : w = wordL 5
  ·subst h5; decide
  simp only [if_neg h1, if_neg h2, if_neg h3, if_neg h4, if_neg h5]
 rw [e]
 refine .next (st 1 0 (by decide) (by decide)) (.next (st 2 _ (by decide) (by decide)) (.next (st 3 _ (by decide) (by decide)) (.next (st 4 _ (by decide) (by decide)) (.next (st 5 _ (by decide) (by decide)) (.done ?_)))))
 unfold ref20_Parse_l4
 rw [if_neg (by simp)]
def kM (k : Int) : Mg := (k, [0, 0, 0, 0, 0, 0], [], [], bstr [], bstr [])
def parseS (l : List Int) : Mg × Int := match splitL 32 l with
 | [] => (zM, 9)
 | w0 :: ws => if kindW w0 = 0 then (zM, 9) else match goF (fieldsB (kindW w0)) ws (kM (kindW w0)) with
  | .inr e => (zM, e)
  | .inl (ws', m) => if ws' ≠ [] then (zM, 6) else if checkB m = 0 then (m, 0) else (zM, checkB m)
/-! ### Bounds -/
theorem ptsR_len : ∀ (ws : List (List Int)) (acc : List (Int × Int)), (ptsR ws acc).1.length ≤ acc.length + ws.length
 | [], acc => by simp [ptsR]
 | w :: ws, acc => by
  unfold ptsR
  split
  ·have := ptsR_len ws (acc ++ [(ptP w).1]); simp at this ⊢; omega
  ·simp
theorem numsR_len : ∀ (ws : List (List Int)) (acc : List Int), (numsR ws acc).1.length ≤ acc.length + ws.length
 | [], acc => by simp [numsR]
 | w :: ws, acc => by
  unfold numsR
  split
  ·have := numsR_len ws (acc ++ [(rdB w).1]); simp at this ⊢; omega
  ·simp
theorem unhexL_len : ∀ {l r : List Int}, unhexL l = some r → 2 * r.length = l.length
 | [], r, h => by simp [unhexL] at h; subst h; rfl
 | [x], r, h => by simp [unhexL] at h
 | a :: b :: l, r, h => by
  simp only [unhexL] at h
  cases hqa : hv a with
  | none => rw [hqa] at h; simp at h
  | some x =>
   cases hqb : hv b with
   | none => rw [hqa, hqb] at h; simp at h
   | some y =>
    cases hr : unhexL l with
    | none => rw [hqa, hqb, hr] at h; simp at h
    | some r' =>
     rw [hqa, hqb, hr] at h
     simp only [Option.some.injEq] at h
     subst h
     have := unhexL_len hr
     simp only [List.length_cons]; omega
theorem unhexR_len (w : List Int) : (unhexR w).1.length ≤ w.length := by
 unfold unhexR
 split
 ·simp
 ·split
  ·simp
  ·cases h : unhexL w with
   | none => simp
   | some r => have := unhexL_len h; simp only; omega
structure Small (m : Mg) : Prop where
 p : m.2.2.1.length ≤ 200000
 c : m.2.2.2.1.length ≤ 200000
 t : m.2.2.2.2.1.size ≤ 200000
 g : m.2.2.2.2.2.size ≤ 200000
theorem readB_small {m : Mg} {f : Fd} {w : List Int} (h : Small m) (hl : w.length < 100000) : Small (readB m f w).2 := by
 have a1 := ptsR_len (splitL 59 w) []
 have a2 := numsR_len (splitL 44 w) []
 have a3 := unhexR_len w
 have b1 := spl_len 59 w
 have b2 := spl_len 44 w
 simp only [List.length_nil] at a1 a2
 unfold readB
 split
 ·exact ⟨by simp only; omega, h.c, h.t, h.g⟩
 split
 ·exact ⟨h.p, by simp only; omega, h.t, h.g⟩
 split
 ·exact ⟨h.p, h.c, by simp only [size_bstr]; omega, h.g⟩
 split
 ·exact ⟨h.p, h.c, h.t, by simp only [size_bstr]; omega⟩
 ·exact ⟨h.p, h.c, h.t, h.g⟩
theorem goF_small {fs : List Fd} : ∀ {ws ws' : List (List Int)} {m m' : Mg}, Small m → (∀ w ∈ ws, w.length < 100000) → goF fs ws m = .inl (ws', m') → Small m' := by
 induction fs with
 | nil => intro ws ws' m m' h _ hg; simp [goF] at hg; rw [← hg.2]; exact h
 | cons f fs ih =>
  intro ws ws' m m' h hw hg
  match ws, hw, hg with
  | [], _, hg => simp [goF] at hg
  | [n], _, hg => simp only [goF] at hg; split at hg <;> simp at hg
  | n :: v :: ws, hw, hg =>
   simp only [goF] at hg
   split at hg
   ·split at hg
    ·exact ih (readB_small h (hw v (by simp))) (fun w hm => hw w (List.mem_cons_of_mem _ (List.mem_cons_of_mem _ hm))) hg
    ·simp at hg
   ·simp at hg
/-! ### Both parse alike -/
theorem sparse_ok {l : List Int} (hl : l.length < 100000) (ho : Oct l) : say_Parse (bstr l) (parseS l) := by
 have hlen := spl_len 32 l
 have hne := splitL_ne 32 l
 have hg := gatherS (B := say_Parse_l1) (fun x s hs => by
  unfold say_Parse_l1
  simp only [List.length_singleton]
  exact ⟨by omega, by omega, trivial⟩) (splitL 32 l) 0 [] (by simp only [List.length_nil]; omega)
 rw [List.nil_append] at hg
 have hsub := @spl_sub 32 l
 refine ⟨_, words_ok _, _, (), words_itr (by omega) ho _ _ _ _ (run_yof hg), ?_⟩
 unfold parseS
 cases hq : splitL 32 l with
 | nil => exact absurd hq hne
 | cons w0 ws =>
  rw [hq] at hsub
  have hs : ∀ w ∈ w0 :: ws, w.length < 100000 ∧ Oct w := fun w hm => by
   have := hsub w hm
   exact ⟨by omega, fun x hx => ho x (this.2 x hx)⟩
  refine ⟨_, next_cons _ _, _, kind_ok (hs w0 (by simp)).2, ?_⟩
  have j3e : ∀ (x : List ByteArray) (m : Mg) (e : Int), e ≠ 0 → say_Parse_j3 (stP x m e) (zM, e) := fun x m e he => by
   unfold say_Parse_j3
   rw [if_pos (by simpa using he)]; rfl
  by_cases h0 : kindW w0 = 0
  ·rw [if_pos (by simpa using h0)]
   simp only [if_pos h0]
   rw [h0]
   refine ⟨_, rfl, _, (), all_itr 0 _ _ _ _ (run_yof .nil), ?_⟩
   exact j3e (ws.map bstr) (kM 0) 9 (by decide)
  ·rw [if_neg (by simpa using h0)]
   simp only [if_neg h0]
   have hS : Small (kM (kindW w0)) := ⟨by simp [kM], by simp [kM], by simp [kM, size_bstr], by simp [kM, size_bstr]⟩
   have hsmall := fun ws' m' => goF_small (fs := fieldsB (kindW w0)) (ws := ws) (ws' := ws') (m' := m') hS (fun w hm => (hs w (List.mem_cons_of_mem _ hm)).1)
   obtain ⟨t, g1, g2⟩ := prog_run (fieldsB (kindW w0)) ws (kM (kindW w0)) rfl (fun w hm => hs w (List.mem_cons_of_mem _ hm)) (fields_fd _)
   refine ⟨_, rfl, t, (), all_itr _ _ _ _ _ (run_yof g1), ?_⟩
   rcases g2 with ⟨ws', m', k1, rfl, k3⟩ | ⟨e, x, m', k1, rfl⟩
   ·rw [k1]
    have hsm := hsmall ws' m' k1
    have := hsm.p
    have := hsm.c
    simp only
    show say_Parse_j3 _ _
    unfold say_Parse_j3
    rw [if_neg (by simp)]
    simp only
    by_cases hw : ws' = []
    ·subst hw
     rw [if_neg (by simp), if_neg (by simp), readB_six k3]
     refine ⟨_, mcheck_ok (by omega) (by omega), ?_⟩
     by_cases hc : checkB m' = 0
     ·rw [if_neg (by simpa using hc), if_pos hc]
     ·rw [if_pos (by simpa using hc), if_neg hc]; rfl
    ·have := List.length_pos_iff.2 hw
     rw [if_pos (by rw [List.length_map, decide_eq_true_eq]; omega), if_pos hw]; rfl
   ·rw [k1]
    exact j3e x m' e (goF_ne k1)
theorem rsparse_ok {l : List Int} (hl : l.length < 100000) (ho : Oct l) : ref20_Parse (bstr l) (ofM (parseS l).1, (parseS l).2) := by
 have hlen := spl_len 32 l
 have hne := splitL_ne 32 l
 have hsub := @spl_sub 32 l
 refine ⟨_, rsplit_ok (c := 32) (by omega) ho, ?_⟩
 unfold parseS
 cases hq : splitL 32 l with
 | nil => exact absurd hq hne
 | cons w0 ws =>
  rw [hq] at hsub hlen
  have hs : ∀ w ∈ w0 :: ws, w.length < 100000 ∧ Oct w := fun w hm => by
   have := hsub w hm
   exact ⟨by omega, fun x hx => ho x (this.2 x hx)⟩
  refine ⟨_, rkind_ok rfl (hs w0 (by simp)).2, ?_⟩
  unfold ref20_Parse_j1
  by_cases h0 : kindW w0 = 0
  ·rw [if_pos (by simpa using h0)]
   simp only [if_pos h0]; rfl
  ·rw [if_neg (by simpa using h0)]
   simp only [if_neg h0]
   have hS : Small (kM (kindW w0)) := ⟨by simp [kM], by simp [kM], by simp [kM, size_bstr], by simp [kM, size_bstr]⟩
   have hsmall := fun ws' m' => goF_small (fs := fieldsB (kindW w0)) (ws := ws) (ws' := ws') (m' := m') hS (fun w hm => (hs w (List.mem_cons_of_mem _ hm)).1)
   have hfl := fields_len (kindW w0)
   obtain ⟨e, g1, g2⟩ := ref_run (W := w0 :: ws) hs (by omega) (by omega) (fields_fd (kindW w0)) (fieldsB (kindW w0)) [] ws [w0] (kM (kindW w0)) rfl rfl rfl (fun _ _ _ => rfl) (fields_apart _)
   refine ⟨_, rfields_ok _, e, g1, ?_⟩
   rcases g2 with ⟨ws', m', k1, k3, rfl⟩ | ⟨x, k1, rfl⟩
   ·rw [k1]
    have hsm := hsmall ws' m' k1
    have := hsm.p
    have := hsm.c
    have := hsm.t
    have := hsm.g
    simp only
    show ref20_Parse_j2 _ _ _
    unfold ref20_Parse_j2
    simp only [List.length_map]
    by_cases hw : ws' = []
    ·subst hw
     rw [if_neg (by simp), if_neg (by simp), ofM_six k3]
     refine ⟨_, rcheck_ok (by omega) (by omega) (by omega) (by omega), ?_⟩
     by_cases hc : checkB m' = 0
     ·rw [if_neg (by simpa using hc), if_pos hc]
     ·rw [if_pos (by simpa using hc), if_neg hc]
      exact ⟨_, rcheck_ok (by omega) (by omega) (by omega) (by omega), rfl⟩
    ·have := List.length_pos_iff.2 hw
     rw [if_pos (by rw [decide_eq_true_eq]; omega), if_pos hw]; rfl
   ·rw [k1]; rfl
end Go.Rel
/-! Plain laws: a message's line, to and fro. -/
namespace Go.Rel
open Go Go.Eng Go.Pl
theorem joinL_flat (c : Int) : ∀ (w0 : List Int) (ws : List (List Int)), joinL [c] (w0 :: ws) = w0 ++ ws.flatMap fun w => c :: w
 | w0, [] => by simp [joinL]
 | w0, w :: ws => by
  rw [joinL_cons [c] w0 (List.cons_ne_nil w ws), joinL_flat c w ws]; simp
theorem joinL_split (c : Int) (l : List Int) : joinL [c] (splitL c l) = l := by
 cases hq : splitL c l with
 | nil => exact absurd hq (splitL_ne c l)
 | cons w0 ws => rw [joinL_flat, ← spl_join hq]
theorem ptP_back {w : List Int} (h : (ptP w).2 = 0) : ptL (ptP w).1 = w ∧ IntOk .i64 (ptP w).1.1 ∧ IntOk .i64 (ptP w).1.2 := by
 by_cases h2 : (splitL 44 w).length = 2
 ·obtain ⟨a, b, hab⟩ : ∃ a b, splitL 44 w = [a, b] := by
   match splitL 44 w, h2 with
   | [a, b], _ => exact ⟨_, _, rfl⟩
  rw [ptP_two hab] at h ⊢
  by_cases c1 : (rdB a).2 = 0
  ·rw [if_pos c1] at h ⊢
   by_cases c2 : (rdB b).2 = 0
   ·rw [if_pos c2] at h ⊢
    obtain ⟨e1, o1⟩ := rdB_back (l := a) (n := (rdB a).1) (by rw [← c1])
    obtain ⟨e2, o2⟩ := rdB_back (l := b) (n := (rdB b).1) (by rw [← c2])
    refine ⟨?_, o1, o2⟩
    rw [spl_join hab]
    simp [ptL, e1, e2]
   ·rw [if_neg c2] at h; exact absurd h c2
  ·rw [if_neg c1] at h; exact absurd h c1
 ·rw [ptP_not h2] at h; cases h
theorem ptsR_back : ∀ {ws : List (List Int)} {acc : List (Int × Int)}, (ptsR ws acc).2 = 0 → ∃ ps, (ptsR ws acc).1 = acc ++ ps ∧ ps.map ptL = ws ∧ ∀ p ∈ ps, IntOk .i64 p.1 ∧ IntOk .i64 p.2
 | [], acc, _ => ⟨[], by simp [ptsR], rfl, by simp⟩
 | w :: ws, acc, h => by
  unfold ptsR at h ⊢
  by_cases hr : (ptP w).2 = 0
  ·rw [if_pos hr] at h ⊢
   obtain ⟨ps, h1, h2, h3⟩ := ptsR_back h
   obtain ⟨e1, o1⟩ := ptP_back hr
   refine ⟨(ptP w).1 :: ps, by rw [h1]; simp, by rw [List.map_cons, e1, h2], fun p hp => ?_⟩
   rcases List.mem_cons.1 hp with rfl | hp
   ·exact o1
   ·exact h3 p hp
  ·rw [if_neg hr] at h; exact absurd h hr
theorem numsR_back : ∀ {ws : List (List Int)} {acc : List Int}, (numsR ws acc).2 = 0 → ∃ ns, (numsR ws acc).1 = acc ++ ns ∧ ns.map decI = ws ∧ ∀ n ∈ ns, IntOk .i64 n
 | [], acc, _ => ⟨[], by simp [numsR], rfl, by simp⟩
 | w :: ws, acc, h => by
  unfold numsR at h ⊢
  by_cases hr : (rdB w).2 = 0
  ·rw [if_pos hr] at h ⊢
   obtain ⟨ns, h1, h2, h3⟩ := numsR_back h
   obtain ⟨e1, o1⟩ := rdB_back (l := w) (n := (rdB w).1) (by rw [← hr])
   refine ⟨(rdB w).1 :: ns, by rw [h1]; simp, by rw [List.map_cons, e1, h2], fun p hp => ?_⟩
   rcases List.mem_cons.1 hp with rfl | hp
   ·exact o1
   ·exact h3 p hp
  ·rw [if_neg hr] at h; exact absurd h hr
theorem unhexL_bk : ∀ {l r : List Int}, unhexL l = some r → hexL r = l ∧ Oct r
 | [], r, h => by simp [unhexL] at h; subst h; exact ⟨rfl, fun x hx => nomatch hx⟩
 | [x], r, h => by simp [unhexL] at h
 | a :: b :: l, r, h => by
  simp only [unhexL] at h
  cases hqa : hv a with
  | none => rw [hqa] at h; simp at h
  | some x =>
   cases hqb : hv b with
   | none => rw [hqa, hqb] at h; simp at h
   | some y =>
    cases hr : unhexL l with
    | none => rw [hqa, hqb, hr] at h; simp at h
    | some r' =>
     rw [hqa, hqb, hr] at h
     simp only [Option.some.injEq] at h
     subst h
     obtain ⟨h1, h2⟩ := unhexL_bk hr
     have hx := hv_some hqa
     have hy := hv_some hqb
     refine ⟨?_, fun z hz => ?_⟩
     ·rw [show hexL ((16 * x + y) :: r') = hexD ((16 * x + y) / 16) :: hexD ((16 * x + y) % 16) :: hexL r' from rfl, h1, show (16 * x + y) / 16 = x by omega, show (16 * x + y) % 16 = y by omega, hx.2.2, hy.2.2]
     ·rcases List.mem_cons.1 hz with rfl | hz
      ·omega
      ·exact h2 z hz
theorem hexV_bk {w : List Int} (h : (unhexR w).2 = 0) : hexV (bstr (unhexR w).1) = w := by
 unfold unhexR at h ⊢
 split
 ·rename_i h1; rw [h1]; rfl
 ·rename_i h1
  rw [if_neg h1] at h
  split
  ·rename_i h2; rw [if_pos h2] at h; simp at h
  ·rename_i h2
   rw [if_neg h2] at h
   cases hr : unhexL w with
   | none => rw [hr] at h; simp at h
   | some r =>
    obtain ⟨h3, h4⟩ := unhexL_bk hr
    simp only
    unfold hexV
    rw [bb_of h4, if_neg, h3]
    intro e
    have := bs_inj (b := []) h4 (fun x hx => nomatch hx) e
    subst this
    exact h2 (by rw [← h3]; rfl)
/-! ### Back -/
theorem slot_sort {f g : Fd} (h : slotF f ≠ slotF g) {s : Int} (hs : s = 3 ∨ s = 4 ∨ s = 5 ∨ s = 6) (h1 : f.2.1 = s) : g.2.1 ≠ s := fun h2 => h (by
 unfold slotF
 rw [if_pos (by omega), if_pos (by omega), h1, h2])
theorem slot_num {f g : Fd} (h : slotF f ≠ slotF g) (h1 : ¬ (f.2.1 = 3 ∨ f.2.1 = 4 ∨ f.2.1 = 5 ∨ f.2.1 = 6)) (h2 : ¬ (g.2.1 = 3 ∨ g.2.1 = 4 ∨ g.2.1 = 5 ∨ g.2.1 = 6)) : f.2.2.1 ≠ g.2.2.1 := fun e => h (by
 unfold slotF; rw [if_neg h1, if_neg h2, e])
theorem valueL_of {m m' : Mg} {g : Fd} (hp : g.2.1 = 3 → m'.2.2.1 = m.2.2.1) (hc : g.2.1 = 4 → m'.2.2.2.1 = m.2.2.2.1) (ht : g.2.1 = 5 → m'.2.2.2.2.1 = m.2.2.2.2.1) (hg : g.2.1 = 6 → m'.2.2.2.2.2 = m.2.2.2.2.2) (hn : ¬ (g.2.1 = 3 ∨ g.2.1 = 4 ∨ g.2.1 = 5 ∨ g.2.1 = 6) → m'.2.1.getD g.2.2.1.toNat 0 = m.2.1.getD g.2.2.1.toNat 0) : valueL m' g = valueL m g := by
 unfold valueL
 by_cases h3 : g.2.1 = 3
 ·rw [if_pos h3, if_pos h3, hp h3]
 rw [if_neg h3, if_neg h3]
 by_cases h4 : g.2.1 = 4
 ·rw [if_pos h4, if_pos h4, hc h4]
 rw [if_neg h4, if_neg h4]
 by_cases h5 : g.2.1 = 5
 ·rw [if_pos h5, if_pos h5, ht h5]
 rw [if_neg h5, if_neg h5]
 by_cases h6 : g.2.1 = 6
 ·rw [if_pos h6, if_pos h6, hg h6]
 rw [if_neg h6, if_neg h6, hn (by omega)]
theorem n6_getD {l : List Int} {p : Nat} (hp : p < 6) : (n6 l).getD p 0 = l.getD p 0 := by
 match p, hp with
 | 0, _ => rfl
 | 1, _ => rfl
 | 2, _ => rfl
 | 3, _ => rfl
 | 4, _ => rfl
 | 5, _ => rfl
theorem readB_back {m : Mg} {f : Fd} {w : List Int} (hm : MgOk m) (hf : fdOk f) (hl : w.length ≤ 900) (h : (readB m f w).1 = 0) : MgOk (readB m f w).2 ∧ valueL (readB m f w).2 f = w ∧ (readB m f w).2.1 = m.1 ∧ ∀ g, fdOk g → slotF f ≠ slotF g → valueL (readB m f w).2 g = valueL m g := by
 have a1 := ptsR_len (splitL 59 w) []
 have a2 := numsR_len (splitL 44 w) []
 have a3 := unhexR_len w
 have b1 := spl_len 59 w
 have b2 := spl_len 44 w
 simp only [List.length_nil] at a1 a2
 have six : n6 m.2.1 = m.2.1 := n6_eq hm.six
 unfold readB at h ⊢
 by_cases h3 : f.2.1 = 3
 ·rw [if_pos h3] at h ⊢
  obtain ⟨ps, e1, e2, e3⟩ := ptsR_back h
  rw [List.nil_append] at e1
  simp only
  refine ⟨⟨hm.kind, by rw [six]; exact hm.six, by rw [six]; exact hm.num, by simp only [e1]; exact e3, hm.cells, by simp only; omega, hm.lcells, hm.ltext, hm.ltag⟩, ?_, trivial, fun g hg hs => valueL_of (fun q => absurd q (slot_sort hs (.inl rfl) h3)) (fun _ => rfl) (fun _ => rfl) (fun _ => rfl) (fun _ => by simp only [six])⟩
  unfold valueL
  rw [if_pos h3, e1, e2, joinL_split]
 rw [if_neg h3] at h ⊢
 by_cases h4 : f.2.1 = 4
 ·rw [if_pos h4] at h ⊢
  obtain ⟨ns, e1, e2, e3⟩ := numsR_back h
  rw [List.nil_append] at e1
  simp only
  refine ⟨⟨hm.kind, by rw [six]; exact hm.six, by rw [six]; exact hm.num, hm.path, by simp only [e1]; exact e3, hm.lpath, by simp only; omega, hm.ltext, hm.ltag⟩, ?_, trivial, fun g hg hs => valueL_of (fun _ => rfl) (fun q => absurd q (slot_sort hs (.inr (.inl rfl)) h4)) (fun _ => rfl) (fun _ => rfl) (fun _ => by simp only [six])⟩
  unfold valueL
  rw [if_neg h3, if_pos h4, e1, e2, joinL_split]
 rw [if_neg h4] at h ⊢
 by_cases h5 : f.2.1 = 5
 ·rw [if_pos h5] at h ⊢
  simp only
  refine ⟨⟨hm.kind, by rw [six]; exact hm.six, by rw [six]; exact hm.num, hm.path, hm.cells, hm.lpath, hm.lcells, by simp only [size_bstr]; omega, hm.ltag⟩, ?_, trivial, fun g hg hs => valueL_of (fun _ => rfl) (fun _ => rfl) (fun q => absurd q (slot_sort hs (.inr (.inr (.inl rfl))) h5)) (fun _ => rfl) (fun _ => by simp only [six])⟩
  unfold valueL
  rw [if_neg h3, if_neg h4, if_pos h5, hexV_bk h]
 rw [if_neg h5] at h ⊢
 by_cases h6 : f.2.1 = 6
 ·rw [if_pos h6] at h ⊢
  simp only
  refine ⟨⟨hm.kind, by rw [six]; exact hm.six, by rw [six]; exact hm.num, hm.path, hm.cells, hm.lpath, hm.lcells, hm.ltext, by simp only [size_bstr]; omega⟩, ?_, trivial, fun g hg hs => valueL_of (fun _ => rfl) (fun _ => rfl) (fun _ => rfl) (fun q => absurd q (slot_sort hs (.inr (.inr (.inr rfl))) h6)) (fun _ => by simp only [six])⟩
  unfold valueL
  rw [if_neg h3, if_neg h4, if_neg h5, if_pos h6, hexV_bk h]
 rw [if_neg h6] at h ⊢
 obtain ⟨p0, p1⟩ := fd_place hf h3 h4 h5 h6
 obtain ⟨e1, o1⟩ := rdB_back (l := w) (n := (rdB w).1) (by rw [← h])
 simp only
 have hget : ∀ p, p < 6 → (n6 (putN 6 0 m.2.1 f.2.2.1.toNat (rdB w).1)).getD p 0 = if p = f.2.2.1.toNat then (rdB w).1 else m.2.1.getD p 0 := fun p hp => by rw [n6_getD hp, putN_getD hp]
 refine ⟨⟨hm.kind, rfl, fun x hx => ?_, hm.path, hm.cells, hm.lpath, hm.lcells, hm.ltext, hm.ltag⟩, ?_, trivial, fun g hg hs => valueL_of (fun _ => rfl) (fun _ => rfl) (fun _ => rfl) (fun _ => rfl) (fun hn => ?_)⟩
 ·obtain ⟨p, hp, rfl⟩ := List.getElem_of_mem hx
  have hp6 : p < 6 := hp
  have := hget p hp6
  rw [List.getD_eq_getElem?_getD, List.getElem?_eq_getElem hp] at this
  simp only [Option.getD_some] at this
  rw [this]
  split
  ·exact o1
  ·exact hm.at p
 ·unfold valueL
  rw [if_neg h3, if_neg h4, if_neg h5, if_neg h6]
  simp only
  rw [hget _ (by omega), if_pos rfl, e1]
 ·simp only
  have hgp : 0 ≤ g.2.2.1 ∧ g.2.2.1 < 6 := fd_place hg (by omega) (by omega) (by omega) (by omega)
  have := slot_num hs (by omega) hn
  rw [hget _ (by omega), if_neg (by omega)]
theorem goF_back {fs : List Fd} : ∀ {ws ws' : List (List Int)} {m m' : Mg}, MgOk m → (∀ w ∈ ws, w.length ≤ 900) → (∀ f ∈ fs, fdOk f) → fs.Pairwise (fun f g => slotF f ≠ slotF g) → goF fs ws m = .inl (ws', m') →
    MgOk m' ∧ ws = (fs.flatMap fun f => [bints f.1, valueL m' f]) ++ ws' ∧ m'.1 = m.1 ∧ ∀ g, fdOk g → (∀ f ∈ fs, slotF f ≠ slotF g) → valueL m' g = valueL m g := by
  induction fs with
  | nil =>
    intro ws ws' m m' hm _ _ _ h
    simp only [goF, Sum.inl.injEq, Prod.mk.injEq] at h
    obtain ⟨rfl, rfl⟩ := h
    exact ⟨hm, by simp, rfl, fun _ _ _ => rfl⟩
  | cons f fs ih =>
    intro ws ws' m m' hm hw hf hpw h
    have hpw2 := List.pairwise_cons.1 hpw
    match ws, hw, h with
    | [], _, h => simp [goF] at h
    | [n], _, h => simp only [goF] at h; split at h <;> simp at h
    | n :: v :: ws, hw, h =>
      simp only [goF] at h
      split at h
      · rename_i hn
        split at h
        · rename_i he
          obtain ⟨k1, k2, k3, k4⟩ := readB_back hm (hf f (by simp)) (hw v (by simp)) he
          obtain ⟨i1, i2, i3, i4⟩ := ih k1 (fun w hm => hw w (List.mem_cons_of_mem _ (List.mem_cons_of_mem _ hm))) (fun g hg => hf g (List.mem_cons_of_mem _ hg)) hpw2.2 h
          have hvf : valueL m' f = v := by rw [i4 f (hf f (by simp)) (fun g hg => (hpw2.1 g hg).symm), k2]
          refine ⟨i1, ?_, by rw [i3, k3], fun g hg hs => ?_⟩
          · rw [List.flatMap_cons, hvf, ← hn]
            simp only [List.cons_append, List.nil_append]
            rw [← i2]
          · rw [i4 g hg (fun x hx => hs x (List.mem_cons_of_mem _ hx)), k4 g hg (hs f (by simp))]
        · simp at h
      · simp at h
theorem kM_ok {k : Int} (h : IntOk .i64 k) : MgOk (kM k) := ⟨h, rfl, by simp only [kM]; decide, by simp only [kM]; decide, by simp only [kM]; decide, by simp [kM], by simp [kM], by simp [kM, size_bstr], by simp [kM, size_bstr]⟩
theorem flat_parts (m : Mg) : ∀ fs : List Fd, (fs.flatMap fun f => [bints f.1, valueL m f]).flatMap (fun w => 32 :: w) = bodyL m fs
 | [] => rfl
 | f :: fs => by
  have := flat_parts m fs
  simp only [List.flatMap_cons, List.flatMap_append, List.flatMap_nil, List.append_nil] at this ⊢
  rw [this]
  simp [bodyL, partL]
theorem parseS_back {l : List Int} (hl : l.length ≤ 900) {m : Mg} (h : parseS l = (m, 0)) : MgOk m ∧ checkB m = 0 ∧ lineL m = l := by
 unfold parseS at h
 have hsub := @spl_sub 32 l
 cases hq : splitL 32 l with
 | nil => exact absurd hq (splitL_ne 32 l)
 | cons w0 ws =>
  rw [hq] at h hsub
  simp only at h
  by_cases h0 : kindW w0 = 0
  ·rw [if_pos h0] at h; simp at h
  ·rw [if_neg h0] at h
   have hkr := kindW_rng w0
   cases hg : goF (fieldsB (kindW w0)) ws (kM (kindW w0)) with
   | inr e => rw [hg] at h; simp only [Prod.mk.injEq] at h; exact absurd h.2 (goF_ne hg)
   | inl p =>
    obtain ⟨ws', m'⟩ := p
    rw [hg] at h
    simp only at h
    by_cases hw : ws' = []
    ·subst hw
     rw [if_neg (by simp)] at h
     by_cases hc : checkB m' = 0
     ·rw [if_pos hc] at h
      simp only [Prod.mk.injEq, and_true] at h
      subst h
      obtain ⟨k1, k2, k3, _⟩ := goF_back (kM_ok (i64_of' (by omega) (by omega))) (fun w hm => by have := (hsub w (List.mem_cons_of_mem _ hm)).1; omega) (fields_fd _) (fields_apart _) hg
      refine ⟨k1, hc, ?_⟩
      unfold lineL
      have hk : m'.1 = kindW w0 := k3
      rw [if_pos hc, hk, ← kindW_word h0, spl_join hq, k2, List.append_nil, flat_parts]
     ·rw [if_neg hc] at h; simp only [Prod.mk.injEq] at h; exact absurd h.2 hc
    ·rw [if_pos hw] at h; simp at h
end Go.Rel
/-! Plain laws: the line of any message, parsed; the message of any text. -/
namespace Go.Rel
open Go Go.Eng Go.Pl
end Go.Rel
/-! Plain laws: what arrives on a bad line, and its lines. -/
namespace Go.Rel
open Go Go.Eng Go.Pl
theorem nsame_ok {a b : List Int} (hlen : a.length < 4611686018427387904) : ref01_Same a b (decide (a = b)) := by
 unfold ref01_Same
 by_cases hl : a.length = b.length
 ·rw [if_neg (by simp; omega)]
  have key := loops_inv (step := ref01_Same_l2 a b) (s := 0) (fun k (s : Int) => s = (k : Int) ∧ ∀ j (h : j < a.length), j < k → a[j] = b[j]'(by omega)) (fun e => Aft (fun p18 => ref01_Same_j1 p18 (decide (a = b))) (fun p19 => decide (a = b) = p19) e) a.length ⟨rfl, fun j _ h => by omega⟩ ?_ ?_
  ·exact key
  ·rintro k s hk ⟨rfl, h2⟩
   by_cases he : a[k] = b[k]'(by omega)
   ·left
    refine ⟨((k + 1 : Nat) : Int), ?_, rfl, fun j h hj => ?_⟩
    ·unfold ref01_Same_l2
     rw [if_pos (by simp; omega)]
     refine ⟨a[k], idx_of hk, b[k]'(by omega), idx_of (by omega), ?_⟩
     rw [if_neg (by simp [he]), w_small (by omega) (by omega)]; rfl
    ·by_cases e : j = k
     ·subst e; exact he
     ·exact h2 j h (by omega)
   ·right
    refine ⟨.inr false, ?_, ?_⟩
    ·unfold ref01_Same_l2
     rw [if_pos (by simp; omega)]
     refine ⟨a[k], idx_of hk, b[k]'(by omega), idx_of (by omega), ?_⟩
     rw [if_pos (by simpa using he)]
    ·show decide (a = b) = false
     rw [decide_eq_false]
     intro e; subst e; exact he rfl
  ·rintro s ⟨rfl, h2⟩
   refine ⟨.inl (), ?_, ?_⟩
   ·unfold ref01_Same_l2
    rw [if_neg (by simp)]
   ·show decide (a = b) = true
    rw [decide_eq_true]
    exact List.ext_getElem hl fun j h _ => h2 j h h
 ·rw [if_pos (by simp; omega), decide_eq_false]
  intro e; exact hl (by rw [e])
abbrev It := Int × Int × Int × Int × List Int
def wholeL : List Int := [119, 104, 111, 108, 101]
def cutL : List Int := [99, 117, 116]
def turnL : List Int := [116, 117, 114, 110]
def junkL : List Int := [106, 117, 110, 107]
def wordN (k : Int) : List Int := if k = 1 then wholeL else if k = 2 then cutL else if k = 3 then turnL else if k = 4 then junkL else []
def needN (k : Int) : Int := if k = 1 then 1 else if k = 2 then 3 else if k = 3 then 3 else 0
theorem nword_ok (k : Int) : noise_word k (bstr (wordN k), needN k) := by
 unfold noise_word wordN needN wholeL cutL turnL junkL
 by_cases h1 : k = 1
 ·simp [h1]
 by_cases h2 : k = 2
 ·simp [h2]
 by_cases h3 : k = 3
 ·simp [h3]
 by_cases h4 : k = 4
 ·simp [h4]
 simp [h1, h2, h3, h4]
/-! ### Lines -/
def hexE (l : List Int) : List Int := if l = [] then [45] else hexL l
theorem nhex_ok {l : List Int} (ho : Oct l) (hl : l.length < 1000000) : noise_hex l (bstr (hexE l)) := by
 unfold noise_hex hexE
 by_cases h0 : l = []
 ·subst h0; rw [if_pos (by simp), if_pos rfl]
 ·have hp := List.length_pos_iff.2 h0
  rw [if_neg (by rw [decide_eq_true_eq]; omega), if_neg h0]
  have := loops_count (step := noise_hex_l2 l) (e := hexL l) (fun k => (hexL (l.take k), (k : Int))) l.length (fun k hk => by
   have hb := ho _ (List.getElem_mem hk)
   have hs : (hexL (l.take k)).length ≤ 2 * l.length := by rw [hexL_len, List.length_take]; omega
   unfold noise_hex_l2
   rw [if_pos (by simpa using hk)]
   refine ⟨l[k], idx_of hk, hexD (l[k] / 16), ?_, hexD (l[k] % 16), ?_, ?_⟩
   ·rw [ishr_4]; exact hex_at (by omega) (by omega)
   ·rw [iand_15 hb.1 hb.2]; exact hex_at (by omega) (by omega)
   ·simp only [List.length_cons, List.length_nil]
    refine ⟨by omega, by omega, ?_⟩
    rw [w_small (by omega) (by omega), List.take_succ_eq_append_getElem hk, hexL_snoc]; rfl) (by
   unfold noise_hex_l2
   rw [if_neg (by simp), List.take_length])
  exact ⟨hexL l, by simpa [hexL] using this, rfl⟩
theorem hexE_len (l : List Int) : (hexE l).length ≤ 2 * l.length + 1 := by
 unfold hexE; split
 ·simp
 ·rw [hexL_len]; omega
def numL3 (it : It) : List Int := if it.1 = 1 then [it.2.1] else [it.2.1, it.2.2.1, it.2.2.2.1]
def lineN (it : It) : List Int := if it.1 = 4 then junkL ++ 32 :: hexE it.2.2.2.2 else if it.1 = 1 ∨ it.1 = 2 ∨ it.1 = 3 then wordN it.1 ++ (numL3 it).flatMap (fun n => 32 :: decI n) else []
structure ItOk (it : It) : Prop where
 k : IntOk .i64 it.1
 r : IntOk .i64 it.2.1
 a : IntOk .i64 it.2.2.1
 n : IntOk .i64 it.2.2.2.1
 o : Oct it.2.2.2.2
 l : it.2.2.2.2.length ≤ 1000
theorem nl_go {it : It} {w : ByteArray} {need : Int} {v : Int} {acc : List Int} (i : Nat) (hi : i < 3) (hn : (i : Int) < need) (hv : [it.2.1, it.2.2.1, it.2.2.2.1].getD i 0 = v) (ho : IntOk .i64 v) (ha : acc.length < 1000) : noise_Line_l2 it (w, need) (bstr acc, (i : Int)) (.inl (bstr (acc ++ 32 :: decI v), ((i + 1 : Nat) : Int))) := by
 have hd := decI_len ho
 unfold noise_Line_l2
 simp only
 rw [if_pos (by rw [decide_eq_true_eq]; omega)]
 refine ⟨by omega, by omega, ?_⟩
 rw [if_pos (by simpa using hn), Int.toNat_natCast, hv]
 refine ⟨bstr (decI v), ⟨_, itoa_ok ho, rfl⟩, by rw [size_bstr, size_bstr, List.length_singleton]; omega, by rw [ByteArray.size_append, size_bstr, size_bstr, size_bstr, List.length_singleton]; omega, ?_⟩
 unfold noise_Line_j3
 rw [← bstr_append, ← bstr_append, w_small (by omega) (by omega)]; rfl
theorem nl_skip {it : It} {w : ByteArray} {need : Int} {s : ByteArray} (i : Nat) (hi : i < 3) (hn : need ≤ (i : Int)) : noise_Line_l2 it (w, need) (s, (i : Int)) (.inl (s, ((i + 1 : Nat) : Int))) := by
 unfold noise_Line_l2
 simp only
 rw [if_pos (by rw [decide_eq_true_eq]; omega)]
 refine ⟨by omega, by omega, ?_⟩
 rw [if_neg (by rw [decide_eq_true_eq]; omega)]
 unfold noise_Line_j3
 rw [w_small (by omega) (by omega)]; rfl
theorem nl_end {it : It} {w : ByteArray} {need : Int} {s : ByteArray} : noise_Line_l2 it (w, need) (s, ((3 : Nat) : Int)) (.inr s) := by
 unfold noise_Line_l2
 rw [if_neg (by simp)]
theorem wordN_len (k : Int) : (wordN k).length ≤ 5 := by
 unfold wordN; repeat' split
 all_goals decide
theorem lineN_4 {it : It} (h : it.1 = 4) : lineN it = junkL ++ 32 :: hexE it.2.2.2.2 := if_pos h
theorem lineN_1 {it : It} (h : it.1 = 1) : lineN it = wholeL ++ 32 :: decI it.2.1 := by
 unfold lineN numL3; rw [if_neg (by omega), if_pos (.inl h), if_pos h, h]; simp [wordN]
theorem lineN_23 {it : It} (h : it.1 = 2 ∨ it.1 = 3) : lineN it = wordN it.1 ++ 32 :: decI it.2.1 ++ 32 :: decI it.2.2.1 ++ 32 :: decI it.2.2.2.1 := by
 unfold lineN numL3; rw [if_neg (by omega), if_pos (by omega), if_neg (by omega)]; simp
theorem lineN_no {it : It} (h : ¬ (1 ≤ it.1 ∧ it.1 ≤ 4)) : lineN it = [] := by
 unfold lineN; rw [if_neg (by omega), if_neg (by omega)]
theorem wordN_no {k : Int} (h : ¬ (1 ≤ k ∧ k ≤ 4)) : wordN k = [] := by
 unfold wordN; rw [if_neg (by omega), if_neg (by omega), if_neg (by omega), if_neg (by omega)]
theorem nline_ok {it : It} (h : ItOk it) : noise_Line it (bstr (lineN it)) := by
 refine ⟨_, nword_ok it.1, ?_⟩
 have hd1 := decI_len h.r
 have hd2 := decI_len h.a
 have hl := h.l
 have hx := hexE_len it.2.2.2.2
 simp only
 rw [bs_nil]
 by_cases h4 : it.1 = 4
 ·rw [lineN_4 h4, h4, show wordN 4 = junkL from rfl, show needN 4 = 0 from rfl, if_neg (by decide), if_pos (by decide)]
  refine ⟨by rw [size_bstr, size_bstr]; decide, _, nhex_ok h.o (by (try simp only [Prod.t4]); omega), ?_, ?_⟩
  ·rw [ByteArray.size_append, size_bstr, size_bstr, size_bstr]; simp only [junkL, List.length_cons, List.length_nil]; (try simp only [Prod.t4]); omega
  ·rw [← bstr_append, ← bstr_append]; simp
 by_cases h1 : it.1 = 1
 ·rw [lineN_1 h1, h1, show wordN 1 = wholeL from rfl, show needN 1 = 1 from rfl, if_neg (by decide), if_neg (by decide)]
  exact ⟨_, .next (nl_go (acc := wholeL) 0 (by decide) (by decide) rfl h.r (by decide)) (.next (nl_skip 1 (by decide) (by decide)) (.next (nl_skip 2 (by decide) (by decide)) (.done nl_end))), rfl⟩
 by_cases h23 : it.1 = 2 ∨ it.1 = 3
 ·have hn : needN it.1 = 3 := by rcases h23 with h | h <;> rw [h] <;> rfl
  have hw : ¬ wordN it.1 = [] := by rcases h23 with h | h <;> rw [h] <;> decide
  have hwl := wordN_len it.1
  rw [lineN_23 h23, hn, if_neg (by simpa using hw), if_neg (by simp)]
  exact ⟨_, .next (nl_go (acc := wordN it.1) 0 (by decide) (by decide) rfl h.r (by omega)) (.next (nl_go (acc := wordN it.1 ++ 32 :: decI it.2.1) (v := it.2.2.1) 1 (by decide) (by decide) rfl h.a (by simp only [List.length_append, List.length_cons]; omega)) (.next (nl_go (acc := wordN it.1 ++ 32 :: decI it.2.1 ++ 32 :: decI it.2.2.1) (v := it.2.2.2.1) 2 (by decide) (by decide) rfl h.n (by simp only [List.length_append, List.length_cons]; omega)) (.done nl_end))), rfl⟩
 ·rw [lineN_no (by omega), wordN_no (by omega), if_pos (by decide)]
/-! ### A line is parsed -/
theorem shl4_or {x y : Int} (hx : 0 ≤ x ∧ x < 16) (hy : 0 ≤ y ∧ y < 16) : IntKind.u8.wrap (ior .i64 (ishl .i64 x 4) y) = 16 * x + y := by
 obtain ⟨a, rfl⟩ := Int.eq_ofNat_of_zero_le hx.1
 obtain ⟨b, rfl⟩ := Int.eq_ofNat_of_zero_le hy.1
 have ha : a < 16 := by omega
 have hb : b < 16 := by omega
 have key : ∀ a : Nat, a < 16 → ∀ b : Nat, b < 16 → IntKind.u8.wrap (ior .i64 (ishl .i64 (a : Int) 4) (b : Int)) = 16 * (a : Int) + (b : Int) := by decide
 exact key a ha b hb
theorem hv_neg {c : Int} : decide ((hv c).getD (-1) < 0) = (hv c).isNone := by
 cases hq : hv c with
 | none => rfl
 | some n => have := hv_some hq; simp; omega
theorem nunhex_run {w : List Int} (ho : Oct w) (hl : w.length < 1000000) : ∀ (n : Nat) (l pre out : List Int), l.length ≤ n → w = pre ++ l → l.length % 2 = 0 → out.length + l.length ≤ w.length →
    Loops (noise_unhex_l3 (bstr w)) (out, (pre.length : Int)) (match unhexL l with
      | none => .inr ([], 3)
      | some r => .inl (out ++ r))
  | n, [], pre, out, hn, hw, he, ho2 => by
    refine .done ?_
    unfold noise_unhex_l3
    rw [if_neg (by rw [size_bstr, hw]; simp)]
    simp [unhexL]
  | n, [x], pre, out, hn, hw, he, ho2 => by simp at he
  | 0, a :: b :: l, pre, out, hn, hw, he, ho2 => by simp at hn
  | n + 1, a :: b :: l, pre, out, hn, hw, he, ho2 => by
    simp only [List.length_cons] at hn he ho2
    have hlen : w.length = pre.length + l.length + 2 := by rw [hw]; simp; omega
    have ha := ho a (by rw [hw]; simp)
    have hb := ho b (by rw [hw]; simp)
    have i1 : idx (bints (bstr w)) (pre.length : Int) a := by rw [bb_of ho, hw]; exact idx_at rfl (by simp)
    have i2 : idx (bints (bstr w)) (IntKind.i64.wrap ((pre.length : Int) + 1)) b := by
      rw [bb_of ho, w_small (by omega) (by omega)]
      exact idx_at (k := pre.length + 1) (by omega) (by rw [hw, List.getElem?_append_right (by omega)]; simp)
    have stp : ∀ o, noise_unhex_j4 (out, (pre.length : Int)) ((hv a).getD (-1)) ((hv b).getD (-1)) ((hv a).isNone || (hv b).isNone) o → noise_unhex_l3 (bstr w) (out, (pre.length : Int)) o := by
      intro o h
      unfold noise_unhex_l3
      rw [if_pos (by rw [size_bstr, decide_eq_true_eq]; omega)]
      refine ⟨a, i1, _, place_hv ha, b, i2, _, place_hv hb, ?_⟩
      rw [hv_neg, hv_neg]
      cases hqa : (hv a).isNone with
      | true => rw [hqa] at h; rw [if_pos rfl]; simpa using h
      | false => rw [hqa] at h; rw [if_neg (by decide)]; simpa using h
    have bad : ((hv a).isNone || (hv b).isNone) = true → noise_unhex_l3 (bstr w) (out, (pre.length : Int)) (.inr (.inr ([], 3))) := fun h => stp _ (by
      rw [h]; unfold noise_unhex_j4; rw [if_pos rfl])
    unfold unhexL
    cases hqa : hv a with
    | none => exact .done (bad (by rw [hqa]; rfl))
    | some x =>
      cases hqb : hv b with
      | none => exact .done (bad (by rw [hqa, hqb]; rfl))
      | some y =>
        have hx := hv_some hqa
        have hy := hv_some hqb
        have go : noise_unhex_l3 (bstr w) (out, (pre.length : Int)) (.inl (out ++ [16 * x + y], ((pre ++ [a, b]).length : Int))) := stp _ (by
          rw [hqa, hqb]
          unfold noise_unhex_j4
          rw [if_neg (by simp)]
          simp only [Option.getD_some, List.length_singleton]
          rw [shl4_or ⟨hx.1, hx.2.1⟩ ⟨hy.1, hy.2.1⟩]
          refine ⟨by omega, by omega, ?_⟩
          rw [w_small (by omega) (by omega)]; simp)
        have ih := nunhex_run ho hl n l (pre ++ [a, b]) (out ++ [16 * x + y]) (by omega) (by rw [hw]; simp) (by omega) (by rw [List.length_append, List.length_singleton]; omega)
        refine .next go ?_
        cases hr : unhexL l with
        | none => rw [hr] at ih; exact ih
        | some r => rw [hr] at ih; simpa using ih
theorem nunhex_ok {w : List Int} (ho : Oct w) (hl : w.length < 1000000) : noise_unhex (bstr w) (unhexR w) := by
 have h45 : Oct [45] := fun x hx => by simp at hx; omega
 have h0 : Oct [] := fun x hx => nomatch hx
 unfold noise_unhex unhexR
 by_cases e1 : w = [45]
 ·rw [if_pos (by simp [e1]), if_pos e1]
 ·rw [if_neg (bstr_ne ho h45 e1), if_neg e1]
  by_cases e2 : w = []
  ·rw [if_pos (by simp [e2]), if_pos e2]
   unfold noise_unhex_j1; rw [if_pos rfl]
  ·rw [if_neg (bstr_ne ho h0 e2), if_neg e2]
   unfold noise_unhex_j1
   have hm : ((bstr w).size : Int).tmod 2 = ((w.length % 2 : Nat) : Int) := by rw [size_bstr, Int.tmod_eq_emod_of_nonneg (by omega)]; rfl
   rw [hm]
   by_cases e3 : w.length % 2 = 1
   ·rw [if_pos (by rw [decide_eq_false (by omega)]; rfl), unhexL_odd w.length w (Nat.le_refl _) e3]
   ·rw [if_neg (by rw [decide_eq_true (by omega)]; decide)]
    have h1 := nunhex_run ho hl w.length w [] [] (Nat.le_refl _) rfl (by omega) (by simp)
    refine ⟨_, h1, ?_⟩
    cases unhexL w with
    | none => rfl
    | some r => rfl
end Go.Rel
/-! Plain laws: the item of a line. -/
namespace Go.Rel
open Go Go.Eng Go.Pl
theorem gatherN {B : Int × ByteArray → List ByteArray → Sum (List ByteArray) Unit → Prop} (hB : ∀ x s, s.length < 1000000000 → B x s (.inl (s ++ [x.2]))) : ∀ (ws : List (List Int)) (a : Nat) (s : List ByteArray), s.length + ws.length < 1000000000 → RunB B (wrdsP a ws) s (.inl (s ++ ws.map bstr))
 | [], a, s, _ => by rw [List.map_nil, List.append_nil]; exact .nil
 | w :: ws, a, s, h => by
  simp only [List.length_cons] at h
  have ih := gatherN hB ws (a + w.length + 1) (s ++ [bstr w]) (by simp; omega)
  rw [List.map_cons, show s ++ bstr w :: ws.map bstr = s ++ [bstr w] ++ ws.map bstr by simp]
  exact .go (hB _ _ (by omega)) ih
def noI : It := (0, 0, 0, 0, [])
def kindN (w : List Int) : Int := if wordN 4 = w then 4 else if wordN 3 = w then 3 else if wordN 2 = w then 2 else if wordN 1 = w then 1 else 0
def numN (k : Int) : List (List Int) → It × Int
 | [w] => if k = 4 then (if (unhexR w).2 = 0 then ((4, 0, 0, 0, (unhexR w).1), 0) else (noI, (unhexR w).2)) else (if (rdB w).2 = 0 then ((k, (rdB w).1, 0, 0, []), 0) else (noI, (rdB w).2))
 | [w1, w2, w3] => if (rdB w1).2 ≠ 0 then (noI, (rdB w1).2) else if (rdB w2).2 ≠ 0 then (noI, (rdB w2).2) else if (rdB w3).2 ≠ 0 then (noI, (rdB w3).2) else ((k, (rdB w1).1, (rdB w2).1, (rdB w3).1, []), 0)
 | _ => (noI, 3)
theorem numN_1 (k : Int) (w : List Int) : numN k [w] = if k = 4 then (if (unhexR w).2 = 0 then ((4, 0, 0, 0, (unhexR w).1), 0) else (noI, (unhexR w).2)) else (if (rdB w).2 = 0 then ((k, (rdB w).1, 0, 0, []), 0) else (noI, (rdB w).2)) := rfl
theorem numN_3 (k : Int) (w1 w2 w3 : List Int) : numN k [w1, w2, w3] = if (rdB w1).2 ≠ 0 then (noI, (rdB w1).2) else if (rdB w2).2 ≠ 0 then (noI, (rdB w2).2) else if (rdB w3).2 ≠ 0 then (noI, (rdB w3).2) else ((k, (rdB w1).1, (rdB w2).1, (rdB w3).1, []), 0) := rfl
def noiseB (l : List Int) : It × Int := match splitL 32 l with
 | [] => (noI, 9)
 | w0 :: ws => if kindN w0 = 0 then (noI, 9) else if (ws.length : Int) ≠ max (needN (kindN w0)) 1 then (noI, 3) else numN (kindN w0) ws
theorem oct_word (k : Int) : Oct (wordN k) := by
 unfold wordN; repeat' split
 all_goals decide
theorem kindN_rng (w : List Int) : kindN w = 0 ∨ kindN w = 1 ∨ kindN w = 2 ∨ kindN w = 3 ∨ kindN w = 4 := by
 unfold kindN; repeat' split
 all_goals simp
theorem kindN_word {w : List Int} (h : kindN w ≠ 0) : wordN (kindN w) = w := by
 unfold kindN at h ⊢
 split
 ·assumption
 ·split
  ·assumption
  ·split
   ·assumption
   ·split
    ·assumption
    ·simp_all
section
variable {P : List ByteArray} {w : List Int} {n kd a b c a' b' c' need : Int}
theorem nk_step (k : Nat) (h1 : 1 ≤ k) (h4 : k ≤ 4) (hx : P[0]? = some (bstr w)) (ho : Oct w) : noise_Parse_l6 P (n, (k : Int), kd) (.inl (if wordN (k : Int) = w then needN (k : Int) else n, ((k + 1 : Nat) : Int), if wordN (k : Int) = w then (k : Int) else kd)) := by
 unfold noise_Parse_l6
 simp only
 rw [if_pos (by rw [decide_eq_true_eq]; omega)]
 refine ⟨_, nword_ok (k : Int), bstr w, idx_at (k := 0) rfl hx, ?_⟩
 unfold noise_Parse_j7
 simp only
 rw [w_small (by omega) (by omega)]
 by_cases h : wordN (k : Int) = w
 ·rw [if_pos (by rw [h]; simp), if_pos h, if_pos h]; rfl
 ·rw [if_neg (bstr_ne (oct_word _) ho h), if_neg h, if_neg h]; rfl
theorem nk_run (hx : P[0]? = some (bstr w)) (ho : Oct w) : Loops (noise_Parse_l6 P) (0, 1, 0) (needN (kindN w), kindN w) := by
 have e : (needN (kindN w), kindN w) = ((if wordN ((4 : Nat) : Int) = w then needN ((4 : Nat) : Int) else if wordN ((3 : Nat) : Int) = w then needN ((3 : Nat) : Int) else if wordN ((2 : Nat) : Int) = w then needN ((2 : Nat) : Int) else if wordN ((1 : Nat) : Int) = w then needN ((1 : Nat) : Int) else 0), (if wordN ((4 : Nat) : Int) = w then ((4 : Nat) : Int) else if wordN ((3 : Nat) : Int) = w then ((3 : Nat) : Int) else if wordN ((2 : Nat) : Int) = w then ((2 : Nat) : Int) else if wordN ((1 : Nat) : Int) = w then ((1 : Nat) : Int) else 0)) := by
  unfold kindN
  have c4 : ((4 : Nat) : Int) = 4 := rfl
  have c3 : ((3 : Nat) : Int) = 3 := rfl
  have c2 : ((2 : Nat) : Int) = 2 := rfl
  have c1 : ((1 : Nat) : Int) = 1 := rfl
  rw [c4, c3, c2, c1]
  by_cases h4 : wordN 4 = w
  ·simp only [if_pos h4]
  ·simp only [if_neg h4]
   by_cases h3 : wordN 3 = w
   ·simp only [if_pos h3]
   ·simp only [if_neg h3]
    by_cases h2 : wordN 2 = w
    ·simp only [if_pos h2]
    ·simp only [if_neg h2]
     by_cases h1 : wordN 1 = w
     ·simp only [if_pos h1]
     ·simp only [if_neg h1]; rfl
 rw [e]
 refine .next (nk_step 1 (by decide) (by decide) hx ho) (.next (nk_step 2 (by decide) (by decide) hx ho) (.next (nk_step 3 (by decide) (by decide) hx ho) (.next (nk_step 4 (by decide) (by decide) hx ho) (.done ?_))))
 unfold noise_Parse_l6
 rw [if_neg (by simp)]
theorem put3_0 (v : Int) : putN 3 0 [a, b, c] 0 v = [v, b, c] := rfl
theorem put3_1 (v : Int) : putN 3 0 [a, b, c] 1 v = [a, v, c] := rfl
theorem put3_2 (v : Int) : putN 3 0 [a, b, c] 2 v = [a, b, v] := rfl
theorem np_go (i : Nat) (hi : i < 3) (hn : (i : Int) < need) (hx : P[i + 1]? = some (bstr w)) (hl : w.length < 1000000000) (ho : Oct w) (hr : (rdB w).2 = 0) (hp : putN 3 0 [a, b, c] i (rdB w).1 = [a', b', c']) : noise_Parse_l5 P (need, kd) ((i : Int), a, b, c) (.inl (((i + 1 : Nat) : Int), a', b', c')) := by
 unfold noise_Parse_l5
 simp only
 rw [if_pos (by rw [decide_eq_true_eq]; omega)]
 refine ⟨by omega, by omega, ?_⟩
 rw [if_neg (by rw [decide_eq_true_eq]; omega), w_small (by omega) (by omega)]
 refine ⟨bstr w, idx_at (k := i + 1) (by omega) hx, rdB w, sread_ok hl ho, ?_⟩
 rw [if_neg (by simp [hr]), Int.toNat_natCast, hp]
 rfl
theorem np_no (i : Nat) (hi : i < 3) (hn : (i : Int) < need) (hx : P[i + 1]? = some (bstr w)) (hl : w.length < 1000000000) (ho : Oct w) (hr : ¬ (rdB w).2 = 0) : noise_Parse_l5 P (need, kd) ((i : Int), a, b, c) (.inr (.inr (noI, (rdB w).2))) := by
 unfold noise_Parse_l5
 simp only
 rw [if_pos (by rw [decide_eq_true_eq]; omega)]
 refine ⟨by omega, by omega, ?_⟩
 rw [if_neg (by rw [decide_eq_true_eq]; omega), w_small (by omega) (by omega)]
 refine ⟨bstr w, idx_at (k := i + 1) (by omega) hx, rdB w, sread_ok hl ho, ?_⟩
 rw [if_pos (by simpa using hr)]; rfl
theorem np_stop (i : Nat) (hn : need ≤ (i : Int) ∨ 3 ≤ i) : noise_Parse_l5 P (need, kd) ((i : Int), a, b, c) (.inr (.inl (a, b, c))) := by
 unfold noise_Parse_l5
 simp only
 by_cases h3 : i < 3
 ·rw [if_pos (by rw [decide_eq_true_eq]; omega)]
  refine ⟨by omega, by omega, ?_⟩
  rw [if_pos (by rw [decide_eq_true_eq]; omega)]
  try trivial
 ·rw [if_neg (by rw [decide_eq_true_eq]; omega)]
  try trivial
theorem rp_go (i : Nat) (hi : i < 3) (hn : (i : Int) < need) (hx : P[i + 1]? = some (bstr w)) (hl : w.length < 1000000000) (ho : Oct w) (hr : (rdB w).2 = 0) (hp : putN 3 0 [a, b, c] i (rdB w).1 = [a', b', c']) : ref26_Parse_l3 P (need, kd) ((i : Int), a, b, c) (.inl (((i + 1 : Nat) : Int), a', b', c')) := by
 unfold ref26_Parse_l3
 simp only
 rw [if_pos (by rw [decide_eq_true_eq]; omega), w_small (by omega) (by omega)]
 refine ⟨bstr w, idx_at (k := i + 1) (by omega) hx, rdB w, rread_ok hl ho, ?_⟩
 rw [if_neg (by simp [hr])]
 refine ⟨by omega, by omega, ?_⟩
 rw [Int.toNat_natCast, hp]
 rfl
theorem rp_no (i : Nat) (hi : i < 3) (hn : (i : Int) < need) (hx : P[i + 1]? = some (bstr w)) (hl : w.length < 1000000000) (ho : Oct w) (hr : ¬ (rdB w).2 = 0) : ref26_Parse_l3 P (need, kd) ((i : Int), a, b, c) (.inr (.inr (noI, (rdB w).2))) := by
 unfold ref26_Parse_l3
 simp only
 rw [if_pos (by rw [decide_eq_true_eq]; omega), w_small (by omega) (by omega)]
 refine ⟨bstr w, idx_at (k := i + 1) (by omega) hx, rdB w, rread_ok hl ho, ?_⟩
 rw [if_pos (by simpa using hr)]; rfl
theorem rp_stop (i : Nat) (hn : need ≤ (i : Int)) : ref26_Parse_l3 P (need, kd) ((i : Int), a, b, c) (.inr (.inl (a, b, c))) := by
 unfold ref26_Parse_l3
 simp only
 rw [if_neg (by rw [decide_eq_true_eq]; omega)]
 try trivial
end
section
variable {w0 : List Int} {ws : List (List Int)} (hs : ∀ w ∈ w0 :: ws, w.length < 1000000 ∧ Oct w)
include hs
theorem nj3_num {k : Int} (hk : k = 1 ∧ ws.length = 1 ∨ (k = 2 ∨ k = 3) ∧ ws.length = 3) : noise_Parse_j3 ((w0 :: ws).map bstr) (needN k, k) (0, []) (numN k ws) := by
 unfold noise_Parse_j3
 rw [if_neg (by decide)]
 rcases hk with ⟨rfl, h⟩ | ⟨h23, h⟩
 ·obtain ⟨w, rfl⟩ : ∃ w, ws = [w] := List.length_eq_one_iff.1 h
  obtain ⟨q1, q2⟩ := hs w (by simp)
  rw [show needN 1 = 1 from rfl]
  rw [numN_1, if_neg (by decide)]
  by_cases hr : (rdB w).2 = 0
  ·rw [if_pos hr]
   exact ⟨_, .next (np_go (w := w) 0 (by decide) (by decide) rfl (by omega) q2 hr (put3_0 _)) (.done (np_stop 1 (.inl (by decide)))), rfl⟩
  ·rw [if_neg hr]
   exact ⟨_, .done (np_no (w := w) 0 (by decide) (by decide) rfl (by omega) q2 hr), rfl⟩
 ·obtain ⟨w1, w2, w3, rfl⟩ : ∃ w1 w2 w3, ws = [w1, w2, w3] := by
   match ws, h with
   | [w1, w2, w3], _ => exact ⟨_, _, _, rfl⟩
  obtain ⟨p1, q1⟩ := hs w1 (by simp)
  obtain ⟨p2, q2⟩ := hs w2 (by simp)
  obtain ⟨p3, q3⟩ := hs w3 (by simp)
  rw [show needN k = 3 by rcases h23 with rfl | rfl <;> rfl]
  rw [numN_3]
  by_cases h1 : (rdB w1).2 = 0
  ·rw [if_neg (by simpa using h1)]
   have g1 := np_go (P := [w0, w1, w2, w3].map bstr) (need := 3) (kd := k) (w := w1) (a := 0) (b := 0) (c := 0) 0 (by decide) (by decide) rfl (by omega) q1 h1 (put3_0 _)
   by_cases h2 : (rdB w2).2 = 0
   ·rw [if_neg (by simpa using h2)]
    have g2 := np_go (P := [w0, w1, w2, w3].map bstr) (need := 3) (kd := k) (w := w2) (a := (rdB w1).1) (b := 0) (c := 0) 1 (by decide) (by decide) rfl (by omega) q2 h2 (put3_1 _)
    by_cases h3 : (rdB w3).2 = 0
    ·rw [if_neg (by simpa using h3)]
     have g3 := np_go (P := [w0, w1, w2, w3].map bstr) (need := 3) (kd := k) (w := w3) (a := (rdB w1).1) (b := (rdB w2).1) (c := 0) 2 (by decide) (by decide) rfl (by omega) q3 h3 (put3_2 _)
     exact ⟨_, .next g1 (.next g2 (.next g3 (.done (np_stop 3 (.inr (by decide)))))), rfl⟩
    ·rw [if_pos (by simpa using h3)]
     exact ⟨_, .next g1 (.next g2 (.done (np_no (w := w3) 2 (by decide) (by decide) rfl (by omega) q3 h3))), rfl⟩
   ·rw [if_pos (by simpa using h2)]
    exact ⟨_, .next g1 (.done (np_no (w := w2) 1 (by decide) (by decide) rfl (by omega) q2 h2)), rfl⟩
  ·rw [if_pos (by simpa using h1)]
   exact ⟨_, .done (np_no (w := w1) 0 (by decide) (by decide) rfl (by omega) q1 h1), rfl⟩
theorem rj_num {k : Int} (hk : k = 1 ∧ ws.length = 1 ∨ (k = 2 ∨ k = 3) ∧ ws.length = 3) : ∃ e, Loops (ref26_Parse_l3 ((w0 :: ws).map bstr) (needN k, k)) (0, 0, 0, 0) e ∧ Aft (fun p36 => ref26_Parse_j2 (needN k, k) p36 (numN k ws)) (fun p37 => numN k ws = p37) e := by
 rcases hk with ⟨rfl, h⟩ | ⟨h23, h⟩
 ·obtain ⟨w, rfl⟩ : ∃ w, ws = [w] := List.length_eq_one_iff.1 h
  obtain ⟨q1, q2⟩ := hs w (by simp)
  rw [show needN 1 = 1 from rfl]
  rw [numN_1, if_neg (by decide)]
  by_cases hr : (rdB w).2 = 0
  ·rw [if_pos hr]
   exact ⟨_, .next (rp_go (w := w) 0 (by decide) (by decide) rfl (by omega) q2 hr (put3_0 _)) (.done (rp_stop 1 (by decide))), rfl⟩
  ·rw [if_neg hr]
   exact ⟨_, .done (rp_no (w := w) 0 (by decide) (by decide) rfl (by omega) q2 hr), rfl⟩
 ·obtain ⟨w1, w2, w3, rfl⟩ : ∃ w1 w2 w3, ws = [w1, w2, w3] := by
   match ws, h with
   | [w1, w2, w3], _ => exact ⟨_, _, _, rfl⟩
  obtain ⟨p1, q1⟩ := hs w1 (by simp)
  obtain ⟨p2, q2⟩ := hs w2 (by simp)
  obtain ⟨p3, q3⟩ := hs w3 (by simp)
  rw [show needN k = 3 by rcases h23 with rfl | rfl <;> rfl]
  rw [numN_3]
  by_cases h1 : (rdB w1).2 = 0
  ·rw [if_neg (by simpa using h1)]
   have g1 := rp_go (P := [w0, w1, w2, w3].map bstr) (need := 3) (kd := k) (w := w1) (a := 0) (b := 0) (c := 0) 0 (by decide) (by decide) rfl (by omega) q1 h1 (put3_0 _)
   by_cases h2 : (rdB w2).2 = 0
   ·rw [if_neg (by simpa using h2)]
    have g2 := rp_go (P := [w0, w1, w2, w3].map bstr) (need := 3) (kd := k) (w := w2) (a := (rdB w1).1) (b := 0) (c := 0) 1 (by decide) (by decide) rfl (by omega) q2 h2 (put3_1 _)
    by_cases h3 : (rdB w3).2 = 0
    ·rw [if_neg (by simpa using h3)]
     have g3 := rp_go (P := [w0, w1, w2, w3].map bstr) (need := 3) (kd := k) (w := w3) (a := (rdB w1).1) (b := (rdB w2).1) (c := 0) 2 (by decide) (by decide) rfl (by omega) q3 h3 (put3_2 _)
     exact ⟨_, .next g1 (.next g2 (.next g3 (.done (rp_stop 3 (by decide))))), rfl⟩
    ·rw [if_pos (by simpa using h3)]
     exact ⟨_, .next g1 (.next g2 (.done (rp_no (w := w3) 2 (by decide) (by decide) rfl (by omega) q3 h3))), rfl⟩
   ·rw [if_pos (by simpa using h2)]
    exact ⟨_, .next g1 (.done (rp_no (w := w2) 1 (by decide) (by decide) rfl (by omega) q2 h2)), rfl⟩
  ·rw [if_pos (by simpa using h1)]
   exact ⟨_, .done (rp_no (w := w1) 0 (by decide) (by decide) rfl (by omega) q1 h1), rfl⟩
end
theorem nj3_no {P : List ByteArray} {s : Int × Int} {e : Int} {b : List Int} (h : ¬ e = 0) : noise_Parse_j3 P s (e, b) (noI, e) := by
 unfold noise_Parse_j3
 rw [if_pos (by simpa using h)]; rfl
theorem need_cases {k : Int} {n : Nat} (hk : k = 1 ∨ k = 2 ∨ k = 3) (h : (n : Int) = max (needN k) 1) : k = 1 ∧ n = 1 ∨ (k = 2 ∨ k = 3) ∧ n = 3 := by
 rcases hk with rfl | rfl | rfl
 ·rw [show max (needN 1) 1 = 1 from rfl] at h; omega
 ·rw [show max (needN 2) 1 = 3 from rfl] at h; omega
 ·rw [show max (needN 3) 1 = 3 from rfl] at h; omega
theorem nparse_ok {l : List Int} (hl : l.length < 100000) (ho : Oct l) : noise_Parse (bstr l) (noiseB l) := by
 have hlen := spl_len 32 l
 have hne := splitL_ne 32 l
 have hg := gatherN (B := noise_Parse_l1) (fun x s hs => by
  unfold noise_Parse_l1
  simp only [List.length_singleton]
  exact ⟨by omega, by omega, trivial⟩) (splitL 32 l) 0 [] (by simp only [List.length_nil]; omega)
 rw [List.nil_append] at hg
 have hsub := @spl_sub 32 l
 refine ⟨_, words_ok _, _, (), words_itr (by omega) ho _ _ _ _ (run_yof hg), ?_⟩
 unfold noiseB
 cases hq : splitL 32 l with
 | nil => exact absurd hq hne
 | cons w0 ws =>
  rw [hq] at hsub hlen
  have hs : ∀ w ∈ w0 :: ws, w.length < 1000000 ∧ Oct w := fun w hm => by
   have := hsub w hm
   exact ⟨by omega, fun x hx => ho x (this.2 x hx)⟩
  simp only [List.length_cons] at hlen
  refine ⟨_, nk_run (w := w0) rfl (hs w0 (by simp)).2, ?_⟩
  unfold noise_Parse_j2
  simp only
  by_cases h0 : kindN w0 = 0
  ·rw [if_pos (by simpa using h0), if_pos h0]; exact nj3_no (by decide)
  ·rw [if_neg (by simpa using h0), if_neg h0]
   have hmax : 1 ≤ max (needN (kindN w0)) 1 ∧ max (needN (kindN w0)) 1 ≤ 3 := by
    rcases kindN_rng w0 with h | h | h | h | h <;> rw [h] <;> decide
   rw [w_small (by omega) (by omega)]
   by_cases h1 : (ws.length : Int) = max (needN (kindN w0)) 1
   ·rw [if_neg (by rw [List.length_map, List.length_cons, decide_eq_true (by omega)]; decide), if_neg (show ¬ ((ws.length : Int) ≠ max (needN (kindN w0)) 1) from fun q => q h1)]
    by_cases h4 : kindN w0 = 4
    ·rw [h4] at h1 ⊢
     rw [show max (needN 4) 1 = 1 from rfl] at h1
     obtain ⟨w, rfl⟩ : ∃ w, ws = [w] := List.length_eq_one_iff.1 (by omega)
     obtain ⟨q1, q2⟩ := hs w (by simp)
     rw [show needN 4 = 0 from rfl, if_pos (by decide)]
     refine ⟨bstr w, idx_at (k := 1) rfl rfl, _, nunhex_ok q2 q1, ?_⟩
     rw [numN_1, if_pos rfl]
     by_cases he : (unhexR w).2 = 0
     ·rw [if_pos he, he]
      unfold noise_Parse_j3
      rw [if_neg (by simp)]
      exact ⟨_, .done (np_stop 0 (.inl (by decide))), rfl⟩
     ·rw [if_neg he]; exact nj3_no he
    ·have hk : kindN w0 = 1 ∨ kindN w0 = 2 ∨ kindN w0 = 3 := by rcases kindN_rng w0 with h | h | h | h | h <;> simp_all
     have hn : needN (kindN w0) ≠ 0 := by rcases hk with h | h | h <;> rw [h] <;> decide
     rw [if_neg (by simpa using hn)]
     exact nj3_num hs (need_cases hk h1)
   ·rw [if_pos (by rw [List.length_map, List.length_cons, decide_eq_false (by omega)]; rfl), if_pos (show (ws.length : Int) ≠ max (needN (kindN w0)) 1 from h1)]
    exact nj3_no (by decide)
theorem rnparse_ok {l : List Int} (hl : l.length < 100000) (ho : Oct l) : ref26_Parse (bstr l) (noiseB l) := by
 have hlen := spl_len 32 l
 have hne := splitL_ne 32 l
 have hsub := @spl_sub 32 l
 refine ⟨_, rsplit_ok (c := 32) (by omega) ho, ?_⟩
 unfold noiseB
 cases hq : splitL 32 l with
 | nil => exact absurd hq hne
 | cons w0 ws =>
  rw [hq] at hsub hlen
  have hs : ∀ w ∈ w0 :: ws, w.length < 1000000 ∧ Oct w := fun w hm => by
   have := hsub w hm
   exact ⟨by omega, fun x hx => ho x (this.2 x hx)⟩
  simp only [List.length_cons] at hlen
  have ho0 := (hs w0 (by simp)).2
  refine ⟨bstr w0, idx_at (k := 0) rfl rfl, ?_⟩
  simp only
  have j1 : ∀ n k : Int, k = kindN w0 → n = max (needN k) 1 → k ≠ 0 → ref26_Parse_j1 ((w0 :: ws).map bstr) (n, k) (if kindN w0 = 0 then (noI, 9) else if (ws.length : Int) ≠ max (needN (kindN w0)) 1 then (noI, 3) else numN (kindN w0) ws) := by
   rintro n k hk hn h0
   rw [← hk, if_neg h0]
   have hkr : k = 1 ∨ k = 2 ∨ k = 3 ∨ k = 4 := by rcases kindN_rng w0 with h | h | h | h | h <;> omega
   have hmax : 1 ≤ max (needN k) 1 ∧ max (needN k) 1 ≤ 3 := by
    rcases hkr with h | h | h | h <;> rw [h] <;> decide
   unfold ref26_Parse_j1
   simp only
   rw [hn, w_small (by omega) (by omega)]
   by_cases h1 : (ws.length : Int) = max (needN k) 1
   ·rw [if_neg (by rw [List.length_map, List.length_cons, decide_eq_true (by omega)]; decide), if_neg (show ¬ ((ws.length : Int) ≠ max (needN k) 1) from fun q => q h1)]
    by_cases h4 : k = 4
    ·subst h4
     rw [show max (needN 4) 1 = 1 from rfl] at h1
     obtain ⟨w, rfl⟩ : ∃ w, ws = [w] := List.length_eq_one_iff.1 (by omega)
     obtain ⟨q1, q2⟩ := hs w (by simp)
     rw [if_pos (by decide)]
     refine ⟨bstr w, idx_at (k := 1) rfl rfl, _, runhex_ok q2 q1, ?_⟩
     rw [numN_1, if_pos rfl]
     by_cases he : (unhexR w).2 = 0
     ·rw [if_neg (by simpa using he), if_pos he]
     ·rw [if_pos (by simpa using he), if_neg he]; rfl
    ·have hk3 : k = 1 ∨ k = 2 ∨ k = 3 := by omega
     rw [if_neg (by simpa using h4), show max (needN k) 1 = needN k by rcases hk3 with h | h | h <;> rw [h] <;> decide]
     exact rj_num hs (need_cases hk3 h1)
   ·rw [if_pos (by rw [List.length_map, List.length_cons, decide_eq_false (by omega)]; rfl), if_pos (show (ws.length : Int) ≠ max (needN k) 1 from h1)]; rfl
  by_cases c1 : w0 = wholeL
  ·rw [if_pos (by rw [c1]; decide)]
   exact j1 1 1 (by rw [c1]; decide) (by decide) (by decide)
  rw [if_neg (show ¬ decide (bstr w0 = bstr [119, 104, 111, 108, 101]) = true from bstr_ne ho0 (oct_word 1) c1)]
  by_cases c2 : w0 = cutL
  ·rw [if_pos (by rw [c2]; decide)]
   exact j1 3 2 (by rw [c2]; decide) (by decide) (by decide)
  rw [if_neg (show ¬ decide (bstr w0 = bstr [99, 117, 116]) = true from bstr_ne ho0 (oct_word 2) c2)]
  by_cases c3 : w0 = turnL
  ·rw [if_pos (by rw [c3]; decide)]
   exact j1 3 3 (by rw [c3]; decide) (by decide) (by decide)
  rw [if_neg (show ¬ decide (bstr w0 = bstr [116, 117, 114, 110]) = true from bstr_ne ho0 (oct_word 3) c3)]
  by_cases c4 : w0 = junkL
  ·rw [if_pos (by rw [c4]; decide)]
   exact j1 1 4 (by rw [c4]; decide) (by decide) (by decide)
  rw [if_neg (show ¬ decide (bstr w0 = bstr [106, 117, 110, 107]) = true from bstr_ne ho0 (oct_word 4) c4)]
  have : kindN w0 = 0 := by
   unfold kindN
   rw [if_neg (fun e => c4 e.symm), if_neg (fun e => c3 e.symm), if_neg (fun e => c2 e.symm), if_neg (fun e => c1 e.symm)]
  rw [if_pos this]; rfl
end Go.Rel
