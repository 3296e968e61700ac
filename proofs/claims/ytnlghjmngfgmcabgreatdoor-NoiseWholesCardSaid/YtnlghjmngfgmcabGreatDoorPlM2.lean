import Derived.Test.YtnlghjmngfgmcabGreatDoorURel
import Derived.Test.YtnlghjmngfgmcabGreatDoorPlM1
/-! Plain laws: the number of digits. -/
namespace Go.Rel
open Go Go.Eng Go.Pl
/-- Are all digits? -/
def AllDig (d : List Int) : Prop := ∀ x ∈ d, 48 ≤ x ∧ x < 58
instance (d : List Int) : Decidable (AllDig d) := inferInstanceAs (Decidable (∀ x ∈ d, 48 ≤ x ∧ x < 58))
/-- The number of digits. -/
def dval (a : Nat) (d : List Int) : Nat := d.foldl (fun n c => 10 * n + (c - 48).toNat) a
theorem dval_cons (a : Nat) (c : Int) (d : List Int) : dval a (c :: d) = dval (10 * a + (c - 48).toNat) d := rfl
theorem dval_ge : ∀ (d : List Int) (a : Nat), a ≤ dval a d
  | [], a => Nat.le_refl a
  | c :: d, a => by rw [dval_cons]; have := dval_ge d (10 * a + (c - 48).toNat); omega
/-- A text's number: the number, the error. -/
def rdB (l : List Int) : Int × Int :=
  let d := if l.head? = some 45 then l.tail else l
  if d = [] ∨ (d.head? = some 48 ∧ l ≠ [48]) ∨ ¬ AllDig d then (0, 3)
  else if l.head? = some 45 then (if dval 0 d ≤ 9223372036854775808 then (-(dval 0 d : Int), 0) else (0, 5))
  else (if dval 0 d ≤ 9223372036854775807 then ((dval 0 d : Int), 0) else (0, 5))
/-- What the library's parser tells of digits. -/
theorem pu64_dig : ∀ (d : List Int) (a : Nat), AllDig d → a ≤ 18446744073709551615 → pu64 (a : Int) d = if dval a d ≤ 18446744073709551615 then (0, (dval a d : Int)) else (2, 0)
  | [], a, _, ha => by rw [if_pos (by simpa [dval] using ha)]; rfl
  | c :: d, a, h, ha => by
    have hc := h c (by simp)
    have hd : AllDig d := fun x hx => h x (List.mem_cons_of_mem _ hx)
    rw [pu64, if_pos (by omega), dval_cons]
    have hge := dval_ge d (10 * a + (c - 48).toNat)
    by_cases h1 : (1844674407370955162 : Int) ≤ (a : Int)
    · rw [if_pos h1, if_neg (by omega)]
    · rw [if_neg h1]
      by_cases h2 : (18446744073709551615 : Int) < (a : Int) * 10 + (c - 48)
      · rw [if_pos h2, if_neg (by omega)]
      · rw [if_neg h2, show (a : Int) * 10 + (c - 48) = ((10 * a + (c - 48).toNat : Nat) : Int) by omega]
        exact pu64_dig d _ hd (by omega)
theorem pi64_rd {l : List Int} (h3 : (rdB l).2 ≠ 3) : ((pi64 l).2 = false ∧ rdB l = ((pi64 l).1, 0)) ∨ ((pi64 l).2 = true ∧ rdB l = (0, 5)) := by
  unfold rdB at h3 ⊢
  simp only at h3 ⊢
  by_cases h45 : l.head? = some 45
  · obtain ⟨t, rfl⟩ : ∃ t, l = 45 :: t := by cases l with | nil => simp at h45 | cons x l => simp at h45; exact ⟨l, by rw [h45]⟩
    simp only [List.head?_cons, List.tail_cons, if_true] at h3 ⊢
    by_cases hc : t = [] ∨ (t.head? = some 48 ∧ 45 :: t ≠ [(48 : Int)]) ∨ ¬ AllDig t
    · rw [if_pos hc] at h3; simp at h3
    · rw [if_neg hc]
      simp only [not_or, Decidable.not_not] at hc
      have hp := pu64_dig t 0 hc.2.2 (by omega)
      rw [show ((0 : Nat) : Int) = 0 from rfl] at hp
      unfold pi64
      simp only [if_neg hc.1, or_true, if_true, hp]
      by_cases h1 : dval 0 t ≤ 18446744073709551615
      · rw [if_pos h1]
        simp only
        rw [if_neg (by decide), if_neg (by decide), if_neg (by simp)]
        by_cases h2 : dval 0 t ≤ 9223372036854775808
        · rw [if_neg (by omega), if_pos h2]; left; simp
        · rw [if_pos (by simp; omega), if_neg h2]; right; simp
      · rw [if_neg h1, if_neg (by omega)]
        simp
        try omega
  · rw [if_neg h45] at h3 ⊢
    rw [if_neg h45] at h3 ⊢
    by_cases hc : l = [] ∨ (l.head? = some 48 ∧ l ≠ [48]) ∨ ¬ AllDig l
    · rw [if_pos hc] at h3; simp at h3
    · rw [if_neg hc]
      simp only [not_or, Decidable.not_not] at hc
      have hp := pu64_dig l 0 hc.2.2 (by omega)
      rw [show ((0 : Nat) : Int) = 0 from rfl] at hp
      obtain ⟨x, t, rfl⟩ : ∃ x t, l = x :: t := by cases l with | nil => exact absurd rfl hc.1 | cons x l => exact ⟨_, _, rfl⟩
      have hx := hc.2.2 x (by simp)
      have hx45 : ¬ x = 45 := by omega
      have hx43 : ¬ x = 43 := by omega
      have hxn : ¬ (x :: t = []) := by simp
      simp only [pi64, hx43, hx45, or_false, if_false, hxn, hp]
      by_cases h1 : dval 0 (x :: t) ≤ 18446744073709551615
      · rw [if_pos h1]
        simp only
        rw [if_neg (by decide), if_neg (by decide)]
        by_cases h2 : dval 0 (x :: t) ≤ 9223372036854775807
        · rw [if_neg (by omega), if_neg (by simp), if_pos h2]; left; simp
        · rw [if_pos (by simp; omega), if_neg h2]; right; simp
      · rw [if_neg h1, if_neg (by omega)]
        simp
        try omega
end Go.Rel
/-! Plain laws: a number is read; the words of a text. -/
namespace Go.Rel
open Go Go.Eng Go.Pl
def digS : List Int := [48, 49, 50, 51, 52, 53, 54, 55, 56, 57]
theorem ascii_ok : ∃ as, strings_makeASCIISet (bstr digS) (as, true) ∧ ∀ c : Int, 0 ≤ c → c < 256 → as.getD c.toNat false = decide (48 ≤ c ∧ c < 58) := by
  have hb : bints (bstr digS) = digS := bb_of (by unfold Oct digS; decide)
  have hs : (bstr digS).size = 10 := by rw [size_bstr]; rfl
  have key := loops_inv (step := strings_makeASCIISet_l2 (bstr digS)) (s := (0, List.replicate 256 false)) (fun k (s : Int × List Bool) => s.1 = (k : Int) ∧ ∀ c : Int, 0 ≤ c → c < 256 → s.2.getD c.toNat false = decide (48 ≤ c ∧ c < 48 + k)) (fun e => ∃ as, e = .inl as ∧ ∀ c : Int, 0 ≤ c → c < 256 → as.getD c.toNat false = decide (48 ≤ c ∧ c < 58)) 10 ⟨rfl, fun c h0 h1 => by
    rw [List.getD_eq_getElem?_getD, List.getElem?_replicate, if_pos (by omega)]
    symm; simp⟩ ?_ ?_
  · obtain ⟨e, h1, as, rfl, h2⟩ := key
    exact ⟨as, ⟨_, h1, rfl⟩, h2⟩
  · rintro k ⟨i, xs⟩ hk ⟨h1, h2⟩
    simp only at h1 h2
    subst h1
    left
    have hx : idx (bints (bstr digS)) (k : Int) (48 + k) := by
      rw [hb]
      refine ⟨by omega, ?_⟩
      rw [Int.toNat_natCast]
      have : k = 0 ∨ k = 1 ∨ k = 2 ∨ k = 3 ∨ k = 4 ∨ k = 5 ∨ k = 6 ∨ k = 7 ∨ k = 8 ∨ k = 9 := by omega
      rcases this with rfl | rfl | rfl | rfl | rfl | rfl | rfl | rfl | rfl | rfl <;> rfl
    refine ⟨((k + 1 : Nat), putN 256 false xs (48 + (k : Int)).toNat true), ?_, rfl, ?_⟩
    · unfold strings_makeASCIISet_l2
      simp only
      rw [if_pos (by rw [hs, decide_eq_true_eq]; omega)]
      refine ⟨_, hx, ?_⟩
      rw [if_neg (by rw [decide_eq_true_eq]; omega)]
      refine ⟨by omega, by omega, ?_⟩
      rw [w_small (by omega) (by omega)]; rfl
    · intro c h0 h1
      rw [putN_getD (by omega), h2 c h0 h1]
      by_cases hc : c = 48 + (k : Int)
      · rw [if_pos (by omega)]; symm; rw [decide_eq_true_eq]; omega
      · rw [if_neg (by omega)]
        by_cases h : 48 ≤ c ∧ c < 48 + (k : Int)
        · rw [decide_eq_true h, decide_eq_true (by omega)]
        · rw [decide_eq_false h, decide_eq_false (by omega)]
  · rintro ⟨i, xs⟩ ⟨h1, h2⟩
    simp only at h1 h2
    subst h1
    refine ⟨.inl xs, ?_, xs, rfl, h2⟩
    unfold strings_makeASCIISet_l2
    rw [if_neg (by rw [hs, decide_eq_true_eq]; simp)]
theorem allDig_snoc {p : List Int} {c : Int} (hc : 48 ≤ c ∧ c < 58) : AllDig (p ++ [c]) ↔ AllDig p :=
  ⟨fun h x hx => h x (List.mem_append_left _ hx), fun h x hx => by
    rcases List.mem_append.1 hx with hx | hx
    · exact h x hx
    · rw [List.mem_singleton] at hx; subst hx; exact hc⟩
theorem allDig_cons {p : List Int} {c : Int} (hc : 48 ≤ c ∧ c < 58) : AllDig (c :: p) ↔ AllDig p :=
  ⟨fun h x hx => h x (List.mem_cons_of_mem _ hx), fun h x hx => by
    rcases List.mem_cons.1 hx with rfl | hx
    · exact hc
    · exact h x hx⟩
theorem trimR_ok {as : List Bool} (has : ∀ c : Int, 0 ≤ c → c < 256 → as.getD c.toNat false = decide (48 ≤ c ∧ c < 58)) : ∀ (n : Nat) (d : List Int), d.length ≤ n → n < 1000000000 → Oct d → ∃ m, Loops (strings_trimRightASCII_l2 as) (bstr d) (bstr m) ∧ Oct m ∧ m.length ≤ d.length ∧ (AllDig m ↔ AllDig d) ∧ (AllDig m → m = [])
  | n, d, hn, hb, ho => by
    have hsz : (bstr d).size = d.length := size_bstr _
    by_cases h0 : d = []
    · subst h0
      refine ⟨[], .done ?_, ho, by simp, Iff.rfl, fun _ => rfl⟩
      unfold strings_trimRightASCII_l2
      rw [if_neg (by simp [size_bstr])]
    · obtain ⟨p, c, rfl⟩ : ∃ p c, d = p ++ [c] := ⟨d.dropLast, d.getLast h0, (List.dropLast_concat_getLast h0).symm⟩
      have hc := ho c (by simp)
      have hl : (p ++ [c]).length = p.length + 1 := by simp
      have hw : IntKind.i64.wrap (((bstr (p ++ [c])).size : Int) - 1) = (p.length : Int) := by rw [hsz, hl, w_small (by omega) (by omega)]; omega
      have hx : idx (bints (bstr (p ++ [c]))) (p.length : Int) c := by rw [bb_of ho]; exact idx_at rfl (by simp)
      by_cases hd : 48 ≤ c ∧ c < 58
      · match n, hn with
        | 0, hn => omega
        | n + 1, hn =>
          obtain ⟨m, h1, h2, h3, h4, h5⟩ := trimR_ok has n p (by omega) (by omega) (fun x hx => ho x (List.mem_append_left _ hx))
          refine ⟨m, .next ?_ h1, h2, by omega, h4.trans (allDig_snoc hd).symm, h5⟩
          unfold strings_trimRightASCII_l2
          rw [if_pos (by rw [hsz, decide_eq_true_eq]; omega), hw]
          refine ⟨c, hx, true, ⟨hc.1, hc.2, by rw [has c hc.1 hc.2, decide_eq_true hd]⟩, ?_⟩
          rw [if_neg (by decide)]
          refine ⟨by omega, by omega, ?_⟩
          rw [ext_bstr, Int.toNat_natCast, List.take_left' rfl, List.drop_zero]
      · refine ⟨p ++ [c], .done ?_, ho, by omega, Iff.rfl, fun h => absurd (h c (by simp)) hd⟩
        unfold strings_trimRightASCII_l2
        rw [if_pos (by rw [hsz, decide_eq_true_eq]; omega), hw]
        refine ⟨c, hx, false, ⟨hc.1, hc.2, by rw [has c hc.1 hc.2, decide_eq_false hd]⟩, ?_⟩
        rw [if_pos (by decide)]
theorem trimL_ok {as : List Bool} (has : ∀ c : Int, 0 ≤ c → c < 256 → as.getD c.toNat false = decide (48 ≤ c ∧ c < 58)) : ∀ (d : List Int), d.length < 1000000000 → Oct d → ∃ m, Loops (strings_trimLeftASCII_l2 as) (bstr d) (bstr m) ∧ (AllDig m ↔ AllDig d) ∧ (AllDig m → m = [])
  | [], hb, ho => by
    refine ⟨[], .done ?_, Iff.rfl, fun _ => rfl⟩
    unfold strings_trimLeftASCII_l2
    rw [if_neg (by simp [size_bstr])]
  | c :: p, hb, ho => by
    have hsz : (bstr (c :: p)).size = p.length + 1 := size_bstr _
    have hc := ho c (by simp)
    have hx : idx (bints (bstr (c :: p))) 0 c := by rw [bb_of ho]; exact idx_at (k := 0) rfl (by simp)
    by_cases hd : 48 ≤ c ∧ c < 58
    · obtain ⟨m, h1, h2, h3⟩ := trimL_ok has p (by simp only [List.length_cons] at hb; omega) (fun x hx => ho x (List.mem_cons_of_mem _ hx))
      refine ⟨m, .next ?_ h1, h2.trans (allDig_cons hd).symm, h3⟩
      unfold strings_trimLeftASCII_l2
      rw [if_pos (by rw [hsz, decide_eq_true_eq]; omega)]
      refine ⟨c, hx, true, ⟨hc.1, hc.2, by rw [has c hc.1 hc.2, decide_eq_true hd]⟩, ?_⟩
      rw [if_neg (by decide)]
      refine ⟨by omega, ?_⟩
      rw [ext_bstr, hsz]
      congr 2
      rw [List.take_of_length_le (by simp)]; rfl
    · refine ⟨c :: p, .done ?_, Iff.rfl, fun h => absurd (h c (by simp)) hd⟩
      unfold strings_trimLeftASCII_l2
      rw [if_pos (by rw [hsz, decide_eq_true_eq]; omega)]
      refine ⟨c, hx, false, ⟨hc.1, hc.2, by rw [has c hc.1 hc.2, decide_eq_false hd]⟩, ?_⟩
      rw [if_pos (by decide)]
theorem bs_ne {l m : List Int} (h : l.length ≠ m.length) : ¬ bstr l = bstr m := fun e => h (by rw [← size_bstr l, e, size_bstr])
theorem bs_nil {l : List Int} : decide (bstr l = bstr []) = decide (l = []) := by
  by_cases h : l = []
  · subst h; simp
  · rw [decide_eq_false h, decide_eq_false (bs_ne (by simpa using h))]
theorem trim_ok {d : List Int} (hl : d.length < 1000000000) (ho : Oct d) : ∃ m, strings_Trim (bstr d) (bstr digS) (bstr m) ∧ (m = [] ↔ AllDig d) := by
  by_cases h0 : d = []
  · subst h0
    refine ⟨[], ?_, ⟨fun _ x hx => by simp at hx, fun _ => rfl⟩⟩
    unfold strings_Trim strings_Trim_j1
    rw [if_pos (by simp), if_pos rfl]
  · obtain ⟨as, ha, has⟩ := ascii_ok
    obtain ⟨m, h1, h2, h3, h4, h5⟩ := trimR_ok has d.length d (Nat.le_refl _) hl ho
    obtain ⟨m2, g1, g2, g3⟩ := trimL_ok has m (by omega) h2
    refine ⟨m2, ?_, ⟨fun e => h4.1 (g2.1 (by subst e; intro x hx; simp at hx)), fun h => g3 (g2.2 (h4.2 h))⟩⟩
    unfold strings_Trim strings_Trim_j1
    rw [if_neg (by rw [bs_nil]; simpa using h0), bs_nil, if_neg (by decide), if_neg (by rw [size_bstr]; decide)]
    unfold strings_Trim_j2
    rw [if_neg (by decide)]
    refine ⟨(as, true), ha, ?_⟩
    rw [if_pos rfl]
    exact ⟨_, ⟨_, h1, rfl⟩, _, ⟨_, g1, rfl⟩, rfl⟩
theorem trimPre_ok {l : List Int} (hl : l.length < 1000000000) (ho : Oct l) : strings_TrimPrefix (bstr l) (bstr [45]) (bstr (if l.head? = some 45 then l.tail else l)) := by
  have hsz : (bstr l).size = l.length := size_bstr _
  have h1 : (bstr [45]).size = 1 := by rw [size_bstr]; rfl
  refine ⟨_, ⟨decide (l.head? = some 45), ?_, ?_⟩, rfl⟩
  · unfold internal_stringslite_HasPrefix
    cases l with
    | nil => rw [if_neg (by rw [h1, hsz]; simp)]; rfl
    | cons c t =>
      rw [if_pos (by rw [h1, hsz, List.length_cons, decide_eq_true_eq]; omega)]
      refine ⟨by omega, by rw [h1, hsz, List.length_cons]; omega, ?_⟩
      show _ = _
      rw [h1, ext_bstr, List.drop_zero, show ((1 : Nat) : Int).toNat = 1 from rfl, List.take_succ_cons, List.take_zero]
      by_cases hc : c = 45
      · subst hc; simp
      · rw [decide_eq_false (by simpa using hc), decide_eq_false]
        intro e
        have := bs_inj (a := [c]) (b := [45]) (fun x hx => by rw [List.mem_singleton] at hx; subst hx; exact ho x (by simp)) (fun x hx => by rw [List.mem_singleton] at hx; subst hx; decide) e
        simp at this; exact hc this
  · by_cases h : l.head? = some 45
    · rw [decide_eq_true h, if_pos rfl, if_pos h]
      obtain ⟨t, rfl⟩ : ∃ t, l = 45 :: t := by cases l with | nil => simp at h | cons x l => simp at h; exact ⟨l, by rw [h]⟩
      refine ⟨by omega, by rw [h1, hsz]; simp; omega, ?_⟩
      rw [h1, hsz, ext_bstr, List.take_of_length_le (Nat.le_refl _)]; rfl
    · rw [decide_eq_false h, if_neg (by decide), if_neg h]
theorem sread_ok {l : List Int} (hl : l.length < 1000000000) (ho : Oct l) : say_Read (bstr l) (rdB l) := by
  have hpre := trimPre_ok hl ho
  have hd : (if l.head? = some 45 then l.tail else l).length ≤ l.length ∧ Oct (if l.head? = some 45 then l.tail else l) := by
    split
    · exact ⟨by simp, fun x hx => ho x (List.mem_of_mem_tail hx)⟩
    · exact ⟨Nat.le_refl _, ho⟩
  have hpi := @pi64_rd l
  unfold rdB at hpi ⊢
  simp only at hpi ⊢
  generalize hdd : (if l.head? = some 45 then l.tail else l) = d at hpre hd hpi ⊢
  refine ⟨pi64 (bints (bstr l)), ⟨rfl, rfl, by rw [size_bstr]; omega, rfl⟩, _, hpre, ?_⟩
  rw [bb_of ho, bs_nil]
  by_cases h0 : d = []
  · rw [if_pos (by simpa using h0), if_pos (.inl h0)]
    unfold say_Read_j1
    rw [if_pos rfl]
  rw [if_neg (by simpa using h0)]
  obtain ⟨m, hm, hma⟩ := trim_ok (d := d) (by omega) hd.2
  refine ⟨_, hm, ?_⟩
  rw [bs_nil]
  by_cases hall : AllDig d
  · rw [if_neg (by simp [hma.2 hall])]
    obtain ⟨c, t, rfl⟩ : ∃ c t, d = c :: t := by cases d with | nil => exact absurd rfl h0 | cons c t => exact ⟨_, _, rfl⟩
    refine ⟨c, by rw [bb_of hd.2]; exact idx_at (k := 0) rfl (by simp), ?_⟩
    have fin : ¬ (c :: t = [] ∨ ((c :: t).head? = some 48 ∧ l ≠ [48]) ∨ ¬ AllDig (c :: t)) → say_Read_j1 (pi64 l) false (if (c :: t) = [] ∨ ((c :: t).head? = some 48 ∧ l ≠ [48]) ∨ ¬ AllDig (c :: t) then ((0 : Int), (3 : Int)) else if l.head? = some 45 then (if dval 0 (c :: t) ≤ 9223372036854775808 then (-(dval 0 (c :: t) : Int), 0) else (0, 5)) else (if dval 0 (c :: t) ≤ 9223372036854775807 then ((dval 0 (c :: t) : Int), 0) else (0, 5))) := by
      intro hn
      have := hpi (by
        rw [if_neg hn]
        repeat' split
        all_goals simp)
      unfold say_Read_j1
      rw [if_neg (by decide)]
      rcases this with ⟨h1, h2⟩ | ⟨h1, h2⟩
      · rw [h1, if_neg (by decide), h2]
      · rw [h1, if_pos rfl, h2]
    by_cases hc : c = 48
    · subst hc
      rw [if_pos (by simp)]
      by_cases h48 : l = [48]
      · rw [decide_eq_true (by rw [h48])]
        exact fin (fun h => by rcases h with h | h | h; · simp at h
                               · exact h.2 h48
                               · exact h hall)
      · rw [decide_eq_false (fun e => h48 (bs_inj ho (fun x hx => by rw [List.mem_singleton] at hx; subst hx; decide) e)), if_pos (.inr (.inl ⟨rfl, h48⟩))]
        unfold say_Read_j1
        rw [if_pos (by decide)]
    · rw [if_neg (by simpa using hc)]
      exact fin (fun h => by rcases h with h | h | h; · simp at h
                             · simp at h; exact hc h.1
                             · exact h hall)
  · rw [if_pos (by simpa using fun e => hall (hma.1 e)), if_pos (.inr (.inr hall))]
    unfold say_Read_j1
    rw [if_pos rfl]
/-! ### The document's -/
/-! ### Words -/
def wrdsP (a : Nat) : List (List Int) → List (Int × ByteArray)
  | [] => []
  | w :: ws => ((a : Int), bstr w) :: wrdsP (a + w.length + 1) ws
theorem words_run {S : Type} {Y : Int × ByteArray → S → Bool × S → Prop} {s' : S} : ∀ (ws : List (List Int)) (a : Nat) (s : S), a + (ws.map List.length).sum + ws.length < 1000000000 → Run Y (wrdsP a ws) s s' →
    ∃ t, RunB (say_Words_1_l1 S Y) (ws.map bstr) (s, (a : Int)) t ∧ ((∃ n, t = .inl (s', n)) ∨ ∃ n, t = .inr (s', n))
  | [], a, s, h, hr => by cases hr; exact ⟨_, .nil, .inl ⟨_, rfl⟩⟩
  | w :: ws, a, s, h, hr => by
    simp only [List.map_cons, List.sum_cons, List.length_cons] at h
    have hw : IntKind.i64.wrap ((a : Int) + IntKind.i64.wrap (((bstr w).size : Int) + 1)) = ((a + w.length + 1 : Nat) : Int) := by
      rw [size_bstr, w_small (n := (w.length : Int) + 1) (by omega) (by omega), w_small (by omega) (by omega)]; omega
    rw [wrdsP] at hr
    cases hr with
    | go h1 h2 =>
      obtain ⟨t, h3, h4⟩ := words_run ws (a + w.length + 1) _ (by omega) h2
      refine ⟨t, .go ?_ h3, h4⟩
      refine ⟨true, _, h1, ?_⟩
      rw [if_neg (by decide), hw]
    | stop h1 =>
      refine ⟨.inr (s', (a : Int)), .stop ⟨false, _, h1, by rw [if_pos (by decide)]⟩, .inr ⟨_, rfl⟩⟩
theorem splitL_tot {c : Int} : ∀ l : List Int, ((splitL c l).map List.length).sum + (splitL c l).length = l.length + 1
  | [] => by simp [splitL]
  | x :: l => by
    have ih := @splitL_tot c l
    have hne := splitL_ne c l
    rw [splitL]
    split
    · simp only [List.map_cons, List.sum_cons, List.length_cons, List.length_nil]; omega
    · cases hq : splitL c l with
      | nil => exact absurd hq hne
      | cons p ps => rw [hq] at ih; simp only [glue, List.map_cons, List.sum_cons, List.length_cons, List.length_append, List.length_nil] at ih ⊢; omega
theorem words_itr {l : List Int} (hl : l.length < 100000000) (ho : Oct l) : Itr (say_Words_1 (bstr l)) (wrdsP 0 (splitL 32 l)) := by
  intro S Y s s' h
  have htot := @splitL_tot 32 l
  obtain ⟨t, h1, h2⟩ := words_run (splitL 32 l) 0 s (by omega) h
  obtain ⟨rest, h3⟩ := split_itr (c := 32) (by decide) (by omega) ho (run_yof h1)
  refine ⟨_, splitSeq_ok l 32, t, rest, h3, ?_⟩
  rcases h2 with ⟨n, rfl⟩ | ⟨n, rfl⟩ <;> rfl
theorem words_ok (s : ByteArray) : say_Words s (say_Words_1 s) := rfl
end Go.Rel
/-! Plain laws: texts cut at a byte, and joined. -/
namespace Go.Rel
open Go Go.Eng Go.Pl
theorem spl_sub {c : Int} : ∀ {l : List Int}, ∀ w ∈ splitL c l, w.length ≤ l.length ∧ (∀ x ∈ w, x ∈ l)
  | [], w, h => by simp [splitL] at h; subst h; simp
  | x :: l, w, h => by
    unfold splitL at h
    split at h
    · rcases List.mem_cons.1 h with rfl | h
      · simp
      · have := spl_sub (l := l) w h
        exact ⟨by simp; omega, fun y hy => List.mem_cons_of_mem _ (this.2 y hy)⟩
    · have hs := @spl_sub c l
      cases hq : splitL c l with
      | nil => rw [hq] at h; simp [glue] at h; subst h; simp
      | cons p ps =>
        rw [hq] at h hs
        simp only [glue, List.mem_cons] at h
        rcases h with rfl | h
        · have := hs p List.mem_cons_self
          refine ⟨by simp; omega, fun y hy => ?_⟩
          simp only [List.cons_append, List.nil_append, List.mem_cons] at hy
          rcases hy with rfl | hy
          · exact List.mem_cons_self
          · exact List.mem_cons_of_mem _ (this.2 y hy)
        · have := hs w (List.mem_cons_of_mem _ h)
          exact ⟨by simp; omega, fun y hy => List.mem_cons_of_mem _ (this.2 y hy)⟩
theorem spl_len (c : Int) : ∀ l : List Int, (splitL c l).length ≤ l.length + 1
  | [] => by simp [splitL]
  | x :: l => by
    have := spl_len c l
    unfold splitL
    split
    · simp; omega
    · cases hq : splitL c l with
      | nil => simp [glue]
      | cons p ps => rw [hq] at this; simp [glue] at this ⊢; omega
end Go.Rel
/-! Plain laws: what arrives on a bad line, and its lines. -/
namespace Go.Rel
open Go Go.Eng Go.Pl
theorem nsame_ok {a b : List Int} (hlen : a.length < 4611686018427387904) : ref01_Same a b (decide (a = b)) := by
  unfold ref01_Same
  by_cases hl : a.length = b.length
  · rw [if_neg (by simp; omega)]
    have key := loops_inv (step := ref01_Same_l2 a b) (s := 0) (fun k (s : Int) => s = (k : Int) ∧ ∀ j (h : j < a.length), j < k → a[j] = b[j]'(by omega)) (fun e => Aft (fun p18 => ref01_Same_j1 p18 (decide (a = b))) (fun p19 => decide (a = b) = p19) e) a.length ⟨rfl, fun j _ h => by omega⟩ ?_ ?_
    · exact key
    · rintro k s hk ⟨rfl, h2⟩
      by_cases he : a[k] = b[k]'(by omega)
      · left
        refine ⟨((k + 1 : Nat) : Int), ?_, rfl, fun j h hj => ?_⟩
        · unfold ref01_Same_l2
          rw [if_pos (by simp; omega)]
          refine ⟨a[k], idx_of hk, b[k]'(by omega), idx_of (by omega), ?_⟩
          rw [if_neg (by simp [he]), w_small (by omega) (by omega)]; rfl
        · by_cases e : j = k
          · subst e; exact he
          · exact h2 j h (by omega)
      · right
        refine ⟨.inr false, ?_, ?_⟩
        · unfold ref01_Same_l2
          rw [if_pos (by simp; omega)]
          refine ⟨a[k], idx_of hk, b[k]'(by omega), idx_of (by omega), ?_⟩
          rw [if_pos (by simpa using he)]
        · show decide (a = b) = false
          rw [decide_eq_false]
          intro e; subst e; exact he rfl
    · rintro s ⟨rfl, h2⟩
      refine ⟨.inl (), ?_, ?_⟩
      · unfold ref01_Same_l2
        rw [if_neg (by simp)]
      · show decide (a = b) = true
        rw [decide_eq_true]
        exact List.ext_getElem hl fun j h _ => h2 j h h
  · rw [if_pos (by simp; omega), decide_eq_false]
    intro e; exact hl (by rw [e])
abbrev It := Int × Int × Int × Int × List Int
def wholeL : List Int := [119, 104, 111, 108, 101]
def cutL : List Int := [99, 117, 116]
def turnL : List Int := [116, 117, 114, 110]
def junkL : List Int := [106, 117, 110, 107]
def wordN (k : Int) : List Int := if k = 1 then wholeL else if k = 2 then cutL else if k = 3 then turnL else if k = 4 then junkL else []
def needN (k : Int) : Int := if k = 1 then 1 else if k = 2 then 3 else if k = 3 then 3 else 0
theorem nword_ok (k : Int) : noise_word k (bstr (wordN k), needN k) := by
  unfold noise_word wordN needN wholeL cutL turnL junkL
  by_cases h1 : k = 1
  · simp [h1]
  by_cases h2 : k = 2
  · simp [h2]
  by_cases h3 : k = 3
  · simp [h3]
  by_cases h4 : k = 4
  · simp [h4]
  simp [h1, h2, h3, h4]
/-! ### Lines -/
structure ItOk (it : It) : Prop where
  k : IntOk .i64 it.1
  r : IntOk .i64 it.2.1
  a : IntOk .i64 it.2.2.1
  n : IntOk .i64 it.2.2.2.1
  o : Oct it.2.2.2.2
  l : it.2.2.2.2.length ≤ 1000
theorem wordN_no {k : Int} (h : ¬ (1 ≤ k ∧ k ≤ 4)) : wordN k = [] := by
  unfold wordN; rw [if_neg (by omega), if_neg (by omega), if_neg (by omega), if_neg (by omega)]
/-! ### A line is parsed -/
theorem shl4_or {x y : Int} (hx : 0 ≤ x ∧ x < 16) (hy : 0 ≤ y ∧ y < 16) : IntKind.u8.wrap (ior .i64 (ishl .i64 x 4) y) = 16 * x + y := by
  obtain ⟨a, rfl⟩ := Int.eq_ofNat_of_zero_le hx.1
  obtain ⟨b, rfl⟩ := Int.eq_ofNat_of_zero_le hy.1
  have ha : a < 16 := by omega
  have hb : b < 16 := by omega
  have key : ∀ a : Nat, a < 16 → ∀ b : Nat, b < 16 → IntKind.u8.wrap (ior .i64 (ishl .i64 (a : Int) 4) (b : Int)) = 16 * (a : Int) + (b : Int) := by decide
  exact key a ha b hb
theorem hv_neg {c : Int} : decide ((hv c).getD (-1) < 0) = (hv c).isNone := by
  cases hq : hv c with
  | none => rfl
  | some n => have := hv_some hq; simp; omega
theorem nunhex_run {w : List Int} (ho : Oct w) (hl : w.length < 1000000) : ∀ (n : Nat) (l pre out : List Int), l.length ≤ n → w = pre ++ l → l.length % 2 = 0 → out.length + l.length ≤ w.length →
    Loops (noise_unhex_l3 (bstr w)) (out, (pre.length : Int)) (match unhexL l with
      | none => .inr ([], 3)
      | some r => .inl (out ++ r))
  | n, [], pre, out, hn, hw, he, ho2 => by
    refine .done ?_
    unfold noise_unhex_l3
    rw [if_neg (by rw [size_bstr, hw]; simp)]
    simp [unhexL]
  | n, [x], pre, out, hn, hw, he, ho2 => by simp at he
  | 0, a :: b :: l, pre, out, hn, hw, he, ho2 => by simp at hn
  | n + 1, a :: b :: l, pre, out, hn, hw, he, ho2 => by
    simp only [List.length_cons] at hn he ho2
    have hlen : w.length = pre.length + l.length + 2 := by rw [hw]; simp; omega
    have ha := ho a (by rw [hw]; simp)
    have hb := ho b (by rw [hw]; simp)
    have i1 : idx (bints (bstr w)) (pre.length : Int) a := by rw [bb_of ho, hw]; exact idx_at rfl (by simp)
    have i2 : idx (bints (bstr w)) (IntKind.i64.wrap ((pre.length : Int) + 1)) b := by
      rw [bb_of ho, w_small (by omega) (by omega)]
      exact idx_at (k := pre.length + 1) (by omega) (by rw [hw, List.getElem?_append_right (by omega)]; simp)
    have stp : ∀ o, noise_unhex_j4 (out, (pre.length : Int)) ((hv a).getD (-1)) ((hv b).getD (-1)) ((hv a).isNone || (hv b).isNone) o → noise_unhex_l3 (bstr w) (out, (pre.length : Int)) o := by
      intro o h
      unfold noise_unhex_l3
      rw [if_pos (by rw [size_bstr, decide_eq_true_eq]; omega)]
      refine ⟨a, i1, _, place_hv ha, b, i2, _, place_hv hb, ?_⟩
      rw [hv_neg, hv_neg]
      cases hqa : (hv a).isNone with
      | true => rw [hqa] at h; rw [if_pos rfl]; simpa using h
      | false => rw [hqa] at h; rw [if_neg (by decide)]; simpa using h
    have bad : ((hv a).isNone || (hv b).isNone) = true → noise_unhex_l3 (bstr w) (out, (pre.length : Int)) (.inr (.inr ([], 3))) := fun h => stp _ (by
      rw [h]; unfold noise_unhex_j4; rw [if_pos rfl])
    unfold unhexL
    cases hqa : hv a with
    | none => exact .done (bad (by rw [hqa]; rfl))
    | some x =>
      cases hqb : hv b with
      | none => exact .done (bad (by rw [hqa, hqb]; rfl))
      | some y =>
        have hx := hv_some hqa
        have hy := hv_some hqb
        have go : noise_unhex_l3 (bstr w) (out, (pre.length : Int)) (.inl (out ++ [16 * x + y], ((pre ++ [a, b]).length : Int))) := stp _ (by
          rw [hqa, hqb]
          unfold noise_unhex_j4
          rw [if_neg (by simp)]
          simp only [Option.getD_some, List.length_singleton]
          rw [shl4_or ⟨hx.1, hx.2.1⟩ ⟨hy.1, hy.2.1⟩]
          refine ⟨by omega, by omega, ?_⟩
          rw [w_small (by omega) (by omega)]; simp)
        have ih := nunhex_run ho hl n l (pre ++ [a, b]) (out ++ [16 * x + y]) (by omega) (by rw [hw]; simp) (by omega) (by rw [List.length_append, List.length_singleton]; omega)
        refine .next go ?_
        cases hr : unhexL l with
        | none => rw [hr] at ih; exact ih
        | some r => rw [hr] at ih; simpa using ih
theorem nunhex_ok {w : List Int} (ho : Oct w) (hl : w.length < 1000000) : noise_unhex (bstr w) (unhexR w) := by
  have h45 : Oct [45] := fun x hx => by simp at hx; omega
  have h0 : Oct [] := fun x hx => nomatch hx
  unfold noise_unhex unhexR
  by_cases e1 : w = [45]
  · rw [if_pos (by simp [e1]), if_pos e1]
  · rw [if_neg (bstr_ne ho h45 e1), if_neg e1]
    by_cases e2 : w = []
    · rw [if_pos (by simp [e2]), if_pos e2]
      unfold noise_unhex_j1; rw [if_pos rfl]
    · rw [if_neg (bstr_ne ho h0 e2), if_neg e2]
      unfold noise_unhex_j1
      have hm : ((bstr w).size : Int).tmod 2 = ((w.length % 2 : Nat) : Int) := by rw [size_bstr, Int.tmod_eq_emod_of_nonneg (by omega)]; rfl
      rw [hm]
      by_cases e3 : w.length % 2 = 1
      · rw [if_pos (by rw [decide_eq_false (by omega)]; rfl), unhexL_odd w.length w (Nat.le_refl _) e3]
      · rw [if_neg (by rw [decide_eq_true (by omega)]; decide)]
        have h1 := nunhex_run ho hl w.length w [] [] (Nat.le_refl _) rfl (by omega) (by simp)
        refine ⟨_, h1, ?_⟩
        cases unhexL w with
        | none => rfl
        | some r => rfl
end Go.Rel
/-! Plain laws: the item of a line. -/
namespace Go.Rel
open Go Go.Eng Go.Pl
theorem gatherN {B : Int × ByteArray → List ByteArray → Sum (List ByteArray) Unit → Prop} (hB : ∀ x s, s.length < 1000000000 → B x s (.inl (s ++ [x.2]))) : ∀ (ws : List (List Int)) (a : Nat) (s : List ByteArray), s.length + ws.length < 1000000000 → RunB B (wrdsP a ws) s (.inl (s ++ ws.map bstr))
  | [], a, s, _ => by rw [List.map_nil, List.append_nil]; exact .nil
  | w :: ws, a, s, h => by
    simp only [List.length_cons] at h
    have ih := gatherN hB ws (a + w.length + 1) (s ++ [bstr w]) (by simp; omega)
    rw [List.map_cons, show s ++ bstr w :: ws.map bstr = s ++ [bstr w] ++ ws.map bstr by simp]
    exact .go (hB _ _ (by omega)) ih
def noI : It := (0, 0, 0, 0, [])
def kindN (w : List Int) : Int := if wordN 4 = w then 4 else if wordN 3 = w then 3 else if wordN 2 = w then 2 else if wordN 1 = w then 1 else 0
def numN (k : Int) : List (List Int) → It × Int
  | [w] => if k = 4 then (if (unhexR w).2 = 0 then ((4, 0, 0, 0, (unhexR w).1), 0) else (noI, (unhexR w).2)) else (if (rdB w).2 = 0 then ((k, (rdB w).1, 0, 0, []), 0) else (noI, (rdB w).2))
  | [w1, w2, w3] => if (rdB w1).2 ≠ 0 then (noI, (rdB w1).2) else if (rdB w2).2 ≠ 0 then (noI, (rdB w2).2) else if (rdB w3).2 ≠ 0 then (noI, (rdB w3).2) else ((k, (rdB w1).1, (rdB w2).1, (rdB w3).1, []), 0)
  | _ => (noI, 3)
theorem numN_1 (k : Int) (w : List Int) : numN k [w] = if k = 4 then (if (unhexR w).2 = 0 then ((4, 0, 0, 0, (unhexR w).1), 0) else (noI, (unhexR w).2)) else (if (rdB w).2 = 0 then ((k, (rdB w).1, 0, 0, []), 0) else (noI, (rdB w).2)) := rfl
theorem numN_3 (k : Int) (w1 w2 w3 : List Int) : numN k [w1, w2, w3] = if (rdB w1).2 ≠ 0 then (noI, (rdB w1).2) else if (rdB w2).2 ≠ 0 then (noI, (rdB w2).2) else if (rdB w3).2 ≠ 0 then (noI, (rdB w3).2) else ((k, (rdB w1).1, (rdB w2).1, (rdB w3).1, []), 0) := rfl
def noiseB (l : List Int) : It × Int := match splitL 32 l with
  | [] => (noI, 9)
  | w0 :: ws => if kindN w0 = 0 then (noI, 9) else if (ws.length : Int) ≠ max (needN (kindN w0)) 1 then (noI, 3) else numN (kindN w0) ws
theorem oct_word (k : Int) : Oct (wordN k) := by
  unfold wordN; repeat' split
  all_goals decide
theorem kindN_rng (w : List Int) : kindN w = 0 ∨ kindN w = 1 ∨ kindN w = 2 ∨ kindN w = 3 ∨ kindN w = 4 := by
  unfold kindN; repeat' split
  all_goals simp
section
variable {P : List ByteArray} {w : List Int} {n kd a b c a' b' c' need : Int}
theorem nk_step (k : Nat) (h1 : 1 ≤ k) (h4 : k ≤ 4) (hx : P[0]? = some (bstr w)) (ho : Oct w) : noise_Parse_l6 P (n, (k : Int), kd) (.inl (if wordN (k : Int) = w then needN (k : Int) else n, ((k + 1 : Nat) : Int), if wordN (k : Int) = w then (k : Int) else kd)) := by
  unfold noise_Parse_l6
  simp only
  rw [if_pos (by rw [decide_eq_true_eq]; omega)]
  refine ⟨_, nword_ok (k : Int), bstr w, idx_at (k := 0) rfl hx, ?_⟩
  unfold noise_Parse_j7
  simp only
  rw [w_small (by omega) (by omega)]
  by_cases h : wordN (k : Int) = w
  · rw [if_pos (by rw [h]; simp), if_pos h, if_pos h]; rfl
  · rw [if_neg (bstr_ne (oct_word _) ho h), if_neg h, if_neg h]; rfl
theorem nk_run (hx : P[0]? = some (bstr w)) (ho : Oct w) : Loops (noise_Parse_l6 P) (0, 1, 0) (needN (kindN w), kindN w) := by
  have e : (needN (kindN w), kindN w) = ((if wordN ((4 : Nat) : Int) = w then needN ((4 : Nat) : Int) else if wordN ((3 : Nat) : Int) = w then needN ((3 : Nat) : Int) else if wordN ((2 : Nat) : Int) = w then needN ((2 : Nat) : Int) else if wordN ((1 : Nat) : Int) = w then needN ((1 : Nat) : Int) else 0), (if wordN ((4 : Nat) : Int) = w then ((4 : Nat) : Int) else if wordN ((3 : Nat) : Int) = w then ((3 : Nat) : Int) else if wordN ((2 : Nat) : Int) = w then ((2 : Nat) : Int) else if wordN ((1 : Nat) : Int) = w then ((1 : Nat) : Int) else 0)) := by
    unfold kindN
    have c4 : ((4 : Nat) : Int) = 4 := rfl
    have c3 : ((3 : Nat) : Int) = 3 := rfl
    have c2 : ((2 : Nat) : Int) = 2 := rfl
    have c1 : ((1 : Nat) : Int) = 1 := rfl
    rw [c4, c3, c2, c1]
    by_cases h4 : wordN 4 = w
    · simp only [if_pos h4]
    · simp only [if_neg h4]
      by_cases h3 : wordN 3 = w
      · simp only [if_pos h3]
      · simp only [if_neg h3]
        by_cases h2 : wordN 2 = w
        · simp only [if_pos h2]
        · simp only [if_neg h2]
          by_cases h1 : wordN 1 = w
          · simp only [if_pos h1]
          · simp only [if_neg h1]; rfl
  rw [e]
  refine .next (nk_step 1 (by decide) (by decide) hx ho) (.next (nk_step 2 (by decide) (by decide) hx ho) (.next (nk_step 3 (by decide) (by decide) hx ho) (.next (nk_step 4 (by decide) (by decide) hx ho) (.done ?_))))
  unfold noise_Parse_l6
  rw [if_neg (by simp)]
theorem put3_0 (v : Int) : putN 3 0 [a, b, c] 0 v = [v, b, c] := rfl
theorem put3_1 (v : Int) : putN 3 0 [a, b, c] 1 v = [a, v, c] := rfl
theorem put3_2 (v : Int) : putN 3 0 [a, b, c] 2 v = [a, b, v] := rfl
theorem np_go (i : Nat) (hi : i < 3) (hn : (i : Int) < need) (hx : P[i + 1]? = some (bstr w)) (hl : w.length < 1000000000) (ho : Oct w) (hr : (rdB w).2 = 0) (hp : putN 3 0 [a, b, c] i (rdB w).1 = [a', b', c']) : noise_Parse_l5 P (need, kd) ((i : Int), a, b, c) (.inl (((i + 1 : Nat) : Int), a', b', c')) := by
  unfold noise_Parse_l5
  simp only
  rw [if_pos (by rw [decide_eq_true_eq]; omega)]
  refine ⟨by omega, by omega, ?_⟩
  rw [if_neg (by rw [decide_eq_true_eq]; omega), w_small (by omega) (by omega)]
  refine ⟨bstr w, idx_at (k := i + 1) (by omega) hx, rdB w, sread_ok hl ho, ?_⟩
  rw [if_neg (by simp [hr]), Int.toNat_natCast, hp]
  rfl
theorem np_no (i : Nat) (hi : i < 3) (hn : (i : Int) < need) (hx : P[i + 1]? = some (bstr w)) (hl : w.length < 1000000000) (ho : Oct w) (hr : ¬ (rdB w).2 = 0) : noise_Parse_l5 P (need, kd) ((i : Int), a, b, c) (.inr (.inr (noI, (rdB w).2))) := by
  unfold noise_Parse_l5
  simp only
  rw [if_pos (by rw [decide_eq_true_eq]; omega)]
  refine ⟨by omega, by omega, ?_⟩
  rw [if_neg (by rw [decide_eq_true_eq]; omega), w_small (by omega) (by omega)]
  refine ⟨bstr w, idx_at (k := i + 1) (by omega) hx, rdB w, sread_ok hl ho, ?_⟩
  rw [if_pos (by simpa using hr)]; rfl
theorem np_stop (i : Nat) (hn : need ≤ (i : Int) ∨ 3 ≤ i) : noise_Parse_l5 P (need, kd) ((i : Int), a, b, c) (.inr (.inl (a, b, c))) := by
  unfold noise_Parse_l5
  simp only
  by_cases h3 : i < 3
  · rw [if_pos (by rw [decide_eq_true_eq]; omega)]
    refine ⟨by omega, by omega, ?_⟩
    rw [if_pos (by rw [decide_eq_true_eq]; omega)]
    try trivial
  · rw [if_neg (by rw [decide_eq_true_eq]; omega)]
    try trivial
end
section
variable {w0 : List Int} {ws : List (List Int)} (hs : ∀ w ∈ w0 :: ws, w.length < 1000000 ∧ Oct w)
include hs
theorem nj3_num {k : Int} (hk : k = 1 ∧ ws.length = 1 ∨ (k = 2 ∨ k = 3) ∧ ws.length = 3) : noise_Parse_j3 ((w0 :: ws).map bstr) (needN k, k) (0, []) (numN k ws) := by
  unfold noise_Parse_j3
  rw [if_neg (by decide)]
  rcases hk with ⟨rfl, h⟩ | ⟨h23, h⟩
  · obtain ⟨w, rfl⟩ : ∃ w, ws = [w] := List.length_eq_one_iff.1 h
    obtain ⟨q1, q2⟩ := hs w (by simp)
    rw [show needN 1 = 1 from rfl]
    rw [numN_1, if_neg (by decide)]
    by_cases hr : (rdB w).2 = 0
    · rw [if_pos hr]
      exact ⟨_, .next (np_go (w := w) 0 (by decide) (by decide) rfl (by omega) q2 hr (put3_0 _)) (.done (np_stop 1 (.inl (by decide)))), rfl⟩
    · rw [if_neg hr]
      exact ⟨_, .done (np_no (w := w) 0 (by decide) (by decide) rfl (by omega) q2 hr), rfl⟩
  · obtain ⟨w1, w2, w3, rfl⟩ : ∃ w1 w2 w3, ws = [w1, w2, w3] := by
      match ws, h with
      | [w1, w2, w3], _ => exact ⟨_, _, _, rfl⟩
    obtain ⟨p1, q1⟩ := hs w1 (by simp)
    obtain ⟨p2, q2⟩ := hs w2 (by simp)
    obtain ⟨p3, q3⟩ := hs w3 (by simp)
    rw [show needN k = 3 by rcases h23 with rfl | rfl <;> rfl]
    rw [numN_3]
    by_cases h1 : (rdB w1).2 = 0
    · rw [if_neg (by simpa using h1)]
      have g1 := np_go (P := [w0, w1, w2, w3].map bstr) (need := 3) (kd := k) (w := w1) (a := 0) (b := 0) (c := 0) 0 (by decide) (by decide) rfl (by omega) q1 h1 (put3_0 _)
      by_cases h2 : (rdB w2).2 = 0
      · rw [if_neg (by simpa using h2)]
        have g2 := np_go (P := [w0, w1, w2, w3].map bstr) (need := 3) (kd := k) (w := w2) (a := (rdB w1).1) (b := 0) (c := 0) 1 (by decide) (by decide) rfl (by omega) q2 h2 (put3_1 _)
        by_cases h3 : (rdB w3).2 = 0
        · rw [if_neg (by simpa using h3)]
          have g3 := np_go (P := [w0, w1, w2, w3].map bstr) (need := 3) (kd := k) (w := w3) (a := (rdB w1).1) (b := (rdB w2).1) (c := 0) 2 (by decide) (by decide) rfl (by omega) q3 h3 (put3_2 _)
          exact ⟨_, .next g1 (.next g2 (.next g3 (.done (np_stop 3 (.inr (by decide)))))), rfl⟩
        · rw [if_pos (by simpa using h3)]
          exact ⟨_, .next g1 (.next g2 (.done (np_no (w := w3) 2 (by decide) (by decide) rfl (by omega) q3 h3))), rfl⟩
      · rw [if_pos (by simpa using h2)]
        exact ⟨_, .next g1 (.done (np_no (w := w2) 1 (by decide) (by decide) rfl (by omega) q2 h2)), rfl⟩
    · rw [if_pos (by simpa using h1)]
      exact ⟨_, .done (np_no (w := w1) 0 (by decide) (by decide) rfl (by omega) q1 h1), rfl⟩
end
theorem nj3_no {P : List ByteArray} {s : Int × Int} {e : Int} {b : List Int} (h : ¬ e = 0) : noise_Parse_j3 P s (e, b) (noI, e) := by
  unfold noise_Parse_j3
  rw [if_pos (by simpa using h)]; rfl
theorem need_cases {k : Int} {n : Nat} (hk : k = 1 ∨ k = 2 ∨ k = 3) (h : (n : Int) = max (needN k) 1) : k = 1 ∧ n = 1 ∨ (k = 2 ∨ k = 3) ∧ n = 3 := by
  rcases hk with rfl | rfl | rfl
  · rw [show max (needN 1) 1 = 1 from rfl] at h; omega
  · rw [show max (needN 2) 1 = 3 from rfl] at h; omega
  · rw [show max (needN 3) 1 = 3 from rfl] at h; omega
theorem nparse_ok {l : List Int} (hl : l.length < 100000) (ho : Oct l) : noise_Parse (bstr l) (noiseB l) := by
  have hlen := spl_len 32 l
  have hne := splitL_ne 32 l
  have hg := gatherN (B := noise_Parse_l1) (fun x s hs => by
    unfold noise_Parse_l1
    simp only [List.length_singleton]
    exact ⟨by omega, by omega, trivial⟩) (splitL 32 l) 0 [] (by simp only [List.length_nil]; omega)
  rw [List.nil_append] at hg
  have hsub := @spl_sub 32 l
  refine ⟨_, words_ok _, _, (), words_itr (by omega) ho _ _ _ _ (run_yof hg), ?_⟩
  unfold noiseB
  cases hq : splitL 32 l with
  | nil => exact absurd hq hne
  | cons w0 ws =>
    rw [hq] at hsub hlen
    have hs : ∀ w ∈ w0 :: ws, w.length < 1000000 ∧ Oct w := fun w hm => by
      have := hsub w hm
      exact ⟨by omega, fun x hx => ho x (this.2 x hx)⟩
    simp only [List.length_cons] at hlen
    refine ⟨_, nk_run (w := w0) rfl (hs w0 (by simp)).2, ?_⟩
    unfold noise_Parse_j2
    simp only
    by_cases h0 : kindN w0 = 0
    · rw [if_pos (by simpa using h0), if_pos h0]; exact nj3_no (by decide)
    · rw [if_neg (by simpa using h0), if_neg h0]
      have hmax : 1 ≤ max (needN (kindN w0)) 1 ∧ max (needN (kindN w0)) 1 ≤ 3 := by
        rcases kindN_rng w0 with h | h | h | h | h <;> rw [h] <;> decide
      rw [w_small (by omega) (by omega)]
      by_cases h1 : (ws.length : Int) = max (needN (kindN w0)) 1
      · rw [if_neg (by rw [List.length_map, List.length_cons, decide_eq_true (by omega)]; decide), if_neg (show ¬ ((ws.length : Int) ≠ max (needN (kindN w0)) 1) from fun q => q h1)]
        by_cases h4 : kindN w0 = 4
        · rw [h4] at h1 ⊢
          rw [show max (needN 4) 1 = 1 from rfl] at h1
          obtain ⟨w, rfl⟩ : ∃ w, ws = [w] := List.length_eq_one_iff.1 (by omega)
          obtain ⟨q1, q2⟩ := hs w (by simp)
          rw [show needN 4 = 0 from rfl, if_pos (by decide)]
          refine ⟨bstr w, idx_at (k := 1) rfl rfl, _, nunhex_ok q2 q1, ?_⟩
          rw [numN_1, if_pos rfl]
          by_cases he : (unhexR w).2 = 0
          · rw [if_pos he, he]
            unfold noise_Parse_j3
            rw [if_neg (by simp)]
            exact ⟨_, .done (np_stop 0 (.inl (by decide))), rfl⟩
          · rw [if_neg he]; exact nj3_no he
        · have hk : kindN w0 = 1 ∨ kindN w0 = 2 ∨ kindN w0 = 3 := by rcases kindN_rng w0 with h | h | h | h | h <;> simp_all
          have hn : needN (kindN w0) ≠ 0 := by rcases hk with h | h | h <;> rw [h] <;> decide
          rw [if_neg (by simpa using hn)]
          exact nj3_num hs (need_cases hk h1)
      · rw [if_pos (by rw [List.length_map, List.length_cons, decide_eq_false (by omega)]; rfl), if_pos (show (ws.length : Int) ≠ max (needN (kindN w0)) 1 from h1)]
        exact nj3_no (by decide)
end Go.Rel
/-! Plain laws: an item's line, to and fro. -/
namespace Go.Rel
open Go Go.Eng Go.Pl
end Go.Rel
/-! Plain laws: what items let arrive. -/
namespace Go.Rel
open Go Go.Eng Go.Pl
def tailN (it : It) : Int := if ((it.1 = 2 ∨ it.1 = 3) ∧ (it.2.2.1 < 0 ∨ it.2.2.2.1 < 0)) ∨ (it.1 = 3 ∧ 255 < it.2.2.2.1) then 5 else 0
def checkN (it : It) (rows : Int) : Int := if ¬ (1 ≤ it.1 ∧ it.1 ≤ 4) then 9 else if it.1 ≠ 4 ∧ (it.2.1 < 0 ∨ rows ≤ it.2.1) then 7 else tailN it
theorem nj1_ok (it : It) (b : Bool) : noise_Check_j1 it b (if b = true then 7 else tailN it) := by
  unfold noise_Check_j1 noise_Check_j2 tailN
  cases b with
  | true => rfl
  | false =>
    rw [if_neg (show ¬ (false = true) by decide), if_neg (show ¬ (false = true) by decide)]
    by_cases k2 : it.1 = 2
    · by_cases h3 : it.2.2.1 < 0
      · simp [k2, h3]
      · by_cases h5 : it.2.2.2.1 < 0 <;> simp [k2, h3, h5]
    · by_cases k3 : it.1 = 3
      · by_cases h3 : it.2.2.1 < 0
        · simp [k3, h3]
        · by_cases h5 : it.2.2.2.1 < 0
          · simp [k3, h3, h5]
          · by_cases h6 : 255 < it.2.2.2.1 <;> simp [k3, h3, h5, h6]
      · simp [k2, k3]
theorem checkN_4 {it : It} {rows : Int} (h : it.1 = 4) : checkN it rows = tailN it := by
  unfold checkN; rw [if_neg (by omega), if_neg (by omega)]
theorem checkN_k {it : It} {rows : Int} (h : 1 ≤ it.1 ∧ it.1 ≤ 3) : checkN it rows = if it.2.1 < 0 ∨ rows ≤ it.2.1 then 7 else tailN it := by
  unfold checkN; rw [if_neg (by omega)]
  by_cases c : it.2.1 < 0 ∨ rows ≤ it.2.1
  · rw [if_pos c, if_pos ⟨by omega, c⟩]
  · rw [if_neg c, if_neg (fun q => c q.2)]
theorem checkN_no {it : It} {rows : Int} (h : ¬ (1 ≤ it.1 ∧ it.1 ≤ 4)) : checkN it rows = 9 := if_pos h
theorem ncheck_ok (it : It) (rows : Int) : noise_Check it rows (checkN it rows) := by
  refine ⟨_, nword_ok it.1, ?_⟩
  simp only
  rw [bs_nil]
  by_cases hk : 1 ≤ it.1 ∧ it.1 ≤ 4
  · have hw : ¬ wordN it.1 = [] := by
      have : it.1 = 1 ∨ it.1 = 2 ∨ it.1 = 3 ∨ it.1 = 4 := by omega
      rcases this with h | h | h | h <;> rw [h] <;> decide
    rw [if_neg (by simpa using hw)]
    by_cases h4 : it.1 = 4
    · rw [checkN_4 h4, if_neg (by simp [h4])]
      exact nj1_ok it false
    · rw [checkN_k (by omega), if_pos (by simp [h4])]
      by_cases h1 : it.2.1 < 0
      · rw [if_pos (by simpa using h1), if_pos (.inl h1)]; exact nj1_ok it true
      · rw [if_neg (by simpa using h1)]
        by_cases h2 : rows ≤ it.2.1
        · rw [decide_eq_true h2, if_pos (.inr h2)]; exact nj1_ok it true
        · rw [decide_eq_false h2, if_neg (by omega)]; exact nj1_ok it false
  · rw [wordN_no hk, if_pos (by decide), checkN_no hk]
def turnN (row : List Int) (it : It) : List Int := row.set it.2.2.1.toNat (ixor .u8 (row.getD it.2.2.1.toNat 0) (IntKind.u8.wrap it.2.2.2.1))
def rowN (row : List Int) (it : It) : List Int := if it.1 = 2 then (row.drop it.2.2.1.toNat).take it.2.2.2.1.toNat else if it.1 = 3 then turnN row it else row
def bytesN (sent : List (List Int)) (it : It) : List Int := if checkN it sent.length ≠ 0 then [] else if it.1 = 4 then it.2.2.2.2 else rowN (sent.getD it.2.1.toNat []) it
theorem checkN_zero {it : It} {n : Int} (h : checkN it n = 0) : (1 ≤ it.1 ∧ it.1 ≤ 4) ∧ (it.1 ≠ 4 → 0 ≤ it.2.1 ∧ it.2.1 < n) ∧ (it.1 = 2 ∨ it.1 = 3 → 0 ≤ it.2.2.1 ∧ 0 ≤ it.2.2.2.1) := by
  unfold checkN at h
  split at h
  · omega
  · split at h
    · omega
    · unfold tailN at h
      split at h <;> omega
structure RowsOk (sent : List (List Int)) : Prop where
  n : sent.length ≤ 100
  l : ∀ r ∈ sent, r.length ≤ 2000
theorem nbytes_ok {sent : List (List Int)} {it : It} (hS : RowsOk sent) (hI : ItOk it) : noise_Bytes sent it (bytesN sent it) := by
  have hlen := hI.l
  have ha := ok_i64 hI.a
  have hn := ok_i64 hI.n
  refine ⟨_, ncheck_ok it sent.length, ?_⟩
  unfold bytesN
  by_cases h0 : checkN it sent.length = 0
  · rw [if_neg (by simpa using h0), if_neg (show ¬ (checkN it sent.length ≠ 0) from fun q => q h0)]
    obtain ⟨hk, hr, hm⟩ := checkN_zero h0
    by_cases h4 : it.1 = 4
    · rw [if_pos (by simpa using h4), if_pos h4]
      refine ⟨by simp only [List.length_nil]; omega, by simp only [List.length_nil]; omega, by simp⟩
    · rw [if_neg (by simpa using h4), if_neg h4]
      obtain ⟨r0, r1⟩ := hr h4
      have hlt : it.2.1.toNat < sent.length := by omega
      have hrow : sent.getD it.2.1.toNat [] = sent[it.2.1.toNat] := by rw [List.getD_eq_getElem?_getD, List.getElem?_eq_getElem hlt]; rfl
      have hrl := hS.l _ (List.getElem_mem hlt)
      rw [hrow]
      generalize hq : sent[it.2.1.toNat] = row at hrl
      refine ⟨row, ⟨r0, by rw [List.getElem?_eq_getElem hlt, hq]⟩, by simp only [List.length_nil]; omega, by simp only [List.length_nil]; omega, ?_⟩
      rw [List.nil_append]
      unfold rowN
      by_cases h2 : it.1 = 2
      · obtain ⟨m1, m2⟩ := hm (.inl h2)
        rw [if_pos (by simpa using h2), if_pos h2]
        have e1 : (row.drop (min it.2.2.1 (row.length : Int)).toNat).take ((row.length : Int) - (min it.2.2.1 (row.length : Int))).toNat = row.drop it.2.2.1.toNat := by
          rw [List.take_of_length_le (by rw [List.length_drop]; omega)]
          by_cases hle : it.2.2.1 ≤ row.length
          · rw [Int.min_eq_left hle]
          · rw [Int.min_eq_right (by omega), Int.toNat_natCast, List.drop_length, List.drop_eq_nil_of_le (by omega)]
        rw [e1]
        refine ⟨by omega, by omega, by omega, by omega, by omega, ?_⟩
        show _ = _
        rw [show (0 : Int).toNat = 0 from rfl, List.drop_zero]
        by_cases hle : it.2.2.2.1 ≤ (row.drop it.2.2.1.toNat).length
        · rw [Int.min_eq_left hle, Int.sub_zero]
        · rw [Int.min_eq_right (by omega), Int.sub_zero, Int.toNat_natCast, List.take_length, List.take_of_length_le (by omega)]
      · rw [if_neg (by simpa using h2), if_neg h2]
        by_cases h3 : it.1 = 3
        · obtain ⟨m1, m2⟩ := hm (.inr h3)
          rw [if_pos (by simpa using h3), if_pos h3]
          unfold turnN
          by_cases hlt2 : it.2.2.1 < row.length
          · have hx : idx row it.2.2.1 (row.getD it.2.2.1.toNat 0) := ⟨m1, by rw [List.getD_eq_getElem?_getD, List.getElem?_eq_getElem (show it.2.2.1.toNat < row.length by omega)]; rfl⟩
            rw [if_pos (by simpa using hlt2)]
            exact ⟨_, hx, _, hx, rfl⟩
          · rw [if_neg (by simpa using hlt2), List.set_eq_of_length_le (by omega)]; rfl
        · rw [if_neg (by simpa using h3), if_neg h3]; rfl
  · rw [if_pos (by simpa using h0), if_pos h0]
theorem bytesN_len {sent : List (List Int)} {it : It} (hS : RowsOk sent) (hI : ItOk it) : (bytesN sent it).length ≤ 2000 := by
  unfold bytesN
  split
  · simp
  · split
    · have := hI.l; omega
    · have hr : (sent.getD it.2.1.toNat []).length ≤ 2000 := by
        rw [List.getD_eq_getElem?_getD]
        by_cases h : it.2.1.toNat < sent.length
        · rw [List.getElem?_eq_getElem h]; exact hS.l _ (List.getElem_mem h)
        · rw [List.getElem?_eq_none (by omega)]; simp
      unfold rowN turnN
      split
      · rw [List.length_take, List.length_drop]; omega
      · split
        · rw [List.length_set]; exact hr
        · exact hr
/-! ### One by one -/
def eachN (sent : List (List Int)) (a : Nat) : List It → List (Int × List Int)
  | [] => []
  | it :: l => ((a : Int), bytesN sent it) :: eachN sent (a + 1) l
theorem neach_itr {sent : List (List Int)} {l : List It} (hS : RowsOk sent) (hI : ∀ it ∈ l, ItOk it) (hl : l.length < 1000000) : Itr (noise_Each_1 l sent) (eachN sent 0 l) := by
  intro S Y s s' hr
  have key : ∀ (m pre : List It) (s : S), l = pre ++ m → Run Y (eachN sent pre.length m) s s' → Loops (noise_Each_1_l1 S Y l sent) (s, (pre.length : Int)) (s', ()) := by
    intro m
    induction m with
    | nil =>
      intro pre s h hr
      cases hr
      refine .done ?_
      unfold noise_Each_1_l1
      rw [if_neg (by rw [h]; simp)]
    | cons it m ih =>
      intro pre s h hr
      have hlen : l.length = pre.length + m.length + 1 := by rw [h]; simp; omega
      have hit : ItOk it := hI it (by rw [h]; simp)
      have stp : ∀ y u, Y ((pre.length : Int), bytesN sent it) s (y, u) → noise_Each_1_l1 S Y l sent (s, (pre.length : Int)) (if y = true then .inl (u, ((pre.length + 1 : Nat) : Int)) else .inr (u, ())) := by
        intro y u hy
        unfold noise_Each_1_l1
        simp only
        rw [if_pos (by rw [decide_eq_true_eq]; omega)]
        refine ⟨it, idx_at rfl (by rw [h]; simp), _, nbytes_ok hS hit, y, u, hy, ?_⟩
        cases y with
        | true => rw [if_neg (by decide), if_pos rfl, w_small (by omega) (by omega)]; rfl
        | false => rw [if_pos (by decide), if_neg (by decide)]
      rw [eachN] at hr
      cases hr with
      | go h1 h2 =>
        have := ih (pre ++ [it]) _ (by rw [h]; simp) (by rw [List.length_append]; exact h2)
        rw [List.length_append] at this
        exact .next (stp true _ h1) this
      | stop h1 => exact .done (stp false _ h1)
  exact ⟨_, key l [] s rfl hr, rfl⟩
theorem nrun_walk {sent : List (List Int)} (hS : RowsOk sent) : ∀ (l : List It) (a : Nat) (acc : List Int), (∀ it ∈ l, ItOk it) → acc.length + 2000 * l.length < 1000000000 → RunB noise_Run_l1 (eachN sent a l) acc (.inl (acc ++ l.flatMap (bytesN sent)))
  | [], a, acc, _, _ => by rw [List.flatMap_nil, List.append_nil]; exact .nil
  | it :: l, a, acc, hI, hb => by
    simp only [List.length_cons] at hb
    have hl := bytesN_len hS (hI it (by simp))
    have ih := nrun_walk hS l (a + 1) (acc ++ bytesN sent it) (fun x hx => hI x (List.mem_cons_of_mem _ hx)) (by rw [List.length_append]; omega)
    rw [List.flatMap_cons, ← List.append_assoc]
    exact .go ⟨by simp only; omega, by simp only; omega, rfl⟩ ih
theorem nrunN_ok {sent : List (List Int)} {l : List It} (hS : RowsOk sent) (hI : ∀ it ∈ l, ItOk it) (hl : l.length < 1000) : noise_Run sent l (l.flatMap (bytesN sent)) := by
  have hw := nrun_walk hS l 0 [] hI (by simp only [List.length_nil]; omega)
  rw [List.nil_append] at hw
  exact ⟨_, rfl, _, (), neach_itr hS hI (by omega) _ _ _ _ (run_yof hw), rfl⟩
theorem known26_ok : law26_known true := by
  have i0 : ∀ n : Int, 0 ≤ n → n ≤ 1000 → IntOk .i64 n := fun n h0 h1 => ⟨by show (-9223372036854775808 : Int) ≤ n; omega, by show n ≤ 9223372036854775807; omega⟩
  have hS : RowsOk [[1, 2, 3]] := ⟨by decide, by decide⟩
  have hI : ∀ it ∈ [((2, 0, 1, 5, []) : It), (3, 0, 2, 255, [])], ItOk it := by
    intro it h
    simp only [List.mem_cons, List.not_mem_nil, or_false] at h
    rcases h with rfl | rfl
    · exact ⟨i0 2 (by decide) (by decide), i0 0 (by decide) (by decide), i0 1 (by decide) (by decide), i0 5 (by decide) (by decide), (fun x hx => nomatch hx), by decide⟩
    · exact ⟨i0 3 (by decide) (by decide), i0 0 (by decide) (by decide), i0 2 (by decide) (by decide), i0 255 (by decide) (by decide), (fun x hx => nomatch hx), by decide⟩
  refine ⟨_, nrunN_ok hS hI (by decide), _, nparse_ok (l := [106, 117, 110, 107, 32, 48, 48, 48, 57]) (by decide) (by unfold Oct; decide), _, nsame_ok (by decide), ?_⟩
  rw [if_pos (by decide), if_pos (by decide), if_pos (by decide)]
  refine ⟨_, nsame_ok (by decide), ?_⟩
  show true = _
  decide
end Go.Rel
/-! Plain laws: the line of any item, the item of any text. -/
namespace Go.Rel
open Go Go.Eng Go.Pl
end Go.Rel
/-! Plain law: what any items let arrive. -/
namespace Go.Rel
open Go Go.Eng Go.Pl
end Go.Rel
/-! Plain laws: sums over bytes. -/
namespace Go.Rel
open Go Go.Eng Go.Pl

def polyB : BitVec 32 := 3988292384#32
def st1 (w : BitVec 32) : BitVec 32 := (w >>> 1) ^^^ (polyB &&& -(w &&& 1#32))
def itS : Nat → BitVec 32 → BitVec 32
  | 0, w => w
  | k + 1, w => st1 (itS k w)
def sh8 (w : BitVec 32) : BitVec 32 := itS 8 w

theorem neg_and1 (w : BitVec 32) : -(w &&& 1#32) = if w.getLsbD 0 then BitVec.allOnes 32 else 0#32 := by
  have h : w &&& 1#32 = if w.getLsbD 0 then 1#32 else 0#32 := by
    apply BitVec.eq_of_getLsbD_eq
    intro i hi
    rw [BitVec.getLsbD_and]
    by_cases h0 : i = 0
    · subst h0; cases hw : w.getLsbD 0 <;> simp
    · have : (1#32).getLsbD i = false := by rw [BitVec.getLsbD_one]; simp [h0]
      rw [this]; cases hw : w.getLsbD 0 <;> simp [this]
  rw [h]; cases w.getLsbD 0 <;> rfl
theorem st1_eq (w : BitVec 32) : st1 w = if w.getLsbD 0 then (w >>> 1) ^^^ polyB else w >>> 1 := by
  unfold st1; rw [neg_and1]
  cases w.getLsbD 0
  · simp
  · rw [if_pos rfl, if_pos rfl, BitVec.and_allOnes]
theorem st1_xor (a b : BitVec 32) : st1 (a ^^^ b) = st1 a ^^^ st1 b := by
  rw [st1_eq, st1_eq, st1_eq, BitVec.getLsbD_xor, BitVec.ushiftRight_xor_distrib]
  cases a.getLsbD 0 <;> cases b.getLsbD 0 <;> simp
  · rw [BitVec.xor_assoc]
  · rw [BitVec.xor_assoc, BitVec.xor_assoc, BitVec.xor_comm polyB]
  · rw [BitVec.xor_assoc, BitVec.xor_comm polyB, BitVec.xor_assoc, BitVec.xor_self, BitVec.xor_zero]
theorem itS_xor (k : Nat) (a b : BitVec 32) : itS k (a ^^^ b) = itS k a ^^^ itS k b := by
  induction k with
  | zero => rfl
  | succ k ih => simp only [itS]; rw [ih, st1_xor]
theorem itS_add (j k : Nat) (w : BitVec 32) : itS (j + k) w = itS j (itS k w) := by
  induction j with
  | zero => simp [itS]
  | succ j ih => rw [Nat.succ_add]; simp only [itS]; rw [ih]
theorem itS_one (w : BitVec 32) : itS 1 w = st1 w := rfl
theorem st1_shl {a : BitVec 32} (h : a.toNat < 2 ^ 31) : st1 (a <<< 1) = a := by
  rw [st1_eq]
  have : (a <<< 1).getLsbD 0 = false := by rw [BitVec.getLsbD_shiftLeft]; simp
  rw [this]
  simp only [Bool.false_eq_true, if_false]
  apply BitVec.eq_of_toNat_eq
  rw [BitVec.toNat_ushiftRight, BitVec.toNat_shiftLeft, Nat.shiftRight_eq_div_pow, Nat.shiftLeft_eq]
  omega
theorem itS_shl : ∀ (k : Nat) {a : BitVec 32}, a.toNat * 2 ^ k < 2 ^ 32 → itS k (a <<< k) = a
  | 0, a, _ => by simp [itS]
  | k + 1, a, h => by
    have h1 : a <<< (k + 1) = (a <<< k) <<< 1 := by rw [BitVec.shiftLeft_add]
    have h2 : a.toNat * 2 ^ k < 2 ^ 31 := by rw [Nat.pow_succ, ← Nat.mul_assoc] at h; omega
    have h3 : (a <<< k).toNat < 2 ^ 31 := by
      rw [BitVec.toNat_shiftLeft, Nat.shiftLeft_eq]
      exact Nat.lt_of_le_of_lt (Nat.mod_le _ _) h2
    rw [itS_add k 1, h1, itS_one, st1_shl h3]
    exact itS_shl k (by rw [Nat.pow_succ, ← Nat.mul_assoc] at h; omega)

theorem shift_ok (w : BitVec 32) : crc_shift (B w) (B (sh8 w)) := by
  refine ⟨B (sh8 w), ?_, rfl⟩
  have := loops_count (step := crc_shift_l2) (fun k => (B (itS k w), (k : Int))) 8 (e := B (sh8 w)) (fun k hk => ?_) ?_
  · exact this
  · unfold crc_shift_l2
    rw [if_pos (by simp; omega), w_small (by omega) (by omega)]
    have e1 : (1 : Int) = B 1#32 := rfl
    have e2 : (3988292384 : Int) = B polyB := rfl
    simp only
    rw [ishr_B _ (s := 1) 1 rfl (by omega), e1, iand_B, ineg_B, e2, iand_B, ixor_B]
    congr 2
  · unfold crc_shift_l2
    rw [if_neg (by simp)]; rfl

/-- The tables that crc.New makes. -/
def IsTab (t : List Int) : Prop := ∀ k i, k < 4 → i < 256 → t.getD (k * 256 + i) 0 = B (itS (8 * (k + 1)) (BitVec.ofNat 32 i))
theorem new_ok : ∃ t, crc_New t ∧ IsTab t := by
  have key := loops_inv (step := crc_New_l2) (s := (0, List.replicate 1024 0)) (fun i (s : Int × List Int) => s.1 = (i : Int) ∧ ∀ k j, k < 4 → j < i → s.2.getD (k * 256 + j) 0 = B (itS (8 * (k + 1)) (BitVec.ofNat 32 j))) IsTab 256 ⟨rfl, fun _ _ _ h => by omega⟩ ?_ ?_
  · obtain ⟨e, h1, h2⟩ := key
    exact ⟨e, ⟨e, h1, rfl⟩, h2⟩
  · rintro i ⟨s1, t0⟩ hi ⟨rfl, h2⟩
    left
    have k2 := loops_inv (step := crc_New_l4 ((i : Int), t0)) (s := (IntKind.u32.wrap (i : Int), 0, t0)) (fun k (s : Int × Int × List Int) => s.1 = B (itS (8 * k) (BitVec.ofNat 32 i)) ∧ s.2.1 = (k : Int) ∧ (∀ q j, q < 4 → j < i → s.2.2.getD (q * 256 + j) 0 = B (itS (8 * (q + 1)) (BitVec.ofNat 32 j))) ∧ ∀ q, q < k → s.2.2.getD (q * 256 + i) 0 = B (itS (8 * (q + 1)) (BitVec.ofNat 32 i)))
      (fun t => ∀ q j, q < 4 → j < i + 1 → t.getD (q * 256 + j) 0 = B (itS (8 * (q + 1)) (BitVec.ofNat 32 j))) 4 ?_ ?_ ?_
    · obtain ⟨e, h3, h4⟩ := k2
      refine ⟨((i + 1 : Nat), e), ?_, rfl, h4⟩
      unfold crc_New_l2
      rw [if_pos (by simp; omega)]
      refine ⟨e, h3, ?_⟩
      unfold crc_New_j3
      rw [w_small (by simp; omega) (by simp; omega)]; simp
    · refine ⟨?_, rfl, h2, fun q hq => by omega⟩
      simp only [itS]
      rw [w_u32]; unfold B; rw [BitVec.toNat_ofNat]; omega
    · rintro k ⟨x, y, t⟩ hk ⟨h3, h4, h5, h6⟩
      simp only at h3 h4 h5 h6
      subst h3 h4
      left
      refine ⟨(B (sh8 (itS (8 * k) (BitVec.ofNat 32 i))), IntKind.i64.wrap ((k : Int) + 1), putN 1024 0 t ((k : Int).toNat * 256 + (i : Int).toNat) (B (sh8 (itS (8 * k) (BitVec.ofNat 32 i))))), ?_, ?_⟩
      · unfold crc_New_l4
        rw [if_pos (by simp; omega)]
        exact ⟨_, shift_ok _, by simp, by simp; omega, by simp, by simp; omega, rfl⟩
      · simp only [Int.toNat_natCast]
        refine ⟨by rw [Nat.mul_succ, Nat.add_comm, itS_add]; rfl, by rw [w_small (by omega) (by omega)]; rfl, fun q j hq hj => ?_, fun q hq => ?_⟩
        · rw [putN_getD (by omega), if_neg (by omega)]; exact h5 q j hq hj
        · rw [putN_getD (by omega)]
          by_cases e : q = k
          · subst e; rw [if_pos rfl, Nat.mul_succ, Nat.add_comm (8 * q), itS_add]; rfl
          · rw [if_neg (by omega)]; exact h6 q (by omega)
    · rintro ⟨x, y, t⟩ ⟨h3, h4, h5, h6⟩
      simp only at h3 h4 h5 h6
      refine ⟨t, ?_, fun q j hq hj => ?_⟩
      · unfold crc_New_l4
        rw [if_neg (by simp [h4])]
      · by_cases e : j = i
        · subst e; exact h6 q hq
        · exact h5 q j hq (by omega)
  · rintro ⟨s1, t⟩ ⟨h1, h2⟩
    simp only at h1 h2
    refine ⟨t, ?_, fun k i hk hi => h2 k i hk hi⟩
    unfold crc_New_l2
    rw [if_neg (by simp [h1])]
/-- Numbers that are bytes. -/
def Byt (l : List Int) : Prop := ∀ x ∈ l, 0 ≤ x ∧ x < 256
theorem Byt.drop {l : List Int} (h : Byt l) (n : Nat) : Byt (l.drop n) := fun x hx => h x (List.mem_of_mem_drop hx)
theorem Byt.take {l : List Int} (h : Byt l) (n : Nat) : Byt (l.take n) := fun x hx => h x (List.mem_of_mem_take hx)
theorem Byt.app {l m : List Int} (h : Byt l) (h' : Byt m) : Byt (l ++ m) := fun x hx => (List.mem_append.1 hx).elim (h x) (h' x)
theorem ok_byt {l : List Int} (h : ListOk (IntOk .u8) l) : Byt l := fun x hx => ok_u8 (h.1 x hx)
def upd (w : BitVec 32) (c : Int) : BitVec 32 := sh8 (w ^^^ bw c)
def sumF (w : BitVec 32) (l : List Int) : BitVec 32 := l.foldl upd w

theorem bits255 {i : Nat} (h : i < 32) : (255#32).getLsbD i = decide (i < 8) := by
  have : ∀ i : Fin 32, (255#32).getLsbD i.val = decide (i.val < 8) := by decide
  exact this ⟨i, h⟩
theorem split8 (z : BitVec 32) : z = ((z >>> 8) <<< 8) ^^^ (z &&& 255#32) := by
  apply BitVec.eq_of_getLsbD_eq
  intro i hi
  rw [BitVec.getLsbD_xor, BitVec.getLsbD_and, bits255 hi, BitVec.getLsbD_shiftLeft, BitVec.getLsbD_ushiftRight]
  by_cases h : i < 8
  · simp [h]
  · simp [h, hi, show 8 + (i - 8) = i by omega]
theorem sh8_split (z : BitVec 32) : sh8 z = (z >>> 8) ^^^ sh8 (z &&& 255#32) := by
  have e := congrArg sh8 (split8 z)
  refine e.trans ?_
  show itS 8 _ = _
  rw [itS_xor, itS_shl 8 (a := z >>> 8)]
  · rfl
  · have := z.isLt
    rw [BitVec.toNat_ushiftRight, Nat.shiftRight_eq_div_pow]; omega
theorem and255_toNat (z : BitVec 32) : (z &&& 255#32).toNat = z.toNat % 256 := by
  rw [BitVec.toNat_and]; exact Nat.and_two_pow_sub_one_eq_mod z.toNat 8
theorem bw_toNat {c : Int} (h : 0 ≤ c ∧ c < 256) : (bw c).toNat = c.toNat := by
  have := B_bw h.1 (show c < 4294967296 by omega)
  unfold B at this; omega
theorem bw_shr {c : Int} (h : 0 ≤ c ∧ c < 256) : bw c >>> 8 = 0#32 := by
  apply BitVec.eq_of_toNat_eq
  rw [BitVec.toNat_ushiftRight, Nat.shiftRight_eq_div_pow, bw_toNat h]
  simp; omega
theorem ixor8 (w : BitVec 32) {c : Int} (h : 0 ≤ c ∧ c < 256) : ixor .u8 (IntKind.u8.wrap (B w)) c = B ((w ^^^ bw c) &&& 255#32) := by
  show IntKind.u8.wrap (((BitVec.ofInt 8 (IntKind.u8.wrap (B w)) ^^^ BitVec.ofInt 8 c).toNat : Nat) : Int) = _
  have e1 : BitVec.ofInt 8 (IntKind.u8.wrap (B w)) = w.setWidth 8 := by
    apply BitVec.eq_of_toNat_eq
    rw [BitVec.toNat_ofInt, BitVec.toNat_setWidth, w_u8]; unfold B; omega
  have e2 : BitVec.ofInt 8 c = (bw c).setWidth 8 := by
    apply BitVec.eq_of_toNat_eq
    rw [BitVec.toNat_ofInt, BitVec.toNat_setWidth, bw_toNat h]; omega
  rw [e1, e2, ← BitVec.setWidth_xor, BitVec.toNat_setWidth, w_u8]
  unfold B
  rw [and255_toNat]; omega

section
variable {t : List Int} (ht : IsTab t)
include ht
theorem tab_at {k : Nat} (hk : k < 4) (z : BitVec 32) (hz : z.toNat < 256) {q : Nat} (hq : q = k * 256 + z.toNat) : t.getD q 0 = B (itS (8 * (k + 1)) z) := by
  subst hq
  rw [ht k z.toNat hk hz]
  simp
theorem add_l3 {w : BitVec 32} {c : Int} (hc : 0 ≤ c ∧ c < 256) : ixor .u32 (ishr .u32 (B w) 8) (t.getD ((ixor .u8 (IntKind.u8.wrap (B w)) c).toNat) 0) = B (upd w c) := by
  have h1 : (ixor .u8 (IntKind.u8.wrap (B w)) c).toNat = ((w ^^^ bw c) &&& 255#32).toNat := by rw [ixor8 w hc]; unfold B; omega
  have h2 := and255_toNat (w ^^^ bw c)
  rw [h1, tab_at ht (k := 0) (by omega) ((w ^^^ bw c) &&& 255#32) (by omega) (by omega), ishr_B _ (s := 8) 8 rfl (by omega), ixor_B]
  unfold upd
  rw [sh8_split, BitVec.ushiftRight_xor_distrib, bw_shr hc, BitVec.xor_zero]
  rfl
end

theorem or_xor {a b : BitVec 32} (k : Nat) (h : a.toNat < 2 ^ k) : a ||| (b <<< k) = a ^^^ (b <<< k) := by
  apply BitVec.eq_of_getLsbD_eq
  intro i hi
  rw [BitVec.getLsbD_or, BitVec.getLsbD_xor, BitVec.getLsbD_shiftLeft]
  by_cases h1 : i < k
  · simp [h1]
  · have : a.getLsbD i = false := by
      rw [BitVec.getLsbD]
      exact Nat.testBit_lt_two_pow (Nat.lt_of_lt_of_le h (Nat.pow_le_pow_right (by omega) (by omega)))
    simp [this]
theorem or_lt {a b : BitVec 32} (k : Nat) (h : a.toNat < 2 ^ k) (hb : b.toNat < 256) : (a ||| (b <<< k)).toNat < 2 ^ (k + 8) := by
  rw [BitVec.toNat_or, BitVec.toNat_shiftLeft, Nat.shiftLeft_eq]
  refine Nat.or_lt_two_pow (Nat.lt_of_lt_of_le h (Nat.pow_le_pow_right (by omega) (by omega))) ?_
  refine Nat.lt_of_le_of_lt (Nat.mod_le _ _) ?_
  rw [Nat.pow_add, Nat.mul_comm]
  exact Nat.mul_lt_mul_of_pos_left hb (Nat.pow_pos (by omega))
/-- One byte more, k bits on. -/
theorem upd_it (k : Nat) (hk : k ≤ 24) (x : BitVec 32) {c : Int} (hc : 0 ≤ c ∧ c < 256) : upd (itS k x) c = itS (8 + k) (x ^^^ (bw c <<< k)) := by
  unfold upd
  have hp : (2 : Nat) ^ k ≤ 2 ^ 24 := Nat.pow_le_pow_right (by omega) hk
  have h1 : (bw c).toNat < 256 := by rw [bw_toNat hc]; omega
  have : bw c = itS k (bw c <<< k) := (itS_shl k (by
    have := Nat.mul_le_mul (Nat.le_of_lt_succ h1) hp
    omega)).symm
  rw [itS_add, itS_xor, ← this]; rfl
/-- Four bytes at once. -/
theorem four (s : BitVec 32) : itS 32 s = itS 32 (s &&& 255#32) ^^^ itS 24 ((s >>> 8) &&& 255#32) ^^^ itS 16 ((s >>> 16) &&& 255#32) ^^^ itS 8 (s >>> 24) := by
  have e : ∀ z : BitVec 32, ∀ k, itS (8 + k) z = itS k (z >>> 8) ^^^ itS (8 + k) (z &&& 255#32) := fun z k => by
    rw [Nat.add_comm 8 k, itS_add, show itS 8 z = sh8 z from rfl, sh8_split, itS_xor, itS_add]; rfl
  have e1 := e s 24
  have e2 := e (s >>> 8) 16
  have e3 := e (s >>> 16) 8
  rw [← BitVec.shiftRight_add] at e2 e3
  simp only [Nat.reduceAdd] at e1 e2 e3
  rw [e1, e2, e3]
  rw [BitVec.xor_comm, BitVec.xor_comm (itS 8 (s >>> 24) ^^^ itS 16 ((s >>> 16) &&& 255#32)), ← BitVec.xor_assoc, BitVec.xor_comm (itS 8 (s >>> 24)), ← BitVec.xor_assoc]
def word4 (a b c d : Int) : BitVec 32 := ((bw a ||| (bw b <<< 8)) ||| (bw c <<< 16)) ||| (bw d <<< 24)
theorem word4_eq {a b c d : Int} (ha : 0 ≤ a ∧ a < 256) (hb : 0 ≤ b ∧ b < 256) (hc : 0 ≤ c ∧ c < 256) : word4 a b c d = bw a ^^^ (bw b <<< 8) ^^^ (bw c <<< 16) ^^^ (bw d <<< 24) := by
  have h1 : (bw a).toNat < 2 ^ 8 := by rw [bw_toNat ha]; omega
  have h2 : (bw b).toNat < 256 := by rw [bw_toNat hb]; omega
  have h3 : (bw c).toNat < 256 := by rw [bw_toNat hc]; omega
  have g1 := or_lt 8 h1 h2
  have g2 := or_lt 16 g1 h3
  unfold word4
  rw [or_xor 24 g2, or_xor 16 g1, or_xor 8 h1]
theorem upd4 (w : BitVec 32) {a b c d : Int} (ha : 0 ≤ a ∧ a < 256) (hb : 0 ≤ b ∧ b < 256) (hc : 0 ≤ c ∧ c < 256) (hd : 0 ≤ d ∧ d < 256) : upd (upd (upd (upd w a) b) c) d = itS 32 (w ^^^ word4 a b c d) := by
  have e1 : upd w a = itS 8 (w ^^^ bw a) := rfl
  rw [e1, upd_it 8 (by omega) _ hb, upd_it 16 (by omega) _ hc, upd_it 24 (by omega) _ hd, word4_eq ha hb hc]
  simp only [BitVec.xor_assoc]
theorem lt_at {l : List Int} (hl : Byt l) {k : Nat} (h : k < l.length) : 0 ≤ l[k] ∧ l[k] < 256 := hl _ (List.getElem_mem h)
theorem B_lt (z : BitVec 32) : B (z &&& 255#32) < 256 := by have := and255_toNat z; unfold B; omega
theorem shr24 (z : BitVec 32) : (z >>> 24).toNat < 256 := by have := z.isLt; rw [BitVec.toNat_ushiftRight, Nat.shiftRight_eq_div_pow]; omega
theorem B_toNat (z : BitVec 32) : (B z).toNat = z.toNat := by unfold B; omega

theorem add_l4 {t : List Int} (ht : IsTab t) (w : BitVec 32) {l : List Int} (hl : Byt l) (h4 : 4 ≤ l.length) : crc_Table_Add_l4 t (B w, l) (.inl (B (sumF w (l.take 4)), l.drop 4)) := by
  unfold crc_Table_Add_l4
  simp only
  rw [if_neg (by simp; omega)]
  have b0 := lt_at hl (show 0 < l.length by omega)
  have b1 := lt_at hl (show 1 < l.length by omega)
  have b2 := lt_at hl (show 2 < l.length by omega)
  have b3 := lt_at hl (show 3 < l.length by omega)
  have ea : ∀ c : Int, 0 ≤ c ∧ c < 256 → IntKind.u32.wrap c = B (bw c) := fun c hc => by rw [w_u32, B_bw hc.1 (by omega)]; omega
  refine ⟨l[0], idx_of (k := 0) (by omega), l[1], idx_of (k := 1) (by omega), l[2], idx_of (k := 2) (by omega), l[3], idx_of (k := 3) (by omega), ?_⟩
  have e0 : (255 : Int) = B 255#32 := rfl
  rw [ea _ b0, ea _ b1, ea _ b2, ea _ b3, ishl_B _ (s := 8) 8 rfl (by omega), ishl_B _ (s := 16) 16 rfl (by omega), ishl_B _ (s := 24) 24 rfl (by omega), ior_B, ior_B, ior_B, ixor_B, e0, iand_B, ishr_B _ (s := 8) 8 rfl (by omega), ishr_B _ (s := 16) 16 rfl (by omega), ishr_B _ (s := 24) 24 rfl (by omega), iand_B, iand_B]
  have ew : bw l[0] ||| bw l[1] <<< 8 ||| bw l[2] <<< 16 ||| bw l[3] <<< 24 = word4 l[0] l[1] l[2] l[3] := rfl
  rw [ew]
  have h24 := shr24 (w ^^^ word4 l[0] l[1] l[2] l[3])
  refine ⟨B_lo _, B_lt _, B_lo _, B_lt _, B_lo _, B_lt _, B_lo _, ?_, by omega, Int.le_refl _, ?_⟩
  · unfold B; omega
  · have c1 := and255_toNat (w ^^^ word4 l[0] l[1] l[2] l[3])
    have c2 := and255_toNat ((w ^^^ word4 l[0] l[1] l[2] l[3]) >>> 8)
    have c3 := and255_toNat ((w ^^^ word4 l[0] l[1] l[2] l[3]) >>> 16)
    rw [tab_at ht (k := 3) (by omega) ((w ^^^ word4 l[0] l[1] l[2] l[3]) &&& 255#32) (by omega) (by rw [B_toNat]),
      tab_at ht (k := 2) (by omega) (((w ^^^ word4 l[0] l[1] l[2] l[3]) >>> 8) &&& 255#32) (by omega) (by rw [B_toNat]),
      tab_at ht (k := 1) (by omega) (((w ^^^ word4 l[0] l[1] l[2] l[3]) >>> 16) &&& 255#32) (by omega) (by rw [B_toNat]),
      tab_at ht (k := 0) (by omega) ((w ^^^ word4 l[0] l[1] l[2] l[3]) >>> 24) (by omega) (by rw [B_toNat]; omega), ixor_B, ixor_B, ixor_B]
    have ef := four (w ^^^ word4 l[0] l[1] l[2] l[3])
    simp only [Nat.reduceMul, Nat.reduceAdd]
    rw [← ef, ← upd4 w b0 b1 b2 b3]
    have e9 : sumF w (l.take 4) = upd (upd (upd (upd w l[0]) l[1]) l[2]) l[3] := by
      match l, h4 with
      | a :: b :: c :: d :: l, _ => rfl
    rw [e9]
    congr 2
    have : ((l.length : Int) - 4).toNat = l.length - 4 := by omega
    rw [this, show (4 : Int).toNat = 4 from rfl, List.take_of_length_le (by simp)]
theorem sumF_app (w : BitVec 32) (l m : List Int) : sumF w (l ++ m) = sumF (sumF w l) m := by simp [sumF]

theorem add_ok' {t : List Int} (ht : IsTab t) (w : BitVec 32) {l : List Int} (hl : Byt l) (_hlen : l.length < 4611686018427387904) : crc_Table_Add t (B w) l (B (sumF w l)) := by
  have k1 := loops_inv (step := crc_Table_Add_l4 t) (s := (B w, l)) (fun k (s : Int × List Int) => s = (B (sumF w (l.take (4 * k))), l.drop (4 * k))) (fun e => e = (B (sumF w (l.take (4 * (l.length / 4)))), l.drop (4 * (l.length / 4)))) (l.length / 4) ?_ ?_ ?_
  · obtain ⟨e, h1, rfl⟩ := k1
    refine ⟨_, h1, ?_⟩
    generalize hm : l.drop (4 * (l.length / 4)) = m
    generalize hv : sumF w (l.take (4 * (l.length / 4))) = v
    have hml : Byt m := by rw [← hm]; exact hl.drop _
    have hmn : m.length < 4611686018427387904 := by rw [← hm, List.length_drop]; omega
    have hfin : sumF w l = sumF v m := by
      rw [← hv, ← hm, ← sumF_app, List.take_append_drop]
    refine ⟨B (sumF v m), ?_, by rw [hfin]; rfl⟩
    refine loops_count (step := crc_Table_Add_l3 t (B v, m)) (fun k => (B (sumF v (m.take k)), (k : Int))) m.length (fun k hk => ?_) ?_
    · unfold crc_Table_Add_l3
      simp only
      rw [if_pos (by simp; omega)]
      have hc := lt_at hml hk
      have hi := ixor8 (sumF v (m.take k)) hc
      refine ⟨m[k], idx_of hk, by rw [hi]; exact B_lo _, by rw [hi]; exact B_lt _, ?_⟩
      rw [add_l3 ht hc, w_small (by omega) (by omega)]
      have : sumF v (m.take (k + 1)) = upd (sumF v (m.take k)) m[k] := by
        rw [List.take_succ_eq_append_getElem hk, sumF_app]; rfl
      rw [this]; simp
    · unfold crc_Table_Add_l3
      simp only
      rw [if_neg (by simp), List.take_length]
  · rfl
  · rintro k s hk rfl
    left
    refine ⟨_, add_l4 ht _ (hl.drop _) (by rw [List.length_drop]; omega), ?_⟩
    rw [← sumF_app, List.drop_drop, show 4 * k + 4 = 4 * (k + 1) by omega]
    have : l.take (4 * k) ++ (l.drop (4 * k)).take 4 = l.take (4 * (k + 1)) := by
      rw [show 4 * (k + 1) = 4 * k + 4 by omega, List.take_add]
    rw [this]
  · rintro s rfl
    refine ⟨_, ?_, rfl⟩
    unfold crc_Table_Add_l4
    rw [if_pos (by simp; omega)]
def sumW (l : List Int) : BitVec 32 := ~~~ (sumF (BitVec.allOnes 32) l)
/-- The sum of bytes. -/
theorem sum_ok {t : List Int} (ht : IsTab t) {l : List Int} (hl : Byt l) (hlen : l.length < 4611686018427387904) : crc_Table_Sum t [l] (B (sumW l)) := by
  refine ⟨_, rfl, B (sumF (BitVec.allOnes 32) l), ?_, ?_⟩
  · refine loops_count (step := crc_Table_Sum_l2 t [l]) (fun k => (if k = 0 then 4294967295 else B (sumF (BitVec.allOnes 32) l), (k : Int))) 1 (fun k hk => ?_) ?_
    · have : k = 0 := by omega
      subst this
      unfold crc_Table_Sum_l2
      rw [if_pos (by simp)]
      refine ⟨l, ⟨by simp, by simp⟩, _, add_ok' ht (BitVec.allOnes 32) hl hlen, ?_⟩
      simp; rfl
    · unfold crc_Table_Sum_l2
      rw [if_neg (by simp)]
      simp
  · refine ⟨_, rfl, ?_⟩
    rw [icompl_B]; rfl
def sumB (w : BitVec 32) : List Int := [B w % 256, B w / 256 % 256, B w / 65536 % 256, B w / 16777216]
theorem bytes_ok (w : BitVec 32) : crc_bytes (B w) (sumB w) := by
  have h1 := B_hi w
  have h2 := B_lo w
  have e : ∀ n : Nat, n ≤ 32 → ∀ s : Int, s = (n : Int) → ishr .u32 (B w) s = B w / 2 ^ n := fun n hn s hs => by
    subst hs
    show (B w).fdiv (2 ^ min (n : Int).toNat 32) = _
    have hp : (0 : Int) < 2 ^ n := Int.pow_pos (by decide)
    rw [show min (n : Int).toNat 32 = n by omega, Int.fdiv_eq_ediv_of_nonneg _ (Int.le_of_lt hp)]
  unfold crc_bytes sumB
  rw [e 8 (by omega) 8 rfl, e 16 (by omega) 16 rfl, e 24 (by omega) 24 rfl]
  simp only [w_u8]
  congr 4
  omega
theorem sumB_byt (w : BitVec 32) : Byt (sumB w) := by
  have h1 := B_hi w
  have h2 := B_lo w
  intro x hx
  simp only [sumB, List.mem_cons, List.not_mem_nil, or_false] at hx
  rcases hx with rfl | rfl | rfl | rfl <;> omega
theorem seal_ok {t : List Int} (ht : IsTab t) {l : List Int} (hl : Byt l) (hlen : l.length < 1073741824) : crc_Seal t l (l ++ sumB (sumW l)) := by
  refine ⟨_, sum_ok ht hl (by omega), _, bytes_ok _, ?_⟩
  simp only [List.length_nil, List.nil_append, List.length_cons]
  refine ⟨by omega, by omega, by omega, by omega, rfl⟩
end Go.Rel
/-! Plain laws: stuffing. -/
namespace Go.Rel
open Go Go.Eng Go.Pl
/-- The blocks of bytes: what a block has so far, what is left; did a full block end just now? -/
def cb : List Int → List Int → Bool → List (List Int)
  | now, [], e => if e then [] else [now]
  | now, c :: l, _ => if c = 0 then now :: cb [] l false else if now.length + 1 = 254 then (now ++ [c]) :: cb [] l true else cb (now ++ [c]) l false
def enc1 (x : List Int) : List Int := ((x.length : Int) + 1) :: x
def encB (l : List Int) : List Int := ((cb [] l false).map enc1).flatten
theorem cb_len : ∀ (l now : List Int), now.length < 254 → now.length + l.length ≤ 254 → ((cb now l false).map enc1).flatten.length = now.length + l.length + 1
  | [], now, _, _ => by simp [cb, enc1]
  | c :: l, now, h1, h2 => by
    unfold cb
    simp only [List.length_cons] at h2 ⊢
    by_cases h0 : c = 0
    · rw [if_pos h0, List.map_cons, List.flatten_cons, List.length_append, cb_len l [] (by simp) (by simp; omega)]
      simp [enc1]; omega
    · rw [if_neg h0]
      by_cases h3 : now.length + 1 = 254
      · rw [if_pos h3]
        have : l = [] := List.eq_nil_of_length_eq_zero (by omega)
        subst this
        simp [cb, enc1]
      · rw [if_neg h3, cb_len l (now ++ [c]) (by simp; omega) (by simp; omega)]
        simp; omega
theorem cb_all : ∀ (l now : List Int) (e : Bool), now.length < 254 → ∀ x ∈ cb now l e, x.length ≤ 254
  | [], now, e, h, x, hx => by
    unfold cb at hx
    split at hx
    · cases hx
    · simp at hx; subst hx; omega
  | c :: l, now, e, h, x, hx => by
    unfold cb at hx
    split at hx
    · rcases List.mem_cons.1 hx with rfl | hx
      · omega
      · exact cb_all l [] _ (by simp) x hx
    · split at hx
      · rcases List.mem_cons.1 hx with rfl | hx
        · simp; omega
        · exact cb_all l [] _ (by simp) x hx
      · exact cb_all l _ _ (by simp; omega) x hx
theorem cb_sum : ∀ (l now : List Int) (e : Bool), ((cb now l e).map List.length).sum ≤ now.length + l.length ∧ (cb now l e).length ≤ l.length + 1
  | [], now, e => by unfold cb; split <;> simp
  | c :: l, now, e => by
    unfold cb
    split
    · have := cb_sum l [] false; simp at this ⊢; omega
    · split
      · have := cb_sum l [] true; simp at this ⊢; omega
      · have := cb_sum l (now ++ [c]) false; simp at this ⊢; omega

/-- A run of bytes that aren't 0. -/
theorem cb_run : ∀ (p l now : List Int) (e : Bool), (∀ x ∈ p, x ≠ 0) → now.length + p.length < 254 → p ≠ [] → cb now (p ++ l) e = cb (now ++ p) l false
  | [], _, _, _, _, _, h => absurd rfl h
  | c :: p, l, now, e, h0, h1, _ => by
    simp only [List.length_cons] at h1
    rw [List.cons_append]; unfold cb
    rw [if_neg (h0 c List.mem_cons_self), if_neg (by omega)]
    by_cases hp : p = []
    · subst hp
      simp only [List.nil_append]
      rw [cb.eq_def]
    · rw [cb_run p l (now ++ [c]) false (fun x hx => h0 x (List.mem_cons_of_mem _ hx)) (by simp; omega) hp]
      simp only [List.append_assoc, List.singleton_append]
      rw [cb.eq_def]
theorem cb_e (l : List Int) (h : l ≠ []) (e e' : Bool) : cb [] l e = cb [] l e' := by
  cases l with
  | nil => exact absurd rfl h
  | cons c l => simp only [cb]
theorem cb_zero (p l : List Int) (h0 : ∀ x ∈ p, x ≠ 0) (h1 : p.length < 254) (e : Bool) : cb [] (p ++ 0 :: l) e = p :: cb [] l false := by
  by_cases hp : p = []
  · subst hp; simp [cb]
  · rw [cb_run p (0 :: l) [] e h0 (by simpa using h1) hp]; simp [cb]
theorem cb_end (p : List Int) (h0 : ∀ x ∈ p, x ≠ 0) (h1 : p.length < 254) : cb [] p false = [p] := by
  by_cases hp : p = []
  · subst hp; simp [cb]
  · have := cb_run p [] [] false h0 (by simpa using h1) hp
    rw [List.append_nil] at this
    rw [this]; simp [cb]
theorem cb_full (p l : List Int) (h0 : ∀ x ∈ p, x ≠ 0) (h1 : p.length = 254) (e : Bool) : cb [] (p ++ l) e = p :: cb [] l true := by
  obtain ⟨q, c, rfl⟩ : ∃ q c, p = q ++ [c] := ⟨p.dropLast, p.getLast (by intro h; subst h; simp at h1), (List.dropLast_concat_getLast _).symm⟩
  simp only [List.length_append, List.length_cons, List.length_nil] at h1
  rw [List.append_assoc, cb_run q ([c] ++ l) [] e (fun x hx => h0 x (List.mem_append.2 (.inl hx))) (by simp; omega) (by intro h; subst h; simp at h1)]
  simp only [List.singleton_append, List.nil_append]
  rw [cb.eq_def]
  simp only
  rw [if_neg (h0 c (by simp)), if_pos (by omega)]

/-- Where the first 0 stands. -/
def fz (l : List Int) : Nat := l.findIdx (fun c => decide (c = 0))
theorem fz_before {l : List Int} {k : Nat} (h : k < fz l) (hk : k < l.length) : l[k] ≠ 0 := by
  have := List.not_of_lt_findIdx h
  simpa using this
theorem fz_at {l : List Int} (h : fz l < l.length) : l[fz l] = 0 := by
  have := List.findIdx_getElem (p := fun c : Int => decide (c = 0)) (xs := l) (w := h)
  unfold fz
  simpa using this
theorem fz_le (l : List Int) : fz l ≤ l.length := List.findIdx_le_length
theorem block_ok {l : List Int} (hlen : l.length < 4611686018427387904) : cobs_block l (if fz l < min l.length 254 then ((fz l : Int), (fz l : Int) + 1, true) else if 254 ≤ l.length then (254, 254, decide (254 < l.length)) else ((l.length : Int), (l.length : Int), false)) := by
  have hd : (l.drop (0 : Int).toNat).take (((min (l.length : Int) 254) : Int) - 0).toNat = l.take (min l.length 254) := by
    rw [show (0 : Int).toNat = 0 from rfl, List.drop_zero]; congr 1; omega
  refine ⟨by omega, by omega, ?_⟩
  have step : ∀ k, k < min l.length 254 → k < fz l → cobs_block_l2 l (k : Int) (.inl ((k + 1 : Nat) : Int)) := by
    intro k hk hf
    unfold cobs_block_l2
    rw [hd, if_pos (by simp; omega)]
    refine ⟨l[k]'(by omega), idx_at rfl (by rw [List.getElem?_take, if_pos hk]; exact List.getElem?_eq_getElem (by omega)), ?_⟩
    rw [if_neg (by simpa using fz_before hf (by omega)), w_small (by omega) (by omega)]
    rfl
  by_cases hz : fz l < min l.length 254
  · rw [if_pos hz]
    refine ⟨.inr ((fz l : Int), (fz l : Int) + 1, true), ?_, rfl⟩
    refine loops_count (fun k => (k : Int)) (fz l) (fun k hk => step k (by omega) hk) ?_
    unfold cobs_block_l2
    rw [hd, if_pos (by simp; omega)]
    refine ⟨l[fz l]'(by omega), idx_at rfl (by rw [List.getElem?_take, if_pos hz]; exact List.getElem?_eq_getElem (by omega)), ?_⟩
    rw [if_pos (by simpa using fz_at (by omega)), w_small (by omega) (by omega)]
  · rw [if_neg hz]
    refine ⟨.inl (), ?_, ?_⟩
    · refine loops_count (fun k => (k : Int)) (min l.length 254) (fun k hk => step k hk (by omega)) ?_
      unfold cobs_block_l2
      rw [hd, if_neg (by simp)]
    · show cobs_block_j1 l () _
      unfold cobs_block_j1
      by_cases h2 : 254 ≤ l.length
      · rw [if_pos h2, if_pos (by simp; omega)]
        congr 2
        rw [decide_eq_decide]; omega
      · rw [if_neg h2, if_neg (by simp; omega)]
theorem blocks_ok {l : List Int} (hlen : l.length < 1073741824) : Itr (cobs_Blocks_1 l) (cb [] l false) := by
  intro S Y s s' hr
  refine ⟨(s', ()), ?_, rfl⟩
  have key : ∀ (m : Nat) (l : List Int) (s : S), l.length < m → l.length < 1073741824 → Run Y (cb [] l false) s s' → Loops (cobs_Blocks_1_l1 S Y) (s, l, true) (s', ()) := by
    intro m
    induction m with
    | zero => intro l s h; omega
    | succ m ih =>
      intro l s hm hlen hr
      -- one block
      have one : ∀ (n all : Nat) (next : Bool), cobs_block l ((n : Int), (all : Int), next) → n ≤ l.length → all ≤ l.length → ∀ rest, cb [] l false = l.take n :: rest → (next = true → rest = cb [] (l.drop all) false ∧ 0 < all) → (next = false → rest = []) → Loops (cobs_Blocks_1_l1 S Y) (s, l, true) (s', ()) := by
        intro n all next hb hn ha rest hcb hnx hend
        rw [hcb] at hr
        have e1 : (l.drop (0 : Int).toNat).take (((n : Int) : Int) - 0).toNat = l.take n := by
          rw [show (0 : Int).toNat = 0 from rfl, List.drop_zero]; congr 1
        have e2 : (l.drop (all : Int).toNat).take (((l.length : Int) : Int) - (all : Int)).toNat = l.drop all := by
          rw [Int.toNat_natCast, List.take_of_length_le (by rw [List.length_drop]; omega)]
        have hlt : (l.take n).length ≤ l.length := by rw [List.length_take]; omega
        obtain ⟨b, s1, hy, h1⟩ : ∃ b s1, Y (l.take n) s (b, s1) ∧ ((b = true ∧ Run Y rest s1 s') ∨ (b = false ∧ s1 = s')) := by
          cases hr with
          | go h h' => exact ⟨true, _, h, .inl ⟨rfl, h'⟩⟩
          | stop h => exact ⟨false, _, h, .inr ⟨rfl, rfl⟩⟩
        rcases h1 with ⟨rfl, h1⟩ | ⟨rfl, rfl⟩
        · refine .next (s' := (s1, l.drop all, next)) ?_ ?_
          · unfold cobs_Blocks_1_l1
            simp only
            rw [if_pos trivial]
            refine ⟨_, hb, ?_⟩
            simp only
            rw [e1, e2]
            refine ⟨by omega, by omega, by omega, by omega, by simp only [List.length_nil]; omega, by simp only [List.length_nil]; omega, true, s1, by simpa using hy, ?_⟩
            rw [if_neg (by decide)]
            exact ⟨by omega, by omega, by omega, rfl⟩
          · cases hnext : next with
            | true =>
              obtain ⟨hr1, hpos⟩ := hnx hnext
              subst hr1
              exact ih (l.drop all) s1 (by rw [List.length_drop]; omega) (by rw [List.length_drop]; omega) h1
            | false =>
              rw [hend hnext] at h1
              cases h1
              refine .done ?_
              unfold cobs_Blocks_1_l1
              rw [if_neg (ne_true rfl)]
        · refine .done ?_
          unfold cobs_Blocks_1_l1
          simp only
          rw [if_pos trivial]
          refine ⟨_, hb, ?_⟩
          simp only
          rw [e1, e2]
          refine ⟨by omega, by omega, by omega, by omega, by simp only [List.length_nil]; omega, by simp only [List.length_nil]; omega, false, s1, by simpa using hy, ?_⟩
          rw [if_pos (by decide)]
      have hb := block_ok (l := l) (by omega)
      by_cases hz : fz l < min l.length 254
      · rw [if_pos hz] at hb
        refine one (fz l) (fz l + 1) true (by simpa using hb) (by omega) (by omega) (cb [] (l.drop (fz l + 1)) false) ?_ (fun _ => ⟨rfl, by omega⟩) (fun h => nomatch h)
        have e : l = l.take (fz l) ++ 0 :: l.drop (fz l + 1) := by
          have h3 : l.drop (fz l) = 0 :: l.drop (fz l + 1) := by
            rw [List.drop_eq_getElem_cons (show fz l < l.length by omega), fz_at (by omega)]
          rw [← h3, List.take_append_drop]
        conv => lhs; rw [e]
        refine cb_zero _ _ (fun x hx => ?_) (by rw [List.length_take]; omega) false
        obtain ⟨k, hk, rfl⟩ := List.getElem_of_mem hx
        rw [List.length_take] at hk
        rw [List.getElem_take]
        exact fz_before (by omega) (by omega)
      · rw [if_neg hz] at hb
        have h0 : ∀ x ∈ l.take 254, x ≠ 0 := by
          intro x hx
          obtain ⟨k, hk, rfl⟩ := List.getElem_of_mem hx
          rw [List.length_take] at hk
          rw [List.getElem_take]
          exact fz_before (by omega) (by omega)
        by_cases h2 : 254 ≤ l.length
        · rw [if_pos h2] at hb
          have e : l = l.take 254 ++ l.drop 254 := (List.take_append_drop _ _).symm
          refine one 254 254 (decide (254 < l.length)) (by simpa using hb) h2 h2 (cb [] (l.drop 254) true) ?_ (fun h => ⟨?_, by omega⟩) (fun h => ?_)
          · conv => lhs; rw [e]
            exact cb_full _ _ h0 (by rw [List.length_take]; omega) false
          · refine cb_e _ (fun h3 => ?_) _ _
            have := congrArg List.length h3
            rw [List.length_drop] at this
            simp at h this; omega
          · have : l.drop 254 = [] := List.drop_eq_nil_of_le (by simpa using h)
            rw [this]; rfl
        · rw [if_neg h2] at hb
          rw [List.take_of_length_le (by omega)] at h0
          refine one l.length l.length false (by simpa using hb) (Nat.le_refl _) (Nat.le_refl _) [] ?_ (fun h => nomatch h) (fun _ => rfl)
          rw [List.take_length]
          exact cb_end l h0 (by omega)
  exact key _ l s (Nat.lt_succ_self _) hlen hr
theorem flat_len : ∀ (xs : List (List Int)), (xs.map enc1).flatten.length = (xs.map List.length).sum + xs.length
  | [] => rfl
  | x :: xs => by
    have := flat_len xs
    simp only [List.map_cons, List.flatten_cons, List.length_append, List.sum_cons, List.length_cons, this, enc1]; omega
theorem encode_ok {l : List Int} (hlen : l.length < 1073741824) : cobs_Encode l (encB l) := by
  refine ⟨_, rfl, .inl (encB l), (), ?_, rfl⟩
  refine blocks_ok hlen _ _ _ _ (run_yof ?_)
  have h2 := runB_fold (B := cobs_Encode_l1) (fun s x => s ++ enc1 x) (cb [] l false) [] ?_
  · have e : ∀ (xs : List (List Int)) (s : List Int), xs.foldl (fun s x => s ++ enc1 x) s = s ++ (xs.map enc1).flatten := by
      intro xs
      induction xs with
      | nil => intro s; simp
      | cons x xs ih => intro s; rw [List.foldl_cons, ih]; simp
    rw [e] at h2
    simpa [encB] using h2
  · intro p x q hpq
    have e : ∀ (xs : List (List Int)) (s : List Int), xs.foldl (fun s x => s ++ enc1 x) s = s ++ (xs.map enc1).flatten := by
      intro xs
      induction xs with
      | nil => intro s; simp
      | cons x xs ih => intro s; rw [List.foldl_cons, ih]; simp
    have hx : x.length ≤ 254 := cb_all l [] false (by simp) x (by rw [hpq]; simp)
    have hs := cb_sum l [] false
    rw [hpq] at hs
    simp only [List.map_append, List.map_cons, List.sum_append, List.sum_cons, List.length_append, List.length_cons, List.length_nil] at hs
    have hp : ((p.map enc1).flatten).length ≤ 2147483648 := by rw [flat_len]; omega
    rw [e]
    simp only [List.nil_append]
    unfold cobs_Encode_l1
    have e1 : IntKind.u8.wrap (IntKind.i64.wrap ((x.length : Int) + 1)) = (x.length : Int) + 1 := by rw [w_small (by omega) (by omega), w_u8]; omega
    rw [e1]
    simp only [List.length_append, List.length_cons, List.length_nil]
    refine ⟨by omega, by omega, by omega, by omega, ?_⟩
    simp [enc1]
end Go.Rel
/-! Plain laws: the document's sums. -/
namespace Go.Rel
open Go Go.Eng Go.Pl
/-- What stands ahead of its sum. -/
def openB (l : List Int) : List Int × Int := if l.length < 4 then ([], 13) else if l.drop (l.length - 4) = sumB (sumW (l.take (l.length - 4))) then (l.take (l.length - 4), 0) else ([], 11)
theorem openB_ok' {b : List Int} (h : (openB b).2 = 0) : 4 ≤ b.length ∧ (openB b).1 = b.take (b.length - 4) ∧ b.drop (b.length - 4) = sumB (sumW (b.take (b.length - 4))) := by
  unfold openB at h ⊢
  by_cases h1 : b.length < 4
  · rw [if_pos h1] at h; cases h
  · rw [if_neg h1] at h ⊢
    by_cases h2 : b.drop (b.length - 4) = sumB (sumW (b.take (b.length - 4)))
    · rw [if_pos h2]; exact ⟨by omega, rfl, h2⟩
    · rw [if_neg h2] at h; cases h
theorem open_take {l : List Int} (h4 : 4 ≤ l.length) (hlen : l.length < 4611686018427387904) : IntKind.i64.wrap ((l.length : Int) - 4) = ((l.length - 4 : Nat) : Int) ∧ (l.drop (0 : Int).toNat).take ((((l.length - 4 : Nat) : Int) : Int) - 0).toNat = l.take (l.length - 4) ∧ (l.drop (((l.length - 4 : Nat) : Int)).toNat).take (((l.length : Int) : Int) - ((l.length - 4 : Nat) : Int)).toNat = l.drop (l.length - 4) := by
  refine ⟨by rw [w_small (by omega) (by omega)]; omega, ?_, ?_⟩
  · rw [show (0 : Int).toNat = 0 from rfl, List.drop_zero]; congr 1
  · rw [Int.toNat_natCast, List.take_of_length_le]; rw [List.length_drop]; omega
theorem eqN4 {a b : List Int} (ha : a.length = 4) (hb : b.length = 4) : eqN 4 0 a b = decide (b = a) := by
  match a, b, ha, hb with
  | [a0, a1, a2, a3], [b0, b1, b2, b3], _, _ =>
    simp only [eqN, show List.range 4 = [0, 1, 2, 3] from rfl, List.all_cons, List.all_nil, List.getD_cons_zero, List.getD_cons_succ]
    by_cases h0 : a0 = b0 <;> by_cases h1 : a1 = b1 <;> by_cases h2 : a2 = b2 <;> by_cases h3 : a3 = b3 <;> simp [h0, h1, h2, h3, Ne.symm] <;> simp [eq_comm, *]
theorem copen_ok {t : List Int} (ht : IsTab t) {l : List Int} (hl : Byt l) (hlen : l.length < 1073741824) : crc_Open t l (openB l) := by
  unfold crc_Open openB
  by_cases h : l.length < 4
  · rw [if_pos h, if_pos (by rw [w_small (by omega) (by omega)]; simp; omega)]
  · obtain ⟨e1, e2, e3⟩ := open_take (l := l) (by omega) (by omega)
    rw [if_neg h, e1, e2, e3, if_neg (by simp)]
    refine ⟨by omega, by omega, by omega, by omega, _, sum_ok ht (hl.take _) (by rw [List.length_take]; omega), _, bytes_ok _, by omega, by omega, by omega, by rw [List.length_drop]; omega, ?_⟩
    rw [eqN4 rfl (by rw [List.length_drop]; omega)]
    by_cases h2 : l.drop (l.length - 4) = sumB (sumW (l.take (l.length - 4)))
    · rw [if_pos h2, if_neg (by simp [h2])]
      simp only [List.length_nil, List.nil_append, List.length_take]
      exact ⟨by omega, by omega, trivial⟩
    · rw [if_neg h2, if_pos (by simp [h2])]
end Go.Rel
