import Derived.Test.YtnlghjmngfgmcaaDoorURel
import Derived.Test.YtnlghjmngfgmcaaDoorPlM1
/-! Plain laws: a number is read; the words of a text. -/
namespace Go.Rel
open Go Go.Eng Go.Pl
def digS : List Int := [48, 49, 50, 51, 52, 53, 54, 55, 56, 57]
theorem ascii_ok : ∃ as, strings_makeASCIISet (bstr digS) (as, true) ∧ ∀ c : Int, 0 ≤ c → c < 256 → as.getD c.toNat false = decide (48 ≤ c ∧ c < 58) := by
  have hb : bints (bstr digS) = digS := bb_of (by unfold Oct digS; decide)
  have hs : (bstr digS).size = 10 := by rw [size_bstr]; rfl
  have key := loops_inv (step := strings_makeASCIISet_l2 (bstr digS)) (s := (0, List.replicate 256 false)) (fun k (s : Int × List Bool) => s.1 = (k : Int) ∧ ∀ c : Int, 0 ≤ c → c < 256 → s.2.getD c.toNat false = decide (48 ≤ c ∧ c < 48 + k)) (fun e => ∃ as, e = .inl as ∧ ∀ c : Int, 0 ≤ c → c < 256 → as.getD c.toNat false = decide (48 ≤ c ∧ c < 58)) 10 ⟨rfl, fun c h0 h1 => by
    rw [List.getD_eq_getElem?_getD, List.getElem?_replicate, if_pos (by omega)]
    symm; simp⟩ ?_ ?_
  · obtain ⟨e, h1, as, rfl, h2⟩ := key
    exact ⟨as, ⟨_, h1, rfl⟩, h2⟩
  · rintro k ⟨i, xs⟩ hk ⟨h1, h2⟩
    simp only at h1 h2
    subst h1
    left
    have hx : idx (bints (bstr digS)) (k : Int) (48 + k) := by
      rw [hb]
      refine ⟨by omega, ?_⟩
      rw [Int.toNat_natCast]
      have : k = 0 ∨ k = 1 ∨ k = 2 ∨ k = 3 ∨ k = 4 ∨ k = 5 ∨ k = 6 ∨ k = 7 ∨ k = 8 ∨ k = 9 := by omega
      rcases this with rfl | rfl | rfl | rfl | rfl | rfl | rfl | rfl | rfl | rfl <;> rfl
    refine ⟨((k + 1 : Nat), putN 256 false xs (48 + (k : Int)).toNat true), ?_, rfl, ?_⟩
    · unfold strings_makeASCIISet_l2
      simp only
      rw [if_pos (by rw [hs, decide_eq_true_eq]; omega)]
      refine ⟨_, hx, ?_⟩
      rw [if_neg (by rw [decide_eq_true_eq]; omega)]
      refine ⟨by omega, by omega, ?_⟩
      rw [w_small (by omega) (by omega)]; rfl
    · intro c h0 h1
      rw [putN_getD (by omega), h2 c h0 h1]
      by_cases hc : c = 48 + (k : Int)
      · rw [if_pos (by omega)]; symm; rw [decide_eq_true_eq]; omega
      · rw [if_neg (by omega)]
        by_cases h : 48 ≤ c ∧ c < 48 + (k : Int)
        · rw [decide_eq_true h, decide_eq_true (by omega)]
        · rw [decide_eq_false h, decide_eq_false (by omega)]
  · rintro ⟨i, xs⟩ ⟨h1, h2⟩
    simp only at h1 h2
    subst h1
    refine ⟨.inl xs, ?_, xs, rfl, h2⟩
    unfold strings_makeASCIISet_l2
    rw [if_neg (by rw [hs, decide_eq_true_eq]; simp)]
theorem allDig_snoc {p : List Int} {c : Int} (hc : 48 ≤ c ∧ c < 58) : AllDig (p ++ [c]) ↔ AllDig p :=
  ⟨fun h x hx => h x (List.mem_append_left _ hx), fun h x hx => by
    rcases List.mem_append.1 hx with hx | hx
    · exact h x hx
    · rw [List.mem_singleton] at hx; subst hx; exact hc⟩
theorem allDig_cons {p : List Int} {c : Int} (hc : 48 ≤ c ∧ c < 58) : AllDig (c :: p) ↔ AllDig p :=
  ⟨fun h x hx => h x (List.mem_cons_of_mem _ hx), fun h x hx => by
    rcases List.mem_cons.1 hx with rfl | hx
    · exact hc
    · exact h x hx⟩
theorem trimR_ok {as : List Bool} (has : ∀ c : Int, 0 ≤ c → c < 256 → as.getD c.toNat false = decide (48 ≤ c ∧ c < 58)) : ∀ (n : Nat) (d : List Int), d.length ≤ n → n < 1000000000 → Oct d → ∃ m, Loops (strings_trimRightASCII_l2 as) (bstr d) (bstr m) ∧ Oct m ∧ m.length ≤ d.length ∧ (AllDig m ↔ AllDig d) ∧ (AllDig m → m = [])
  | n, d, hn, hb, ho => by
    have hsz : (bstr d).size = d.length := size_bstr _
    by_cases h0 : d = []
    · subst h0
      refine ⟨[], .done ?_, ho, by simp, Iff.rfl, fun _ => rfl⟩
      unfold strings_trimRightASCII_l2
      rw [if_neg (by simp [size_bstr])]
    · obtain ⟨p, c, rfl⟩ : ∃ p c, d = p ++ [c] := ⟨d.dropLast, d.getLast h0, (List.dropLast_concat_getLast h0).symm⟩
      have hc := ho c (by simp)
      have hl : (p ++ [c]).length = p.length + 1 := by simp
      have hw : IntKind.i64.wrap (((bstr (p ++ [c])).size : Int) - 1) = (p.length : Int) := by rw [hsz, hl, w_small (by omega) (by omega)]; omega
      have hx : idx (bints (bstr (p ++ [c]))) (p.length : Int) c := by rw [bb_of ho]; exact idx_at rfl (by simp)
      by_cases hd : 48 ≤ c ∧ c < 58
      · match n, hn with
        | 0, hn => omega
        | n + 1, hn =>
          obtain ⟨m, h1, h2, h3, h4, h5⟩ := trimR_ok has n p (by omega) (by omega) (fun x hx => ho x (List.mem_append_left _ hx))
          refine ⟨m, .next ?_ h1, h2, by omega, h4.trans (allDig_snoc hd).symm, h5⟩
          unfold strings_trimRightASCII_l2
          rw [if_pos (by rw [hsz, decide_eq_true_eq]; omega), hw]
          refine ⟨c, hx, true, ⟨hc.1, hc.2, by rw [has c hc.1 hc.2, decide_eq_true hd]⟩, ?_⟩
          rw [if_neg (by decide)]
          refine ⟨by omega, by omega, ?_⟩
          rw [ext_bstr, Int.toNat_natCast, List.take_left' rfl, List.drop_zero]
      · refine ⟨p ++ [c], .done ?_, ho, by omega, Iff.rfl, fun h => absurd (h c (by simp)) hd⟩
        unfold strings_trimRightASCII_l2
        rw [if_pos (by rw [hsz, decide_eq_true_eq]; omega), hw]
        refine ⟨c, hx, false, ⟨hc.1, hc.2, by rw [has c hc.1 hc.2, decide_eq_false hd]⟩, ?_⟩
        rw [if_pos (by decide)]
theorem trimL_ok {as : List Bool} (has : ∀ c : Int, 0 ≤ c → c < 256 → as.getD c.toNat false = decide (48 ≤ c ∧ c < 58)) : ∀ (d : List Int), d.length < 1000000000 → Oct d → ∃ m, Loops (strings_trimLeftASCII_l2 as) (bstr d) (bstr m) ∧ (AllDig m ↔ AllDig d) ∧ (AllDig m → m = [])
  | [], hb, ho => by
    refine ⟨[], .done ?_, Iff.rfl, fun _ => rfl⟩
    unfold strings_trimLeftASCII_l2
    rw [if_neg (by simp [size_bstr])]
  | c :: p, hb, ho => by
    have hsz : (bstr (c :: p)).size = p.length + 1 := size_bstr _
    have hc := ho c (by simp)
    have hx : idx (bints (bstr (c :: p))) 0 c := by rw [bb_of ho]; exact idx_at (k := 0) rfl (by simp)
    by_cases hd : 48 ≤ c ∧ c < 58
    · obtain ⟨m, h1, h2, h3⟩ := trimL_ok has p (by simp only [List.length_cons] at hb; omega) (fun x hx => ho x (List.mem_cons_of_mem _ hx))
      refine ⟨m, .next ?_ h1, h2.trans (allDig_cons hd).symm, h3⟩
      unfold strings_trimLeftASCII_l2
      rw [if_pos (by rw [hsz, decide_eq_true_eq]; omega)]
      refine ⟨c, hx, true, ⟨hc.1, hc.2, by rw [has c hc.1 hc.2, decide_eq_true hd]⟩, ?_⟩
      rw [if_neg (by decide)]
      refine ⟨by omega, ?_⟩
      rw [ext_bstr, hsz]
      congr 2
      rw [List.take_of_length_le (by simp)]; rfl
    · refine ⟨c :: p, .done ?_, Iff.rfl, fun h => absurd (h c (by simp)) hd⟩
      unfold strings_trimLeftASCII_l2
      rw [if_pos (by rw [hsz, decide_eq_true_eq]; omega)]
      refine ⟨c, hx, false, ⟨hc.1, hc.2, by rw [has c hc.1 hc.2, decide_eq_false hd]⟩, ?_⟩
      rw [if_pos (by decide)]
theorem bs_ne {l m : List Int} (h : l.length ≠ m.length) : ¬ bstr l = bstr m := fun e => h (by rw [← size_bstr l, e, size_bstr])
theorem bs_nil {l : List Int} : decide (bstr l = bstr []) = decide (l = []) := by
  by_cases h : l = []
  · subst h; simp
  · rw [decide_eq_false h, decide_eq_false (bs_ne (by simpa using h))]
theorem trim_ok {d : List Int} (hl : d.length < 1000000000) (ho : Oct d) : ∃ m, strings_Trim (bstr d) (bstr digS) (bstr m) ∧ (m = [] ↔ AllDig d) := by
  by_cases h0 : d = []
  · subst h0
    refine ⟨[], ?_, ⟨fun _ x hx => by simp at hx, fun _ => rfl⟩⟩
    unfold strings_Trim strings_Trim_j1
    rw [if_pos (by simp), if_pos rfl]
  · obtain ⟨as, ha, has⟩ := ascii_ok
    obtain ⟨m, h1, h2, h3, h4, h5⟩ := trimR_ok has d.length d (Nat.le_refl _) hl ho
    obtain ⟨m2, g1, g2, g3⟩ := trimL_ok has m (by omega) h2
    refine ⟨m2, ?_, ⟨fun e => h4.1 (g2.1 (by subst e; intro x hx; simp at hx)), fun h => g3 (g2.2 (h4.2 h))⟩⟩
    unfold strings_Trim strings_Trim_j1
    rw [if_neg (by rw [bs_nil]; simpa using h0), bs_nil, if_neg (by decide), if_neg (by rw [size_bstr]; decide)]
    unfold strings_Trim_j2
    rw [if_neg (by decide)]
    refine ⟨(as, true), ha, ?_⟩
    rw [if_pos rfl]
    exact ⟨_, ⟨_, h1, rfl⟩, _, ⟨_, g1, rfl⟩, rfl⟩
theorem trimPre_ok {l : List Int} (hl : l.length < 1000000000) (ho : Oct l) : strings_TrimPrefix (bstr l) (bstr [45]) (bstr (if l.head? = some 45 then l.tail else l)) := by
  have hsz : (bstr l).size = l.length := size_bstr _
  have h1 : (bstr [45]).size = 1 := by rw [size_bstr]; rfl
  refine ⟨_, ⟨decide (l.head? = some 45), ?_, ?_⟩, rfl⟩
  · unfold internal_stringslite_HasPrefix
    cases l with
    | nil => rw [if_neg (by rw [h1, hsz]; simp)]; rfl
    | cons c t =>
      rw [if_pos (by rw [h1, hsz, List.length_cons, decide_eq_true_eq]; omega)]
      refine ⟨by omega, by rw [h1, hsz, List.length_cons]; omega, ?_⟩
      show _ = _
      rw [h1, ext_bstr, List.drop_zero, show ((1 : Nat) : Int).toNat = 1 from rfl, List.take_succ_cons, List.take_zero]
      by_cases hc : c = 45
      · subst hc; simp
      · rw [decide_eq_false (by simpa using hc), decide_eq_false]
        intro e
        have := bs_inj (a := [c]) (b := [45]) (fun x hx => by rw [List.mem_singleton] at hx; subst hx; exact ho x (by simp)) (fun x hx => by rw [List.mem_singleton] at hx; subst hx; decide) e
        simp at this; exact hc this
  · by_cases h : l.head? = some 45
    · rw [decide_eq_true h, if_pos rfl, if_pos h]
      obtain ⟨t, rfl⟩ : ∃ t, l = 45 :: t := by cases l with | nil => simp at h | cons x l => simp at h; exact ⟨l, by rw [h]⟩
      refine ⟨by omega, by rw [h1, hsz]; simp; omega, ?_⟩
      rw [h1, hsz, ext_bstr, List.take_of_length_le (Nat.le_refl _)]; rfl
    · rw [decide_eq_false h, if_neg (by decide), if_neg h]
theorem sread_ok {l : List Int} (hl : l.length < 1000000000) (ho : Oct l) : say_Read (bstr l) (rdB l) := by
  have hpre := trimPre_ok hl ho
  have hd : (if l.head? = some 45 then l.tail else l).length ≤ l.length ∧ Oct (if l.head? = some 45 then l.tail else l) := by
    split
    · exact ⟨by simp, fun x hx => ho x (List.mem_of_mem_tail hx)⟩
    · exact ⟨Nat.le_refl _, ho⟩
  have hpi := @pi64_rd l
  unfold rdB at hpi ⊢
  simp only at hpi ⊢
  generalize hdd : (if l.head? = some 45 then l.tail else l) = d at hpre hd hpi ⊢
  refine ⟨pi64 (bints (bstr l)), ⟨rfl, rfl, by rw [size_bstr]; omega, rfl⟩, _, hpre, ?_⟩
  rw [bb_of ho, bs_nil]
  by_cases h0 : d = []
  · rw [if_pos (by simpa using h0), if_pos (.inl h0)]
    unfold say_Read_j1
    rw [if_pos rfl]
  rw [if_neg (by simpa using h0)]
  obtain ⟨m, hm, hma⟩ := trim_ok (d := d) (by omega) hd.2
  refine ⟨_, hm, ?_⟩
  rw [bs_nil]
  by_cases hall : AllDig d
  · rw [if_neg (by simp [hma.2 hall])]
    obtain ⟨c, t, rfl⟩ : ∃ c t, d = c :: t := by cases d with | nil => exact absurd rfl h0 | cons c t => exact ⟨_, _, rfl⟩
    refine ⟨c, by rw [bb_of hd.2]; exact idx_at (k := 0) rfl (by simp), ?_⟩
    have fin : ¬ (c :: t = [] ∨ ((c :: t).head? = some 48 ∧ l ≠ [48]) ∨ ¬ AllDig (c :: t)) → say_Read_j1 (pi64 l) false (if (c :: t) = [] ∨ ((c :: t).head? = some 48 ∧ l ≠ [48]) ∨ ¬ AllDig (c :: t) then ((0 : Int), (3 : Int)) else if l.head? = some 45 then (if dval 0 (c :: t) ≤ 9223372036854775808 then (-(dval 0 (c :: t) : Int), 0) else (0, 5)) else (if dval 0 (c :: t) ≤ 9223372036854775807 then ((dval 0 (c :: t) : Int), 0) else (0, 5))) := by
      intro hn
      have := hpi (by
        rw [if_neg hn]
        repeat' split
        all_goals simp)
      unfold say_Read_j1
      rw [if_neg (by decide)]
      rcases this with ⟨h1, h2⟩ | ⟨h1, h2⟩
      · rw [h1, if_neg (by decide), h2]
      · rw [h1, if_pos rfl, h2]
    by_cases hc : c = 48
    · subst hc
      rw [if_pos (by simp)]
      by_cases h48 : l = [48]
      · rw [decide_eq_true (by rw [h48])]
        exact fin (fun h => by rcases h with h | h | h; · simp at h
                               · exact h.2 h48
                               · exact h hall)
      · rw [decide_eq_false (fun e => h48 (bs_inj ho (fun x hx => by rw [List.mem_singleton] at hx; subst hx; decide) e)), if_pos (.inr (.inl ⟨rfl, h48⟩))]
        unfold say_Read_j1
        rw [if_pos (by decide)]
    · rw [if_neg (by simpa using hc)]
      exact fin (fun h => by rcases h with h | h | h; · simp at h
                             · simp at h; exact hc h.1
                             · exact h hall)
  · rw [if_pos (by simpa using fun e => hall (hma.1 e)), if_pos (.inr (.inr hall))]
    unfold say_Read_j1
    rw [if_pos rfl]
/-! ### The document's -/
theorem rr6 {l : List Int} (hl : l.length < 1000000000) (ho : Oct l) : ∀ (d p : List Int), l = p ++ d → Loops (ref20_Read_l6 (bstr l)) (p.length : Int) (if AllDig d then .inl () else .inr (0, 3))
  | [], p, h => by
    rw [if_pos (show AllDig [] from fun x hx => by simp at hx)]
    refine .done ?_
    unfold ref20_Read_l6
    rw [if_neg (by rw [size_bstr, h]; simp)]
  | c :: d, p, h => by
    have hlen : l.length = p.length + d.length + 1 := by rw [h]; simp; omega
    have hx : idx (bints (bstr l)) (p.length : Int) c := by rw [bb_of ho, h]; exact idx_at rfl (by simp)
    have hw : IntKind.i64.wrap ((p.length : Int) + 1) = ((p ++ [c]).length : Int) := by rw [w_small (by omega) (by omega)]; simp
    by_cases hc : 48 ≤ c ∧ c < 58
    · have ih := rr6 hl ho d (p ++ [c]) (by rw [h]; simp)
      rw [show (if AllDig (c :: d) then (Sum.inl () : Sum Unit (Int × Int)) else .inr (0, 3)) = if AllDig d then .inl () else .inr (0, 3) by
        by_cases h : AllDig d
        · rw [if_pos h, if_pos ((allDig_cons hc).2 h)]
        · rw [if_neg h, if_neg (fun hq => h ((allDig_cons hc).1 hq))]]
      refine .next ?_ ih
      unfold ref20_Read_l6
      rw [if_pos (by rw [size_bstr, decide_eq_true_eq]; omega)]
      refine ⟨c, hx, ?_⟩
      rw [if_neg (by rw [decide_eq_true_eq]; omega)]
      refine ⟨c, hx, ?_⟩
      unfold ref20_Read_j7
      rw [if_neg (by rw [decide_eq_true_eq]; omega), hw]
    · rw [if_neg (fun hq => hc (hq c (by simp)))]
      refine .done ?_
      unfold ref20_Read_l6
      rw [if_pos (by rw [size_bstr, decide_eq_true_eq]; omega)]
      refine ⟨c, hx, ?_⟩
      by_cases h48 : c < 48
      · rw [if_pos (by simpa using h48)]; unfold ref20_Read_j7; rw [if_pos rfl]
      · rw [if_neg (by simpa using h48)]
        refine ⟨c, hx, ?_⟩
        unfold ref20_Read_j7
        rw [if_pos (by rw [decide_eq_true_eq]; omega)]
theorem rr5 {l : List Int} (hl : l.length < 1000000000) (ho : Oct l) : ∀ (d p : List Int) (v : Nat), l = p ++ d → AllDig d → v ≤ 9223372036854775808 → Loops (ref20_Read_l5 (bstr l)) (-(v : Int), (p.length : Int)) (if dval v d ≤ 9223372036854775808 then .inl (-(dval v d : Int)) else .inr (0, 5))
  | [], p, v, h, hd, hv => by
    rw [if_pos (show dval v [] ≤ _ from hv)]
    refine .done ?_
    unfold ref20_Read_l5
    rw [if_neg (by rw [size_bstr, h]; simp)]
    rfl
  | c :: d, p, v, h, hd, hv => by
    have hlen : l.length = p.length + d.length + 1 := by rw [h]; simp; omega
    have hx : idx (bints (bstr l)) (p.length : Int) c := by rw [bb_of ho, h]; exact idx_at rfl (by simp)
    have hw : IntKind.i64.wrap ((p.length : Int) + 1) = ((p ++ [c]).length : Int) := by rw [w_small (by omega) (by omega)]; simp
    have hc := hd c (by simp)
    have e1 : IntKind.i64.wrap (IntKind.i64.wrap c - 48) = c - 48 := by rw [w_small (n := c) (by omega) (by omega), w_small (by omega) (by omega)]
    have e2 : IntKind.i64.wrap ((IntKind.i64.wrap ((-9223372036854775808) + (c - 48))).tdiv 10) = -((9223372036854775808 - (c - 48)) / 10) := by
      rw [w_small (n := (-9223372036854775808) + (c - 48)) (by omega) (by omega), show (-9223372036854775808 : Int) + (c - 48) = -(9223372036854775808 - (c - 48)) by omega, Int.neg_tdiv, Int.tdiv_eq_ediv_of_nonneg (by omega), w_small (by omega) (by omega)]
    rw [dval_cons]
    by_cases hov : 10 * v + (c - 48).toNat ≤ 9223372036854775808
    · have ih := rr5 hl ho d (p ++ [c]) (10 * v + (c - 48).toNat) (by rw [h]; simp) (fun x hx => hd x (List.mem_cons_of_mem _ hx)) hov
      refine .next ?_ ih
      unfold ref20_Read_l5
      simp only
      rw [if_pos (by rw [size_bstr, decide_eq_true_eq]; omega)]
      refine ⟨c, hx, ?_⟩
      rw [e1, e2, if_neg (by rw [decide_eq_true_eq]; omega), hw, w_small (n := 10 * -(v : Int)) (by omega) (by omega), w_small (by omega) (by omega)]
      congr 2; omega
    · have hge := dval_ge d (10 * v + (c - 48).toNat)
      rw [if_neg (by omega)]
      refine .done ?_
      unfold ref20_Read_l5
      simp only
      rw [if_pos (by rw [size_bstr, decide_eq_true_eq]; omega)]
      refine ⟨c, hx, ?_⟩
      rw [e1, e2, if_pos (by rw [decide_eq_true_eq]; omega)]
      try trivial
theorem rr_j1 {l p d : List Int} (hl : l.length < 1000000000) (ho : Oct l) (h : l = p ++ d) (hp : p = [] ∨ p = [45]) (s1 : Int) (hs1 : s1 = (p.length : Int)) : ref20_Read_j1 (bstr l) s1 (if d = [] ∨ (d.head? = some 48 ∧ l ≠ [48]) ∨ ¬ AllDig d then (0, 3) else if s1 = 1 then (if dval 0 d ≤ 9223372036854775808 then (-(dval 0 d : Int), 0) else (0, 5)) else (if dval 0 d ≤ 9223372036854775807 then ((dval 0 d : Int), 0) else (0, 5))) := by
  subst hs1
  unfold ref20_Read_j1
  have hlen : l.length = p.length + d.length := by rw [h]; simp
  by_cases h0 : d = []
  · rw [if_pos (show d = [] ∨ _ ∨ _ from .inl h0), if_pos (by rw [size_bstr, decide_eq_true_eq, hlen, h0]; simp)]
    unfold ref20_Read_j2
    rw [if_pos rfl]
  · have hdp := List.length_pos_iff.2 h0
    rw [if_neg (by rw [size_bstr, decide_eq_true_eq]; omega)]
    obtain ⟨c, t, rfl⟩ : ∃ c t, d = c :: t := by cases d with | nil => exact absurd rfl h0 | cons c t => exact ⟨_, _, rfl⟩
    refine ⟨c, by rw [bb_of ho, h]; exact idx_at rfl (by simp), ?_⟩
    have fin : ¬ ((c :: t).head? = some 48 ∧ l ≠ [48]) → ref20_Read_j2 (bstr l) (p.length : Int) false (if c :: t = [] ∨ ((c :: t).head? = some 48 ∧ l ≠ [48]) ∨ ¬ AllDig (c :: t) then (0, 3) else if (p.length : Int) = 1 then (if dval 0 (c :: t) ≤ 9223372036854775808 then (-(dval 0 (c :: t) : Int), 0) else (0, 5)) else (if dval 0 (c :: t) ≤ 9223372036854775807 then ((dval 0 (c :: t) : Int), 0) else (0, 5))) := by
      intro hn
      unfold ref20_Read_j2
      rw [if_neg (by decide)]
      have h6 := rr6 hl ho (c :: t) p h
      refine ⟨_, h6, ?_⟩
      by_cases hall : AllDig (c :: t)
      · rw [if_pos hall, if_neg (fun hq => hq.elim (by simp) (fun hq => hq.elim hn (fun h => h hall)))]
        show ref20_Read_j3 _ _ () _
        have h5 := rr5 hl ho (c :: t) p 0 h hall (by omega)
        rw [show -((0 : Nat) : Int) = 0 from rfl] at h5
        refine ⟨_, h5, ?_⟩
        by_cases hv : dval 0 (c :: t) ≤ 9223372036854775808
        · simp only [if_pos hv]
          show ref20_Read_j4 _ _ _
          unfold ref20_Read_j4
          by_cases h1 : (p.length : Int) = 1
          · rw [if_pos (by simpa using h1), if_pos h1]
          · rw [if_neg (by simpa using h1), if_neg h1]
            by_cases hv2 : dval 0 (c :: t) ≤ 9223372036854775807
            · rw [if_neg (by rw [decide_eq_true_eq]; omega), if_pos hv2, w_small (by omega) (by omega)]
              congr 1; omega
            · rw [if_pos (by rw [decide_eq_true_eq]; omega), if_neg hv2]
        · have hv2 : ¬ dval 0 (c :: t) ≤ 9223372036854775807 := by omega
          simp only [if_neg hv, if_neg hv2]
          show (if (p.length : Int) = 1 then ((0 : Int), (5 : Int)) else (0, 5)) = (0, 5)
          split <;> rfl
      · rw [if_neg hall, if_pos (.inr (.inr hall))]; rfl
    by_cases hc : c = 48
    · subst hc
      rw [if_pos (by simp)]
      by_cases h48 : l = [48]
      · rw [decide_eq_false (by rw [size_bstr, h48]; decide)]
        exact fin (fun h => h.2 h48)
      · have : decide ((1 : Int) < ((bstr l).size : Int)) = true := by
          rw [size_bstr, decide_eq_true_eq]
          rcases hp with rfl | rfl
          · cases t with
            | nil => exact absurd h h48
            | cons x t => rw [h]; simp; omega
          · rw [h]; simp; omega
        rw [this, if_pos (.inr (.inl ⟨rfl, h48⟩))]
        unfold ref20_Read_j2
        rw [if_pos rfl]
    · rw [if_neg (by simpa using hc)]
      exact fin (fun h => hc (by simpa using h.1))
theorem rread_ok {l : List Int} (hl : l.length < 1000000000) (ho : Oct l) : ref20_Read (bstr l) (rdB l) := by
  unfold ref20_Read rdB
  by_cases h45 : l.head? = some 45
  · obtain ⟨t, rfl⟩ : ∃ t, l = 45 :: t := by cases l with | nil => simp at h45 | cons x l => simp at h45; exact ⟨l, by rw [h45]⟩
    rw [if_pos (by rw [size_bstr]; simp)]
    refine ⟨45, by rw [bb_of ho]; exact idx_at (k := 0) rfl (by simp), ?_⟩
    unfold ref20_Read_j8
    rw [if_pos (by decide)]
    have := rr_j1 (p := [45]) (d := t) hl ho rfl (.inr rfl) 1 rfl
    simpa using this
  · have := rr_j1 (p := []) (d := l) hl ho rfl (.inl rfl) 0 rfl
    simp only [if_neg h45]
    rw [if_neg (show ¬ (0 : Int) = 1 by decide)] at this
    cases l with
    | nil =>
      rw [if_neg (by rw [size_bstr]; decide)]
      unfold ref20_Read_j8
      rw [if_neg (by decide)]; exact this
    | cons c t =>
      rw [if_pos (by rw [size_bstr]; simp)]
      refine ⟨c, by rw [bb_of ho]; exact idx_at (k := 0) rfl (by simp), ?_⟩
      unfold ref20_Read_j8
      rw [decide_eq_false (fun e => h45 (by simp [e])), if_neg (by decide)]; exact this
/-! ### Words -/
def wrdsP (a : Nat) : List (List Int) → List (Int × ByteArray)
  | [] => []
  | w :: ws => ((a : Int), bstr w) :: wrdsP (a + w.length + 1) ws
theorem wrdsP_len : ∀ (ws : List (List Int)) (a : Nat), (wrdsP a ws).length = ws.length
  | [], _ => rfl
  | w :: ws, a => by simp [wrdsP, wrdsP_len ws]
theorem words_run {S : Type} {Y : Int × ByteArray → S → Bool × S → Prop} {s' : S} : ∀ (ws : List (List Int)) (a : Nat) (s : S), a + (ws.map List.length).sum + ws.length < 1000000000 → Run Y (wrdsP a ws) s s' →
    ∃ t, RunB (say_Words_1_l1 S Y) (ws.map bstr) (s, (a : Int)) t ∧ ((∃ n, t = .inl (s', n)) ∨ ∃ n, t = .inr (s', n))
  | [], a, s, h, hr => by cases hr; exact ⟨_, .nil, .inl ⟨_, rfl⟩⟩
  | w :: ws, a, s, h, hr => by
    simp only [List.map_cons, List.sum_cons, List.length_cons] at h
    have hw : IntKind.i64.wrap ((a : Int) + IntKind.i64.wrap (((bstr w).size : Int) + 1)) = ((a + w.length + 1 : Nat) : Int) := by
      rw [size_bstr, w_small (n := (w.length : Int) + 1) (by omega) (by omega), w_small (by omega) (by omega)]; omega
    rw [wrdsP] at hr
    cases hr with
    | go h1 h2 =>
      obtain ⟨t, h3, h4⟩ := words_run ws (a + w.length + 1) _ (by omega) h2
      refine ⟨t, .go ?_ h3, h4⟩
      refine ⟨true, _, h1, ?_⟩
      rw [if_neg (by decide), hw]
    | stop h1 =>
      refine ⟨.inr (s', (a : Int)), .stop ⟨false, _, h1, by rw [if_pos (by decide)]⟩, .inr ⟨_, rfl⟩⟩
theorem splitL_tot {c : Int} : ∀ l : List Int, ((splitL c l).map List.length).sum + (splitL c l).length = l.length + 1
  | [] => by simp [splitL]
  | x :: l => by
    have ih := @splitL_tot c l
    have hne := splitL_ne c l
    rw [splitL]
    split
    · simp only [List.map_cons, List.sum_cons, List.length_cons, List.length_nil]; omega
    · cases hq : splitL c l with
      | nil => exact absurd hq hne
      | cons p ps => rw [hq] at ih; simp only [glue, List.map_cons, List.sum_cons, List.length_cons, List.length_append, List.length_nil] at ih ⊢; omega
theorem words_itr {l : List Int} (hl : l.length < 100000000) (ho : Oct l) : Itr (say_Words_1 (bstr l)) (wrdsP 0 (splitL 32 l)) := by
  intro S Y s s' h
  have htot := @splitL_tot 32 l
  obtain ⟨t, h1, h2⟩ := words_run (splitL 32 l) 0 s (by omega) h
  obtain ⟨rest, h3⟩ := split_itr (c := 32) (by decide) (by omega) ho (run_yof h1)
  refine ⟨_, splitSeq_ok l 32, t, rest, h3, ?_⟩
  rcases h2 with ⟨n, rfl⟩ | ⟨n, rfl⟩ <;> rfl
theorem words_ok (s : ByteArray) : say_Words s (say_Words_1 s) := rfl
end Go.Rel
/-! Plain laws: texts cut at a byte, and joined. -/
namespace Go.Rel
open Go Go.Eng Go.Pl
theorem spl_join {c : Int} : ∀ {l w0 : List Int} {ws : List (List Int)}, splitL c l = w0 :: ws → l = w0 ++ ws.flatMap (fun w => c :: w)
  | [], w0, ws, h => by simp [splitL] at h; obtain ⟨rfl, rfl⟩ := h; rfl
  | x :: l, w0, ws, h => by
    unfold splitL at h
    cases hq : splitL c l with
    | nil => exact absurd hq (splitL_ne _ _)
    | cons p ps =>
      have ih := spl_join hq
      rw [hq] at h
      split at h
      · rename_i hx
        cases h
        rw [List.flatMap_cons, List.nil_append, List.cons_append, ← ih, hx]
      · simp only [glue, List.cons.injEq] at h
        obtain ⟨rfl, rfl⟩ := h
        simp only [List.cons_append, List.nil_append, ← ih]
theorem spl_words {c : Int} : ∀ {ws : List (List Int)} {w0 : List Int}, c ∉ w0 → (∀ w ∈ ws, c ∉ w) → splitL c (w0 ++ ws.flatMap (fun w => c :: w)) = w0 :: ws
  | [], w0, h, _ => by rw [List.flatMap_nil, List.append_nil, splitL_no h]
  | w :: ws, w0, h, hs => by
    rw [List.flatMap_cons, List.cons_append, splitL_at h, spl_words (hs w List.mem_cons_self) (fun v hv => hs v (List.mem_cons_of_mem _ hv))]
theorem spl_sub {c : Int} : ∀ {l : List Int}, ∀ w ∈ splitL c l, w.length ≤ l.length ∧ (∀ x ∈ w, x ∈ l)
  | [], w, h => by simp [splitL] at h; subst h; simp
  | x :: l, w, h => by
    unfold splitL at h
    split at h
    · rcases List.mem_cons.1 h with rfl | h
      · simp
      · have := spl_sub (l := l) w h
        exact ⟨by simp; omega, fun y hy => List.mem_cons_of_mem _ (this.2 y hy)⟩
    · have hs := @spl_sub c l
      cases hq : splitL c l with
      | nil => rw [hq] at h; simp [glue] at h; subst h; simp
      | cons p ps =>
        rw [hq] at h hs
        simp only [glue, List.mem_cons] at h
        rcases h with rfl | h
        · have := hs p List.mem_cons_self
          refine ⟨by simp; omega, fun y hy => ?_⟩
          simp only [List.cons_append, List.nil_append, List.mem_cons] at hy
          rcases hy with rfl | hy
          · exact List.mem_cons_self
          · exact List.mem_cons_of_mem _ (this.2 y hy)
        · have := hs w (List.mem_cons_of_mem _ h)
          exact ⟨by simp; omega, fun y hy => List.mem_cons_of_mem _ (this.2 y hy)⟩
theorem spl_len (c : Int) : ∀ l : List Int, (splitL c l).length ≤ l.length + 1
  | [] => by simp [splitL]
  | x :: l => by
    have := spl_len c l
    unfold splitL
    split
    · simp; omega
    · cases hq : splitL c l with
      | nil => simp [glue]
      | cons p ps => rw [hq] at this; simp [glue] at this ⊢; omega
theorem spl_no (c : Int) : ∀ (l : List Int), ∀ w ∈ splitL c l, c ∉ w
  | [], w, h => by simp [splitL] at h; subst h; simp
  | x :: l, w, h => by
    have ih := spl_no c l
    unfold splitL at h
    split at h
    · rcases List.mem_cons.1 h with rfl | h
      · simp
      · exact ih w h
    · rename_i hx
      cases hq : splitL c l with
      | nil => rw [hq] at h; simp [glue] at h; subst h; simpa using fun e => hx e.symm
      | cons p ps =>
        rw [hq] at h ih
        simp only [glue, List.mem_cons] at h
        rcases h with rfl | h
        · have := ih p List.mem_cons_self
          simp only [List.cons_append, List.nil_append, List.mem_cons, not_or]
          exact ⟨fun e => hx e.symm, this⟩
        · exact ih w (List.mem_cons_of_mem _ h)
end Go.Rel
/-! Plain laws: rooms on the wire. -/
namespace Go.Rel
open Go Go.Eng Go.Pl
def mostB (n : Int) : Int := if n < 0 then 0 else n + max ((n + 253) / 254) 1
theorem most_ok {n : Int} (hn : n < 4611686018427387904) : cobs_Most n (mostB n) := by
  unfold cobs_Most mostB
  by_cases h : n < 0
  · rw [if_pos (by simpa using h), if_pos h]
  · rw [if_neg (by simpa using h), if_neg h, Int.tmod_eq_emod_of_nonneg (by omega), Int.tdiv_eq_ediv_of_nonneg (by omega)]
    have hmax : ∀ a b : Int, max a b = if a ≤ b then b else a := fun a b => by omega
    by_cases h2 : n % 254 = 0
    · rw [if_neg (by simpa using h2)]
      unfold cobs_Most_j1
      rw [w_small (n := n / 254) (by omega) (by omega), w_small (by rw [hmax]; split <;> omega) (by rw [hmax]; split <;> omega)]
      rw [show (n + 253) / 254 = n / 254 by omega]
    · rw [if_pos (by simpa using h2)]
      unfold cobs_Most_j1
      rw [w_small (n := n / 254) (by omega) (by omega), w_small (n := n / 254 + 1) (by omega) (by omega), w_small (by rw [hmax]; split <;> omega) (by rw [hmax]; split <;> omega)]
      rw [show (n + 253) / 254 = n / 254 + 1 by omega]
def wireB (n : Int) : Int := if n < 1 ∨ 242 < n then 0 else n + 15
theorem wire_ok (n : Int) : frame_Wire n (wireB n) := by
  unfold frame_Wire wireB
  by_cases h : n < 1
  · rw [if_pos (by simpa using h), if_pos (.inl h)]
    unfold frame_Wire_j1; rw [if_pos rfl]
  · rw [if_neg (by simpa using h)]
    unfold frame_Wire_j1
    by_cases h2 : 242 < n
    · rw [if_pos (by simpa using h2), if_pos (.inr h2)]
    · rw [if_neg (by simpa using h2), if_neg (by omega)]
      rw [w_small (n := n + 12) (by omega) (by omega)]
      refine ⟨_, most_ok (by omega), ?_⟩
      unfold mostB
      rw [if_neg (by omega), w_small (by omega) (by omega)]; omega
def roomB (m : Int) : Int := if m < 16 then 0 else min (m - 15) 242
theorem room_ok {m : Int} (hm : m ≤ 9223372036854775807) : frame_Room m (roomB m) := by
  refine ⟨_, wire_ok 1, ?_⟩
  have e : wireB 1 = 16 := rfl
  rw [e]
  unfold roomB
  by_cases h : m < 16
  · rw [if_pos (by simpa using h), if_pos h]
  · rw [if_neg (by simpa using h), if_neg h]
    refine ⟨_, wire_ok 1, ?_⟩
    rw [e, w_small (n := m - 16) (by omega) (by omega), w_small (by omega) (by omega), show m - 16 + 1 = m - 15 by omega]
end Go.Rel
/-! Plain laws: settings. -/
namespace Go.Rel
open Go Go.Eng Go.Pl
def linkL : List Int := [108, 105, 110, 107]
def sndB (s : Int × Int × Int) : Int := if s.1 ≠ 1 ∧ s.1 ≠ 2 then 10 else if s.2.1 < 16 ∨ 257 < s.2.1 then 5 else 0
def rcvB (r : Int × Int) : Int := if r.2 < 1 ∨ 16 < r.2 then 5 else 0
theorem csnd_ok (s : Int × Int × Int) : conf_CheckSender s (sndB s) := by
  unfold conf_CheckSender conf_CheckSender_j1 conf_CheckSender_j2 sndB
  by_cases h1 : s.1 = 1 <;> by_cases h2 : s.1 = 2 <;> by_cases h3 : s.2.1 < 16 <;> by_cases h4 : 257 < s.2.1 <;> simp [h1, h2, h3, h4] <;> omega
theorem rsnd_ok (s : Int × Int × Int) : ref21_Sender s (sndB s) := by
  unfold ref21_Sender ref21_Sender_j1 ref21_Sender_j2 sndB
  by_cases h1 : s.1 = 1 <;> by_cases h2 : s.1 = 2 <;> by_cases h3 : s.2.1 < 16 <;> by_cases h4 : 257 < s.2.1 <;> simp [h1, h2, h3, h4] <;> omega
theorem crcv_ok (r : Int × Int) : conf_CheckReceiver r (rcvB r) := by
  unfold conf_CheckReceiver conf_CheckReceiver_j1 rcvB
  by_cases h3 : r.2 < 1 <;> by_cases h4 : 16 < r.2 <;> simp [h3, h4]
theorem rrcv_ok (r : Int × Int) : ref21_Receiver r (rcvB r) := by
  unfold ref21_Receiver ref21_Receiver_j1 rcvB
  by_cases h3 : r.2 < 1 <;> by_cases h4 : 16 < r.2 <;> simp [h3, h4]
/-! ### Lines -/
def numsC (s : Int × Int × Int) (r : Int × Int) : List Int := [s.1, s.2.1, s.2.2, r.1, r.2]
def lineC (s : Int × Int × Int) (r : Int × Int) : List Int := linkL ++ (numsC s r).flatMap fun n => 32 :: decI n
structure SOk (s : Int × Int × Int) (r : Int × Int) : Prop where
  v : IntOk .i64 s.1
  m : IntOk .i64 s.2.1
  a : 0 ≤ s.2.2 ∧ s.2.2 ≤ 4294967295
  b : 0 ≤ r.1 ∧ r.1 ≤ 4294967295
  n : IntOk .i64 r.2
theorem i64_of {n : Int} (h : 0 ≤ n ∧ n ≤ 4294967295) : IntOk .i64 n := ⟨by show (-9223372036854775808 : Int) ≤ n; omega, by show n ≤ 9223372036854775807; omega⟩
theorem SOk.all {s : Int × Int × Int} {r : Int × Int} (h : SOk s r) : ∀ n ∈ numsC s r, IntOk .i64 n := by
  intro n hn
  simp only [numsC, List.mem_cons, List.not_mem_nil, or_false] at hn
  rcases hn with rfl | rfl | rfl | rfl | rfl
  · exact h.v
  · exact h.m
  · exact i64_of h.a
  · exact i64_of h.b
  · exact h.n
theorem cline_loop {a0 : Int × Int × Int} {a1 : Int × Int} (ns : List Int) (hl : ns.length = 5) (hns : [a0.1, a0.2.1, (IntKind.i64.wrap a0.2.2), (IntKind.i64.wrap a1.1), a1.2] = ns) (hok : ∀ n ∈ ns, IntOk .i64 n) : ∀ (rest pre acc : List Int), ns = pre ++ rest → acc.length + 22 * rest.length < 1000 →
    Loops (conf_Line_l3 a0 a1) (bstr acc, (pre.length : Int)) (bstr (acc ++ rest.flatMap fun n => 32 :: decI n))
  | [], pre, acc, h, _ => by
    refine .done ?_
    unfold conf_Line_l3
    simp only
    rw [if_neg (by have := congrArg List.length h; rw [List.append_nil] at this; rw [decide_eq_true_eq]; omega), List.flatMap_nil, List.append_nil]
  | n :: rest, pre, acc, h, hb => by
    simp only [List.length_cons] at hb
    have hn : IntOk .i64 n := hok n (by rw [h]; simp)
    have hd := decI_len hn
    have hlen : pre.length + rest.length + 1 = 5 := by rw [← hl, h]; simp; omega
    have ih := cline_loop ns hl hns hok rest (pre ++ [n]) (acc ++ 32 :: decI n) (by rw [h]; simp) (by rw [List.length_append, List.length_cons]; omega)
    rw [List.flatMap_cons, ← List.append_assoc]
    refine .next ?_ ih
    unfold conf_Line_l3
    simp only
    rw [if_pos (by rw [decide_eq_true_eq]; omega), hns]
    refine ⟨by omega, by omega, bstr (decI n), ?_, ?_, ?_, ?_⟩
    · have hg : ns.getD pre.length 0 = n := by rw [h, List.getD_eq_getElem?_getD, List.getElem?_append_right (Nat.le_refl _)]; simp
      rw [Int.toNat_natCast, hg]; exact ⟨_, itoa_ok hn, rfl⟩
    · rw [size_bstr, size_bstr, List.length_singleton]; omega
    · rw [ByteArray.size_append, size_bstr, size_bstr, size_bstr, List.length_singleton]; omega
    · rw [← bstr_append, ← bstr_append, w_small (by omega) (by omega)]; simp
theorem cline_ok {s : Int × Int × Int} {r : Int × Int} (h : SOk s r) : conf_Line s r (bstr (if sndB s = 0 ∧ rcvB r = 0 then lineC s r else [])) := by
  refine ⟨_, csnd_ok s, ?_⟩
  by_cases h1 : sndB s = 0
  · rw [if_neg (by simpa using h1)]
    refine ⟨_, crcv_ok r, ?_⟩
    unfold conf_Line_j1
    by_cases h2 : rcvB r = 0
    · rw [if_neg (by simpa using h2), if_pos ⟨h1, h2⟩]
      have ha := h.a
      have hb := h.b
      refine ⟨_, cline_loop (numsC s r) rfl (by rw [w_small (by omega) (by omega), w_small (by omega) (by omega)]; rfl) h.all (numsC s r) [] linkL rfl (by simp [numsC, linkL]), rfl⟩
    · rw [if_pos (by simpa using h2), if_neg (fun h => h2 h.2)]
  · rw [if_pos (by simpa using h1), if_neg (fun h => h1 h.1)]
    unfold conf_Line_j1
    rw [if_pos rfl]
theorem cfrline_ok {s : Int × Int × Int} {r : Int × Int} (h : SOk s r) : ref21_Line s r (bstr (if sndB s = 0 ∧ rcvB r = 0 then lineC s r else [])) := by
  refine ⟨_, rsnd_ok s, ?_⟩
  by_cases h1 : sndB s = 0
  · rw [if_neg (by simpa using h1)]
    refine ⟨_, rrcv_ok r, ?_⟩
    unfold ref21_Line_j1
    by_cases h2 : rcvB r = 0
    · rw [if_neg (by simpa using h2), if_pos ⟨h1, h2⟩]
      have ha := h.a
      have hb := h.b
      rw [w_small (n := s.2.2) (by omega) (by omega), w_small (n := r.1) (by omega) (by omega)]
      have l1 := decI_len h.v
      have l2 := decI_len h.m
      have l3 := decI_len (i64_of h.a)
      have l4 := decI_len (i64_of h.b)
      have l5 := decI_len h.n
      refine ⟨_, digits_ok h.v, ?_, _, digits_ok h.m, ?_, ?_, _, digits_ok (i64_of h.a), ?_, ?_, ?_, _, digits_ok (i64_of h.b), ?_, ?_, _, digits_ok h.n, ?_, ?_⟩
      all_goals try (simp only [ByteArray.size_append, size_bstr, List.length_cons, List.length_nil]; omega)
      simp only [← bstr_append]
      congr 1
      simp [lineC, linkL, numsC]
    · rw [if_pos (by simpa using h2), if_neg (fun h => h2 h.2)]
  · rw [if_pos (by simpa using h1), if_neg (fun h => h1 h.1)]
    unfold ref21_Line_j1
    rw [if_pos rfl]
/-! ### A line is parsed -/
abbrev CR := (Int × Int × Int) × (Int × Int) × Int
def noC (e : Int) : CR := ((0, 0, 0), (0, 0), e)
def endC (a b c d e : Int) : CR := if c < 0 ∨ 4294967295 < c ∨ d < 0 ∨ 4294967295 < d then noC 5 else if sndB (a, b, c) ≠ 0 then noC (sndB (a, b, c)) else if rcvB (d, e) ≠ 0 then noC (rcvB (d, e)) else ((a, b, c), (d, e), 0)
def numsB (w1 w2 w3 w4 w5 : List Int) : CR := if (rdB w1).2 ≠ 0 then noC (rdB w1).2 else if (rdB w2).2 ≠ 0 then noC (rdB w2).2 else if (rdB w3).2 ≠ 0 then noC (rdB w3).2 else if (rdB w4).2 ≠ 0 then noC (rdB w4).2 else if (rdB w5).2 ≠ 0 then noC (rdB w5).2 else endC (rdB w1).1 (rdB w2).1 (rdB w3).1 (rdB w4).1 (rdB w5).1
def confB (l : List Int) : CR := match splitL 32 l with
  | [w0, w1, w2, w3, w4, w5] => if w0 = linkL then numsB w1 w2 w3 w4 w5 else noC 3
  | _ => noC 3
theorem gather {B : Int × ByteArray → List ByteArray → Sum (List ByteArray) Unit → Prop} (hB : ∀ x s, s.length < 1000000000 → B x s (.inl (s ++ [x.2]))) : ∀ (ws : List (List Int)) (a : Nat) (s : List ByteArray), s.length + ws.length < 1000000000 → RunB B (wrdsP a ws) s (.inl (s ++ ws.map bstr))
  | [], a, s, _ => by rw [List.map_nil, List.append_nil]; exact .nil
  | w :: ws, a, s, h => by
    simp only [List.length_cons] at h
    have ih := gather hB ws (a + w.length + 1) (s ++ [bstr w]) (by simp; omega)
    rw [List.map_cons, show s ++ bstr w :: ws.map bstr = s ++ [bstr w] ++ ws.map bstr by simp]
    exact .go (hB _ _ (by omega)) ih
section
variable {P : List ByteArray} {w : List Int} {e a b c d f a' b' c' d' f' : Int}
theorem put5_0 (v : Int) : putN 5 0 [a, b, c, d, f] 0 v = [v, b, c, d, f] := rfl
theorem put5_1 (v : Int) : putN 5 0 [a, b, c, d, f] 1 v = [a, v, c, d, f] := rfl
theorem put5_2 (v : Int) : putN 5 0 [a, b, c, d, f] 2 v = [a, b, v, d, f] := rfl
theorem put5_3 (v : Int) : putN 5 0 [a, b, c, d, f] 3 v = [a, b, c, v, f] := rfl
theorem put5_4 (v : Int) : putN 5 0 [a, b, c, d, f] 4 v = [a, b, c, d, v] := rfl
theorem cs_go (i : Nat) (hi : i < 5) (hx : P[i + 1]? = some (bstr w)) (hl : w.length < 1000000000) (ho : Oct w) (hr : (rdB w).2 = 0) (hp : putN 5 0 [a, b, c, d, f] i (rdB w).1 = [a', b', c', d', f']) : conf_Parse_l6 P (e, (i : Int), a, b, c, d, f) (.inl (0, ((i + 1 : Nat) : Int), a', b', c', d', f')) := by
  unfold conf_Parse_l6
  simp only
  rw [if_pos (by rw [decide_eq_true_eq]; omega), w_small (by omega) (by omega)]
  refine ⟨bstr w, idx_at (k := i + 1) (by omega) hx, rdB w, sread_ok hl ho, by omega, by omega, ?_⟩
  rw [if_neg (by simp [hr]), Int.toNat_natCast, hp, hr]
  rfl
theorem cs_no (i : Nat) (hi : i < 5) (hx : P[i + 1]? = some (bstr w)) (hl : w.length < 1000000000) (ho : Oct w) (hr : (rdB w).2 ≠ 0) : ∃ y, conf_Parse_l6 P (e, (i : Int), a, b, c, d, f) (.inr ((rdB w).2, y)) := by
  refine ⟨((putN 5 0 [a, b, c, d, f] (i : Int).toNat (rdB w).1).getD 0 0, (putN 5 0 [a, b, c, d, f] (i : Int).toNat (rdB w).1).getD 1 0, (putN 5 0 [a, b, c, d, f] (i : Int).toNat (rdB w).1).getD 2 0, (putN 5 0 [a, b, c, d, f] (i : Int).toNat (rdB w).1).getD 3 0, (putN 5 0 [a, b, c, d, f] (i : Int).toNat (rdB w).1).getD 4 0), ?_⟩
  unfold conf_Parse_l6
  simp only
  rw [if_pos (by rw [decide_eq_true_eq]; omega), w_small (by omega) (by omega)]
  refine ⟨bstr w, idx_at (k := i + 1) (by omega) hx, rdB w, sread_ok hl ho, by omega, by omega, ?_⟩
  rw [if_pos (by simpa using hr)]
  try rfl
theorem cj3_no {y : Int × Int × Int × Int × Int} (he : e ≠ 0) : conf_Parse_j3 (e, y) (noC e) := by
  refine ⟨_, rfl, _, rfl, ?_⟩
  simp only
  rw [if_pos (by simpa using he)]
  unfold conf_Parse_j4
  rw [if_pos (by simpa using he)]; rfl
theorem cj3_ok : conf_Parse_j3 (0, a, b, c, d, f) (endC a b c d f) := by
  refine ⟨_, rfl, _, rfl, ?_⟩
  simp only
  rw [if_neg (by decide)]
  have w1 : ∀ n : Int, IntKind.i64.wrap (IntKind.u32.wrap n) = n % 4294967296 := fun n => by rw [w_u32, w_small (by omega) (by omega)]
  simp only [w1]
  unfold endC
  have five : ∀ x y, conf_Parse_j5 (0, a, b, c, d, f) x y true (noC 5) := fun x y => by
    unfold conf_Parse_j5
    rw [if_pos rfl]
    unfold conf_Parse_j4
    rw [if_pos (by decide)]; rfl
  by_cases h1 : c < 0 ∨ 4294967295 < c
  · rw [if_pos (by rw [decide_eq_false (by omega)]; rfl), if_pos (by omega)]
    exact five _ _
  · rw [if_neg (by rw [decide_eq_true (by omega)]; decide)]
    by_cases h2 : d < 0 ∨ 4294967295 < d
    · rw [decide_eq_false (show ¬ d % 4294967296 = d by omega), if_pos (by omega)]
      exact five _ _
    · rw [decide_eq_true (show d % 4294967296 = d by omega), if_neg (by omega)]
      unfold conf_Parse_j5
      rw [if_neg (by decide)]
      simp only
      rw [show IntKind.u32.wrap c = c by rw [w_u32]; omega, show IntKind.u32.wrap d = d by rw [w_u32]; omega]
      refine ⟨_, csnd_ok _, ?_⟩
      by_cases h3 : sndB (a, b, c) = 0
      · rw [if_pos (by simpa using h3), if_neg (by simpa using h3)]
        refine ⟨_, crcv_ok _, ?_⟩
        unfold conf_Parse_j4
        by_cases h4 : rcvB (d, f) = 0
        · rw [if_neg (by simpa using h4), if_neg (by simpa using h4)]
        · rw [if_pos (by simpa using h4), if_pos (by simpa using h4)]; rfl
      · rw [if_neg (by simpa using h3), if_pos (by simpa using h3)]
        unfold conf_Parse_j4
        rw [if_pos (by simpa using h3)]; rfl
theorem cs_end : conf_Parse_l6 P (e, ((5 : Nat) : Int), a, b, c, d, f) (.inr (e, a, b, c, d, f)) := by
  unfold conf_Parse_l6
  rw [if_neg (by simp)]
theorem rs_go (i : Nat) (hi : i < 5) (hx : P[i + 1]? = some (bstr w)) (hl : w.length < 1000000000) (ho : Oct w) (hr : (rdB w).2 = 0) (hp : putN 5 0 [a, b, c, d, f] i (rdB w).1 = [a', b', c', d', f']) : ref21_Parse_l4 P ((i : Int), a, b, c, d, f) (.inl (((i + 1 : Nat) : Int), a', b', c', d', f')) := by
  unfold ref21_Parse_l4
  simp only
  rw [if_pos (by rw [decide_eq_true_eq]; omega), w_small (by omega) (by omega)]
  refine ⟨bstr w, idx_at (k := i + 1) (by omega) hx, rdB w, rread_ok hl ho, ?_⟩
  rw [if_neg (by simp [hr])]
  refine ⟨by omega, by omega, ?_⟩
  rw [Int.toNat_natCast, hp]
  rfl
theorem rs_no (i : Nat) (hi : i < 5) (hx : P[i + 1]? = some (bstr w)) (hl : w.length < 1000000000) (ho : Oct w) (hr : (rdB w).2 ≠ 0) : ref21_Parse_l4 P ((i : Int), a, b, c, d, f) (.inr (.inr (noC (rdB w).2))) := by
  unfold ref21_Parse_l4
  simp only
  rw [if_pos (by rw [decide_eq_true_eq]; omega), w_small (by omega) (by omega)]
  refine ⟨bstr w, idx_at (k := i + 1) (by omega) hx, rdB w, rread_ok hl ho, ?_⟩
  rw [if_pos (by simpa using hr)]; rfl
theorem rs_end : ref21_Parse_l4 P (((5 : Nat) : Int), a, b, c, d, f) (.inr (.inl (a, b, c, d, f))) := by
  unfold ref21_Parse_l4
  rw [if_neg (by simp)]
theorem rj2_ok : ref21_Parse_j2 (a, b, c, d, f) (endC a b c d f) := by
  unfold ref21_Parse_j2 endC
  simp only
  have five : ref21_Parse_j3 (a, b, c, d, f) true (noC 5) := by unfold ref21_Parse_j3; rw [if_pos rfl]; rfl
  by_cases h1 : c < 0
  · rw [if_pos (by simpa using h1), if_pos (by omega)]; exact five
  rw [if_neg (by simpa using h1)]
  by_cases h2 : 4294967295 < c
  · rw [if_pos (by simpa using h2), if_pos (by omega)]; exact five
  rw [if_neg (by simpa using h2)]
  by_cases h3 : d < 0
  · rw [if_pos (by simpa using h3), if_pos (by omega)]; exact five
  rw [if_neg (by simpa using h3)]
  by_cases h4 : 4294967295 < d
  · rw [decide_eq_true h4, if_pos (by omega)]; exact five
  rw [decide_eq_false h4, if_neg (by omega)]
  unfold ref21_Parse_j3
  rw [if_neg (by decide)]
  simp only
  rw [show IntKind.u32.wrap c = c by rw [w_u32]; omega, show IntKind.u32.wrap d = d by rw [w_u32]; omega]
  refine ⟨_, rsnd_ok _, ?_⟩
  by_cases h5 : sndB (a, b, c) = 0
  · rw [if_neg (by simpa using h5), if_neg (by simpa using h5)]
    refine ⟨_, rrcv_ok _, ?_⟩
    by_cases h6 : rcvB (d, f) = 0
    · rw [if_neg (by simpa using h6), if_neg (by simpa using h6)]
    · rw [if_pos (by simpa using h6), if_pos (by simpa using h6)]
      exact ⟨_, rrcv_ok _, rfl⟩
  · rw [if_pos (by simpa using h5), if_pos (by simpa using h5)]
    exact ⟨_, rsnd_ok _, rfl⟩
end
theorem cparse_ok {l : List Int} (hl : l.length < 1000000) (ho : Oct l) : conf_Parse (bstr l) (confB l) := by
  have hlen := spl_len 32 l
  have hg := gather (B := conf_Parse_l1) (fun x s hs => by
    unfold conf_Parse_l1
    simp only [List.length_singleton]
    exact ⟨by omega, by omega, trivial⟩) (splitL 32 l) 0 [] (by simp only [List.length_nil]; omega)
  rw [List.nil_append] at hg
  have hsub := @spl_sub 32 l
  refine ⟨_, words_ok _, _, (), words_itr (by omega) ho _ _ _ _ (run_yof hg), ?_⟩
  show (if _ then _ else _)
  rw [List.length_map]
  unfold confB
  by_cases h6 : (splitL 32 l).length = 6
  · obtain ⟨w0, w1, w2, w3, w4, w5, hw⟩ : ∃ w0 w1 w2 w3 w4 w5, splitL 32 l = [w0, w1, w2, w3, w4, w5] := by
      match splitL 32 l, h6 with
      | [w0, w1, w2, w3, w4, w5], _ => exact ⟨_, _, _, _, _, _, rfl⟩
    rw [hw] at hsub ⊢
    have hs : ∀ w ∈ [w0, w1, w2, w3, w4, w5], w.length < 1000000000 ∧ Oct w := fun w hm => by
      have := hsub w hm
      exact ⟨by omega, fun x hx => ho x (this.2 x hx)⟩
    rw [if_neg (by simp)]
    refine ⟨bstr w0, idx_at (k := 0) rfl rfl, ?_⟩
    unfold conf_Parse_j2
    simp only
    by_cases h0 : w0 = linkL
    · rw [if_pos h0, h0, decide_eq_true (show bstr linkL = bstr [108, 105, 110, 107] from rfl), if_neg (by decide)]
      obtain ⟨q1, q2, q3, q4, q5⟩ : (w1.length < 1000000000 ∧ Oct w1) ∧ (w2.length < 1000000000 ∧ Oct w2) ∧ (w3.length < 1000000000 ∧ Oct w3) ∧ (w4.length < 1000000000 ∧ Oct w4) ∧ (w5.length < 1000000000 ∧ Oct w5) := ⟨hs w1 (by simp), hs w2 (by simp), hs w3 (by simp), hs w4 (by simp), hs w5 (by simp)⟩
      unfold numsB
      by_cases h1 : (rdB w1).2 = 0
      · rw [if_neg (by simpa using h1)]
        have g1 := cs_go (P := [w0, w1, w2, w3, w4, w5].map bstr) (e := 0) (a := 0) (b := 0) (c := 0) (d := 0) (f := 0) 0 (by decide) (w := w1) rfl q1.1 q1.2 h1 (put5_0 _)
        by_cases h2 : (rdB w2).2 = 0
        · rw [if_neg (by simpa using h2)]
          have g2 := cs_go (P := [w0, w1, w2, w3, w4, w5].map bstr) (e := 0) (a := (rdB w1).1) (b := 0) (c := 0) (d := 0) (f := 0) 1 (by decide) (w := w2) rfl q2.1 q2.2 h2 (put5_1 _)
          by_cases h3 : (rdB w3).2 = 0
          · rw [if_neg (by simpa using h3)]
            have g3 := cs_go (P := [w0, w1, w2, w3, w4, w5].map bstr) (e := 0) (a := (rdB w1).1) (b := (rdB w2).1) (c := 0) (d := 0) (f := 0) 2 (by decide) (w := w3) rfl q3.1 q3.2 h3 (put5_2 _)
            by_cases h4 : (rdB w4).2 = 0
            · rw [if_neg (by simpa using h4)]
              have g4 := cs_go (P := [w0, w1, w2, w3, w4, w5].map bstr) (e := 0) (a := (rdB w1).1) (b := (rdB w2).1) (c := (rdB w3).1) (d := 0) (f := 0) 3 (by decide) (w := w4) rfl q4.1 q4.2 h4 (put5_3 _)
              by_cases h5 : (rdB w5).2 = 0
              · rw [if_neg (by simpa using h5)]
                have g5 := cs_go (P := [w0, w1, w2, w3, w4, w5].map bstr) (e := 0) (a := (rdB w1).1) (b := (rdB w2).1) (c := (rdB w3).1) (d := (rdB w4).1) (f := 0) 4 (by decide) (w := w5) rfl q5.1 q5.2 h5 (put5_4 _)
                exact ⟨_, .next g1 (.next g2 (.next g3 (.next g4 (.next g5 (.done cs_end))))), cj3_ok⟩
              · rw [if_pos (by simpa using h5)]
                obtain ⟨y, g5⟩ := cs_no (P := [w0, w1, w2, w3, w4, w5].map bstr) (e := 0) (a := (rdB w1).1) (b := (rdB w2).1) (c := (rdB w3).1) (d := (rdB w4).1) (f := 0) 4 (by decide) (w := w5) rfl q5.1 q5.2 h5
                exact ⟨_, .next g1 (.next g2 (.next g3 (.next g4 (.done g5)))), cj3_no h5⟩
            · rw [if_pos (by simpa using h4)]
              obtain ⟨y, g4⟩ := cs_no (P := [w0, w1, w2, w3, w4, w5].map bstr) (e := 0) (a := (rdB w1).1) (b := (rdB w2).1) (c := (rdB w3).1) (d := 0) (f := 0) 3 (by decide) (w := w4) rfl q4.1 q4.2 h4
              exact ⟨_, .next g1 (.next g2 (.next g3 (.done g4))), cj3_no h4⟩
          · rw [if_pos (by simpa using h3)]
            obtain ⟨y, g3⟩ := cs_no (P := [w0, w1, w2, w3, w4, w5].map bstr) (e := 0) (a := (rdB w1).1) (b := (rdB w2).1) (c := 0) (d := 0) (f := 0) 2 (by decide) (w := w3) rfl q3.1 q3.2 h3
            exact ⟨_, .next g1 (.next g2 (.done g3)), cj3_no h3⟩
        · rw [if_pos (by simpa using h2)]
          obtain ⟨y, g2⟩ := cs_no (P := [w0, w1, w2, w3, w4, w5].map bstr) (e := 0) (a := (rdB w1).1) (b := 0) (c := 0) (d := 0) (f := 0) 1 (by decide) (w := w2) rfl q2.1 q2.2 h2
          exact ⟨_, .next g1 (.done g2), cj3_no h2⟩
      · rw [if_pos (by simpa using h1)]
        obtain ⟨y, g1⟩ := cs_no (P := [w0, w1, w2, w3, w4, w5].map bstr) (e := 0) (a := 0) (b := 0) (c := 0) (d := 0) (f := 0) 0 (by decide) (w := w1) rfl q1.1 q1.2 h1
        exact ⟨_, .done g1, cj3_no h1⟩
    · rw [if_neg h0, if_pos]
      · rfl
      · rw [decide_eq_false (show ¬ bstr w0 = bstr [108, 105, 110, 107] from fun e => h0 (bs_inj (b := linkL) (hs w0 (by simp)).2 (by unfold Oct linkL; decide) e))]; rfl
  · rw [if_pos (by rw [decide_eq_false (by omega)]; rfl)]
    unfold conf_Parse_j2
    rw [if_pos rfl]
    match hq : splitL 32 l with
    | [w0, w1, w2, w3, w4, w5] => rw [hq] at h6; exact absurd rfl h6
    | [] | [_] | [_, _] | [_, _, _] | [_, _, _, _] | [_, _, _, _, _] => rfl
    | _ :: _ :: _ :: _ :: _ :: _ :: _ :: _ => rfl
theorem cfparse_ok {l : List Int} (hl : l.length < 1000000) (ho : Oct l) : ref21_Parse (bstr l) (confB l) := by
  have hsub := @spl_sub 32 l
  refine ⟨_, rsplit_ok (c := 32) (by omega) ho, ?_⟩
  rw [List.length_map]
  unfold confB
  by_cases h6 : (splitL 32 l).length = 6
  · obtain ⟨w0, w1, w2, w3, w4, w5, hw⟩ : ∃ w0 w1 w2 w3 w4 w5, splitL 32 l = [w0, w1, w2, w3, w4, w5] := by
      match splitL 32 l, h6 with
      | [w0, w1, w2, w3, w4, w5], _ => exact ⟨_, _, _, _, _, _, rfl⟩
    rw [hw] at hsub ⊢
    have hs : ∀ w ∈ [w0, w1, w2, w3, w4, w5], w.length < 1000000000 ∧ Oct w := fun w hm => by
      have := hsub w hm
      exact ⟨by omega, fun x hx => ho x (this.2 x hx)⟩
    rw [if_neg (by simp)]
    refine ⟨bstr w0, idx_at (k := 0) rfl rfl, ?_⟩
    unfold ref21_Parse_j1
    simp only
    by_cases h0 : w0 = linkL
    · rw [if_pos h0, h0, decide_eq_true (show bstr linkL = bstr [108, 105, 110, 107] from rfl), if_neg (by decide)]
      obtain ⟨q1, q2, q3, q4, q5⟩ : (w1.length < 1000000000 ∧ Oct w1) ∧ (w2.length < 1000000000 ∧ Oct w2) ∧ (w3.length < 1000000000 ∧ Oct w3) ∧ (w4.length < 1000000000 ∧ Oct w4) ∧ (w5.length < 1000000000 ∧ Oct w5) := ⟨hs w1 (by simp), hs w2 (by simp), hs w3 (by simp), hs w4 (by simp), hs w5 (by simp)⟩
      unfold numsB
      by_cases h1 : (rdB w1).2 = 0
      · rw [if_neg (by simpa using h1)]
        have g1 := rs_go (P := [w0, w1, w2, w3, w4, w5].map bstr) (a := 0) (b := 0) (c := 0) (d := 0) (f := 0) 0 (by decide) (w := w1) rfl q1.1 q1.2 h1 (put5_0 _)
        by_cases h2 : (rdB w2).2 = 0
        · rw [if_neg (by simpa using h2)]
          have g2 := rs_go (P := [w0, w1, w2, w3, w4, w5].map bstr) (a := (rdB w1).1) (b := 0) (c := 0) (d := 0) (f := 0) 1 (by decide) (w := w2) rfl q2.1 q2.2 h2 (put5_1 _)
          by_cases h3 : (rdB w3).2 = 0
          · rw [if_neg (by simpa using h3)]
            have g3 := rs_go (P := [w0, w1, w2, w3, w4, w5].map bstr) (a := (rdB w1).1) (b := (rdB w2).1) (c := 0) (d := 0) (f := 0) 2 (by decide) (w := w3) rfl q3.1 q3.2 h3 (put5_2 _)
            by_cases h4 : (rdB w4).2 = 0
            · rw [if_neg (by simpa using h4)]
              have g4 := rs_go (P := [w0, w1, w2, w3, w4, w5].map bstr) (a := (rdB w1).1) (b := (rdB w2).1) (c := (rdB w3).1) (d := 0) (f := 0) 3 (by decide) (w := w4) rfl q4.1 q4.2 h4 (put5_3 _)
              by_cases h5 : (rdB w5).2 = 0
              · rw [if_neg (by simpa using h5)]
                have g5 := rs_go (P := [w0, w1, w2, w3, w4, w5].map bstr) (a := (rdB w1).1) (b := (rdB w2).1) (c := (rdB w3).1) (d := (rdB w4).1) (f := 0) 4 (by decide) (w := w5) rfl q5.1 q5.2 h5 (put5_4 _)
                exact ⟨_, .next g1 (.next g2 (.next g3 (.next g4 (.next g5 (.done rs_end))))), rj2_ok⟩
              · rw [if_pos (by simpa using h5)]
                exact ⟨_, .next g1 (.next g2 (.next g3 (.next g4 (.done (rs_no 4 (by decide) (w := w5) rfl q5.1 q5.2 h5))))), rfl⟩
            · rw [if_pos (by simpa using h4)]
              exact ⟨_, .next g1 (.next g2 (.next g3 (.done (rs_no 3 (by decide) (w := w4) rfl q4.1 q4.2 h4)))), rfl⟩
          · rw [if_pos (by simpa using h3)]
            exact ⟨_, .next g1 (.next g2 (.done (rs_no 2 (by decide) (w := w3) rfl q3.1 q3.2 h3))), rfl⟩
        · rw [if_pos (by simpa using h2)]
          exact ⟨_, .next g1 (.done (rs_no 1 (by decide) (w := w2) rfl q2.1 q2.2 h2)), rfl⟩
      · rw [if_pos (by simpa using h1)]
        exact ⟨_, .done (rs_no 0 (by decide) (w := w1) rfl q1.1 q1.2 h1), rfl⟩
    · rw [if_neg h0, if_pos]
      · rfl
      · rw [decide_eq_false (show ¬ bstr w0 = bstr [108, 105, 110, 107] from fun e => h0 (bs_inj (b := linkL) (hs w0 (by simp)).2 (by unfold Oct linkL; decide) e))]; rfl
  · rw [if_pos (by rw [decide_eq_false (by omega)]; rfl)]
    unfold ref21_Parse_j1
    rw [if_pos rfl]
    match hq : splitL 32 l with
    | [w0, w1, w2, w3, w4, w5] => rw [hq] at h6; exact absurd rfl h6
    | [] | [_] | [_, _] | [_, _, _] | [_, _, _, _] | [_, _, _, _, _] => rfl
    | _ :: _ :: _ :: _ :: _ :: _ :: _ :: _ => rfl
/-! ### To and fro -/
theorem noC_ne {e : Int} (h : e ≠ 0) {s : Int × Int × Int} {r : Int × Int} : noC e ≠ (s, r, 0) := fun q => by
  unfold noC at q
  simp only [Prod.mk.injEq] at q
  exact h q.2.2
theorem rd_ne0 {w : List Int} (h : ¬ (rdB w).2 = 0) : (rdB w).2 ≠ 0 := h
theorem endC_back {a b c d f : Int} {s : Int × Int × Int} {r : Int × Int} (h : endC a b c d f = (s, r, 0)) : s = (a, b, c) ∧ r = (d, f) ∧ (0 ≤ c ∧ c ≤ 4294967295) ∧ (0 ≤ d ∧ d ≤ 4294967295) ∧ sndB s = 0 ∧ rcvB r = 0 := by
  unfold endC at h
  split at h
  · exact absurd h (noC_ne (by decide))
  · rename_i h1
    split at h
    · rename_i h2; exact absurd h (noC_ne h2)
    · rename_i h2
      split at h
      · rename_i h3; exact absurd h (noC_ne h3)
      · rename_i h3
        simp only [Prod.mk.injEq, and_true] at h
        obtain ⟨h4, h5⟩ := h
        subst h4 h5
        simp only [ne_eq, Decidable.not_not] at h2 h3
        exact ⟨rfl, rfl, by omega, by omega, h2, h3⟩
theorem confB_back {l : List Int} {s : Int × Int × Int} {r : Int × Int} (h : confB l = (s, r, 0)) : SOk s r ∧ sndB s = 0 ∧ rcvB r = 0 ∧ lineC s r = l := by
  unfold confB at h
  split at h
  · rename_i w0 w1 w2 w3 w4 w5 hq
    split at h
    · rename_i h0
      subst h0
      unfold numsB at h
      split at h
      · rename_i q; exact absurd h (noC_ne q)
      split at h
      · rename_i q; exact absurd h (noC_ne q)
      split at h
      · rename_i q; exact absurd h (noC_ne q)
      split at h
      · rename_i q; exact absurd h (noC_ne q)
      split at h
      · rename_i q; exact absurd h (noC_ne q)
      rename_i h1 h2 h3 h4 h5
      simp only [ne_eq, Decidable.not_not] at h1 h2 h3 h4 h5
      obtain ⟨rfl, rfl, ha, hb, hs, hr⟩ := endC_back h
      obtain ⟨e1, o1⟩ := rdB_back (l := w1) (n := (rdB w1).1) (by rw [← h1])
      obtain ⟨e2, o2⟩ := rdB_back (l := w2) (n := (rdB w2).1) (by rw [← h2])
      obtain ⟨e3, o3⟩ := rdB_back (l := w3) (n := (rdB w3).1) (by rw [← h3])
      obtain ⟨e4, o4⟩ := rdB_back (l := w4) (n := (rdB w4).1) (by rw [← h4])
      obtain ⟨e5, o5⟩ := rdB_back (l := w5) (n := (rdB w5).1) (by rw [← h5])
      refine ⟨⟨o1, o2, ha, hb, o5⟩, hs, hr, ?_⟩
      rw [spl_join hq]
      simp [lineC, numsC, e1, e2, e3, e4, e5]
    · exact absurd h (noC_ne (by decide))
  · exact absurd h (noC_ne (by decide))
theorem confB_fwd {s : Int × Int × Int} {r : Int × Int} (h : SOk s r) (hs : sndB s = 0) (hr : rcvB r = 0) : confB (lineC s r) = (s, r, 0) := by
  have hno : ∀ n : Int, (32 : Int) ∉ decI n := fun n => decI_no (by decide) (by decide) n
  have hw : splitL 32 (lineC s r) = linkL :: [decI s.1, decI s.2.1, decI s.2.2, decI r.1, decI r.2] := by
    rw [← spl_words (c := 32) (w0 := linkL) (ws := [decI s.1, decI s.2.1, decI s.2.2, decI r.1, decI r.2]) (by decide) (fun w hw => by
      simp only [List.mem_cons, List.not_mem_nil, or_false] at hw
      rcases hw with rfl | rfl | rfl | rfl | rfl <;> exact hno _)]
    simp [lineC, numsC]
  unfold confB
  rw [hw]
  simp only
  have ha := h.a
  have hb := h.b
  rw [if_pos trivial]
  unfold numsB
  simp only [rdB_dec h.v, rdB_dec h.m, rdB_dec (i64_of h.a), rdB_dec (i64_of h.b), rdB_dec h.n]
  rw [if_neg (by decide), if_neg (by decide), if_neg (by decide), if_neg (by decide), if_neg (by decide)]
  unfold endC
  rw [if_neg (by omega), if_neg (by simpa using hs), if_neg (by simpa using hr)]
theorem confB_nil : confB [] = noC 3 := rfl
theorem lineC_byt (s : Int × Int × Int) (r : Int × Int) : Oct (lineC s r) := by
  have hd : ∀ n : Int, Oct (32 :: decI n) := fun n x hx => by
    rcases List.mem_cons.1 hx with rfl | hx
    · decide
    · rcases decI_signs n x hx with h | h <;> omega
  intro x hx
  rcases List.mem_append.1 hx with hx | hx
  · have : Oct linkL := by unfold Oct linkL; decide
    exact this x hx
  · obtain ⟨n, _, hx⟩ := List.mem_flatMap.1 hx
    exact hd n x hx
theorem lineC_len {s : Int × Int × Int} {r : Int × Int} (h : SOk s r) : (lineC s r).length ≤ 120 := by
  have l1 := decI_len h.v
  have l2 := decI_len h.m
  have l3 := decI_len (i64_of h.a)
  have l4 := decI_len (i64_of h.b)
  have l5 := decI_len h.n
  simp [lineC, linkL, numsC]; omega
end Go.Rel
/-! Plain laws: what settings let. -/
namespace Go.Rel
open Go Go.Eng Go.Pl
theorem sndB_zero {s : Int × Int × Int} (h : sndB s = 0) : (s.1 = 1 ∨ s.1 = 2) ∧ 16 ≤ s.2.1 ∧ s.2.1 ≤ 257 := by
  unfold sndB at h
  split at h
  · omega
  · split at h <;> omega
theorem rcvB_zero {r : Int × Int} (h : rcvB r = 0) : 1 ≤ r.2 ∧ r.2 ≤ 16 := by
  unfold rcvB at h
  split at h <;> omega
def roomC (s : Int × Int × Int) : Int := if sndB s = 0 then s.2.1 - 15 else 0
theorem croomC_ok (s : Int × Int × Int) : conf_Room s (roomC s) := by
  refine ⟨_, csnd_ok s, ?_⟩
  unfold roomC
  by_cases h : sndB s = 0
  · obtain ⟨_, h1, h2⟩ := sndB_zero h
    rw [if_neg (by simpa using h), if_pos h]
    refine ⟨_, room_ok (by omega), ?_⟩
    unfold roomB
    rw [if_neg (by omega)]; omega
  · rw [if_pos (by simpa using h), if_neg h]
theorem rroomC_ok (s : Int × Int × Int) : ref21_Room s (roomC s) := by
  refine ⟨_, rsnd_ok s, ?_⟩
  unfold roomC
  by_cases h : sndB s = 0
  · obtain ⟨_, h1, h2⟩ := sndB_zero h
    rw [if_neg (by simpa using h), if_pos h, w_small (by omega) (by omega)]
  · rw [if_pos (by simpa using h), if_neg h]
def framesC (s : Int × Int × Int) (n : Int) : Int := if sndB s = 0 ∧ 1 ≤ n ∧ n ≤ 192 then (n - 1) / (s.2.1 - 15) + 1 else 0
theorem cframes_ok (s : Int × Int × Int) (n : Int) : conf_Frames s n (framesC s n) := by
  unfold conf_Frames conf_Frames_j1 framesC
  by_cases h1 : n < 1
  · rw [if_pos (by simpa using h1), if_pos rfl, if_neg (by omega)]
  · rw [if_neg (by simpa using h1)]
    by_cases h2 : 192 < n
    · rw [if_pos (by simpa using h2), if_neg (by omega)]
    · rw [if_neg (by simpa using h2)]
      refine ⟨_, croomC_ok s, _, ?_, rfl⟩
      unfold cut_Count roomC
      by_cases h : sndB s = 0
      · obtain ⟨_, h3, h4⟩ := sndB_zero h
        have hd : 0 ≤ (n - 1) / (s.2.1 - 15) ∧ (n - 1) / (s.2.1 - 15) ≤ n - 1 := ⟨Int.ediv_nonneg (by omega) (by omega), Int.ediv_le_self _ (by omega)⟩
        rw [if_pos h, if_neg (by rw [decide_eq_true_eq]; omega), if_neg (by simpa using h1), if_pos ⟨h, by omega, by omega⟩]
        refine ⟨by omega, ?_⟩
        rw [w_small (n := n - 1) (by omega) (by omega), Int.tdiv_eq_ediv_of_nonneg (by omega), w_small (n := (n - 1) / (s.2.1 - 15)) (by omega) (by omega), w_small (by omega) (by omega)]
      · rw [if_neg h, if_pos (by decide), if_neg (fun q => h q.1)]
theorem div_step {n R : Int} (hR : 1 ≤ R) : (n - 1) / R = (n - R - 1) / R + 1 := by
  have h := Int.add_mul_ediv_left (n - R - 1) 1 (b := R) (by omega)
  rw [← h]; congr 1; omega
def partsC (R n : Int) : Int := if 0 < n then (n - 1) / R + 1 else 0
theorem partsC_step {R n : Int} (hR : 1 ≤ R) (hn : 0 < n) : partsC R n = 1 + partsC R (n - R) := by
  unfold partsC
  rw [if_pos hn, div_step hR]
  by_cases hq : 0 < n - R
  · rw [if_pos hq]; omega
  · rw [if_neg hq]
    by_cases h0 : n - R = 0
    · rw [show n - R - 1 = -1 by omega]
      have := Int.neg_one_ediv (b := R)
      have h2 : (-1 : Int) / R = -1 := by
        rw [show (-1 : Int) = -(1 : Int) from rfl]
        have h3 := Int.add_mul_ediv_left (R - 1) (-1) (b := R) (by omega)
        rw [show R - 1 + R * -1 = -1 by omega, Int.ediv_eq_zero_of_lt (a := R - 1) (by omega) (by omega)] at h3
        omega
      omega
    · have h3 := Int.add_mul_ediv_left (n - 1) (-1) (b := R) (by omega)
      rw [show n - 1 + R * -1 = n - R - 1 by omega, Int.ediv_eq_zero_of_lt (a := n - 1) (by omega) (by omega)] at h3
      omega
theorem partsC_rng {R n : Int} (hR : 1 ≤ R) (h0 : 0 ≤ n) : 0 ≤ partsC R n ∧ partsC R n ≤ n := by
  unfold partsC
  split
  · have : 0 ≤ (n - 1) / R ∧ (n - 1) / R ≤ n - 1 := ⟨Int.ediv_nonneg (by omega) (by omega), Int.ediv_le_self _ (by omega)⟩
    omega
  · omega
theorem rf_loop {s : Int × Int × Int} (h : sndB s = 0) : ∀ (k : Nat) (n c : Int), n ≤ k → -300 ≤ n → c + n ≤ 192 → 0 ≤ c → Loops (ref21_Frames_l3 s) (n, c) (c + partsC (s.2.1 - 15) n)
  | k, n, c, hk, hn, h0, h1 => by
    obtain ⟨_, h3, h4⟩ := sndB_zero h
    by_cases hp : 0 < n
    · match k, hk with
      | 0, hk => omega
      | k + 1, hk =>
        have hr : roomC s = s.2.1 - 15 := by unfold roomC; rw [if_pos h]
        rw [partsC_step (by omega) hp]
        refine .next (s' := (n - (s.2.1 - 15), c + 1)) ?_ ?_
        · unfold ref21_Frames_l3
          rw [if_pos (by simpa using hp)]
          refine ⟨_, rroomC_ok s, ?_⟩
          simp only
          rw [hr, w_small (n := n - (s.2.1 - 15)) (by omega) (by omega), w_small (by omega) (by omega)]
        · have ih := rf_loop h k (n - (s.2.1 - 15)) (c + 1) (by omega) (by omega) (by omega) (by omega)
          rw [← Int.add_assoc]; exact ih
    · rw [show partsC (s.2.1 - 15) n = 0 from if_neg hp, Int.add_zero]
      refine .done ?_
      unfold ref21_Frames_l3
      rw [if_neg (by simpa using hp)]
theorem framesC_eq {s : Int × Int × Int} {n : Int} : framesC s n = if sndB s = 0 ∧ 1 ≤ n ∧ n ≤ 192 then partsC (s.2.1 - 15) n else 0 := by
  unfold framesC partsC
  split
  · rw [if_pos (by omega)]
  · rfl
theorem rframes_ok (s : Int × Int × Int) (n : Int) : ref21_Frames s n (framesC s n) := by
  rw [framesC_eq]
  refine ⟨_, rsnd_ok s, ?_⟩
  unfold ref21_Frames_j1
  by_cases h : sndB s = 0
  · rw [if_neg (by simpa using h)]
    by_cases h1 : n < 1
    · rw [if_pos (by simpa using h1), if_pos rfl, if_neg (by omega)]
    · rw [if_neg (by simpa using h1)]
      by_cases h2 : 192 < n
      · rw [if_pos (by simpa using h2), if_neg (by omega)]
      · rw [if_neg (by simpa using h2), if_pos ⟨h, by omega, by omega⟩]
        have := rf_loop h 192 n 0 (by omega) (by omega) (by omega) (by omega)
        rw [Int.zero_add] at this
        exact ⟨_, this, rfl⟩
  · rw [if_pos (by simpa using h), if_pos rfl, if_neg (fun q => h q.1)]
theorem cb_loop {R : Int} (h1 : 1 ≤ R) (h2 : R ≤ 242) : ∀ (k : Nat) (n sum : Int), n ≤ k → 0 ≤ n → n ≤ 192 → 0 ≤ sum → sum + 16 * n ≤ 100000 → Loops (conf_Bytes_l2 R) (n, sum, partsC R n) (sum + n + 15 * partsC R n)
  | k, n, sum, hk, h0, hn, hs, hb => by
    have hr := partsC_rng h1 h0
    by_cases hp : 0 < n
    · match k, hk with
      | 0, hk => omega
      | k + 1, hk =>
        have hstep := partsC_step h1 hp
        by_cases hle : n ≤ R
        · have hz : partsC R (n - R) = 0 := if_neg (by omega)
          rw [hstep, hz]
          refine .next (s' := (0, sum + n + 15, 0)) ?_ (.done ?_)
          · unfold conf_Bytes_l2
            simp only
            rw [if_pos (by simp), show min n R = n by omega]
            refine ⟨_, wire_ok n, ?_⟩
            unfold wireB
            rw [if_neg (by omega), w_small (n := n - n) (by omega) (by omega), w_small (n := sum + (n + 15)) (by omega) (by omega), w_small (by omega) (by omega)]
            rw [show n - n = 0 by omega, show sum + (n + 15) = sum + n + 15 by omega]; rfl
          · unfold conf_Bytes_l2
            rw [if_neg (by simp)]
            simp only
            congr 1
        · rw [hstep]
          have hr2 := partsC_rng (R := R) (n := n - R) h1 (by omega)
          refine .next (s' := (n - R, sum + R + 15, partsC R (n - R))) ?_ ?_
          · unfold conf_Bytes_l2
            simp only
            rw [if_pos (by rw [decide_eq_true_eq]; omega), show min n R = R by omega]
            refine ⟨_, wire_ok R, ?_⟩
            unfold wireB
            rw [if_neg (by omega), w_small (n := n - R) (by omega) (by omega), w_small (n := sum + (R + 15)) (by omega) (by omega), w_small (by omega) (by omega)]
            congr 2
            rw [show sum + (R + 15) = sum + R + 15 by omega, show 1 + partsC R (n - R) - 1 = partsC R (n - R) by omega]
          · have ih := cb_loop h1 h2 k (n - R) (sum + R + 15) (by omega) (by omega) (by omega) (by omega) (by omega)
            rw [show sum + n + 15 * (1 + partsC R (n - R)) = sum + R + 15 + (n - R) + 15 * partsC R (n - R) by omega]
            exact ih
    · have hz : partsC R n = 0 := if_neg hp
      rw [hz]
      refine .done ?_
      unfold conf_Bytes_l2
      rw [if_neg (by simp)]
      simp only
      congr 1; omega
theorem cbytes_ok (s : Int × Int × Int) (n : Int) : conf_Bytes s n (if 0 < framesC s n then n + 15 * framesC s n else 0) := by
  refine ⟨_, croomC_ok s, _, cframes_ok s n, ?_⟩
  rw [framesC_eq]
  by_cases h : sndB s = 0 ∧ 1 ≤ n ∧ n ≤ 192
  · obtain ⟨hs, h1, h2⟩ := h
    obtain ⟨_, h3, h4⟩ := sndB_zero hs
    rw [if_pos ⟨hs, h1, h2⟩, if_pos]
    · have hr : roomC s = s.2.1 - 15 := by unfold roomC; rw [if_pos hs]
      rw [hr]
      have := cb_loop (R := s.2.1 - 15) (by omega) (by omega) 192 n 0 (by omega) (by omega) (by omega) (by omega) (by omega)
      rw [Int.zero_add] at this
      exact ⟨_, this, rfl⟩
    · rw [partsC_step (by omega) (by omega)]
      unfold partsC
      split
      · have : 0 ≤ (n - (s.2.1 - 15) - 1) / (s.2.1 - 15) := Int.ediv_nonneg (by omega) (by omega)
        omega
      · omega
  · rw [if_neg h, if_neg (by decide)]
    refine ⟨0, .done ?_, rfl⟩
    unfold conf_Bytes_l2
    rw [if_neg (by simp)]
theorem cbound_ok {r : Int × Int} : conf_Bound r (if rcvB r = 0 then 255 + 192 * r.2 else 0) := by
  refine ⟨_, crcv_ok r, ?_⟩
  by_cases h : rcvB r = 0
  · have := rcvB_zero h
    rw [if_neg (by simpa using h), if_pos h, w_small (n := r.2 * 192) (by omega) (by omega), w_small (by omega) (by omega)]
    omega
  · rw [if_pos (by simpa using h), if_neg h]
theorem known21c_ok : law21_known true := by
  have hS : SOk (2, 64, 10) (10, 4) := ⟨⟨by decide, by decide⟩, ⟨by decide, by decide⟩, by decide, by decide, ⟨by decide, by decide⟩⟩
  have hl := cline_ok hS
  rw [if_pos (by decide)] at hl
  refine ⟨_, hl, ?_⟩
  rw [if_pos (by decide)]
  refine ⟨_, croomC_ok _, ?_⟩
  rw [if_pos (by decide)]
  exact ⟨_, cframes_ok _ _, by show true = _; decide⟩
theorem confParses_true {s : ByteArray} : law21_ConfParses s true := by
  have h200 := ext_min s 200
  rw [show ((200 : Nat) : Int) = 200 from rfl] at h200
  have hsz : (s.extract 0 200).size ≤ 200 := by rw [ByteArray.size_extract]; omega
  unfold law21_ConfParses
  rw [h200]
  refine ⟨by omega, by omega, ?_⟩
  generalize s.extract 0 200 = t at hsz
  obtain ⟨l, rfl, ho⟩ : ∃ l, t = bstr l ∧ Oct l := ⟨bints t, (bstr_bints t).symm, bints_byt t⟩
  rw [size_bstr] at hsz
  refine ⟨_, cparse_ok (l := l) (by omega) ho, _, cfparse_ok (l := l) (by omega) ho, true, known21c_ok, ?_⟩
  rw [if_pos rfl, if_pos (by simp), if_pos (by simp), if_pos (by simp)]
  by_cases h : (confB l).2.2 = 0
  · rw [if_neg (by simpa using h)]
    obtain ⟨h1, h2, h3, h4⟩ := confB_back (l := l) (s := (confB l).1) (r := (confB l).2.1) (by rw [← h])
    refine ⟨_, cline_ok h1, ?_⟩
    rw [if_pos ⟨h2, h3⟩, h4]
    show true = _
    simp
  · rw [if_pos (by simpa using h)]; rfl
theorem confParses_claim {s : ByteArray} (_h : StrOk s) : law21_ConfParses s true := confParses_true
theorem confTells_true {s : Int × Int × Int} {r : Int × Int} {n : Int} (h : SOk s r) : law21_ConfTells s r n true := by
  have hj2 : law21_ConfTells_j2 s r n (sndB s) (rcvB r) (framesC s n) (if 0 < framesC s n then n + 15 * framesC s n else 0) (if rcvB r = 0 then 255 + 192 * r.2 else 0) true := by
    refine ⟨_, cline_ok h, _, csnd_ok s, _, fun _ => crcv_ok r, _, fun _ => croomC_ok s, _, fun _ => rroomC_ok s, _, fun _ => cframes_ok s n, _, fun _ => cbytes_ok s n, _, fun _ => cbound_ok, _, fun _ => cfrline_ok h, ?_⟩
    rw [if_neg (by simp)]
    by_cases h1 : sndB s = 0 ∧ rcvB r = 0
    · rw [if_pos h1]
      have hp := cparse_ok (l := lineC s r) (by have := lineC_len h; omega) (lineC_byt s r)
      rw [confB_fwd h h1.1 h1.2] at hp
      refine ⟨_, hp, ?_⟩
      rw [if_neg (by simp [h1.1]), show (!(decide (rcvB r = 0))) = false by rw [decide_eq_true h1.2]; rfl]
      unfold law21_ConfTells_j3
      rw [if_neg (by decide)]
      refine ⟨true, known21c_ok, ?_⟩
      rw [if_pos rfl, if_pos (by simp), if_pos (by simp)]
      show true = _
      simp
    · rw [if_neg h1]
      have hp := cparse_ok (l := []) (by decide) (by unfold Oct; simp)
      rw [confB_nil] at hp
      refine ⟨_, hp, ?_⟩
      have j3 : law21_ConfTells_j3 s r (noC 3) true true := by
        unfold law21_ConfTells_j3
        rw [if_pos rfl]
        refine ⟨true, known21c_ok, ?_⟩
        rw [if_pos rfl]
        rfl
      by_cases h2 : sndB s = 0
      · rw [if_neg (by simpa using h2), show (!(decide (rcvB r = 0))) = true by rw [decide_eq_false (fun q => h1 ⟨h2, q⟩)]; rfl]
        exact j3
      · rw [if_pos (by simpa using h2)]; exact j3
  refine ⟨_, rsnd_ok s, _, rrcv_ok r, _, rframes_ok s n, ?_⟩
  have hj1 : law21_ConfTells_j1 s r n (sndB s) (rcvB r) (framesC s n) (if 0 < framesC s n then n + 15 * framesC s n else 0) true := by
    unfold law21_ConfTells_j1
    by_cases h1 : rcvB r = 0
    · have hr := rcvB_zero h1
      rw [if_pos (by simpa using h1), w_small (n := 192 * r.2) (by omega) (by omega), w_small (by omega) (by omega)]
      rw [if_pos h1] at hj2; exact hj2
    · rw [if_neg (by simpa using h1)]
      rw [if_neg h1] at hj2; exact hj2
  by_cases h0 : 0 < framesC s n
  · have hf : framesC s n ≤ 192 ∧ 1 ≤ n ∧ n ≤ 192 := by
      rw [framesC_eq] at h0 ⊢
      split at h0
      · rename_i q
        rw [if_pos q]
        obtain ⟨_, h3, h4⟩ := sndB_zero q.1
        have := partsC_rng (R := s.2.1 - 15) (n := n) (by omega) (by omega)
        omega
      · omega
    rw [if_pos (by simpa using h0), w_small (n := 15 * framesC s n) (by omega) (by omega), w_small (by omega) (by omega)]
    rw [if_pos h0] at hj1; exact hj1
  · rw [if_neg (by simpa using h0)]
    rw [if_neg h0] at hj1; exact hj1
theorem confTells_claim {s : Int × Int × Int} {r : Int × Int} {n : Int} (h0 : IntOk .i64 s.1 ∧ IntOk .i64 s.2.1 ∧ IntOk .u32 s.2.2) (h1 : IntOk .u32 r.1 ∧ IntOk .i64 r.2) (_h2 : IntOk .i64 n) : law21_ConfTells s r n true := by
  have a := ok_u32 h0.2.2
  have b := ok_u32 h1.1
  exact confTells_true ⟨h0.1, h0.2.1, by omega, by omega, h1.2⟩
end Go.Rel
