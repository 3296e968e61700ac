import Derived.Test.YtgokdchgjpneoaaDoorPlLens
import Derived.Test.YtgokdchgjpneoaaDoorPlHead
/-! Plain laws: the head of bytes. -/
namespace Go.Rel
open Go Go.Eng Go.Pl
/-! ### heads -/
def hdOf (l : List Int) : Hd := (l.getD 0 0, l.getD 1 0, leV ((l.drop 2).take 4), l.getD 6 0, l.getD 7 0)
def parseH (l : List Int) : Hd × Int := if headE (hdOf l) = 0 then (hdOf l, 0) else ((0, 0, 0, 0, 0), headE (hdOf l))
theorem one_at {l : List Int} {k : Nat} (h : k < l.length) : leV ((l.drop k).take 1) = l.getD k 0 := by
  rw [List.drop_eq_getElem_cons h, List.getD_eq_getElem?_getD, List.getElem?_eq_getElem h]
  simp only [List.take_succ_cons, List.take_zero, leV, Option.getD_some]; omega
theorem getD_byt {l : List Int} (hl : Byt l) {k : Nat} (h : k < l.length) : 0 ≤ l.getD k 0 ∧ l.getD k 0 < 256 := by
  rw [List.getD_eq_getElem?_getD, List.getElem?_eq_getElem h]; exact byt_at hl h
theorem lu8_ok {b : List Int} (hb : Byt b) (hlen : b.length < 4611686018427387904) {k : Nat} (h : k < b.length) : lens_Lens_U8 (b, (k : Int), 0) (b.getD k 0, (b, ((k + 1 : Nat) : Int), 0)) := by
  refine ⟨_, lword_ok hb hlen (n := 1) (by omega) (by omega), ?_⟩
  have := getD_byt hb h
  rw [one_at h, w_u8]
  congr 1; simp only; omega
theorem hparse_ok {l : List Int} (hl : Byt l) (h8 : l.length = 8) : head_Parse l (parseH l) := by
  unfold head_Parse
  rw [if_neg (by simp [h8])]
  have v4 := leV_bound ((l.drop 2).take 4) ((hl.drop 2).take 4)
  refine ⟨_, lnew_ok (by omega), _, lu8_ok hl (by omega) (k := 0) (by omega), _, lu8_ok hl (by omega) (k := 1) (by omega), _, ⟨_, lword_ok hl (by omega) (at_ := 2) (n := 4) (by omega) (by omega), rfl⟩, _, lu8_ok hl (by omega) (k := 6) (by omega), _, lu8_ok hl (by omega) (k := 7) (by omega), 0, ?_, ?_⟩
  · refine ⟨0, rfl, ?_⟩
    rw [if_neg (by decide)]
    refine ⟨_, ⟨_, left_ok (at_ := 8) (by omega), rfl⟩, ?_⟩
    unfold lens_Lens_End_j1
    rw [List.drop_eq_nil_of_le (by omega), if_pos (by decide)]
  · rw [if_pos (by decide)]
    have g : ∀ k, k < 8 → IntKind.i64.wrap (l.getD k 0) = l.getD k 0 := fun k hk => by
      have := getD_byt hl (show k < l.length by omega)
      rw [w_small (by omega) (by omega)]
    simp only
    rw [g 0 (by omega), g 1 (by omega), g 6 (by omega), g 7 (by omega)]
    refine ⟨_, hcheck_ok _, ?_⟩
    unfold head_Parse_j1 parseH
    simp only
    rw [g 0 (by omega), g 1 (by omega), g 6 (by omega), g 7 (by omega)]
    by_cases he : headE (hdOf l) = 0
    · rw [if_pos he, if_neg (by simp; exact he)]; rfl
    · rw [if_neg he, if_pos (by simp; exact he)]; rfl
theorem rhcheck_ok (h : Hd) : ref07_Check h (headE h) := by
  obtain ⟨v, k, q, i, n⟩ := h
  have j3 : ∀ b : Bool, b = decide (¬ (1 ≤ n ∧ n ≤ 255 ∧ 0 ≤ i ∧ i < n)) → ref07_Check_j3 b (if ¬ (1 ≤ n ∧ n ≤ 255 ∧ 0 ≤ i ∧ i < n) then 3 else 0) := by
    rintro b rfl
    unfold ref07_Check_j3
    by_cases h : ¬ (1 ≤ n ∧ n ≤ 255 ∧ 0 ≤ i ∧ i < n)
    · rw [decide_eq_true h, if_pos rfl, if_pos h]
    · rw [decide_eq_false h, if_neg (by decide), if_neg h]
  have j2 : ∀ b : Bool, b = decide (¬ (1 ≤ k ∧ k ≤ 5)) → ref07_Check_j2 (v, k, q, i, n) b (if ¬ (1 ≤ k ∧ k ≤ 5) then 9 else if ¬ (1 ≤ n ∧ n ≤ 255 ∧ 0 ≤ i ∧ i < n) then 3 else 0) := by
    rintro b rfl
    unfold ref07_Check_j2
    by_cases h : ¬ (1 ≤ k ∧ k ≤ 5)
    · rw [decide_eq_true h, if_pos rfl, if_pos h]
    · rw [decide_eq_false h, if_neg (by decide), if_neg h]
      simp only
      by_cases h1 : n < 1
      · rw [if_pos (by simpa using h1)]; exact j3 _ (by rw [decide_eq_true]; omega)
      · rw [if_neg (by simpa using h1)]
        by_cases h2 : 255 < n
        · rw [if_pos (by simpa using h2)]; exact j3 _ (by rw [decide_eq_true]; omega)
        · rw [if_neg (by simpa using h2)]
          by_cases h3 : i < 0
          · rw [if_pos (by simpa using h3)]; exact j3 _ (by rw [decide_eq_true]; omega)
          · rw [if_neg (by simpa using h3)]; exact j3 _ (by rw [decide_eq_decide]; omega)
  have j1 : ∀ b : Bool, b = decide (¬ (1 ≤ v ∧ v ≤ 2)) → ref07_Check_j1 (v, k, q, i, n) b (headE (v, k, q, i, n)) := by
    rintro b rfl
    unfold ref07_Check_j1 headE
    simp only
    by_cases h : ¬ (1 ≤ v ∧ v ≤ 2)
    · rw [decide_eq_true h, if_pos rfl, if_pos h]
    · rw [decide_eq_false h, if_neg (by decide), if_neg h]
      by_cases h1 : k < 1
      · rw [if_pos (by simpa using h1)]; exact j2 _ (by rw [decide_eq_true]; omega)
      · rw [if_neg (by simpa using h1)]; exact j2 _ (by rw [decide_eq_decide]; omega)
  unfold ref07_Check
  simp only
  by_cases h : v = 1
  · rw [if_neg (by simp [h])]; exact j1 _ (by rw [decide_eq_false]; omega)
  · rw [if_pos (by simp [h])]
    refine j1 _ ?_
    by_cases h2 : v = 2
    · rw [h2]; simp
    · rw [decide_eq_false h2, decide_eq_true (by omega)]; rfl
theorem rhparse_ok {l : List Int} (hl : Byt l) (h8 : l.length = 8) : ref07_Parse l (parseH l) := by
  unfold ref07_Parse
  rw [if_neg (by simp [h8]), if_neg (by simp [h8])]
  have ht4 : Byt ((l.drop 2).take 4) := (hl.drop 2).take 4
  have hl4 : ((l.drop 2).take 4).length = 4 := by rw [List.length_take, List.length_drop]; omega
  refine ⟨leV ((l.drop 2).take 4), ?_, ?_⟩
  · have := loops_count (step := ref07_Parse_l2 l) (fun k => (leV (((l.drop 2).take 4).drop (4 - k)), 5 - (k : Int))) 4 (e := leV ((l.drop 2).take 4)) (fun k hk => ?_) ?_
    · have e0 : leV (((l.drop 2).take 4).drop 4) = 0 := by rw [List.drop_eq_nil_of_le (by omega)]; rfl
      simpa [e0, leV] using this
    · unfold ref07_Parse_l2
      have hc := byt_at ht4 (show 3 - k < ((l.drop 2).take 4).length by omega)
      have hv := leV_bound (((l.drop 2).take 4).drop (4 - k)) (ht4.drop _)
      have hp2 : 256 ^ (((l.drop 2).take 4).drop (4 - k)).length ≤ 256 ^ 3 := Nat.pow_le_pow_right (by omega) (by rw [List.length_drop]; omega)
      simp only
      rw [if_pos (by simp; omega)]
      refine ⟨((l.drop 2).take 4)[3 - k]'(by omega), idx_at (k := 5 - k) (by omega) ?_, ?_⟩
      · rw [List.getElem_take, List.getElem_drop, List.getElem?_eq_getElem (by omega)]
        congr 2; omega
      · rw [w32_small (n := 256 * _) (by omega) (by omega), w32_small (n := ((l.drop 2).take 4)[3 - k]'(by omega)) (by omega) (by omega), w32_small (by omega) (by omega), w_small (by omega) (by omega), show 4 - (k + 1) = 3 - k by omega, leV_drop (show 3 - k < ((l.drop 2).take 4).length by omega), show 3 - k + 1 = 4 - k by omega]
        congr 2 <;> omega
    · unfold ref07_Parse_l2
      rw [if_neg (by simp)]; simp
  · have g : ∀ k (hk : k < 8), l.getD k 0 = l[k]'(by omega) := fun k hk => by rw [List.getD_eq_getElem?_getD, List.getElem?_eq_getElem (by omega)]; rfl
    have wg : ∀ k (hk : k < 8), IntKind.i64.wrap (l[k]'(by omega)) = l.getD k 0 := fun k hk => by
      have := byt_at hl (show k < l.length by omega)
      rw [g k hk, w_small (by omega) (by omega)]
    refine ⟨l[0]'(by omega), idx_of (k := 0) (by omega), l[1]'(by omega), idx_of (k := 1) (by omega), l[6]'(by omega), idx_of (k := 6) (by omega), l[7]'(by omega), idx_of (k := 7) (by omega), ?_⟩
    rw [wg 0 (by omega), wg 1 (by omega), wg 6 (by omega), wg 7 (by omega)]
    refine ⟨_, rhcheck_ok (hdOf l), ?_⟩
    unfold parseH
    by_cases he : headE (hdOf l) = 0
    · rw [if_pos he, if_neg (by simp [he])]; rfl
    · rw [if_neg he, if_pos (by simp [he])]
      exact ⟨_, rhcheck_ok (hdOf l), rfl⟩


theorem headB_hdOf {l : List Int} (hxb : Byt l) (h8 : l.length = 8) : headB (hdOf l) = l := by
  match l, h8 with
  | [a0, a1, a2, a3, a4, a5, a6, a7], _ =>
    have q2 := hxb a2 (by simp)
    have q3 := hxb a3 (by simp)
    have q4 := hxb a4 (by simp)
    have q5 := hxb a5 (by simp)
    simp only [headB, hdOf, leV, List.drop_succ_cons, List.drop_zero, List.take_succ_cons, List.take_zero, List.getD_cons_zero, List.getD_cons_succ]
    have e : ∀ a b c d e f g i a' b' c' d' e' f' g' i' : Int, a = a' → b = b' → c = c' → d = d' → e = e' → f = f' → g = g' → i = i' → [a, b, c, d, e, f, g, i] = [a', b', c', d', e', f', g', i'] := by
      intros; subst_vars; rfl
    apply e <;> omega
/-- Of fewer or more bytes than 8 there is none. -/
theorem hparse_short {l : List Int} (h : l.length < 8) : head_Parse l ((0, 0, 0, 0, 0), 13) ∧ ref07_Parse l ((0, 0, 0, 0, 0), 13) := by
  unfold head_Parse ref07_Parse
  rw [if_pos (by simp; omega), if_pos (by simp; omega)]; exact ⟨rfl, rfl⟩
theorem hparse_long {l : List Int} (hl : Byt l) (h : 8 < l.length) (hlen : l.length < 1073741824) : head_Parse l ((0, 0, 0, 0, 0), 3) ∧ ref07_Parse l ((0, 0, 0, 0, 0), 3) := by
  unfold head_Parse ref07_Parse
  rw [if_neg (by simp; omega), if_neg (by simp; omega), if_pos (by simp; omega)]
  refine ⟨⟨_, lnew_ok (by omega), _, lu8_ok hl (by omega) (k := 0) (by omega), _, lu8_ok hl (by omega) (k := 1) (by omega), _, ⟨_, lword_ok hl (by omega) (at_ := 2) (n := 4) (by omega) (by omega), rfl⟩, _, lu8_ok hl (by omega) (k := 6) (by omega), _, lu8_ok hl (by omega) (k := 7) (by omega), 3, ?_, ?_⟩, rfl⟩
  · refine ⟨0, rfl, ?_⟩
    rw [if_neg (by decide)]
    refine ⟨_, ⟨_, left_ok (at_ := 8) (by omega), rfl⟩, ?_⟩
    unfold lens_Lens_End_j1
    rw [if_neg (by rw [List.length_drop]; simp; omega)]
  · rw [if_neg (by decide)]
    unfold head_Parse_j1
    rw [if_pos (by decide)]
end Go.Rel
