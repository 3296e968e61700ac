import Derived.Test.YtgokdchgjpneoaaDoorPlMsg
/-! Plain laws: are lists, messages the same; copies; the document's view of a message. -/
namespace Go.Rel
open Go Go.Eng Go.Pl

theorem loops_eq {α : Type} [DecidableEq α] {xs ys : List α} {step : Int → Sum Int (Sum Unit Bool) → Prop} (hlen : xs.length = ys.length) (_hx : xs.length < 4611686018427387904)
    (hst : ∀ (k : Nat) x y, xs[k]? = some x → ys[k]? = some y → (x = y → step (k : Int) (.inl ((k + 1 : Nat) : Int))) ∧ (x ≠ y → step (k : Int) (.inr (.inr false)))) (hend : step (xs.length : Int) (.inr (.inl ()))) :
    ∃ e, Loops step 0 e ∧ (∀ (j : Unit → Bool → Prop), (∀ u, j u true) → Aft (fun p => j p (decide (xs = ys))) (fun p => decide (xs = ys) = p) e) := by
  let bad : Nat → Option Bool := fun k => if xs[k]? = ys[k]? then none else some false
  refine ⟨firstE () bad xs.length, loops_first (fun k => (k : Int)) bad () xs.length (fun k hk => ?_) hend, fun j hj => ?_⟩
  · have h1 := List.getElem?_eq_getElem hk
    have h2 : ys[k]? = some (ys[k]'(by omega)) := List.getElem?_eq_getElem (by omega)
    have hs := hst k _ _ h1 h2
    show (∀ e, (if xs[k]? = ys[k]? then none else some false) = some e → _) ∧ ((if xs[k]? = ys[k]? then none else some false) = none → _)
    rw [h1, h2]
    by_cases he : xs[k] = ys[k]'(by omega)
    · rw [if_pos (by rw [he])]; exact ⟨fun e h => (by cases h), fun _ => hs.1 he⟩
    · rw [if_neg (fun h => he (Option.some.inj h))]; exact ⟨fun e h => (by cases h; exact hs.2 he), fun h => (by cases h)⟩
  · by_cases he : xs = ys
    · rw [firstE_none (fun k hk => by show (if xs[k]? = ys[k]? then none else some false) = none; rw [if_pos (by rw [he])])]
      show j () _
      rw [decide_eq_true he]; exact hj ()
    · have : firstE () bad xs.length = .inr false := by
        unfold firstE
        cases hf : (List.range xs.length).findSome? bad with
        | some e =>
          obtain ⟨k, _, hk⟩ := List.exists_of_findSome?_eq_some hf
          have hk : (if xs[k]? = ys[k]? then none else some false) = some e := hk
          split at hk
          · cases hk
          · cases hk; rfl
        | none =>
          exact absurd (List.ext_getElem? fun k => by
            by_cases h : k < xs.length
            · have h2 := List.findSome?_eq_none_iff.1 hf k (List.mem_range.2 h)
              have h2 : (if xs[k]? = ys[k]? then none else some false) = none := h2
              split at h2
              · assumption
              · cases h2
            · rw [List.getElem?_eq_none (by omega), List.getElem?_eq_none (by omega)]) he
      rw [this]; exact decide_eq_false he
theorem ints_ok {a b : List Int} (h : a.length < 4611686018427387904) : ref01_Ints a b (decide (a = b)) := by
  unfold ref01_Ints
  by_cases hl : a.length = b.length
  · rw [if_neg (by simp; omega)]
    obtain ⟨e, h1, h2⟩ := loops_eq (step := ref01_Ints_l2 a b) hl h (fun k x y hx hy => by
      have hk := (List.getElem?_eq_some_iff.1 hx).1
      have st : ∀ o, (if x = y then o = .inl ((k + 1 : Nat) : Int) else o = .inr (.inr false)) → ref01_Ints_l2 a b k o := by
        intro o ho
        unfold ref01_Ints_l2
        rw [if_pos (by simpa using hk)]
        refine ⟨x, idx_at rfl hx, y, idx_at rfl hy, ?_⟩
        by_cases e : x = y
        · rw [if_pos e] at ho; rw [if_neg (by simp [e]), len_wrap (by omega)]; exact ho
        · rw [if_neg e] at ho; rw [if_pos (by simp [e])]; exact ho
      exact ⟨fun e => st _ (by rw [if_pos e]), fun e => st _ (by rw [if_neg e])⟩) (by unfold ref01_Ints_l2; rw [if_neg (by simp)])
    exact ⟨e, h1, h2 ref01_Ints_j1 fun _ => rfl⟩
  · rw [if_pos (by simp; omega), decide_eq_false]; intro e; exact hl (by rw [e])
theorem equalI_ok {a b : List Int} (h : a.length < 4611686018427387904) : slices_Equal_int_int a b (decide (a = b)) := by
  unfold slices_Equal_int_int
  by_cases hl : a.length = b.length
  · rw [if_neg (by simp; omega)]
    obtain ⟨e, h1, h2⟩ := loops_eq (step := slices_Equal_int_int_l2 a b) hl h (fun k x y hx hy => by
      have hk := (List.getElem?_eq_some_iff.1 hx).1
      have st : ∀ o, (if x = y then o = .inl ((k + 1 : Nat) : Int) else o = .inr (.inr false)) → slices_Equal_int_int_l2 a b k o := by
        intro o ho
        unfold slices_Equal_int_int_l2
        rw [if_pos (by simpa using hk)]
        refine ⟨x, idx_at rfl hx, y, idx_at rfl hy, ?_⟩
        by_cases e : x = y
        · rw [if_pos e] at ho; rw [if_neg (by simp [e]), len_wrap (by omega)]; exact ho
        · rw [if_neg e] at ho; rw [if_pos (by simp [e])]; exact ho
      exact ⟨fun e => st _ (by rw [if_pos e]), fun e => st _ (by rw [if_neg e])⟩) (by unfold slices_Equal_int_int_l2; rw [if_neg (by simp)])
    exact ⟨e, h1, h2 slices_Equal_int_int_j1 fun _ => rfl⟩
  · rw [if_pos (by simp; omega), decide_eq_false]; intro e; exact hl (by rw [e])
theorem equalP_ok {a b : List (Int × Int)} (h : a.length < 4611686018427387904) : slices_Equal_msg_Point_msg_Point a b (decide (a = b)) := by
  unfold slices_Equal_msg_Point_msg_Point
  by_cases hl : a.length = b.length
  · rw [if_neg (by simp; omega)]
    obtain ⟨e, h1, h2⟩ := loops_eq (step := slices_Equal_msg_Point_msg_Point_l2 a b) hl h (fun k x y hx hy => by
      have hk := (List.getElem?_eq_some_iff.1 hx).1
      have st : ∀ o, (if x = y then o = .inl ((k + 1 : Nat) : Int) else o = .inr (.inr false)) → slices_Equal_msg_Point_msg_Point_l2 a b k o := by
        intro o ho
        unfold slices_Equal_msg_Point_msg_Point_l2
        rw [if_pos (by simpa using hk)]
        refine ⟨x, idx_at rfl hx, y, idx_at rfl hy, ?_⟩
        by_cases e : x = y
        · rw [if_pos e] at ho; rw [if_neg (by simp [e]), len_wrap (by omega)]; exact ho
        · rw [if_neg e] at ho; rw [if_pos (by
            obtain ⟨x1, x2⟩ := x; obtain ⟨y1, y2⟩ := y
            simp only [Prod.mk.injEq, not_and] at e
            by_cases h1 : x1 = y1
            · simp [h1, e h1]
            · simp [h1])]; exact ho
      exact ⟨fun e => st _ (by rw [if_pos e]), fun e => st _ (by rw [if_neg e])⟩) (by unfold slices_Equal_msg_Point_msg_Point_l2; rw [if_neg (by simp)])
    exact ⟨e, h1, h2 slices_Equal_msg_Point_msg_Point_j1 fun _ => rfl⟩
  · rw [if_pos (by simp; omega), decide_eq_false]; intro e; exact hl (by rw [e])

/-- Six numbers. -/
def n6 (l : List Int) : List Int := [l.getD 0 0, l.getD 1 0, l.getD 2 0, l.getD 3 0, l.getD 4 0, l.getD 5 0]
theorem n6_eq {l : List Int} (h : l.length = 6) : n6 l = l := by
  match l, h with
  | [a, b, c, d, e, f], _ => rfl
theorem eqN6 (a b : List Int) : eqN 6 0 a b = decide (n6 a = n6 b) := by
  unfold eqN n6
  simp [List.range_succ]
def sameB (a b : Mg) : Bool := decide (a.1 = b.1 ∧ n6 a.2.1 = n6 b.2.1 ∧ a.2.2 = b.2.2)
theorem msame_ok {a b : Mg} (hp : a.2.2.1.length < 4611686018427387904) (hc : a.2.2.2.1.length < 4611686018427387904) : msg_Same a b (sameB a b) := by
  obtain ⟨k, n, p, c, t, g⟩ := a
  obtain ⟨k', n', p', c', t', g'⟩ := b
  unfold msg_Same sameB
  simp only [eqN6, decide_eq_true_eq, Prod.mk.injEq]
  by_cases h1 : k = k'
  · by_cases h2 : n6 n = n6 n'
    · rw [if_pos h1, if_pos h2]
      refine ⟨_, equalP_ok hp, ?_⟩
      by_cases h3 : p = p'
      · rw [if_pos (by simpa using h3)]
        refine ⟨_, equalI_ok hc, ?_⟩
        by_cases h4 : c = c'
        · rw [if_pos (by simpa using h4)]
          by_cases h5 : t = t'
          · rw [if_pos h5]; simp only [msg_Same_j1, h1, h2, h3, h4, h5, true_and]
          · rw [if_neg h5]; simp [msg_Same_j1, h5]
        · rw [if_neg (by simpa using h4)]; simp [msg_Same_j1, h4]
      · rw [if_neg (by simpa using h3)]; simp [msg_Same_j1, h3]
    · rw [if_pos h1, if_neg h2]; simp [msg_Same_j1, h2]
  · rw [if_neg h1]; simp [msg_Same_j1, h1]
def ofP (p : Int × Int) : List Int := [p.1, p.2]
theorem ofP_inj {p q : Int × Int} (h : ofP p = ofP q) : p = q := by
  obtain ⟨a, b⟩ := p; obtain ⟨c, d⟩ := q
  simp only [ofP, List.cons.injEq, and_true] at h
  rw [h.1, h.2]
def ofM (m : Mg) : Mr := (m.1, m.2.1, m.2.2.1.map ofP, m.2.2.2.1, m.2.2.2.2.1, m.2.2.2.2.2)
theorem ofm_ok {m : Mg} (hp : m.2.2.1.length < 1099511627776) : law17_Of m (ofM m) := by
  refine ⟨m.2.2.1.map ofP, ?_, rfl⟩
  have := loops_count (step := law17_Of_l2 m) (e := m.2.2.1.map ofP) (fun k => ((k : Int), (m.2.2.1.take k).map ofP)) m.2.2.1.length (fun k hk => by
    unfold law17_Of_l2
    rw [if_pos (by simpa using hk)]
    refine ⟨_, idx_of hk, _, idx_of hk, ?_⟩
    have hw := len_wrap (n := k) (by omega)
    simp only [List.length_map, List.length_take, List.length_cons, List.length_nil]
    refine ⟨by omega, by omega, ?_⟩
    rw [hw, List.take_succ_eq_append_getElem hk, List.map_append]; rfl) (by
    unfold law17_Of_l2
    rw [if_neg (by simp)]
    simp)
  simpa using this
theorem rsame_ok {a b : Mg} (hp : a.2.2.1.length < 4611686018427387904) (hc : a.2.2.2.1.length < 4611686018427387904) : ref17_Same (ofM a) (ofM b) (sameB a b) := by
  obtain ⟨k, n, p, c, t, g⟩ := a
  obtain ⟨k', n', p', c', t', g'⟩ := b
  unfold ref17_Same sameB ofM
  simp only [eqN6, Prod.mk.injEq]
  have jt : ∀ x y, ref17_Same_j1 x y true false := fun x y => by unfold ref17_Same_j1; rw [if_pos rfl]
  by_cases h1 : k = k'
  · rw [if_neg (by simp [h1])]
    by_cases h2 : n6 n = n6 n'
    · rw [if_neg (by simp [h2])]
      by_cases h3 : p.length = p'.length
      · rw [if_neg (by simp [h3])]
        refine ⟨_, ints_ok hc, ?_⟩
        by_cases h4 : c = c'
        · rw [if_neg (by simp [h4])]
          by_cases h5 : t = t'
          · rw [if_neg (by simp [h5])]
            by_cases h6 : g = g'
            · subst h1; subst h4; subst h5; subst h6
              rw [decide_eq_true rfl]
              unfold ref17_Same_j1
              rw [if_neg (by simp)]
              simp only [true_and, and_true, h2]
              have hl : (p.map ofP).length = (p'.map ofP).length := by simp [h3]
              obtain ⟨e, he, ha⟩ := loops_eq (xs := p.map ofP) (ys := p'.map ofP) (step := ref17_Same_l3 (k, n, p.map ofP, c, t, g) (k, n', p'.map ofP, c, t, g)) hl (by simpa using hp) (fun q x y hx hy => by
                have hq := (List.getElem?_eq_some_iff.1 hx).1
                simp only [List.length_map] at hq
                simp only at hp
                have st : ∀ o, (if x = y then o = .inl ((q + 1 : Nat) : Int) else o = .inr (.inr false)) → ref17_Same_l3 (k, n, p.map ofP, c, t, g) (k, n', p'.map ofP, c, t, g) q o := by
                  intro o ho
                  unfold ref17_Same_l3
                  rw [if_pos (by simpa using hq)]
                  refine ⟨x, idx_at rfl hx, y, idx_at rfl hy, ?_⟩
                  rw [List.getElem?_map] at hx hy
                  obtain ⟨u, hu, rfl⟩ := Option.map_eq_some_iff.1 hx
                  obtain ⟨v, hv, rfl⟩ := Option.map_eq_some_iff.1 hy
                  have hh : eqN 2 0 (ofP u) (ofP v) = decide (ofP u = ofP v) := by
                    unfold eqN ofP; simp [List.range_succ]
                  rw [hh]
                  by_cases e : ofP u = ofP v
                  · rw [if_pos e] at ho; rw [if_neg (by simp [e]), len_wrap (by omega)]; exact ho
                  · rw [if_neg e] at ho; rw [if_pos (by simp [e])]; exact ho
                exact ⟨fun e => st _ (by rw [if_pos e]), fun e => st _ (by rw [if_neg e])⟩) (by unfold ref17_Same_l3; rw [if_neg (by simp)])
              refine ⟨e, he, ?_⟩
              have hd : (decide (p = p') : Bool) = decide (p.map ofP = p'.map ofP) := by
                refine decide_eq_decide.2 ⟨fun h => by rw [h], fun h => ?_⟩
                exact List.map_inj_right (fun _ _ => ofP_inj) |>.1 h
              rw [hd]
              exact ha ref17_Same_j2 fun _ => rfl
            · rw [decide_eq_false h6, decide_eq_false (by simp [h6])]; exact jt _ _
          · rw [if_pos (by simp [h5]), decide_eq_false (by simp [h5])]; exact jt _ _
        · rw [if_pos (by simp [h4]), decide_eq_false (by simp [h4])]; exact jt _ _
      · rw [if_pos (by simp; omega), decide_eq_false (by rintro ⟨_, _, h, _⟩; exact h3 (by rw [h]))]; exact jt _ _
    · rw [if_pos (by simp [h2]), decide_eq_false (by simp [h2])]; exact jt _ _
  · rw [if_pos (by simp [h1]), decide_eq_false (by simp [h1])]; exact jt _ _
theorem mcopy_ok {m : Mg} (hp : m.2.2.1.length < 1099511627776) (hc : m.2.2.2.1.length < 1099511627776) : msg_Copy m m := by
  refine ⟨_, fun b hb => (?_ : if b = true then m.2.2.1 = [] else _), _, fun b hb => (?_ : if b = true then m.2.2.2.1 = [] else _), rfl⟩
  · cases b with
    | true => exact hb rfl
    | false => exact ⟨by simp; omega, by simp; omega, rfl⟩
  · cases b with
    | true => exact hb rfl
    | false => exact ⟨by simp; omega, by simp; omega, rfl⟩
def cutM (m : Mg) : Mg := (m.1, m.2.1, m.2.2.1.take 40, m.2.2.2.1.take 40, m.2.2.2.2.1.extract 0 80, m.2.2.2.2.2.extract 0 80)
theorem ext_min (s : ByteArray) (n : Nat) : s.extract 0 (min (s.size : Int) (n : Int)).toNat = s.extract 0 n := by
  by_cases h : s.size ≤ n
  · rw [show (min (s.size : Int) (n : Int)).toNat = s.size by omega]
    have hs : s.data.toList.length = s.size := rfl
    apply ByteArray.ext
    apply Array.ext'
    rw [ByteArray.data_extract, ByteArray.data_extract, Array.toList_extract, Array.toList_extract, List.extract_eq_take_drop, List.extract_eq_take_drop]
    simp only [List.drop_zero, Nat.sub_zero]
    rw [List.take_of_length_le (by omega), List.take_of_length_le (by omega)]
  · rw [show (min (s.size : Int) (n : Int)).toNat = n by omega]
theorem takeP_min {α : Type} (l : List α) (n : Nat) : (l.drop (0 : Int).toNat).take (((min (l.length : Int) (n : Int)) : Int) - 0).toNat = l.take n := by
  rw [show (0 : Int).toNat = 0 from rfl, List.drop_zero, show ((min (l.length : Int) (n : Int)) - 0).toNat = min l.length n by omega]
  by_cases h : l.length ≤ n
  · rw [Nat.min_eq_left h, List.take_length, List.take_of_length_le h]
  · rw [Nat.min_eq_right (by omega)]
theorem cut_ok (m : Mg) : law17_Cut m (cutM m) := by
  unfold law17_Cut cutM
  refine ⟨by omega, by omega, by omega, by omega, by omega, by omega, by omega, by omega, ?_⟩
  have e1 := takeP_min m.2.2.1 40
  have e2 := takeP_min m.2.2.2.1 40
  have e3 := ext_min m.2.2.2.2.1 80
  have e4 := ext_min m.2.2.2.2.2 80
  simp only [Int.cast_ofNat_Int] at e1 e2 e3 e4
  rw [e1, e2, e3, e4]
end Go.Rel
