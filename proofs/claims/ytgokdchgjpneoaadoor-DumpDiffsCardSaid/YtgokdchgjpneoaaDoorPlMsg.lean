import Derived.Test.YtgokdchgjpneoaaDoorPlItoa
/-! Plain laws: messages: fields, what is wrong with one. -/
namespace Go.Rel
open Go Go.Eng Go.Pl

theorem len_wrap {n : Nat} (h : n < 4611686018427387904) : IntKind.i64.wrap ((n : Int) + 1) = ((n + 1 : Nat) : Int) := by rw [w_small] <;> omega
/-- The first k at which a test tells something. -/
def firstE {U E : Type} (u : U) (bad : Nat → Option E) (n : Nat) : Sum U E := match (List.range n).findSome? bad with | some e => .inr e | none => .inl u
theorem loops_first {S U E : Type} {step : S → Sum S (Sum U E) → Prop} (f : Nat → S) (bad : Nat → Option E) (u : U) (n : Nat) (hs : ∀ k, k < n → (∀ e, bad k = some e → step (f k) (.inr (.inr e))) ∧ (bad k = none → step (f k) (.inl (f (k + 1))))) (he : step (f n) (.inr (.inl u))) : Loops step (f 0) (firstE u bad n) := by
  have key : ∀ m k, k + m = n → Loops step (f k) (match (List.range' k m).findSome? bad with | some e => .inr e | none => .inl u) := by
    intro m
    induction m with
    | zero => intro k hk; obtain rfl : k = n := by omega
              exact .done he
    | succ m ih =>
      intro k hk
      have hsk := hs k (by omega)
      rw [List.range'_succ, List.findSome?_cons]
      cases hb : bad k with
      | some e => exact .done (hsk.1 e hb)
      | none => exact .next (hsk.2 hb) (ih (k + 1) (by omega))
  have := key n 0 (by omega)
  unfold firstE
  rw [List.range_eq_range']
  exact this
theorem firstE_none {U E : Type} {u : U} {bad : Nat → Option E} {n : Nat} (h : ∀ k, k < n → bad k = none) : firstE u bad n = .inl u := by
  unfold firstE
  rw [List.findSome?_eq_none_iff.2 (fun k hk => h k (List.mem_range.1 hk))]
theorem firstE_some {U E : Type} {u : U} {bad : Nat → Option E} {n : Nat} (h : firstE u bad n = .inl u) : ∀ k, k < n → bad k = none := by
  unfold firstE at h
  intro k hk
  cases hf : (List.range n).findSome? bad with
  | some e => rw [hf] at h; cases h
  | none => exact List.findSome?_eq_none_iff.1 hf k (List.mem_range.2 hk)

abbrev Mg := Int × List Int × List (Int × Int) × List Int × ByteArray × ByteArray
abbrev Mr := Int × List Int × List (List Int) × List Int × ByteArray × ByteArray
abbrev Fd := ByteArray × Int × Int × Int × Int × Int × Int
def robotF : Fd := ((bstr [114, 111, 98, 111, 116]), 1, 0, 0, 65535, 1, 0)
def fieldsB (k : Int) : List Fd :=
  if k = 1 then [robotF, ((bstr [115, 112, 101, 101, 100]), 1, 1, 1, 5000, 1, 0), ((bstr [97, 99, 99, 101, 108]), 1, 2, 1, 10000, 2, 500), ((bstr [112, 97, 116, 104]), 3, (-1), 1, 16, 1, 0), ((bstr [116, 97, 103]), 6, (-1), 0, 16, 2, 0)]
  else if k = 2 then [robotF, ((bstr [114, 101, 97, 115, 111, 110]), 1, 1, 0, 15, 1, 0), ((bstr [122, 111, 110, 101]), 1, 2, 0, 4095, 2, 0)]
  else if k = 3 then [robotF, ((bstr [122, 111, 110, 101]), 1, 1, 0, 4095, 1, 0), ((bstr [108, 101, 97, 115, 101]), 1, 2, 1, 255, 2, 1), ((bstr [99, 101, 108, 108, 115]), 4, (-1), 1, 32, 1, 0)]
  else if k = 4 then [robotF, ((bstr [120]), 2, 1, (-1000000), 1000000, 1, 0), ((bstr [121]), 2, 2, (-1000000), 1000000, 1, 0), ((bstr [104, 101, 97, 100, 105, 110, 103]), 1, 3, 0, 35999, 1, 0), ((bstr [98, 97, 116, 116, 101, 114, 121]), 1, 4, 0, 1000, 1, 0), ((bstr [115, 117, 114, 101]), 1, 5, 0, 100, 2, 100)]
  else if k = 5 then [robotF, ((bstr [99, 111, 100, 101]), 1, 1, 1, 9999, 1, 0), ((bstr [115, 101, 118, 101, 114, 105, 116, 121]), 1, 2, 0, 4, 1, 0), ((bstr [112, 97, 114, 116]), 1, 3, 0, 255, 2, 0), ((bstr [116, 105, 109, 101, 115]), 1, 4, 1, 1000000, 2, 1), ((bstr [116, 101, 120, 116]), 5, (-1), 0, 64, 1, 0)]
  else []
theorem fields_ok (k : Int) : field_Of k (fieldsB k) := by
  unfold field_Of fieldsB
  by_cases h1 : k = 1
  · rw [if_pos (by simpa using h1), if_pos h1]; exact ⟨_, rfl, rfl⟩
  rw [if_neg (by simpa using h1), if_neg h1]
  by_cases h2 : k = 2
  · rw [if_pos (by simpa using h2), if_pos h2]; exact ⟨_, rfl, rfl⟩
  rw [if_neg (by simpa using h2), if_neg h2]
  by_cases h3 : k = 3
  · rw [if_pos (by simpa using h3), if_pos h3]; exact ⟨_, rfl, rfl⟩
  rw [if_neg (by simpa using h3), if_neg h3]
  by_cases h4 : k = 4
  · rw [if_pos (by simpa using h4), if_pos h4]; exact ⟨_, rfl, rfl⟩
  rw [if_neg (by simpa using h4), if_neg h4]
  by_cases h5 : k = 5
  · rw [if_pos (by simpa using h5), if_pos h5]; exact ⟨_, rfl, rfl⟩
  rw [if_neg (by simpa using h5), if_neg h5]
/-- What each field of the list is. -/
def fdOk (f : Fd) : Prop := f.2.2.2.2.2.1 ≤ 2 ∧ f.1.size ≤ 10 ∧ ((f.2.1 = 3 ∧ f.2.2.2.1 = 1 ∧ f.2.2.2.2.1 = 16) ∨ (f.2.1 = 4 ∧ f.2.2.2.1 = 1 ∧ f.2.2.2.2.1 = 32) ∨ (f.2.1 = 5 ∧ f.2.2.2.1 = 0 ∧ f.2.2.2.2.1 = 64) ∨ (f.2.1 = 6 ∧ f.2.2.2.1 = 0 ∧ f.2.2.2.2.1 = 16) ∨ (1 ≤ f.2.1 ∧ f.2.1 < 3 ∧ 0 ≤ f.2.2.1 ∧ f.2.2.1 < 6 ∧ -1000000 ≤ f.2.2.2.1 ∧ f.2.2.2.2.1 ≤ 1000000))
theorem fields_all (P : Fd → Prop) (k : Int) (h0 : P robotF) (h1 : ∀ f ∈ [((bstr [115, 112, 101, 101, 100]), 1, 1, 1, 5000, 1, 0), ((bstr [97, 99, 99, 101, 108]), 1, 2, 1, 10000, 2, 500), ((bstr [112, 97, 116, 104]), 3, (-1), 1, 16, 1, 0), ((bstr [116, 97, 103]), 6, (-1), 0, 16, 2, 0), ((bstr [114, 101, 97, 115, 111, 110]), 1, 1, 0, 15, 1, 0), ((bstr [122, 111, 110, 101]), 1, 2, 0, 4095, 2, 0), ((bstr [122, 111, 110, 101]), 1, 1, 0, 4095, 1, 0), ((bstr [108, 101, 97, 115, 101]), 1, 2, 1, 255, 2, 1), ((bstr [99, 101, 108, 108, 115]), 4, (-1), 1, 32, 1, 0), ((bstr [120]), 2, 1, (-1000000), 1000000, 1, 0), ((bstr [121]), 2, 2, (-1000000), 1000000, 1, 0), ((bstr [104, 101, 97, 100, 105, 110, 103]), 1, 3, 0, 35999, 1, 0), ((bstr [98, 97, 116, 116, 101, 114, 121]), 1, 4, 0, 1000, 1, 0), ((bstr [115, 117, 114, 101]), 1, 5, 0, 100, 2, 100), ((bstr [99, 111, 100, 101]), 1, 1, 1, 9999, 1, 0), ((bstr [115, 101, 118, 101, 114, 105, 116, 121]), 1, 2, 0, 4, 1, 0), ((bstr [112, 97, 114, 116]), 1, 3, 0, 255, 2, 0), ((bstr [116, 105, 109, 101, 115]), 1, 4, 1, 1000000, 2, 1), ((bstr [116, 101, 120, 116]), 5, (-1), 0, 64, 1, 0)], P f) : ∀ f ∈ fieldsB k, P f := by
  simp only [List.forall_mem_cons] at h1
  unfold fieldsB
  by_cases e1 : k = 1
  · rw [if_pos e1]; simp only [List.forall_mem_cons]; simp [h0, h1]
  rw [if_neg e1]
  by_cases e2 : k = 2
  · rw [if_pos e2]; simp only [List.forall_mem_cons]; simp [h0, h1]
  rw [if_neg e2]
  by_cases e3 : k = 3
  · rw [if_pos e3]; simp only [List.forall_mem_cons]; simp [h0, h1]
  rw [if_neg e3]
  by_cases e4 : k = 4
  · rw [if_pos e4]; simp only [List.forall_mem_cons]; simp [h0, h1]
  rw [if_neg e4]
  by_cases e5 : k = 5
  · rw [if_pos e5]; simp only [List.forall_mem_cons]; simp [h0, h1]
  rw [if_neg e5]
  simp
theorem fields_fd (k : Int) : ∀ f ∈ fieldsB k, fdOk f := by
  refine fields_all fdOk k (by simp [fdOk, robotF, size_bstr]) ?_
  simp only [List.forall_mem_cons]
  simp [fdOk, size_bstr]
theorem fields_len (k : Int) : (fieldsB k).length ≤ 6 := by
  unfold fieldsB
  by_cases e1 : k = 1
  · rw [if_pos e1]; simp
  rw [if_neg e1]
  by_cases e2 : k = 2
  · rw [if_pos e2]; simp
  rw [if_neg e2]
  by_cases e3 : k = 3
  · rw [if_pos e3]; simp
  rw [if_neg e3]
  by_cases e4 : k = 4
  · rw [if_pos e4]; simp
  rw [if_neg e4]
  by_cases e5 : k = 5
  · rw [if_pos e5]; simp
  rw [if_neg e5]
  simp
/-! The reference's list. -/
def placed : Int → List Fd → List Fd
  | _, [] => []
  | p, f :: l => if f.2.1 < 3 then (f.1, f.2.1, p, f.2.2.2) :: placed (p + 1) l else (f.1, f.2.1, -1, f.2.2.2) :: placed p l
theorem placed_ok (fs : List Fd) (hl : fs.length < 100) : ∀ (l pre : List Fd), fs = pre ++ l → ∀ (acc : List Fd) (p : Int), acc.length ≤ pre.length → 0 ≤ p → p ≤ pre.length → Loops (ref16_All_l3 fs) (acc, p, (pre.length : Int)) (acc ++ placed p l)
  | [], pre, h, acc, p, _, _, _ => by
    have : fs.length = pre.length := by rw [h]; simp
    refine .done ?_
    unfold ref16_All_l3
    rw [if_neg (by simp; omega)]
    simp [placed]
  | f :: l, pre, h, acc, p, ha, h0, hp => by
    have hlen : fs.length = pre.length + l.length + 1 := by rw [h]; simp; omega
    have hat : fs[pre.length]? = some f := by rw [h]; simp
    have hw := len_wrap (n := pre.length) (by omega)
    have rest := fun acc p h1 h2 h3 => placed_ok fs hl l (pre ++ [f]) (by rw [h]; simp) acc p h1 h2 h3
    simp only [List.length_append, List.length_cons, List.length_nil] at rest
    by_cases hf : f.2.1 < 3
    · have r := rest (acc ++ [(f.1, f.2.1, p, f.2.2.2)]) (p + 1) (by simp; omega) (by omega) (by omega)
      refine .next (s' := (acc ++ [(f.1, f.2.1, p, f.2.2.2)], p + 1, ((pre.length + 1 : Nat) : Int))) ?_ (by simpa [placed, hf] using r)
      unfold ref16_All_l3
      rw [if_pos (by simp; omega)]
      refine ⟨f, idx_at rfl hat, ?_⟩
      rw [if_pos (by simpa using hf)]
      unfold ref16_All_j4
      refine ⟨by simp only [List.length_cons, List.length_nil]; omega, by simp only [List.length_cons, List.length_nil]; omega, ?_⟩
      simp only
      rw [hw, w_small (by omega) (by omega)]
    · have r := rest (acc ++ [(f.1, f.2.1, -1, f.2.2.2)]) p (by simp; omega) (by omega) (by omega)
      refine .next (s' := (acc ++ [(f.1, f.2.1, -1, f.2.2.2)], p, ((pre.length + 1 : Nat) : Int))) ?_ (by simpa [placed, hf] using r)
      unfold ref16_All_l3
      rw [if_pos (by simp; omega)]
      refine ⟨f, idx_at rfl hat, ?_⟩
      rw [if_neg (by simpa using hf)]
      unfold ref16_All_j4
      refine ⟨by simp only [List.length_cons, List.length_nil]; omega, by simp only [List.length_cons, List.length_nil]; omega, ?_⟩
      simp only
      rw [hw]
theorem rall_of (fs : List Fd) (hl : fs.length < 100) {r : List Fd} (h : placed 0 fs = r) : ref16_All_j1 fs r := by
  subst h
  exact ⟨_, placed_ok fs hl fs [] rfl [] 0 (by simp) (by simp) (by simp), by simp [ref16_All_j2]⟩
theorem rfields_ok (k : Int) : ref16_All k (fieldsB k) := by
  unfold ref16_All fieldsB
  by_cases h1 : k = 1
  · rw [if_pos (by simpa using h1), if_pos h1]; exact rall_of _ (by simp) rfl
  rw [if_neg (by simpa using h1), if_neg h1]
  by_cases h2 : k = 2
  · rw [if_pos (by simpa using h2), if_pos h2]; exact rall_of _ (by simp) rfl
  rw [if_neg (by simpa using h2), if_neg h2]
  by_cases h3 : k = 3
  · rw [if_pos (by simpa using h3), if_pos h3]; exact rall_of _ (by simp) rfl
  rw [if_neg (by simpa using h3), if_neg h3]
  by_cases h4 : k = 4
  · rw [if_pos (by simpa using h4), if_pos h4]; exact rall_of _ (by simp) rfl
  rw [if_neg (by simpa using h4), if_neg h4]
  by_cases h5 : k = 5
  · rw [if_pos (by simpa using h5), if_pos h5]; exact rall_of _ (by simp) rfl
  rw [if_neg (by simpa using h5), if_neg h5]
  exact rall_of _ (by simp) rfl
/-! What is wrong with a part. -/
def manyB (n least most : Int) : Int := if n < least then 13 else if most < n then 6 else 0
theorem many_ok (n : Int) (f : Fd) : msg_many n f (manyB n f.2.2.2.1 f.2.2.2.2.1) := by
  unfold msg_many manyB
  simp only [decide_eq_true_eq]
  repeat' (first | rfl | split)
def errO (o : Sum Unit Int) : Int := match o with | .inr e => e | .inl _ => 0
theorem aft_err {j : Unit → Int → Prop} {o : Sum Unit Int} (h : ∀ u, j u 0) : Aft (fun p => j p (errO o)) (fun p => errO o = p) o := by
  cases o with
  | inl u => exact h u
  | inr e => rfl
def pathBad (l : List (Int × Int)) (k : Nat) : Option Int := match l[k]? with | some p => if 1000000 < max p.1 p.2 ∨ min p.1 p.2 < -1000000 then some 5 else none | none => none
def pathL (l : List (Int × Int)) : Int := errO (firstE () (pathBad l) l.length)
def pathB (l : List (Int × Int)) (least most : Int) : Int := if manyB l.length least most = 0 then pathL l else manyB l.length least most
theorem manyB_zero {n a b : Int} (h : manyB n a b = 0) : a ≤ n ∧ n ≤ b := by
  unfold manyB at h; split at h
  · omega
  · split at h <;> omega
theorem path_ok (l : List (Int × Int)) (f : Fd) (hm : f.2.2.2.2.1 < 1000) : msg_path l f (pathB l f.2.2.2.1 f.2.2.2.2.1) := by
  refine ⟨_, many_ok _ f, ?_⟩
  unfold pathB
  by_cases h : manyB l.length f.2.2.2.1 f.2.2.2.2.1 = 0
  · rw [if_neg (by simpa using h), if_pos h]
    have hl := (manyB_zero h).2
    refine ⟨_, loops_first (fun k => (k : Int)) (pathBad l) () l.length (fun k hk => ?_) ?_, aft_err fun _ => rfl⟩
    · have hw := len_wrap (n := k) (by omega)
      have hx := idx_of hk
      have st : ∀ o, (if 1000000 < max l[k].1 l[k].2 ∨ min l[k].1 l[k].2 < -1000000 then o = .inr (.inr 5) else o = .inl ((k + 1 : Nat) : Int)) → msg_path_l2 l (k : Int) o := by
        intro o ho
        unfold msg_path_l2
        rw [if_pos (by simp; omega)]
        refine ⟨_, hx, ?_⟩
        unfold msg_path_j3
        by_cases h1 : 1000000 < max l[k].1 l[k].2
        · rw [if_pos (.inl h1)] at ho; rw [if_pos (by simpa using h1)]; simpa using ho
        · rw [if_neg (by simpa using h1)]
          by_cases h2 : min l[k].1 l[k].2 < -1000000
          · rw [if_pos (.inr h2)] at ho; rw [if_pos (by simpa using h2)]; exact ho
          · rw [if_neg (not_or.2 ⟨h1, h2⟩)] at ho; rw [if_neg (by simpa using h2), hw]; exact ho
      unfold pathBad
      rw [List.getElem?_eq_getElem hk]
      by_cases hb : 1000000 < max l[k].1 l[k].2 ∨ min l[k].1 l[k].2 < -1000000
      · simp only [if_pos hb]; exact ⟨fun e he => (by cases he; exact st _ (by rw [if_pos hb])), fun he => by cases he⟩
      · simp only [if_neg hb]; exact ⟨fun e he => (by cases he), fun _ => st _ (by rw [if_neg hb])⟩
    · unfold msg_path_l2
      rw [if_neg (by simp)]
  · rw [if_pos (by simpa using h), if_neg h]
def cellsBad (l : List Int) (k : Nat) : Option Int := if l.getD k 0 < 0 ∨ 65535 < l.getD k 0 then some 5 else if 0 < k ∧ l.getD k 0 ≤ l.getD (k - 1) 0 then some 3 else none
def cellsL (l : List Int) : Int := errO (firstE () (cellsBad l) l.length)
def cellsB (l : List Int) (least most : Int) : Int := if manyB l.length least most = 0 then cellsL l else manyB l.length least most
theorem cells_ok (l : List Int) (f : Fd) (hm : f.2.2.2.2.1 < 1000) : msg_cells l f (cellsB l f.2.2.2.1 f.2.2.2.2.1) := by
  refine ⟨_, many_ok _ f, ?_⟩
  unfold cellsB
  by_cases h : manyB l.length f.2.2.2.1 f.2.2.2.2.1 = 0
  · rw [if_neg (by simpa using h), if_pos h]
    have hl := (manyB_zero h).2
    refine ⟨_, loops_first (fun k => ((if k = 0 then -1 else l.getD (k - 1) 0), (k : Int))) (cellsBad l) () l.length (fun k hk => ?_) ?_, aft_err fun _ => rfl⟩
    · have hw := len_wrap (n := k) (by omega)
      have hx := idx_of hk
      have hg : l.getD k 0 = l[k] := by simp [List.getD_eq_getElem?_getD, hk]
      have st : ∀ o, (if l[k] < 0 ∨ 65535 < l[k] then o = .inr (.inr 5) else if l[k] ≤ (if k = 0 then -1 else l.getD (k - 1) 0) then o = .inr (.inr 3) else o = .inl (l[k], ((k + 1 : Nat) : Int))) → msg_cells_l2 l ((if k = 0 then -1 else l.getD (k - 1) 0), (k : Int)) o := by
        intro o ho
        unfold msg_cells_l2
        rw [if_pos (by simp; omega)]
        refine ⟨_, hx, ?_⟩
        unfold msg_cells_j3
        have hj : (if l[k] < 0 ∨ 65535 < l[k] then o = .inr (.inr 5) else if (decide (l[k] ≤ (if k = 0 then -1 else l.getD (k - 1) 0))) = true then o = .inr (.inr 3) else o = .inl (l[k], (IntKind.i64.wrap ((k : Int) + 1)))) := by
          rw [hw]; simpa only [decide_eq_true_eq] using ho
        by_cases h1 : l[k] < 0
        · rw [if_pos (.inl h1)] at hj; rw [if_pos (by simpa using h1)]; simpa using hj
        · rw [if_neg (by simpa using h1)]
          by_cases h2 : 65535 < l[k]
          · rw [if_pos (.inr h2)] at hj; rw [if_pos (by simpa using h2)]; exact hj
          · rw [if_neg (not_or.2 ⟨h1, h2⟩)] at hj; rw [if_neg (by simpa using h2)]; exact hj
      unfold cellsBad
      rw [hg]
      by_cases hb : l[k] < 0 ∨ 65535 < l[k]
      · simp only [if_pos hb]; exact ⟨fun e he => (by cases he; exact st _ (by rw [if_pos hb])), fun he => by cases he⟩
      · have hc : (0 < k ∧ l[k] ≤ l.getD (k - 1) 0) ↔ l[k] ≤ (if k = 0 then -1 else l.getD (k - 1) 0) := by
          by_cases h2 : k = 0
          · subst h2; simp; omega
          · rw [if_neg h2]; omega
        simp only [if_neg hb, Nat.add_eq_zero_iff, Nat.one_ne_zero, and_false, if_false, Nat.add_sub_cancel, hg]
        by_cases hd : 0 < k ∧ l[k] ≤ l.getD (k - 1) 0
        · simp only [if_pos hd]; exact ⟨fun e he => (by cases he; exact st _ (by rw [if_neg hb, if_pos (hc.1 hd)])), fun he => by cases he⟩
        · simp only [if_neg hd]; exact ⟨fun e he => (by cases he), fun _ => st _ (by rw [if_neg hb, if_neg (fun h => hd (hc.2 h))])⟩
    · unfold msg_cells_l2
      rw [if_neg (by simp)]
  · rw [if_pos (by simpa using h), if_neg h]
theorem len_bints (s : ByteArray) : (bints s).length = s.size := by unfold bints; rw [List.length_map]; rfl
def textBad (s : ByteArray) (k : Nat) : Option Int := if (bints s).getD k 0 < 32 ∨ 126 < (bints s).getD k 0 then some 19 else none
def textL (s : ByteArray) : Int := errO (firstE () (textBad s) s.size)
def textB (s : ByteArray) (least most : Int) : Int := if manyB s.size least most = 0 then textL s else manyB s.size least most
theorem text_ok (s : ByteArray) (f : Fd) (hm : f.2.2.2.2.1 < 1000) : msg_text s f (textB s f.2.2.2.1 f.2.2.2.2.1) := by
  refine ⟨_, many_ok _ f, ?_⟩
  unfold textB
  by_cases h : manyB s.size f.2.2.2.1 f.2.2.2.2.1 = 0
  · rw [if_neg (by simpa using h), if_pos h]
    have hl := (manyB_zero h).2
    refine ⟨by omega, _, loops_first (fun k => (k : Int)) (textBad s) () s.size (fun k hk => ?_) ?_, aft_err fun _ => rfl⟩
    · have hw := len_wrap (n := k) (by omega)
      have hk' : k < (bints s).length := by rw [len_bints]; exact hk
      have hx := idx_of hk'
      have hg : (bints s).getD k 0 = (bints s)[k] := by simp [List.getD_eq_getElem?_getD, hk']
      have st : ∀ o, (if (bints s)[k] < 32 ∨ 126 < (bints s)[k] then o = .inr (.inr 19) else o = .inl ((k + 1 : Nat) : Int)) → msg_text_l2 s (k : Int) o := by
        intro o ho
        unfold msg_text_l2
        rw [if_pos (by simp only [decide_eq_true_eq]; omega)]
        refine ⟨_, hx, ?_⟩
        unfold msg_text_j3
        by_cases h1 : (bints s)[k] < 32
        · rw [if_pos (.inl h1)] at ho; rw [if_pos (by simpa using h1)]; simpa using ho
        · rw [if_neg (by simpa using h1)]
          by_cases h2 : 126 < (bints s)[k]
          · rw [if_pos (.inr h2)] at ho; rw [if_pos (by simpa using h2)]; exact ho
          · rw [if_neg (not_or.2 ⟨h1, h2⟩)] at ho; rw [if_neg (by simpa using h2), hw]; exact ho
      unfold textBad
      rw [hg]
      by_cases hb : (bints s)[k] < 32 ∨ 126 < (bints s)[k]
      · simp only [if_pos hb]; exact ⟨fun e he => (by cases he; exact st _ (by rw [if_pos hb])), fun he => by cases he⟩
      · simp only [if_neg hb]; exact ⟨fun e he => (by cases he), fun _ => st _ (by rw [if_neg hb])⟩
    · unfold msg_text_l2
      rw [if_neg (by rw [len_bints]; simp)]
  · rw [if_pos (by simpa using h), if_neg h]
def numBad (m : Mg) (f : Fd) : Prop := m.2.1.getD f.2.2.1.toNat 0 < f.2.2.2.1 ∨ f.2.2.2.2.1 < m.2.1.getD f.2.2.1.toNat 0
instance (m : Mg) (f : Fd) : Decidable (numBad m f) := by unfold numBad; infer_instance
def wrongB (m : Mg) (f : Fd) : Int :=
  if f.2.1 = 3 then pathB m.2.2.1 f.2.2.2.1 f.2.2.2.2.1 else if f.2.1 = 4 then cellsB m.2.2.2.1 f.2.2.2.1 f.2.2.2.2.1
  else if f.2.1 = 5 then textB m.2.2.2.2.1 f.2.2.2.1 f.2.2.2.2.1 else if f.2.1 = 6 then textB m.2.2.2.2.2 f.2.2.2.1 f.2.2.2.2.1
  else if numBad m f then 5 else 0
theorem wrong_fd (m : Mg) {f : Fd} (ok : fdOk f) : msg_wrong m f (wrongB m f) := by
  obtain ⟨_, _, ok⟩ := ok
  unfold msg_wrong wrongB
  simp only [decide_eq_true_eq]
  split
  · exact ⟨_, path_ok _ f (by omega), rfl⟩
  split
  · exact ⟨_, cells_ok _ f (by omega), rfl⟩
  split
  · exact ⟨_, text_ok _ f (by omega), rfl⟩
  split
  · exact ⟨_, text_ok _ f (by omega), rfl⟩
  refine ⟨by omega, by omega, ?_⟩
  unfold msg_wrong_j1
  by_cases h1 : m.2.1.getD f.2.2.1.toNat 0 < f.2.2.2.1
  · have hb : numBad m f := Or.inl h1
    rw [if_pos h1, if_pos rfl, if_pos hb]
  · rw [if_neg h1]
    by_cases h2 : f.2.2.2.2.1 < m.2.1.getD f.2.2.1.toNat 0
    · have hb : numBad m f := Or.inr h2
      rw [if_pos (decide_eq_true h2), if_pos hb]
    · have hb : ¬ numBad m f := not_or.2 ⟨h1, h2⟩
      rw [if_neg (by simpa using h2), if_neg hb]
end Go.Rel
