import Derived.Test.YtgokdchgjpneoaaDoorPlSay
/-! Plain laws: events: their lines, which are the same, the words of errors. -/
namespace Go.Rel
open Go Go.Eng Go.Pl
abbrev Ev := Int × Int × Int × Int × Mg
abbrev Er := Int × Int × Int × Int × Mr
def errWords : List (Int × List Int) := [(2, [108, 111, 110, 103]), (3, [102, 111, 114, 109]), (4, [101, 110, 100]), (5, [114, 97, 110, 103, 101]), (6, [109, 97, 110, 121]), (9, [107, 105, 110, 100]), (10, [118, 101, 114, 115, 105, 111, 110]), (11, [115, 117, 109]), (12, [115, 116, 117, 102, 102]), (13, [115, 104, 111, 114, 116]), (14, [115, 101, 101, 110]), (15, [111, 108, 100]), (16, [116, 119, 105, 99, 101]), (17, [109, 101, 101, 116]), (18, [108, 97, 116, 101]), (19, [116, 101, 120, 116])]
def wordE (e : Int) : List Int := ((errWords.find? fun p => decide (p.1 = e)).map (·.2)).getD []
theorem wordE_cases (e : Int) : (e = 2 ∨ e = 3 ∨ e = 4 ∨ e = 5 ∨ e = 6 ∨ e = 9 ∨ e = 10 ∨ e = 11 ∨ e = 12 ∨ e = 13 ∨ e = 14 ∨ e = 15 ∨ e = 16 ∨ e = 17 ∨ e = 18 ∨ e = 19) ∨ (¬ (e = 2 ∨ e = 3 ∨ e = 4 ∨ e = 5 ∨ e = 6 ∨ e = 9 ∨ e = 10 ∨ e = 11 ∨ e = 12 ∨ e = 13 ∨ e = 14 ∨ e = 15 ∨ e = 16 ∨ e = 17 ∨ e = 18 ∨ e = 19) ∧ wordE e = []) := by
  by_cases h : e = 2 ∨ e = 3 ∨ e = 4 ∨ e = 5 ∨ e = 6 ∨ e = 9 ∨ e = 10 ∨ e = 11 ∨ e = 12 ∨ e = 13 ∨ e = 14 ∨ e = 15 ∨ e = 16 ∨ e = 17 ∨ e = 18 ∨ e = 19
  · exact .inl h
  · refine .inr ⟨h, ?_⟩
    unfold wordE
    have : errWords.find? (fun p => decide (p.1 = e)) = none := by
      rw [List.find?_eq_none]
      intro p hp
      simp only [errWords, List.mem_cons, List.not_mem_nil, or_false] at hp
      simp only [decide_eq_true_eq]
      rcases hp with rfl | rfl | rfl | rfl | rfl | rfl | rfl | rfl | rfl | rfl | rfl | rfl | rfl | rfl | rfl | rfl <;> simp only <;> omega
    rw [this]; rfl
theorem eword_ok (e : Int) : event_Word e (bstr (wordE e)) := by
  unfold event_Word
  simp only [decide_eq_true_eq]
  rcases wordE_cases e with h | ⟨h, hw⟩
  · rcases h with rfl | rfl | rfl | rfl | rfl | rfl | rfl | rfl | rfl | rfl | rfl | rfl | rfl | rfl | rfl | rfl <;> exact rfl
  · rw [hw]
    simp only [not_or] at h
    obtain ⟨h1, h2, h3, h4, h5, h6, h7, h8, h9, h10, h11, h12, h13, h14, h15, h16⟩ := h
    rw [if_neg h1, if_neg h2, if_neg h3, if_neg h4, if_neg h5, if_neg h6, if_neg h7, if_neg h8, if_neg h9, if_neg h10, if_neg h11, if_neg h12, if_neg h13, if_neg h14, if_neg h15, if_neg h16]
def errN : List Int := [2, 3, 4, 5, 6, 9, 10, 11, 12, 13, 14, 15, 16, 17, 18, 19]
def errT : List ByteArray := [(bstr [108, 111, 110, 103]), (bstr [102, 111, 114, 109]), (bstr [101, 110, 100]), (bstr [114, 97, 110, 103, 101]), (bstr [109, 97, 110, 121]), (bstr [107, 105, 110, 100]), (bstr [118, 101, 114, 115, 105, 111, 110]), (bstr [115, 117, 109]), (bstr [115, 116, 117, 102, 102]), (bstr [115, 104, 111, 114, 116]), (bstr [115, 101, 101, 110]), (bstr [111, 108, 100]), (bstr [116, 119, 105, 99, 101]), (bstr [109, 101, 101, 116]), (bstr [108, 97, 116, 101]), (bstr [116, 101, 120, 116])]
theorem rword_run (e : Int) : ∀ (m k : Nat), k + m = 16 → (∀ j, j < k → errN.getD j 0 ≠ e) → ∃ x, Loops (ref23_Word_l2 e) (k : Int) x ∧ Aft (fun p23 => ref23_Word_j1 p23 (bstr (wordE e))) (fun p24 => bstr (wordE e) = p24) x
  | 0, k, hk, hn => by
    obtain rfl : k = 16 := by omega
    refine ⟨.inl (), .done ?_, ?_⟩
    · unfold ref23_Word_l2; rw [if_neg (by decide)]
    · show bstr (wordE e) = bstr []
      rcases wordE_cases e with h | ⟨h, hw⟩
      · exfalso
        have h0 := hn 0 (by omega); have h1 := hn 1 (by omega); have h2 := hn 2 (by omega); have h3 := hn 3 (by omega); have h4 := hn 4 (by omega); have h5 := hn 5 (by omega); have h6 := hn 6 (by omega); have h7 := hn 7 (by omega)
        have h8 := hn 8 (by omega); have h9 := hn 9 (by omega); have h10 := hn 10 (by omega); have h11 := hn 11 (by omega); have h12 := hn 12 (by omega); have h13 := hn 13 (by omega); have h14 := hn 14 (by omega); have h15 := hn 15 (by omega)
        simp only [errN, List.getD_cons_zero, List.getD_cons_succ] at *
        omega
      · rw [hw]
  | m + 1, k, hk, hn => by
    have hlt : k < 16 := by omega
    have hN : errN[k]? = some (errN.getD k 0) := by
      rw [List.getD_eq_getElem?_getD, List.getElem?_eq_getElem (by show k < 16; omega)]; rfl
    have hx : idx [2, 3, 4, 5, 6, 9, 10, 11, 12, 13, 14, 15, 16, 17, 18, 19] (k : Int) (errN.getD k 0) := idx_at rfl hN
    by_cases he : errN.getD k 0 = e
    · refine ⟨.inr (bstr (wordE e)), .done ?_, rfl⟩
      unfold ref23_Word_l2
      rw [if_pos (by simp; omega)]
      refine ⟨_, hx, ?_⟩
      rw [if_pos (by simpa using he)]
      refine ⟨bstr (wordE e), idx_at rfl ?_, rfl⟩
      subst he
      have : ∀ k, k < 16 → errT[k]? = some (bstr (wordE (errN.getD k 0))) := by
        intro k hk
        match k, hk with
        | 0, _ => rfl
        | 1, _ => rfl
        | 2, _ => rfl
        | 3, _ => rfl
        | 4, _ => rfl
        | 5, _ => rfl
        | 6, _ => rfl
        | 7, _ => rfl
        | 8, _ => rfl
        | 9, _ => rfl
        | 10, _ => rfl
        | 11, _ => rfl
        | 12, _ => rfl
        | 13, _ => rfl
        | 14, _ => rfl
        | 15, _ => rfl
        | n + 16, h => exact absurd h (by omega)
      exact this k hlt
    · obtain ⟨x, h1, h2⟩ := rword_run e m (k + 1) (by omega) (fun j hj => by
        by_cases hjk : j = k
        · subst hjk; exact he
        · exact hn j (by omega))
      refine ⟨x, .next ?_ h1, h2⟩
      unfold ref23_Word_l2
      rw [if_pos (by simp; omega)]
      refine ⟨_, hx, ?_⟩
      rw [if_neg (by simpa using he), len_wrap (by omega)]
theorem reword_ok (e : Int) : ref23_Word e (bstr (wordE e)) := rword_run e 16 0 (by omega) (fun j hj => by omega)
theorem wordE_len (e : Int) : (wordE e).length ≤ 7 := by
  rcases wordE_cases e with h | ⟨_, hw⟩
  · rcases h with rfl | rfl | rfl | rfl | rfl | rfl | rfl | rfl | rfl | rfl | rfl | rfl | rfl | rfl | rfl | rfl <;> decide
  · rw [hw]; decide
def evLine (e : Ev) : List Int :=
  if e.1 = 1 then [100, 101, 108, 105, 118, 101, 114, 32] ++ decI e.2.1 ++ [32, 118, 32] ++ decI e.2.2.1 ++ [32] ++ lineL e.2.2.2.2
  else if e.1 = 2 then [114, 101, 106, 101, 99, 116, 32] ++ decI e.2.1 ++ [32] ++ wordE e.2.2.2.1
  else if e.1 = 3 then [101, 118, 105, 99, 116, 32] ++ decI e.2.1 else []
structure EvOk (e : Ev) : Prop where
  kind : IntOk .i64 e.1
  seq : IntOk .u32 e.2.1
  ver : IntOk .i64 e.2.2.1
  err : IntOk .i64 e.2.2.2.1
  msg : MgOk e.2.2.2.2
theorem lineL_len {m : Mg} (ok : MgOk m) : (lineL m).length ≤ 1000000 := by
  unfold lineL; split
  · have := wordL_len m.1
    have := bodyL_len ok (fields_fd m.1)
    have := fields_len m.1
    simp only [List.length_append]; omega
  · simp
theorem i64_u32 {n : Int} (h : IntOk .u32 n) : IntOk .i64 n ∧ IntKind.i64.wrap n = n := by
  have ⟨q0, q1⟩ := ok_u32 h
  exact ⟨⟨by show (-9223372036854775808 : Int) ≤ n; omega, by show n ≤ 9223372036854775807; omega⟩, w_small (by omega) (by omega)⟩
theorem fin_app (a b : List Int) (hab : a.length + b.length < 1000000000) : (bstr a).size + (bstr b).size < 4611686018427387904 := by rw [size_bstr, size_bstr]; omega
theorem eline_ok {e : Ev} (ok : EvOk e) : event_Line e (bstr (evLine e)) := by
  obtain ⟨hs, hw⟩ := i64_u32 ok.seq
  have l1 := decI_len hs
  have l2 := decI_len ok.ver
  have l3 := lineL_len ok.msg
  have l4 := wordE_len e.2.2.2.1
  refine ⟨_, by rw [hw]; exact snum_ok hs, ?_⟩
  unfold evLine
  simp only [decide_eq_true_eq]
  by_cases h1 : e.1 = 1
  · rw [if_pos h1, if_pos h1]
    refine ⟨?_, ?_, _, snum_ok ok.ver, ?_, ?_, _, sline_ok ok.msg, ?_, ?_⟩
    all_goals (try simp only [← bstr_append])
    all_goals first | (refine fin_app _ _ ?_; simp only [List.length_append, List.length_cons, List.length_nil]; omega)
  rw [if_neg h1, if_neg h1]
  by_cases h2 : e.1 = 2
  · rw [if_pos h2, if_pos h2]
    refine ⟨?_, ?_, _, eword_ok _, ?_, ?_⟩
    all_goals (try simp only [← bstr_append])
    all_goals first | (refine fin_app _ _ ?_; simp only [List.length_append, List.length_cons, List.length_nil]; omega)
  rw [if_neg h2, if_neg h2]
  by_cases h3 : e.1 = 3
  · rw [if_pos h3, if_pos h3]
    refine ⟨?_, ?_⟩
    all_goals (try simp only [← bstr_append])
    all_goals first | (refine fin_app _ _ ?_; simp only [List.length_cons, List.length_nil]; omega)
  rw [if_neg h3, if_neg h3]
def ofE (e : Ev) : Er := (e.1, e.2.1, e.2.2.1, e.2.2.2.1, ofM e.2.2.2.2)
theorem reline_ok {e : Ev} (ok : EvOk e) : ref23_Line (ofE e) (bstr (evLine e)) := by
  obtain ⟨hs, hw⟩ := i64_u32 ok.seq
  have l1 := decI_len hs
  have l2 := decI_len ok.ver
  have l3 := lineL_len ok.msg
  have l4 := wordE_len e.2.2.2.1
  refine ⟨_, (by simp only [ofE]; rw [hw]; exact digits_ok hs), ?_⟩
  unfold evLine
  have cp : ∀ {n : Int}, e.1 = n → decide ((ofE e).1 = n) = true := fun h => decide_eq_true h
  have cn : ∀ {n : Int}, ¬ e.1 = n → ¬ decide ((ofE e).1 = n) = true := fun h hh => h (of_decide_eq_true hh)
  by_cases h1 : e.1 = 1
  · rw [if_pos (cp h1), if_pos h1]
    refine ⟨?_, ?_, bstr (decI e.2.2.1), digits_ok ok.ver, ?_, ?_, bstr (lineL e.2.2.2.2), rline_ok ok.msg, ?_, ?_⟩
    all_goals (try simp only [← bstr_append])
    all_goals first | (refine fin_app _ _ ?_; simp only [List.length_append, List.length_cons, List.length_nil]; omega)
  rw [if_neg (cn h1), if_neg h1]
  by_cases h2 : e.1 = 2
  · rw [if_pos (cp h2), if_pos h2]
    refine ⟨?_, ?_, bstr (wordE e.2.2.2.1), reword_ok _, ?_, ?_⟩
    all_goals (try simp only [← bstr_append])
    all_goals first | (refine fin_app _ _ ?_; simp only [List.length_append, List.length_cons, List.length_nil]; omega)
  rw [if_neg (cn h2), if_neg h2]
  by_cases h3 : e.1 = 3
  · rw [if_pos (cp h3), if_pos h3]
    refine ⟨?_, ?_⟩
    all_goals (try simp only [← bstr_append])
    all_goals first | (refine fin_app _ _ ?_; simp only [List.length_cons, List.length_nil]; omega)
  rw [if_neg (cn h3), if_neg h3]
def sameE (a b : Ev) : Bool := decide (a.1 = b.1 ∧ a.2.1 = b.2.1 ∧ a.2.2.1 = b.2.2.1 ∧ a.2.2.2.1 = b.2.2.2.1) && sameB a.2.2.2.2 b.2.2.2.2
theorem esame_ok {a b : Ev} (hp : a.2.2.2.2.2.2.1.length < 4611686018427387904) (hc : a.2.2.2.2.2.2.2.1.length < 4611686018427387904) : event_Same a b (sameE a b) := by
  unfold event_Same sameE
  simp only [decide_eq_true_eq, event_Same_j1]
  by_cases h1 : a.1 = b.1
  · by_cases h2 : a.2.1 = b.2.1
    · by_cases h3 : a.2.2.1 = b.2.2.1
      · by_cases h4 : a.2.2.2.1 = b.2.2.2.1
        · rw [if_pos h1, if_pos h2, if_pos h3, if_pos h4]; exact ⟨_, msame_ok hp hc, by simp [h1, h2, h3, h4]⟩
        · rw [if_pos h1, if_pos h2, if_pos h3, if_neg h4]; simp [h4]
      · rw [if_pos h1, if_pos h2, if_neg h3]; simp [h3]
    · rw [if_pos h1, if_neg h2]; simp [h2]
  · rw [if_neg h1]; simp [h1]
theorem resame_ok {a b : Ev} (hp : a.2.2.2.2.2.2.1.length < 4611686018427387904) (hc : a.2.2.2.2.2.2.2.1.length < 4611686018427387904) : ref23_Same (ofE a) (ofE b) (sameE a b) := by
  unfold ref23_Same sameE ofE
  simp only [decide_eq_true_eq, ref23_Same_j1]
  by_cases h1 : a.1 = b.1
  · by_cases h2 : a.2.1 = b.2.1
    · by_cases h3 : a.2.2.1 = b.2.2.1
      · by_cases h4 : a.2.2.2.1 = b.2.2.2.1
        · rw [if_pos h1, if_pos h2, if_pos h3, if_pos h4]; exact ⟨_, rsame_ok hp hc, by simp [h1, h2, h3, h4]⟩
        · rw [if_pos h1, if_pos h2, if_pos h3, if_neg h4]; simp [h4]
      · rw [if_pos h1, if_pos h2, if_neg h3]; simp [h3]
    · rw [if_pos h1, if_neg h2]; simp [h2]
  · rw [if_neg h1]; simp [h1]
theorem sameB_refl (m : Mg) : sameB m m = true := by simp [sameB]
theorem sameE_refl (e : Ev) : sameE e e = true := by simp [sameE, sameB_refl]
def cutE (e : Ev) : Ev := (e.1, e.2.1, e.2.2.1, e.2.2.2.1, cutM e.2.2.2.2)
theorem ecut_ok (e : Ev) : law23_Cut e (cutE e) := ⟨_, cut_ok _, rfl⟩
theorem eof_ok {e : Ev} (h : e.2.2.2.2.2.2.1.length < 1099511627776) : law23_Of e (ofE e) := ⟨_, ofm_ok h, rfl⟩
/-- What comes in: a message of any lengths. -/
structure MgIn (m : Mg) : Prop where
  kind : IntOk .i64 m.1
  six : m.2.1.length = 6
  num : ∀ x ∈ m.2.1, IntOk .i64 x
  path : ∀ p ∈ m.2.2.1, IntOk .i64 p.1 ∧ IntOk .i64 p.2
  cells : ∀ x ∈ m.2.2.2.1, IntOk .i64 x
theorem ext_size (s : ByteArray) (n : Nat) : (s.extract 0 n).size ≤ n := by rw [ByteArray.size_extract]; omega
theorem cut_in {m : Mg} (h : MgIn m) : MgOk (cutM m) := ⟨h.kind, h.six, h.num, fun p hp => h.path p (List.mem_of_mem_take hp), fun x hx => h.cells x (List.mem_of_mem_take hx), by simp only [cutM, List.length_take]; omega, by simp only [cutM, List.length_take]; omega, by have := ext_size m.2.2.2.2.1 80; simp only [cutM]; omega, by have := ext_size m.2.2.2.2.2 80; simp only [cutM]; omega⟩
structure EvIn (e : Ev) : Prop where
  kind : IntOk .i64 e.1
  seq : IntOk .u32 e.2.1
  ver : IntOk .i64 e.2.2.1
  err : IntOk .i64 e.2.2.2.1
  msg : MgIn e.2.2.2.2
theorem ecut_in {e : Ev} (h : EvIn e) : EvOk (cutE e) := ⟨h.kind, h.seq, h.ver, h.err, cut_in h.msg⟩
theorem ok_lit (n : Int) (h0 : -9223372036854775808 ≤ n) (h1 : n ≤ 9223372036854775807) : IntOk .i64 n := ⟨h0, h1⟩
theorem deliv_ok (seq ver : Int) {m : Mg} (hp : m.2.2.1.length < 1099511627776) (hc : m.2.2.2.1.length < 1099511627776) : event_Delivery seq ver m (1, seq, ver, 0, m) := ⟨_, mcopy_ok hp hc, rfl⟩
instance (k : IntKind) (n : Int) : Decidable (IntOk k n) := by unfold IntOk; infer_instance
def zM : Mg := (0, [0, 0, 0, 0, 0, 0], [], [], bstr [], bstr [])
theorem zM_ok : MgOk zM := ⟨by decide, rfl, by decide, by decide, by decide, by decide, by decide, by decide, by decide⟩
theorem known23_ok : law23_known true := by
  have hm : MgOk (2, [1, 2, 0, 0, 0, 0], [], [], bstr [], bstr []) := ⟨by decide, rfl, by decide, by decide, by decide, by decide, by decide, by decide, by decide⟩
  refine ⟨_, deliv_ok 7 1 (by decide) (by decide), _, eline_ok ⟨by decide, by decide, by decide, by decide, hm⟩, ?_⟩
  rw [if_pos (by decide)]
  refine ⟨_, rfl, _, eline_ok ⟨by decide, by decide, by decide, by decide, zM_ok⟩, ?_⟩
  rw [if_pos (by decide)]
  refine ⟨_, rfl, _, eline_ok ⟨by decide, by decide, by decide, by decide, zM_ok⟩, ?_⟩
  show true = _
  decide
theorem eventLines_true {a b : Ev} {e : Int} (ha : EvIn a) (hb : EvIn b) : law23_EventLines a b e true := by
  have oa := ecut_in ha
  have ob := ecut_in hb
  have h1 := oa.msg.lpath
  have h2 := oa.msg.lcells
  have h3 := ob.msg.lpath
  refine ⟨_, ecut_ok a, _, ecut_ok b, true, known23_ok, _, fun _ => eline_ok oa, _, fun _ => eof_ok (by omega), _, fun _ => reline_ok oa, _, fun _ => esame_ok (by omega) (by omega), _, fun _ => eof_ok (by omega), _, fun _ => eof_ok (by omega), _, fun _ => resame_ok (by omega) (by omega), _, fun _ => esame_ok (by omega) (by omega), _, fun _ => eword_ok e, _, fun _ => reword_ok e, ?_⟩
  simp [sameE_refl]
abbrev MgRaw (m : Mg) : Prop := IntOk .i64 m.1 ∧ (m.2.1.length = 6 ∧ ∀ x ∈ m.2.1, IntOk .i64 x) ∧ ListOk (fun p : Int × Int => IntOk .i64 p.1 ∧ IntOk .i64 p.2) m.2.2.1 ∧ ListOk (IntOk .i64) m.2.2.2.1 ∧ StrOk m.2.2.2.2.1 ∧ StrOk m.2.2.2.2.2
theorem mgIn {m : Mg} (h : MgRaw m) : MgIn m := ⟨h.1, h.2.1.1, h.2.1.2, h.2.2.1.1, h.2.2.2.1.1⟩
abbrev EvRaw (e : Ev) : Prop := IntOk .i64 e.1 ∧ IntOk .u32 e.2.1 ∧ IntOk .i64 e.2.2.1 ∧ IntOk .i64 e.2.2.2.1 ∧ MgRaw e.2.2.2.2
theorem evIn {e : Ev} (h : EvRaw e) : EvIn e := ⟨h.1, h.2.1, h.2.2.1, h.2.2.2.1, mgIn h.2.2.2.2⟩
theorem eventLines_claim {a b : Ev} {e : Int} (h0 : EvRaw a) (h1 : EvRaw b) (_h2 : IntOk .i64 e) : law23_EventLines a b e true := eventLines_true (evIn h0) (evIn h1)
end Go.Rel
