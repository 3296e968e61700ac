import Derived.Test.YtgokdchgjpneoaaDoorPlHeadMates
/-! Plain laws: whether any head may be, its bytes and its line. -/
namespace Go.Rel
open Go Go.Eng Go.Pl
/-- A head's line. -/
def headLn (h : Hd) : List Int := [118, 32] ++ decI h.1 ++ [32, 107, 32] ++ decI h.2.1 ++ [32] ++ decI h.2.2.1 ++ [32] ++ decI h.2.2.2.1 ++ [47] ++ decI h.2.2.2.2
abbrev HdOk (h : Hd) : Prop := IntOk .i64 h.1 ∧ IntOk .i64 h.2.1 ∧ IntOk .u32 h.2.2.1 ∧ IntOk .i64 h.2.2.2.1 ∧ IntOk .i64 h.2.2.2.2
theorem hline_ok {h : Hd} (ok : HdOk h) : head_Line h (bstr (headLn h)) ∧ ref07_Line h (bstr (headLn h)) := by
  obtain ⟨o1, o2, o3, o4, o5⟩ := ok
  have ⟨q0, q1⟩ := ok_u32 o3
  have o3u : IntOk .u64 h.2.2.1 := ⟨q0, by show h.2.2.1 ≤ 18446744073709551615; omega⟩
  have o3i : IntOk .i64 h.2.2.1 := ⟨by show (-9223372036854775808 : Int) ≤ h.2.2.1; omega, by show h.2.2.1 ≤ 9223372036854775807; omega⟩
  have l1 := decI_len o1
  have l2 := decI_len o2
  have l3 := decI_len o3i
  have l4 := decI_len o4
  have l5 := decI_len o5
  have fin : ∀ a b : List Int, a.length + b.length < 1000 → (bstr a).size + (bstr b).size < 4611686018427387904 := by
    intro a b hab; rw [size_bstr, size_bstr]; omega
  constructor
  · unfold head_Line
    rw [w64_small q0 (by omega)]
    refine ⟨_, itoa_ok o1, ?_, ?_, _, itoa_ok o2, ?_, ?_, _, utoa_ok o3u, ?_, ?_, _, itoa_ok o4, ?_, ?_, _, itoa_ok o5, ?_, ?_⟩
    all_goals (try simp only [← bstr_append])
    all_goals first | (refine fin _ _ ?_; simp only [List.length_append, List.length_cons, List.length_nil]; omega) | rfl
  · unfold ref07_Line
    rw [w_small (by omega) (by omega)]
    refine ⟨_, digits_ok o1, ?_, ?_, _, digits_ok o2, ?_, ?_, _, digits_ok o3i, ?_, ?_, _, digits_ok o4, ?_, ?_, _, digits_ok o5, ?_, ?_⟩
    all_goals (try simp only [← bstr_append])
    all_goals first | (refine fin _ _ ?_; simp only [List.length_append, List.length_cons, List.length_nil]; omega) | rfl
theorem hbytes_no {h : Hd} (he : headE h ≠ 0) : head_Bytes h ([], headE h) := by
  refine ⟨_, hcheck_ok h, ?_⟩
  rw [if_pos (by simp; exact he)]
theorem hdOf_headB {h : Hd} (hq : 0 ≤ h.2.2.1 ∧ h.2.2.1 < 4294967296) : hdOf (headB h) = h := by
  obtain ⟨a, b, q, i, n⟩ := h
  simp only at hq
  simp only [headB, hdOf, leV, List.drop_succ_cons, List.drop_zero, List.take_succ_cons, List.take_zero, List.getD_cons_zero, List.getD_cons_succ]
  have : (((0 * 256 + q / 16777216) * 256 + q / 65536 % 256) * 256 + q / 256 % 256) * 256 + q % 256 = q := by omega
  rw [this]
theorem word_step {n q i : Int} {l : List Int} (hl : l.length < 100) (hq : 0 ≤ q ∧ q < 4294967296) (h0 : 0 ≤ i) (h1 : i < n) (hn : n ≤ 100) : ref02_Word_l2 n (q, l, i) (.inl (q / 256, l ++ [q % 256], i + 1)) := by
  unfold ref02_Word_l2
  simp only
  rw [if_pos (by simpa using h1)]
  refine ⟨by simp; omega, by simp; omega, ?_⟩
  rw [Int.tdiv_eq_ediv_of_nonneg hq.1, Int.tmod_eq_emod_of_nonneg hq.1, w_u32, w_u8, w_small (by omega) (by omega), show q / 256 % 4294967296 = q / 256 by omega, show q % 256 % 256 = q % 256 by omega]
theorem word4_ok {q : Int} (hq : 0 ≤ q ∧ q < 4294967296) : ref02_Word q 4 [q % 256, q / 256 % 256, q / 65536 % 256, q / 16777216] := by
  refine ⟨_, .next (word_step (by simp) hq (by decide) (by decide) (by decide)) (.next (word_step (by simp) (by omega) (by decide) (by decide) (by decide)) (.next (word_step (by simp) (by omega) (by decide) (by decide) (by decide)) (.next (word_step (by simp) (by omega) (by decide) (by decide) (by decide)) (.done (e := [q % 256, q / 256 % 256, q / 65536 % 256, q / 16777216]) ?_)))), rfl⟩
  unfold ref02_Word_l2
  simp only
  rw [if_neg (by simp)]
  simp only [List.nil_append, List.cons_append]
  rw [show q / 256 / 256 = q / 65536 by omega, show q / 65536 / 256 = q / 16777216 by omega, show q / 16777216 % 256 = q / 16777216 by omega]
theorem rhbytes_ok {h : Hd} (he : headE h = 0) (hq : 0 ≤ h.2.2.1 ∧ h.2.2.1 < 4294967296) : ref07_Bytes h (headB h) := by
  have := headE_ok he
  refine ⟨_, word4_ok hq, by simp, by simp, by simp, by simp, ?_⟩
  rw [w_u8, w_u8, w_u8, w_u8]
  unfold headB
  simp only [List.cons_append, List.nil_append]
  have e : ∀ a b c d e f g i a' b' c' d' e' f' g' i' : Int, a = a' → b = b' → c = c' → d = d' → e = e' → f = f' → g = g' → i = i' → [a, b, c, d, e, f, g, i] = [a', b', c', d', e', f', g', i'] := by
    intros; subst_vars; rfl
  apply e <;> omega
theorem headTells_true {h : Hd} (ok : HdOk h) : law07_HeadTells h true := by
  have hq := ok_u32 ok.2.2.1
  by_cases he : headE h = 0
  · have hb := headB_byt he hq
    have hP := hparse_ok (l := headB h) hb rfl
    have hPe : parseH (headB h) = (h, 0) := by unfold parseH; rw [hdOf_headB hq, if_pos he]
    rw [hPe] at hP
    have hh := headE_ok he
    refine ⟨_, hbytes_ok he hq, _, rhcheck_ok h, _, hcheck_ok h, _, fun _ => (hline_ok ok).1, _, fun _ => (hline_ok ok).2, ?_⟩
    rw [if_neg (by simp [he]), if_neg (by simp [he])]
    refine ⟨_, hP, _, known07_ok, _, fun _ => rhbytes_ok he hq, _, fun _ => same_ok (by simp [headB]), _, fun _ => rfl, ?_⟩
    have hl : (headB h).length = 8 := rfl
    have e1 : (IntKind.i64.wrap (h.2.2.2.2 - 1) = h.2.2.2.1) = (h.2.2.2.1 = IntKind.i64.wrap (h.2.2.2.2 - 1)) := propext ⟨Eq.symm, Eq.symm⟩
    simp [hl, e1]
  · refine ⟨_, hbytes_no he, _, rhcheck_ok h, _, hcheck_ok h, _, fun _ => (hline_ok ok).1, _, fun _ => (hline_ok ok).2, ?_⟩
    rw [if_neg (by simp), if_pos (by simpa using he)]
    refine ⟨_, known07_ok, ?_⟩
    rw [if_pos rfl]
    rfl
theorem headTells_claim {a : Hd} (h : HdOk a) : law07_HeadTells a true := headTells_true h
end Go.Rel
