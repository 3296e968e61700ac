import Derived.Test.YtgokdchgjpneoaaDoorPlB
import Derived.Test.YtgokdchgjpneoaaDoorURel
/-! Plain laws: numbers in digits. -/
namespace Go.Rel
open Go Go.Eng Go.Pl
/-! ### Bytes as strings -/
theorem foldl_push_size (l : List Int) (s : ByteArray) : (l.foldl (fun r n => r.push (UInt8.ofNat n.toNat)) s).size = s.size + l.length := by
  induction l generalizing s with
  | nil => simp
  | cons x l ih => rw [List.foldl_cons, ih, ByteArray.size_push, List.length_cons]; omega
theorem size_bstr (l : List Int) : (bstr l).size = l.length := by
  unfold bstr
  rw [foldl_push_size]
  show ByteArray.empty.size + _ = _
  simp
theorem foldl_push_append (l : List Int) (s t : ByteArray) : l.foldl (fun r n => r.push (UInt8.ofNat n.toNat)) (s ++ t) = s ++ l.foldl (fun r n => r.push (UInt8.ofNat n.toNat)) t := by
  induction l generalizing t with
  | nil => rfl
  | cons x l ih =>
    rw [List.foldl_cons, List.foldl_cons, ← ih]
    congr 1
    apply ByteArray.ext
    simp [ByteArray.push, ByteArray.data_append]
theorem bstr_append (a b : List Int) : bstr (a ++ b) = bstr a ++ bstr b := by
  unfold bstr
  rw [List.foldl_append]
  have h := foldl_push_append b (a.foldl (fun r n => r.push (UInt8.ofNat n.toNat)) ByteArray.empty) ByteArray.empty
  rw [← h]
  congr 1
  simp
theorem bstr_nil_append (a : ByteArray) : a ++ bstr [] = a := by
  show a ++ ByteArray.empty = a
  simp
/-! ### Digits -/
theorem decF_fuel : ∀ (f u f' : Nat), u ≤ f → u ≤ f' → decF f u = decF f' u
  | 0, u, f', h, h' => by
    obtain rfl : u = 0 := by omega
    cases f' with
    | zero => rfl
    | succ f' => simp [decF]
  | f + 1, u, f', h, h' => by
    cases f' with
    | zero =>
      obtain rfl : u = 0 := by omega
      simp [decF]
    | succ f' =>
      by_cases hu : u < 10
      · simp [decF, hu]
      · simp only [decF, if_neg hu]
        rw [decF_fuel f (u / 10) f' (by omega) (by omega)]
theorem decL_lt {u : Nat} (h : u < 10) : decL u = [48 + (u : Int)] := by
  unfold decL
  cases u with
  | zero => rfl
  | succ u => simp only [decF, if_pos h]
theorem decL_ge {u : Nat} (h : ¬ u < 10) : decL u = decL (u / 10) ++ [48 + ((u % 10 : Nat) : Int)] := by
  unfold decL
  match u, h with
  | u + 1, h =>
    simp only [decF, if_neg h]
    rw [decF_fuel u ((u + 1) / 10) ((u + 1) / 10) (by omega) (by omega)]
theorem decL_len : ∀ (k u : Nat), u < 10 ^ (k + 1) → (decL u).length ≤ k + 1
  | 0, u, h => by rw [decL_lt (by omega)]; simp
  | k + 1, u, h => by
    by_cases hu : u < 10
    · rw [decL_lt hu]; simp
    · rw [decL_ge hu, List.length_append]
      have := decL_len k (u / 10) (by rw [Nat.pow_succ] at h; omega)
      simp only [List.length_cons, List.length_nil]; omega
theorem decI_len {n : Int} (h : IntOk .i64 n) : (decI n).length ≤ 21 := by
  have ⟨h0, h1⟩ := ok_i64 h
  unfold decI
  split
  · rw [List.length_cons]; have := decL_len 19 n.natAbs (by omega); omega
  · have := decL_len 19 n.toNat (by omega); omega
theorem decI_lenu {n : Int} (h : IntOk .u64 n) : (decI n).length ≤ 21 := by
  have h0 : 0 ≤ n := h.1
  have h1 : n ≤ 18446744073709551615 := h.2
  unfold decI
  rw [if_neg (by omega)]; have := decL_len 19 n.toNat (by omega); omega
theorem decL_dig : ∀ (f u : Nat), u ≤ f → ∀ x ∈ decF f u, 48 ≤ x ∧ x < 58
  | 0, u, h, x, hx => by
    obtain rfl : u = 0 := by omega
    simp [decF] at hx; subst hx; decide
  | f + 1, u, h, x, hx => by
    by_cases hu : u < 10
    · simp only [decF, if_pos hu, List.mem_singleton] at hx; omega
    · simp only [decF, if_neg hu, List.mem_append, List.mem_singleton] at hx
      rcases hx with hx | hx
      · exact decL_dig f (u / 10) (by omega) x hx
      · omega
/-! ### The library's -/
theorem itoa_ok {n : Int} (h : IntOk .i64 n) : strconv_Itoa n (bstr (decI n)) := ⟨h, rfl⟩
theorem utoa_ok {n : Int} (h : IntOk .u64 n) : strconv_FormatUint n 10 (bstr (decI n)) := ⟨_, ⟨h, rfl, rfl⟩, rfl⟩
theorem itoa_small {n : Int} {s : ByteArray} (h0 : 0 ≤ n) (h1 : n < 100) (hs : bstr (decI n) = s) : strconv_Itoa n s := by
  subst hs; exact itoa_ok ⟨by show (-9223372036854775808 : Int) ≤ n; omega, by show n ≤ 9223372036854775807; omega⟩
theorem utoa_small {n : Int} {s : ByteArray} (h0 : 0 ≤ n) (h1 : n < 100) (hs : bstr (decI n) = s) : strconv_FormatUint n 10 s := by
  subst hs; exact utoa_ok ⟨h0, by show n ≤ 18446744073709551615; omega⟩
theorem dig0 : bstr (decI 0) = bstr [48] := rfl
theorem dig2 : bstr (decI 2) = bstr [50] := rfl
theorem dig3 : bstr (decI 3) = bstr [51] := rfl
theorem dig4 : bstr (decI 4) = bstr [52] := rfl
theorem dig10 : bstr (decI 10) = bstr [49, 48] := rfl
theorem dig64 : bstr (decI 64) = bstr [54, 52] := rfl
theorem dig77 : bstr (decI 77) = bstr [55, 55] := rfl
/-! ### The document's -/
theorem dig_pos : ∀ (k u : Nat) (t : List Int), u < 10 ^ (k + 1) → u < 9223372036854775808 → t.length + k < 60 → ∃ e : Int × ByteArray, Loops ref07_Digits_l4 ((u : Int), bstr t) e ∧ ∃ t', 0 ≤ e.1 ∧ e.1 < 10 ∧ e.2 = bstr t' ∧ (48 + e.1) :: t' = decL u ++ t ∧ t'.length < 60
  | 0, u, t, h, _, hl => ⟨_, .done (by unfold ref07_Digits_l4; rw [if_neg (by simp; omega)]), t, by simp only; omega, by simp only; omega, rfl, by rw [decL_lt (by omega)]; rfl, by omega⟩
  | k + 1, u, t, h, hb, hl => by
    by_cases hu : u < 10
    · exact ⟨_, .done (by unfold ref07_Digits_l4; rw [if_neg (by simp; omega)]), t, by simp only; omega, by simp only; omega, rfl, by rw [decL_lt hu]; rfl, by omega⟩
    · obtain ⟨e, h1, t', h2, h3, h4, h5, h6⟩ := dig_pos k (u / 10) ((48 + ((u % 10 : Nat) : Int)) :: t) (by rw [Nat.pow_succ] at h; omega) (by omega) (by rw [List.length_cons]; omega)
      refine ⟨e, .next (s' := (((u / 10 : Nat) : Int), bstr ((48 + ((u % 10 : Nat) : Int)) :: t))) ?_ h1, t', h2, h3, h4, by rw [h5, decL_ge hu, List.append_assoc]; rfl, h6⟩
      unfold ref07_Digits_l4
      rw [if_pos (by simp; omega)]
      have e1 : IntKind.u8.wrap (IntKind.i64.wrap (48 + ((u : Int).tmod 10))) = 48 + ((u % 10 : Nat) : Int) := by
        rw [Int.tmod_eq_emod_of_nonneg (by omega), w_small (by omega) (by omega), w_u8]; omega
      have e2 : IntKind.i64.wrap ((u : Int).tdiv 10) = ((u / 10 : Nat) : Int) := by
        rw [Int.tdiv_eq_ediv_of_nonneg (by omega), w_small (by omega) (by omega)]; omega
      simp only [e1, e2]
      refine ⟨by rw [size_bstr, size_bstr]; simp only [List.length_cons, List.length_nil]; omega, ?_⟩
      rw [← bstr_append]; rfl
theorem dig_neg : ∀ (k u : Nat) (t : List Int), 1 ≤ u → u < 10 ^ (k + 1) → u ≤ 9223372036854775808 → t.length + k < 60 → Loops ref07_Digits_l2 (-(u : Int), bstr t) (0, bstr (decL u ++ t))
  | k, u, t, h1, h, hb, hl => by
    have e1 : IntKind.u8.wrap (IntKind.i64.wrap (48 - ((-(u : Int)).tmod 10))) = 48 + ((u % 10 : Nat) : Int) := by
      rw [Int.neg_tmod, Int.tmod_eq_emod_of_nonneg (by omega), w_small (by omega) (by omega), w_u8]; omega
    have e2 : IntKind.i64.wrap ((-(u : Int)).tdiv 10) = -((u / 10 : Nat) : Int) := by
      rw [Int.neg_tdiv, Int.tdiv_eq_ediv_of_nonneg (by omega), w_small (by omega) (by omega)]; omega
    have st : ref07_Digits_l2 (-(u : Int), bstr t) (.inl (-((u / 10 : Nat) : Int), bstr ((48 + ((u % 10 : Nat) : Int)) :: t))) := by
      unfold ref07_Digits_l2
      rw [if_pos (by simp; omega)]
      simp only [e1, e2]
      refine ⟨by rw [size_bstr, size_bstr]; simp only [List.length_cons, List.length_nil]; omega, ?_⟩
      rw [← bstr_append]; rfl
    refine .next st ?_
    by_cases hu : u < 10
    · rw [show u / 10 = 0 by omega, show u % 10 = u by omega, decL_lt hu]
      exact .done (by unfold ref07_Digits_l2; rw [if_neg (by simp)]; rfl)
    · match k, h with
      | 0, h => omega
      | k + 1, h =>
        have := dig_neg k (u / 10) ((48 + ((u % 10 : Nat) : Int)) :: t) (by omega) (by rw [Nat.pow_succ] at h; omega) (by omega) (by rw [List.length_cons]; omega)
        rw [decL_ge hu, List.append_assoc]; exact this
theorem digits_ok {n : Int} (h : IntOk .i64 n) : ref07_Digits n (bstr (decI n)) := by
  have ⟨h0, h1⟩ := ok_i64 h
  unfold ref07_Digits decI
  by_cases hn : n < 0
  · rw [if_pos (by simpa using hn), if_pos hn]
    obtain ⟨u, rfl⟩ : ∃ u : Nat, n = -(u : Int) := ⟨n.natAbs, by omega⟩
    have := dig_neg 19 u [] (by omega) (by omega) (by omega) (by simp)
    rw [List.append_nil] at this
    refine ⟨_, this, ?_, ?_⟩
    · rw [size_bstr, size_bstr]; have := decL_len 19 u (by omega); simp only [List.length_cons, List.length_nil]; omega
    · rw [← bstr_append, show (-(u : Int)).natAbs = u by omega]; rfl
  · rw [if_neg (by simpa using hn), if_neg hn]
    obtain ⟨u, rfl⟩ : ∃ u : Nat, n = (u : Int) := ⟨n.toNat, by omega⟩
    obtain ⟨e, g1, t', g2, g3, g4, g5, g6⟩ := dig_pos 19 u [] (by omega) (by omega) (by simp)
    have ew : IntKind.u8.wrap (IntKind.i64.wrap (48 + e.1)) = 48 + e.1 := by rw [w_small (by omega) (by omega), w_u8]; omega
    refine ⟨_, g1, ?_⟩
    unfold ref07_Digits_j3
    rw [ew, g4]
    refine ⟨by rw [size_bstr, size_bstr]; simp only [List.length_cons, List.length_nil]; omega, ?_⟩
    rw [← bstr_append, List.singleton_append, g5, List.append_nil, Int.toNat_natCast]
end Go.Rel
