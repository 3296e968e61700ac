import Derived.Test.YtonmgcebhhdplabGreatDoorEngP
import Derived.Test.YtonmgcebhhdplabGreatDoorURel
/-! Plain laws: whole numbers of a kind; loops that count. -/
namespace Go.Pl
open Go Go.Eng

theorem w_u8 (n : Int) : IntKind.u8.wrap n = n % 256 := by simp [IntKind.wrap, IntKind.bits, IntKind.signed]
theorem w_i64 (n : Int) : IntKind.i64.wrap n = (n + 9223372036854775808) % 18446744073709551616 - 9223372036854775808 := by
 simp only [IntKind.wrap, IntKind.bits, IntKind.signed]
 simp only [Bool.true_and]
 split
 ·rename_i h; simp at h; omega
 ·rename_i h; simp at h; omega
theorem w_small {n : Int} (h0 : -9223372036854775808 ≤ n) (h1 : n ≤ 9223372036854775807) : IntKind.i64.wrap n = n := by rw [w_i64]; omega
theorem loops_count {S E : Type} {step : S → Sum S E → Prop} (f : Nat → S) (N : Nat) {e : E} (hstep : ∀ k, k < N → step (f k) (.inl (f (k + 1)))) (hend : step (f N) (.inr e)) : Loops step (f 0) e := by
  have key : ∀ m k, k + m = N → Loops step (f k) e := by
    intro m
    induction m with
    | zero => intro k hk; have : k = N := by omega
              subst this; exact .done hend
    | succ m ih => intro k hk; exact .next (hstep k (by omega)) (ih (k + 1) (by omega))
  exact key N 0 (by omega)
end Go.Pl
/-! Plain laws: loops by what holds; words of 32 bits. -/
namespace Go.Pl
open Go Go.Eng

theorem loops_inv {S E : Type} {step : S → Sum S E → Prop} (I : Nat → S → Prop) (Q : E → Prop) (N : Nat) {s : S} (h0 : I 0 s)
    (hs : ∀ k s, k < N → I k s → (∃ s', step s (.inl s') ∧ I (k + 1) s') ∨ ∃ e, step s (.inr e) ∧ Q e) (he : ∀ s, I N s → ∃ e, step s (.inr e) ∧ Q e) : ∃ e, Loops step s e ∧ Q e := by
  have key : ∀ m k s, k + m = N → I k s → ∃ e, Loops step s e ∧ Q e := by
    intro m
    induction m with
    | zero =>
      intro k s hk hi
      have : k = N := by omega
      subst this
      obtain ⟨e, h1, h2⟩ := he s hi
      exact ⟨e, .done h1, h2⟩
    | succ m ih =>
      intro k s hk hi
      rcases hs k s (by omega) hi with ⟨s', h1, h2⟩ | ⟨e, h1, h2⟩
      · obtain ⟨e, h3, h4⟩ := ih (k + 1) s' (by omega) h2
        exact ⟨e, .next h1 h3, h4⟩
      · exact ⟨e, .done h1, h2⟩
  exact key N 0 s (by omega) h0
theorem idx_of {α : Type} {xs : List α} {k : Nat} (h : k < xs.length) : idx xs (k : Int) xs[k] := ⟨by omega, by simp [h]⟩
theorem idx_at {α : Type} {xs : List α} {i : Int} {k : Nat} {x : α} (hi : i = (k : Int)) (h : xs[k]? = some x) : idx xs i x := by
 subst hi; exact ⟨by omega, by simpa using h⟩
theorem putN_getD {α : Type} {n : Nat} {z v : α} {xs : List α} {q j : Nat} (hj : j < n) : (putN n z xs q v).getD j z = if j = q then v else xs.getD j z := by
 simp only [putN, List.getD_eq_getElem?_getD, List.getElem?_map]
 rw [List.getElem?_range hj]; rfl

def B (x : BitVec 32) : Int := (x.toNat : Int)
theorem ok_i64 {n : Int} (h : IntOk .i64 n) : -9223372036854775808 ≤ n ∧ n ≤ 9223372036854775807 := by
 obtain ⟨h1, h2⟩ := h
 simp only [IntKind.min, IntKind.max, IntKind.signed, IntKind.bits] at h1 h2
 simp at h1 h2; omega
end Go.Pl
/-! Plain laws: numbers in digits. -/
namespace Go.Rel
open Go Go.Eng Go.Pl
/-! ### Bytes as strings -/
theorem foldl_push_size (l : List Int) (s : ByteArray) : (l.foldl (fun r n => r.push (UInt8.ofNat n.toNat)) s).size = s.size + l.length := by
 induction l generalizing s with
 | nil => simp
 | cons x l ih => rw [List.foldl_cons, ih, ByteArray.size_push, List.length_cons]; omega
theorem size_bstr (l : List Int) : (bstr l).size = l.length := by
 unfold bstr
 rw [foldl_push_size]
 show ByteArray.empty.size + _ = _
 simp
theorem foldl_push_append (l : List Int) (s t : ByteArray) : l.foldl (fun r n => r.push (UInt8.ofNat n.toNat)) (s ++ t) = s ++ l.foldl (fun r n => r.push (UInt8.ofNat n.toNat)) t := by
 induction l generalizing t with
 | nil => rfl
 | cons x l ih =>
  rw [List.foldl_cons, List.foldl_cons, ← ih]
  congr 1
  apply ByteArray.ext
  simp [ByteArray.push, ByteArray.data_append]
theorem bstr_append (a b : List Int) : bstr (a ++ b) = bstr a ++ bstr b := by
 unfold bstr
 rw [List.foldl_append]
 have h := foldl_push_append b (a.foldl (fun r n => r.push (UInt8.ofNat n.toNat)) ByteArray.empty) ByteArray.empty
 rw [← h]
 congr 1
 simp
/-! ### Digits -/
theorem decF_fuel : ∀ (f u f' : Nat), u ≤ f → u ≤ f' → decF f u = decF f' u
 | 0, u, f', h, h' => by
  obtain rfl : u = 0 := by omega
  cases f' with
  | zero => rfl
  | succ f' => simp [decF]
 | f + 1, u, f', h, h' => by
  cases f' with
  | zero =>
   obtain rfl : u = 0 := by omega
   simp [decF]
  | succ f' =>
   by_cases hu : u < 10
   ·simp [decF, hu]
   ·simp only [decF, if_neg hu]
    rw [decF_fuel f (u / 10) f' (by omega) (by omega)]
theorem decL_lt {u : Nat} (h : u < 10) : decL u = [48 + (u : Int)] := by
 unfold decL
 cases u with
 | zero => rfl
 | succ u => simp only [decF, if_pos h]
theorem decL_ge {u : Nat} (h : ¬ u < 10) : decL u = decL (u / 10) ++ [48 + ((u % 10 : Nat) : Int)] := by
 unfold decL
 match u, h with
 | u + 1, h =>
  simp only [decF, if_neg h]
  rw [decF_fuel u ((u + 1) / 10) ((u + 1) / 10) (by omega) (by omega)]
theorem decL_len : ∀ (k u : Nat), u < 10 ^ (k + 1) → (decL u).length ≤ k + 1
 | 0, u, h => by rw [decL_lt (by omega)]; simp
 | k + 1, u, h => by
  by_cases hu : u < 10
  ·rw [decL_lt hu]; simp
  ·rw [decL_ge hu, List.length_append]
   have := decL_len k (u / 10) (by rw [Nat.pow_succ] at h; omega)
   simp only [List.length_cons, List.length_nil]; omega
theorem decI_len {n : Int} (h : IntOk .i64 n) : (decI n).length ≤ 21 := by
 have ⟨h0, h1⟩ := ok_i64 h
 unfold decI
 split
 ·rw [List.length_cons]; have := decL_len 19 n.natAbs (by omega); omega
 ·have := decL_len 19 n.toNat (by omega); omega
/-! ### The library's -/
theorem itoa_ok {n : Int} (h : IntOk .i64 n) : strconv_Itoa n (bstr (decI n)) := ⟨h, rfl⟩
/-! ### The document's -/
theorem dig_pos : ∀ (k u : Nat) (t : List Int), u < 10 ^ (k + 1) → u < 9223372036854775808 → t.length + k < 60 → ∃ e : Int × ByteArray, Loops ref07_Digits_l4 ((u : Int), bstr t) e ∧ ∃ t', 0 ≤ e.1 ∧ e.1 < 10 ∧ e.2 = bstr t' ∧ (48 + e.1) :: t' = decL u ++ t ∧ t'.length < 60
 | 0, u, t, h, _, hl => ⟨_, .done (by unfold ref07_Digits_l4; rw [if_neg (by simp; omega)]), t, by simp only; omega, by simp only; omega, rfl, by rw [decL_lt (by omega)]; rfl, by omega⟩
 | k + 1, u, t, h, hb, hl => by
  by_cases hu : u < 10
  ·exact ⟨_, .done (by unfold ref07_Digits_l4; rw [if_neg (by simp; omega)]), t, by simp only; omega, by simp only; omega, rfl, by rw [decL_lt hu]; rfl, by omega⟩
  ·obtain ⟨e, h1, t', h2, h3, h4, h5, h6⟩ := dig_pos k (u / 10) ((48 + ((u % 10 : Nat) : Int)) :: t) (by rw [Nat.pow_succ] at h; omega) (by omega) (by rw [List.length_cons]; omega)
   refine ⟨e, .next (s' := (((u / 10 : Nat) : Int), bstr ((48 + ((u % 10 : Nat) : Int)) :: t))) ?_ h1, t', h2, h3, h4, by rw [h5, decL_ge hu, List.append_assoc]; rfl, h6⟩
   unfold ref07_Digits_l4
   rw [if_pos (by simp; omega)]
   have e1 : IntKind.u8.wrap (IntKind.i64.wrap (48 + ((u : Int).tmod 10))) = 48 + ((u % 10 : Nat) : Int) := by
    rw [Int.tmod_eq_emod_of_nonneg (by omega), w_small (by omega) (by omega), w_u8]; omega
   have e2 : IntKind.i64.wrap ((u : Int).tdiv 10) = ((u / 10 : Nat) : Int) := by
    rw [Int.tdiv_eq_ediv_of_nonneg (by omega), w_small (by omega) (by omega)]; omega
   simp only [e1, e2]
   refine ⟨by rw [size_bstr, size_bstr]; simp only [List.length_cons, List.length_nil]; omega, ?_⟩
   rw [← bstr_append]; rfl
theorem dig_neg : ∀ (k u : Nat) (t : List Int), 1 ≤ u → u < 10 ^ (k + 1) → u ≤ 9223372036854775808 → t.length + k < 60 → Loops ref07_Digits_l2 (-(u : Int), bstr t) (0, bstr (decL u ++ t))
 | k, u, t, h1, h, hb, hl => by
  have e1 : IntKind.u8.wrap (IntKind.i64.wrap (48 - ((-(u : Int)).tmod 10))) = 48 + ((u % 10 : Nat) : Int) := by
   rw [Int.neg_tmod, Int.tmod_eq_emod_of_nonneg (by omega), w_small (by omega) (by omega), w_u8]; omega
  have e2 : IntKind.i64.wrap ((-(u : Int)).tdiv 10) = -((u / 10 : Nat) : Int) := by
   rw [Int.neg_tdiv, Int.tdiv_eq_ediv_of_nonneg (by omega), w_small (by omega) (by omega)]; omega
  have st : ref07_Digits_l2 (-(u : Int), bstr t) (.inl (-((u / 10 : Nat) : Int), bstr ((48 + ((u % 10 : Nat) : Int)) :: t))) := by
   unfold ref07_Digits_l2
   rw [if_pos (by simp; omega)]
   simp only [e1, e2]
   refine ⟨by rw [size_bstr, size_bstr]; simp only [List.length_cons, List.length_nil]; omega, ?_⟩
   rw [← bstr_append]; rfl
  refine .next st ?_
  by_cases hu : u < 10
  ·rw [show u / 10 = 0 by omega, show u % 10 = u by omega, decL_lt hu]
   exact .done (by unfold ref07_Digits_l2; rw [if_neg (by simp)]; rfl)
  ·match k, h with
   | 0, h => omega
   | k + 1, h =>
    have := dig_neg k (u / 10) ((48 + ((u % 10 : Nat) : Int)) :: t) (by omega) (by rw [Nat.pow_succ] at h; omega) (by omega) (by rw [List.length_cons]; omega)
    rw [decL_ge hu, List.append_assoc]; exact this
theorem digits_ok {n : Int} (h : IntOk .i64 n) : ref07_Digits n (bstr (decI n)) := by
 have ⟨h0, h1⟩ := ok_i64 h
 unfold ref07_Digits decI
 by_cases hn : n < 0
 ·rw [if_pos (by simpa using hn), if_pos hn]
  obtain ⟨u, rfl⟩ : ∃ u : Nat, n = -(u : Int) := ⟨n.natAbs, by omega⟩
  have := dig_neg 19 u [] (by omega) (by omega) (by omega) (by simp)
  rw [List.append_nil] at this
  refine ⟨_, this, ?_, ?_⟩
  ·rw [size_bstr, size_bstr]; have := decL_len 19 u (by omega); simp only [List.length_cons, List.length_nil]; omega
  ·rw [← bstr_append, show (-(u : Int)).natAbs = u by omega]; rfl
 ·rw [if_neg (by simpa using hn), if_neg hn]
  obtain ⟨u, rfl⟩ : ∃ u : Nat, n = (u : Int) := ⟨n.toNat, by omega⟩
  obtain ⟨e, g1, t', g2, g3, g4, g5, g6⟩ := dig_pos 19 u [] (by omega) (by omega) (by simp)
  have ew : IntKind.u8.wrap (IntKind.i64.wrap (48 + e.1)) = 48 + e.1 := by rw [w_small (by omega) (by omega), w_u8]; omega
  refine ⟨_, g1, ?_⟩
  unfold ref07_Digits_j3
  rw [ew, g4]
  refine ⟨by rw [size_bstr, size_bstr]; simp only [List.length_cons, List.length_nil]; omega, ?_⟩
  rw [← bstr_append, List.singleton_append, g5, List.append_nil, Int.toNat_natCast]
end Go.Rel
/-! Plain laws: messages: fields, what is wrong with one. -/
namespace Go.Rel
open Go Go.Eng Go.Pl

theorem len_wrap {n : Nat} (h : n < 4611686018427387904) : IntKind.i64.wrap ((n : Int) + 1) = ((n + 1 : Nat) : Int) := by rw [w_small] <;> omega
def firstE {U E : Type} (u : U) (bad : Nat → Option E) (n : Nat) : Sum U E := match (List.range n).findSome? bad with | some e => .inr e | none => .inl u
theorem loops_first {S U E : Type} {step : S → Sum S (Sum U E) → Prop} (f : Nat → S) (bad : Nat → Option E) (u : U) (n : Nat) (hs : ∀ k, k < n → (∀ e, bad k = some e → step (f k) (.inr (.inr e))) ∧ (bad k = none → step (f k) (.inl (f (k + 1))))) (he : step (f n) (.inr (.inl u))) : Loops step (f 0) (firstE u bad n) := by
  have key : ∀ m k, k + m = n → Loops step (f k) (match (List.range' k m).findSome? bad with | some e => .inr e | none => .inl u) := by
    intro m
    induction m with
    | zero => intro k hk; obtain rfl : k = n := by omega
              exact .done he
    | succ m ih =>
      intro k hk
      have hsk := hs k (by omega)
      rw [List.range'_succ, List.findSome?_cons]
      cases hb : bad k with
      | some e => exact .done (hsk.1 e hb)
      | none => exact .next (hsk.2 hb) (ih (k + 1) (by omega))
  have := key n 0 (by omega)
  unfold firstE
  rw [List.range_eq_range']
  exact this
theorem firstE_none {U E : Type} {u : U} {bad : Nat → Option E} {n : Nat} (h : ∀ k, k < n → bad k = none) : firstE u bad n = .inl u := by
 unfold firstE
 rw [List.findSome?_eq_none_iff.2 (fun k hk => h k (List.mem_range.1 hk))]
theorem firstE_some {U E : Type} {u : U} {bad : Nat → Option E} {n : Nat} (h : firstE u bad n = .inl u) : ∀ k, k < n → bad k = none := by
 unfold firstE at h
 intro k hk
 cases hf : (List.range n).findSome? bad with
 | some e => rw [hf] at h; cases h
 | none => exact List.findSome?_eq_none_iff.1 hf k (List.mem_range.2 hk)

abbrev Mg := Int × List Int × List (Int × Int) × List Int × ByteArray × ByteArray
abbrev Mr := Int × List Int × List (List Int) × List Int × ByteArray × ByteArray
abbrev Fd := ByteArray × Int × Int × Int × Int × Int × Int
def robotF : Fd := ((bstr [114, 111, 98, 111, 116]), 1, 0, 0, 65535, 1, 0)
def fieldsB (k : Int) : List Fd :=
 if k = 1 then [robotF, ((bstr [115, 112, 101, 101, 100]), 1, 1, 1, 5000, 1, 0), ((bstr [97, 99, 99, 101, 108]), 1, 2, 1, 10000, 2, 500), ((bstr [112, 97, 116, 104]), 3, (-1), 1, 16, 1, 0), ((bstr [116, 97, 103]), 6, (-1), 0, 16, 2, 0)]
 else if k = 2 then [robotF, ((bstr [114, 101, 97, 115, 111, 110]), 1, 1, 0, 15, 1, 0), ((bstr [122, 111, 110, 101]), 1, 2, 0, 4095, 2, 0)]
 else if k = 3 then [robotF, ((bstr [122, 111, 110, 101]), 1, 1, 0, 4095, 1, 0), ((bstr [108, 101, 97, 115, 101]), 1, 2, 1, 255, 2, 1), ((bstr [99, 101, 108, 108, 115]), 4, (-1), 1, 32, 1, 0)]
 else if k = 4 then [robotF, ((bstr [120]), 2, 1, (-1000000), 1000000, 1, 0), ((bstr [121]), 2, 2, (-1000000), 1000000, 1, 0), ((bstr [104, 101, 97, 100, 105, 110, 103]), 1, 3, 0, 35999, 1, 0), ((bstr [98, 97, 116, 116, 101, 114, 121]), 1, 4, 0, 1000, 1, 0), ((bstr [115, 117, 114, 101]), 1, 5, 0, 100, 2, 100)]
 else if k = 5 then [robotF, ((bstr [99, 111, 100, 101]), 1, 1, 1, 9999, 1, 0), ((bstr [115, 101, 118, 101, 114, 105, 116, 121]), 1, 2, 0, 4, 1, 0), ((bstr [112, 97, 114, 116]), 1, 3, 0, 255, 2, 0), ((bstr [116, 105, 109, 101, 115]), 1, 4, 1, 1000000, 2, 1), ((bstr [116, 101, 120, 116]), 5, (-1), 0, 64, 1, 0)]
 else []
theorem fields_ok (k : Int) : field_Of k (fieldsB k) := by
 unfold field_Of fieldsB
 by_cases h1 : k = 1
 ·rw [if_pos (by simpa using h1), if_pos h1]; exact ⟨_, rfl, rfl⟩
 rw [if_neg (by simpa using h1), if_neg h1]
 by_cases h2 : k = 2
 ·rw [if_pos (by simpa using h2), if_pos h2]; exact ⟨_, rfl, rfl⟩
 rw [if_neg (by simpa using h2), if_neg h2]
 by_cases h3 : k = 3
 ·rw [if_pos (by simpa using h3), if_pos h3]; exact ⟨_, rfl, rfl⟩
 rw [if_neg (by simpa using h3), if_neg h3]
 by_cases h4 : k = 4
 ·rw [if_pos (by simpa using h4), if_pos h4]; exact ⟨_, rfl, rfl⟩
 rw [if_neg (by simpa using h4), if_neg h4]
 by_cases h5 : k = 5
 ·rw [if_pos (by simpa using h5), if_pos h5]; exact ⟨_, rfl, rfl⟩
 rw [if_neg (by simpa using h5), if_neg h5]
def fdOk (f : Fd) : Prop := f.2.2.2.2.2.1 ≤ 2 ∧ f.1.size ≤ 10 ∧ ((f.2.1 = 3 ∧ f.2.2.2.1 = 1 ∧ f.2.2.2.2.1 = 16) ∨ (f.2.1 = 4 ∧ f.2.2.2.1 = 1 ∧ f.2.2.2.2.1 = 32) ∨ (f.2.1 = 5 ∧ f.2.2.2.1 = 0 ∧ f.2.2.2.2.1 = 64) ∨ (f.2.1 = 6 ∧ f.2.2.2.1 = 0 ∧ f.2.2.2.2.1 = 16) ∨ (1 ≤ f.2.1 ∧ f.2.1 < 3 ∧ 0 ≤ f.2.2.1 ∧ f.2.2.1 < 6 ∧ -1000000 ≤ f.2.2.2.1 ∧ f.2.2.2.2.1 ≤ 1000000))
theorem fields_all (P : Fd → Prop) (k : Int) (h0 : P robotF) (h1 : ∀ f ∈ [((bstr [115, 112, 101, 101, 100]), 1, 1, 1, 5000, 1, 0), ((bstr [97, 99, 99, 101, 108]), 1, 2, 1, 10000, 2, 500), ((bstr [112, 97, 116, 104]), 3, (-1), 1, 16, 1, 0), ((bstr [116, 97, 103]), 6, (-1), 0, 16, 2, 0), ((bstr [114, 101, 97, 115, 111, 110]), 1, 1, 0, 15, 1, 0), ((bstr [122, 111, 110, 101]), 1, 2, 0, 4095, 2, 0), ((bstr [122, 111, 110, 101]), 1, 1, 0, 4095, 1, 0), ((bstr [108, 101, 97, 115, 101]), 1, 2, 1, 255, 2, 1), ((bstr [99, 101, 108, 108, 115]), 4, (-1), 1, 32, 1, 0), ((bstr [120]), 2, 1, (-1000000), 1000000, 1, 0), ((bstr [121]), 2, 2, (-1000000), 1000000, 1, 0), ((bstr [104, 101, 97, 100, 105, 110, 103]), 1, 3, 0, 35999, 1, 0), ((bstr [98, 97, 116, 116, 101, 114, 121]), 1, 4, 0, 1000, 1, 0), ((bstr [115, 117, 114, 101]), 1, 5, 0, 100, 2, 100), ((bstr [99, 111, 100, 101]), 1, 1, 1, 9999, 1, 0), ((bstr [115, 101, 118, 101, 114, 105, 116, 121]), 1, 2, 0, 4, 1, 0), ((bstr [112, 97, 114, 116]), 1, 3, 0, 255, 2, 0), ((bstr [116, 105, 109, 101, 115]), 1, 4, 1, 1000000, 2, 1), ((bstr [116, 101, 120, 116]), 5, (-1), 0, 64, 1, 0)], P f) : ∀ f ∈ fieldsB k, P f := by
 simp only [List.forall_mem_cons] at h1
 unfold fieldsB
 by_cases e1 : k = 1
 ·rw [if_pos e1]; simp only [List.forall_mem_cons]; simp [h0, h1]
 rw [if_neg e1]
 by_cases e2 : k = 2
 ·rw [if_pos e2]; simp only [List.forall_mem_cons]; simp [h0, h1]
 rw [if_neg e2]
 by_cases e3 : k = 3
 ·rw [if_pos e3]; simp only [List.forall_mem_cons]; simp [h0, h1]
 rw [if_neg e3]
 by_cases e4 : k = 4
 ·rw [if_pos e4]; simp only [List.forall_mem_cons]; simp [h0, h1]
 rw [if_neg e4]
 by_cases e5 : k = 5
 ·rw [if_pos e5]; simp only [List.forall_mem_cons]; simp [h0, h1]
 rw [if_neg e5]
 simp
theorem fields_fd (k : Int) : ∀ f ∈ fieldsB k, fdOk f := by
 refine fields_all fdOk k (by simp [fdOk, robotF, size_bstr]) ?_
 simp only [List.forall_mem_cons]
 simp [fdOk, size_bstr]
theorem fields_len (k : Int) : (fieldsB k).length ≤ 6 := by
 unfold fieldsB
 by_cases e1 : k = 1
 ·rw [if_pos e1]; simp
 rw [if_neg e1]
 by_cases e2 : k = 2
 ·rw [if_pos e2]; simp
 rw [if_neg e2]
 by_cases e3 : k = 3
 ·rw [if_pos e3]; simp
 rw [if_neg e3]
 by_cases e4 : k = 4
 ·rw [if_pos e4]; simp
 rw [if_neg e4]
 by_cases e5 : k = 5
 ·rw [if_pos e5]; simp
 rw [if_neg e5]
 simp
/-! The reference's list. -/
def placed : Int → List Fd → List Fd
 | _, [] => []
 | p, f :: l => if f.2.1 < 3 then (f.1, f.2.1, p, f.2.2.2) :: placed (p + 1) l else (f.1, f.2.1, -1, f.2.2.2) :: placed p l
theorem placed_ok (fs : List Fd) (hl : fs.length < 100) : ∀ (l pre : List Fd), fs = pre ++ l → ∀ (acc : List Fd) (p : Int), acc.length ≤ pre.length → 0 ≤ p → p ≤ pre.length → Loops (ref16_All_l3 fs) (acc, p, (pre.length : Int)) (acc ++ placed p l)
 | [], pre, h, acc, p, _, _, _ => by
  have : fs.length = pre.length := by rw [h]; simp
  refine .done ?_
  unfold ref16_All_l3
  rw [if_neg (by simp; omega)]
  simp [placed]
 | f :: l, pre, h, acc, p, ha, h0, hp => by
  have hlen : fs.length = pre.length + l.length + 1 := by rw [h]; simp; omega
  have hat : fs[pre.length]? = some f := by rw [h]; simp
  have hw := len_wrap (n := pre.length) (by omega)
  have rest := fun acc p h1 h2 h3 => placed_ok fs hl l (pre ++ [f]) (by rw [h]; simp) acc p h1 h2 h3
  simp only [List.length_append, List.length_cons, List.length_nil] at rest
  by_cases hf : f.2.1 < 3
  ·have r := rest (acc ++ [(f.1, f.2.1, p, f.2.2.2)]) (p + 1) (by simp; omega) (by omega) (by omega)
   refine .next (s' := (acc ++ [(f.1, f.2.1, p, f.2.2.2)], p + 1, ((pre.length + 1 : Nat) : Int))) ?_ (by simpa [placed, hf] using r)
   unfold ref16_All_l3
   rw [if_pos (by simp; omega)]
   refine ⟨f, idx_at rfl hat, ?_⟩
   rw [if_pos (by simpa using hf)]
   unfold ref16_All_j4
   refine ⟨by simp only [List.length_cons, List.length_nil]; omega, by simp only [List.length_cons, List.length_nil]; omega, ?_⟩
   simp only
   rw [hw, w_small (by omega) (by omega)]
  ·have r := rest (acc ++ [(f.1, f.2.1, -1, f.2.2.2)]) p (by simp; omega) (by omega) (by omega)
   refine .next (s' := (acc ++ [(f.1, f.2.1, -1, f.2.2.2)], p, ((pre.length + 1 : Nat) : Int))) ?_ (by simpa [placed, hf] using r)
   unfold ref16_All_l3
   rw [if_pos (by simp; omega)]
   refine ⟨f, idx_at rfl hat, ?_⟩
   rw [if_neg (by simpa using hf)]
   unfold ref16_All_j4
   refine ⟨by simp only [List.length_cons, List.length_nil]; omega, by simp only [List.length_cons, List.length_nil]; omega, ?_⟩
   simp only
   rw [hw]
theorem rall_of (fs : List Fd) (hl : fs.length < 100) {r : List Fd} (h : placed 0 fs = r) : ref16_All_j1 fs r := by
 subst h
 exact ⟨_, placed_ok fs hl fs [] rfl [] 0 (by simp) (by simp) (by simp), by simp [ref16_All_j2]⟩
theorem rfields_ok (k : Int) : ref16_All k (fieldsB k) := by
 unfold ref16_All fieldsB
 by_cases h1 : k = 1
 ·rw [if_pos (by simpa using h1), if_pos h1]; exact rall_of _ (by simp) rfl
 rw [if_neg (by simpa using h1), if_neg h1]
 by_cases h2 : k = 2
 ·rw [if_pos (by simpa using h2), if_pos h2]; exact rall_of _ (by simp) rfl
 rw [if_neg (by simpa using h2), if_neg h2]
 by_cases h3 : k = 3
 ·rw [if_pos (by simpa using h3), if_pos h3]; exact rall_of _ (by simp) rfl
 rw [if_neg (by simpa using h3), if_neg h3]
 by_cases h4 : k = 4
 ·rw [if_pos (by simpa using h4), if_pos h4]; exact rall_of _ (by simp) rfl
 rw [if_neg (by simpa using h4), if_neg h4]
 by_cases h5 : k = 5
 ·rw [if_pos (by simpa using h5), if_pos h5]; exact rall_of _ (by simp) rfl
 rw [if_neg (by simpa using h5), if_neg h5]
 exact rall_of _ (by simp) rfl
/-! What is wrong with a part. -/
def manyB (n least most : Int) : Int := if n < least then 13 else if most < n then 6 else 0
theorem many_ok (n : Int) (f : Fd) : msg_many n f (manyB n f.2.2.2.1 f.2.2.2.2.1) := by
 unfold msg_many manyB
 simp only [decide_eq_true_eq]
 repeat' (first | rfl | split)
def errO (o : Sum Unit Int) : Int := match o with | .inr e => e | .inl _ => 0
theorem aft_err {j : Unit → Int → Prop} {o : Sum Unit Int} (h : ∀ u, j u 0) : Aft (fun p => j p (errO o)) (fun p => errO o = p) o := by
 cases o with
 | inl u => exact h u
 | inr e => rfl
def pathBad (l : List (Int × Int)) (k : Nat) : Option Int := match l[k]? with | some p => if 1000000 < max p.1 p.2 ∨ min p.1 p.2 < -1000000 then some 5 else none | none => none
def pathL (l : List (Int × Int)) : Int := errO (firstE () (pathBad l) l.length)
def pathB (l : List (Int × Int)) (least most : Int) : Int := if manyB l.length least most = 0 then pathL l else manyB l.length least most
theorem manyB_zero {n a b : Int} (h : manyB n a b = 0) : a ≤ n ∧ n ≤ b := by
 unfold manyB at h; split at h
 ·omega
 ·split at h <;> omega
theorem path_ok (l : List (Int × Int)) (f : Fd) (hm : f.2.2.2.2.1 < 1000) : msg_path l f (pathB l f.2.2.2.1 f.2.2.2.2.1) := by
 refine ⟨_, many_ok _ f, ?_⟩
 unfold pathB
 by_cases h : manyB l.length f.2.2.2.1 f.2.2.2.2.1 = 0
 ·rw [if_neg (by simpa using h), if_pos h]
  have hl := (manyB_zero h).2
  refine ⟨_, loops_first (fun k => (k : Int)) (pathBad l) () l.length (fun k hk => ?_) ?_, aft_err fun _ => rfl⟩
  ·have hw := len_wrap (n := k) (by omega)
   have hx := idx_of hk
   have st : ∀ o, (if 1000000 < max l[k].1 l[k].2 ∨ min l[k].1 l[k].2 < -1000000 then o = .inr (.inr 5) else o = .inl ((k + 1 : Nat) : Int)) → msg_path_l2 l (k : Int) o := by
    intro o ho
    unfold msg_path_l2
    rw [if_pos (by simp; omega)]
    refine ⟨_, hx, ?_⟩
    unfold msg_path_j3
    by_cases h1 : 1000000 < max l[k].1 l[k].2
    ·rw [if_pos (.inl h1)] at ho; rw [if_pos (by simpa using h1)]; simpa using ho
    ·rw [if_neg (by simpa using h1)]
     by_cases h2 : min l[k].1 l[k].2 < -1000000
     ·rw [if_pos (.inr h2)] at ho; rw [if_pos (by simpa using h2)]; exact ho
     ·rw [if_neg (not_or.2 ⟨h1, h2⟩)] at ho; rw [if_neg (by simpa using h2), hw]; exact ho
   unfold pathBad
   rw [List.getElem?_eq_getElem hk]
   by_cases hb : 1000000 < max l[k].1 l[k].2 ∨ min l[k].1 l[k].2 < -1000000
   ·simp only [if_pos hb]; exact ⟨fun e he => (by cases he; exact st _ (by rw [if_pos hb])), fun he => by cases he⟩
   ·simp only [if_neg hb]; exact ⟨fun e he => (by cases he), fun _ => st _ (by rw [if_neg hb])⟩
  ·unfold msg_path_l2
   rw [if_neg (by simp)]
 ·rw [if_pos (by simpa using h), if_neg h]
def cellsBad (l : List Int) (k : Nat) : Option Int := if l.getD k 0 < 0 ∨ 65535 < l.getD k 0 then some 5 else if 0 < k ∧ l.getD k 0 ≤ l.getD (k - 1) 0 then some 3 else none
def cellsL (l : List Int) : Int := errO (firstE () (cellsBad l) l.length)
def cellsB (l : List Int) (least most : Int) : Int := if manyB l.length least most = 0 then cellsL l else manyB l.length least most
theorem cells_ok (l : List Int) (f : Fd) (hm : f.2.2.2.2.1 < 1000) : msg_cells l f (cellsB l f.2.2.2.1 f.2.2.2.2.1) := by
 refine ⟨_, many_ok _ f, ?_⟩
 unfold cellsB
 by_cases h : manyB l.length f.2.2.2.1 f.2.2.2.2.1 = 0
 ·rw [if_neg (by simpa using h), if_pos h]
  have hl := (manyB_zero h).2
  refine ⟨_, loops_first (fun k => ((if k = 0 then -1 else l.getD (k - 1) 0), (k : Int))) (cellsBad l) () l.length (fun k hk => ?_) ?_, aft_err fun _ => rfl⟩
  ·have hw := len_wrap (n := k) (by omega)
   have hx := idx_of hk
   have hg : l.getD k 0 = l[k] := by simp [List.getD_eq_getElem?_getD, hk]
   have st : ∀ o, (if l[k] < 0 ∨ 65535 < l[k] then o = .inr (.inr 5) else if l[k] ≤ (if k = 0 then -1 else l.getD (k - 1) 0) then o = .inr (.inr 3) else o = .inl (l[k], ((k + 1 : Nat) : Int))) → msg_cells_l2 l ((if k = 0 then -1 else l.getD (k - 1) 0), (k : Int)) o := by
    intro o ho
    unfold msg_cells_l2
    rw [if_pos (by simp; omega)]
    refine ⟨_, hx, ?_⟩
    unfold msg_cells_j3
    have hj : (if l[k] < 0 ∨ 65535 < l[k] then o = .inr (.inr 5) else if (decide (l[k] ≤ (if k = 0 then -1 else l.getD (k - 1) 0))) = true then o = .inr (.inr 3) else o = .inl (l[k], (IntKind.i64.wrap ((k : Int) + 1)))) := by
     rw [hw]; simpa only [decide_eq_true_eq] using ho
    by_cases h1 : l[k] < 0
    ·rw [if_pos (.inl h1)] at hj; rw [if_pos (by simpa using h1)]; simpa using hj
    ·rw [if_neg (by simpa using h1)]
     by_cases h2 : 65535 < l[k]
     ·rw [if_pos (.inr h2)] at hj; rw [if_pos (by simpa using h2)]; exact hj
     ·rw [if_neg (not_or.2 ⟨h1, h2⟩)] at hj; rw [if_neg (by simpa using h2)]; exact hj
   unfold cellsBad
   rw [hg]
   by_cases hb : l[k] < 0 ∨ 65535 < l[k]
   ·simp only [if_pos hb]; exact ⟨fun e he => (by cases he; exact st _ (by rw [if_pos hb])), fun he => by cases he⟩
   ·have hc : (0 < k ∧ l[k] ≤ l.getD (k - 1) 0) ↔ l[k] ≤ (if k = 0 then -1 else l.getD (k - 1) 0) := by
     by_cases h2 : k = 0
     ·subst h2; simp; omega
     ·rw [if_neg h2]; omega
    simp only [if_neg hb, Nat.add_eq_zero_iff, Nat.one_ne_zero, and_false, if_false, Nat.add_sub_cancel, hg]
    by_cases hd : 0 < k ∧ l[k] ≤ l.getD (k - 1) 0
    ·simp only [if_pos hd]; exact ⟨fun e he => (by cases he; exact st _ (by rw [if_neg hb, if_pos (hc.1 hd)])), fun he => by cases he⟩
    ·simp only [if_neg hd]; exact ⟨fun e he => (by cases he), fun _ => st _ (by rw [if_neg hb, if_neg (fun h => hd (hc.2 h))])⟩
  ·unfold msg_cells_l2
   rw [if_neg (by simp)]
 ·rw [if_pos (by simpa using h), if_neg h]
theorem len_bints (s : ByteArray) : (bints s).length = s.size := by unfold bints; rw [List.length_map]; rfl
def textBad (s : ByteArray) (k : Nat) : Option Int := if (bints s).getD k 0 < 32 ∨ 126 < (bints s).getD k 0 then some 19 else none
def textL (s : ByteArray) : Int := errO (firstE () (textBad s) s.size)
def textB (s : ByteArray) (least most : Int) : Int := if manyB s.size least most = 0 then textL s else manyB s.size least most
theorem text_ok (s : ByteArray) (f : Fd) (hm : f.2.2.2.2.1 < 1000) : msg_text s f (textB s f.2.2.2.1 f.2.2.2.2.1) := by
 refine ⟨_, many_ok _ f, ?_⟩
 unfold textB
 by_cases h : manyB s.size f.2.2.2.1 f.2.2.2.2.1 = 0
 ·rw [if_neg (by simpa using h), if_pos h]
  have hl := (manyB_zero h).2
  refine ⟨by omega, _, loops_first (fun k => (k : Int)) (textBad s) () s.size (fun k hk => ?_) ?_, aft_err fun _ => rfl⟩
  ·have hw := len_wrap (n := k) (by omega)
   have hk' : k < (bints s).length := by rw [len_bints]; exact hk
   have hx := idx_of hk'
   have hg : (bints s).getD k 0 = (bints s)[k] := by simp [List.getD_eq_getElem?_getD, hk']
   have st : ∀ o, (if (bints s)[k] < 32 ∨ 126 < (bints s)[k] then o = .inr (.inr 19) else o = .inl ((k + 1 : Nat) : Int)) → msg_text_l2 s (k : Int) o := by
    intro o ho
    unfold msg_text_l2
    rw [if_pos (by simp only [decide_eq_true_eq]; omega)]
    refine ⟨_, hx, ?_⟩
    unfold msg_text_j3
    by_cases h1 : (bints s)[k] < 32
    ·rw [if_pos (.inl h1)] at ho; rw [if_pos (by simpa using h1)]; simpa using ho
    ·rw [if_neg (by simpa using h1)]
     by_cases h2 : 126 < (bints s)[k]
     ·rw [if_pos (.inr h2)] at ho; rw [if_pos (by simpa using h2)]; exact ho
     ·rw [if_neg (not_or.2 ⟨h1, h2⟩)] at ho; rw [if_neg (by simpa using h2), hw]; exact ho
   unfold textBad
   rw [hg]
   by_cases hb : (bints s)[k] < 32 ∨ 126 < (bints s)[k]
   ·simp only [if_pos hb]; exact ⟨fun e he => (by cases he; exact st _ (by rw [if_pos hb])), fun he => by cases he⟩
   ·simp only [if_neg hb]; exact ⟨fun e he => (by cases he), fun _ => st _ (by rw [if_neg hb])⟩
  ·unfold msg_text_l2
   rw [if_neg (by rw [len_bints]; simp)]
 ·rw [if_pos (by simpa using h), if_neg h]
def numBad (m : Mg) (f : Fd) : Prop := m.2.1.getD f.2.2.1.toNat 0 < f.2.2.2.1 ∨ f.2.2.2.2.1 < m.2.1.getD f.2.2.1.toNat 0
instance (m : Mg) (f : Fd) : Decidable (numBad m f) := by unfold numBad; infer_instance
def wrongB (m : Mg) (f : Fd) : Int :=
 if f.2.1 = 3 then pathB m.2.2.1 f.2.2.2.1 f.2.2.2.2.1 else if f.2.1 = 4 then cellsB m.2.2.2.1 f.2.2.2.1 f.2.2.2.2.1
 else if f.2.1 = 5 then textB m.2.2.2.2.1 f.2.2.2.1 f.2.2.2.2.1 else if f.2.1 = 6 then textB m.2.2.2.2.2 f.2.2.2.1 f.2.2.2.2.1
 else if numBad m f then 5 else 0
theorem wrong_fd (m : Mg) {f : Fd} (ok : fdOk f) : msg_wrong m f (wrongB m f) := by
 obtain ⟨_, _, ok⟩ := ok
 unfold msg_wrong wrongB
 simp only [decide_eq_true_eq]
 split
 ·exact ⟨_, path_ok _ f (by omega), rfl⟩
 split
 ·exact ⟨_, cells_ok _ f (by omega), rfl⟩
 split
 ·exact ⟨_, text_ok _ f (by omega), rfl⟩
 split
 ·exact ⟨_, text_ok _ f (by omega), rfl⟩
 refine ⟨by omega, by omega, ?_⟩
 unfold msg_wrong_j1
 by_cases h1 : m.2.1.getD f.2.2.1.toNat 0 < f.2.2.2.1
 ·have hb : numBad m f := Or.inl h1
  rw [if_pos h1, if_pos rfl, if_pos hb]
 ·rw [if_neg h1]
  by_cases h2 : f.2.2.2.2.1 < m.2.1.getD f.2.2.1.toNat 0
  ·have hb : numBad m f := Or.inr h2
   rw [if_pos (decide_eq_true h2), if_pos hb]
  ·have hb : ¬ numBad m f := not_or.2 ⟨h1, h2⟩
   rw [if_neg (by simpa using h2), if_neg hb]
end Go.Rel
/-! Plain laws: are lists, messages the same; copies; the document's view of a message. -/
namespace Go.Rel
open Go Go.Eng Go.Pl

theorem loops_eq {α : Type} [DecidableEq α] {xs ys : List α} {step : Int → Sum Int (Sum Unit Bool) → Prop} (hlen : xs.length = ys.length) (_hx : xs.length < 4611686018427387904)
    (hst : ∀ (k : Nat) x y, xs[k]? = some x → ys[k]? = some y → (x = y → step (k : Int) (.inl ((k + 1 : Nat) : Int))) ∧ (x ≠ y → step (k : Int) (.inr (.inr false)))) (hend : step (xs.length : Int) (.inr (.inl ()))) :
    ∃ e, Loops step 0 e ∧ (∀ (j : Unit → Bool → Prop), (∀ u, j u true) → Aft (fun p => j p (decide (xs = ys))) (fun p => decide (xs = ys) = p) e) := by
  let bad : Nat → Option Bool := fun k => if xs[k]? = ys[k]? then none else some false
  refine ⟨firstE () bad xs.length, loops_first (fun k => (k : Int)) bad () xs.length (fun k hk => ?_) hend, fun j hj => ?_⟩
  · have h1 := List.getElem?_eq_getElem hk
    have h2 : ys[k]? = some (ys[k]'(by omega)) := List.getElem?_eq_getElem (by omega)
    have hs := hst k _ _ h1 h2
    show (∀ e, (if xs[k]? = ys[k]? then none else some false) = some e → _) ∧ ((if xs[k]? = ys[k]? then none else some false) = none → _)
    rw [h1, h2]
    by_cases he : xs[k] = ys[k]'(by omega)
    · rw [if_pos (by rw [he])]; exact ⟨fun e h => (by cases h), fun _ => hs.1 he⟩
    · rw [if_neg (fun h => he (Option.some.inj h))]; exact ⟨fun e h => (by cases h; exact hs.2 he), fun h => (by cases h)⟩
  · by_cases he : xs = ys
    · rw [firstE_none (fun k hk => by show (if xs[k]? = ys[k]? then none else some false) = none; rw [if_pos (by rw [he])])]
      show j () _
      rw [decide_eq_true he]; exact hj ()
    · have : firstE () bad xs.length = .inr false := by
        unfold firstE
        cases hf : (List.range xs.length).findSome? bad with
        | some e =>
          obtain ⟨k, _, hk⟩ := List.exists_of_findSome?_eq_some hf
          have hk : (if xs[k]? = ys[k]? then none else some false) = some e := hk
          split at hk
          · cases hk
          · cases hk; rfl
        | none =>
          exact absurd (List.ext_getElem? fun k => by
            by_cases h : k < xs.length
            · have h2 := List.findSome?_eq_none_iff.1 hf k (List.mem_range.2 h)
              have h2 : (if xs[k]? = ys[k]? then none else some false) = none := h2
              split at h2
              · assumption
              · cases h2
            · rw [List.getElem?_eq_none (by omega), List.getElem?_eq_none (by omega)]) he
      rw [this]; exact decide_eq_false he
theorem ints_ok {a b : List Int} (h : a.length < 4611686018427387904) : ref01_Ints a b (decide (a = b)) := by
 unfold ref01_Ints
 by_cases hl : a.length = b.length
 ·rw [if_neg (by simp; omega)]
  obtain ⟨e, h1, h2⟩ := loops_eq (step := ref01_Ints_l2 a b) hl h (fun k x y hx hy => by
   have hk := (List.getElem?_eq_some_iff.1 hx).1
   have st : ∀ o, (if x = y then o = .inl ((k + 1 : Nat) : Int) else o = .inr (.inr false)) → ref01_Ints_l2 a b k o := by
    intro o ho
    unfold ref01_Ints_l2
    rw [if_pos (by simpa using hk)]
    refine ⟨x, idx_at rfl hx, y, idx_at rfl hy, ?_⟩
    by_cases e : x = y
    ·rw [if_pos e] at ho; rw [if_neg (by simp [e]), len_wrap (by omega)]; exact ho
    ·rw [if_neg e] at ho; rw [if_pos (by simp [e])]; exact ho
   exact ⟨fun e => st _ (by rw [if_pos e]), fun e => st _ (by rw [if_neg e])⟩) (by unfold ref01_Ints_l2; rw [if_neg (by simp)])
  exact ⟨e, h1, h2 ref01_Ints_j1 fun _ => rfl⟩
 ·rw [if_pos (by simp; omega), decide_eq_false]; intro e; exact hl (by rw [e])
theorem equalI_ok {a b : List Int} (h : a.length < 4611686018427387904) : slices_Equal_int_int a b (decide (a = b)) := by
 unfold slices_Equal_int_int
 by_cases hl : a.length = b.length
 ·rw [if_neg (by simp; omega)]
  obtain ⟨e, h1, h2⟩ := loops_eq (step := slices_Equal_int_int_l2 a b) hl h (fun k x y hx hy => by
   have hk := (List.getElem?_eq_some_iff.1 hx).1
   have st : ∀ o, (if x = y then o = .inl ((k + 1 : Nat) : Int) else o = .inr (.inr false)) → slices_Equal_int_int_l2 a b k o := by
    intro o ho
    unfold slices_Equal_int_int_l2
    rw [if_pos (by simpa using hk)]
    refine ⟨x, idx_at rfl hx, y, idx_at rfl hy, ?_⟩
    by_cases e : x = y
    ·rw [if_pos e] at ho; rw [if_neg (by simp [e]), len_wrap (by omega)]; exact ho
    ·rw [if_neg e] at ho; rw [if_pos (by simp [e])]; exact ho
   exact ⟨fun e => st _ (by rw [if_pos e]), fun e => st _ (by rw [if_neg e])⟩) (by unfold slices_Equal_int_int_l2; rw [if_neg (by simp)])
  exact ⟨e, h1, h2 slices_Equal_int_int_j1 fun _ => rfl⟩
 ·rw [if_pos (by simp; omega), decide_eq_false]; intro e; exact hl (by rw [e])
theorem equalP_ok {a b : List (Int × Int)} (h : a.length < 4611686018427387904) : slices_Equal_msg_Point_msg_Point a b (decide (a = b)) := by
 unfold slices_Equal_msg_Point_msg_Point
 by_cases hl : a.length = b.length
 ·rw [if_neg (by simp; omega)]
  obtain ⟨e, h1, h2⟩ := loops_eq (step := slices_Equal_msg_Point_msg_Point_l2 a b) hl h (fun k x y hx hy => by
   have hk := (List.getElem?_eq_some_iff.1 hx).1
   have st : ∀ o, (if x = y then o = .inl ((k + 1 : Nat) : Int) else o = .inr (.inr false)) → slices_Equal_msg_Point_msg_Point_l2 a b k o := by
    intro o ho
    unfold slices_Equal_msg_Point_msg_Point_l2
    rw [if_pos (by simpa using hk)]
    refine ⟨x, idx_at rfl hx, y, idx_at rfl hy, ?_⟩
    by_cases e : x = y
    ·rw [if_pos e] at ho; rw [if_neg (by simp [e]), len_wrap (by omega)]; exact ho
    ·rw [if_neg e] at ho; rw [if_pos (by
      obtain ⟨x1, x2⟩ := x; obtain ⟨y1, y2⟩ := y
      simp only [Prod.mk.injEq, not_and] at e
      by_cases h1 : x1 = y1
      ·simp [h1, e h1]
      ·simp [h1])]; exact ho
   exact ⟨fun e => st _ (by rw [if_pos e]), fun e => st _ (by rw [if_neg e])⟩) (by unfold slices_Equal_msg_Point_msg_Point_l2; rw [if_neg (by simp)])
  exact ⟨e, h1, h2 slices_Equal_msg_Point_msg_Point_j1 fun _ => rfl⟩
 ·rw [if_pos (by simp; omega), decide_eq_false]; intro e; exact hl (by rw [e])

def n6 (l : List Int) : List Int := [l.getD 0 0, l.getD 1 0, l.getD 2 0, l.getD 3 0, l.getD 4 0, l.getD 5 0]
theorem eqN6 (a b : List Int) : eqN 6 0 a b = decide (n6 a = n6 b) := by
 unfold eqN n6
 simp [List.range_succ]
def sameB (a b : Mg) : Bool := decide (a.1 = b.1 ∧ n6 a.2.1 = n6 b.2.1 ∧ a.2.2 = b.2.2)
theorem msame_ok {a b : Mg} (hp : a.2.2.1.length < 4611686018427387904) (hc : a.2.2.2.1.length < 4611686018427387904) : msg_Same a b (sameB a b) := by
 obtain ⟨k, n, p, c, t, g⟩ := a
 obtain ⟨k', n', p', c', t', g'⟩ := b
 unfold msg_Same sameB
 simp only [eqN6, decide_eq_true_eq, Prod.mk.injEq]
 by_cases h1 : k = k'
 ·by_cases h2 : n6 n = n6 n'
  ·rw [if_pos h1, if_pos h2]
   refine ⟨_, equalP_ok hp, ?_⟩
   by_cases h3 : p = p'
   ·rw [if_pos (by simpa using h3)]
    refine ⟨_, equalI_ok hc, ?_⟩
    by_cases h4 : c = c'
    ·rw [if_pos (by simpa using h4)]
     by_cases h5 : t = t'
     ·rw [if_pos h5]; simp only [msg_Same_j1, h1, h2, h3, h4, h5, true_and]
     ·rw [if_neg h5]; simp [msg_Same_j1, h5]
    ·rw [if_neg (by simpa using h4)]; simp [msg_Same_j1, h4]
   ·rw [if_neg (by simpa using h3)]; simp [msg_Same_j1, h3]
  ·rw [if_pos h1, if_neg h2]; simp [msg_Same_j1, h2]
 ·rw [if_neg h1]; simp [msg_Same_j1, h1]
def ofP (p : Int × Int) : List Int := [p.1, p.2]
theorem ofP_inj {p q : Int × Int} (h : ofP p = ofP q) : p = q := by
 obtain ⟨a, b⟩ := p; obtain ⟨c, d⟩ := q
 simp only [ofP, List.cons.injEq, and_true] at h
 rw [h.1, h.2]
def ofM (m : Mg) : Mr := (m.1, m.2.1, m.2.2.1.map ofP, m.2.2.2.1, m.2.2.2.2.1, m.2.2.2.2.2)
theorem ofm_ok {m : Mg} (hp : m.2.2.1.length < 1099511627776) : law17_Of m (ofM m) := by
 refine ⟨m.2.2.1.map ofP, ?_, rfl⟩
 have := loops_count (step := law17_Of_l2 m) (e := m.2.2.1.map ofP) (fun k => ((k : Int), (m.2.2.1.take k).map ofP)) m.2.2.1.length (fun k hk => by
  unfold law17_Of_l2
  rw [if_pos (by simpa using hk)]
  refine ⟨_, idx_of hk, _, idx_of hk, ?_⟩
  have hw := len_wrap (n := k) (by omega)
  simp only [List.length_map, List.length_take, List.length_cons, List.length_nil]
  refine ⟨by omega, by omega, ?_⟩
  rw [hw, List.take_succ_eq_append_getElem hk, List.map_append]; rfl) (by
  unfold law17_Of_l2
  rw [if_neg (by simp)]
  simp)
 simpa using this
def cutM (m : Mg) : Mg := (m.1, m.2.1, m.2.2.1.take 40, m.2.2.2.1.take 40, m.2.2.2.2.1.extract 0 80, m.2.2.2.2.2.extract 0 80)
theorem ext_min (s : ByteArray) (n : Nat) : s.extract 0 (min (s.size : Int) (n : Int)).toNat = s.extract 0 n := by
 by_cases h : s.size ≤ n
 ·rw [show (min (s.size : Int) (n : Int)).toNat = s.size by omega]
  have hs : s.data.toList.length = s.size := rfl
  apply ByteArray.ext
  apply Array.ext'
  rw [ByteArray.data_extract, ByteArray.data_extract, Array.toList_extract, Array.toList_extract, List.extract_eq_take_drop, List.extract_eq_take_drop]
  simp only [List.drop_zero, Nat.sub_zero]
  rw [List.take_of_length_le (by omega), List.take_of_length_le (by omega)]
 ·rw [show (min (s.size : Int) (n : Int)).toNat = n by omega]
theorem takeP_min {α : Type} (l : List α) (n : Nat) : (l.drop (0 : Int).toNat).take (((min (l.length : Int) (n : Int)) : Int) - 0).toNat = l.take n := by
 rw [show (0 : Int).toNat = 0 from rfl, List.drop_zero, show ((min (l.length : Int) (n : Int)) - 0).toNat = min l.length n by omega]
 by_cases h : l.length ≤ n
 ·rw [Nat.min_eq_left h, List.take_length, List.take_of_length_le h]
 ·rw [Nat.min_eq_right (by omega)]
theorem cut_ok (m : Mg) : law17_Cut m (cutM m) := by
 unfold law17_Cut cutM
 refine ⟨by omega, by omega, by omega, by omega, by omega, by omega, by omega, by omega, ?_⟩
 have e1 := takeP_min m.2.2.1 40
 have e2 := takeP_min m.2.2.2.1 40
 have e3 := ext_min m.2.2.2.2.1 80
 have e4 := ext_min m.2.2.2.2.2 80
 simp only [Int.cast_ofNat_Int] at e1 e2 e3 e4
 rw [e1, e2, e3, e4]
end Go.Rel
/-! Plain laws: what is wrong with a message: the program's answer and the document's. -/
namespace Go.Rel
open Go Go.Eng Go.Pl

def sortN (f : Fd) : Prop := f.2.1 ≠ 3 ∧ f.2.1 ≠ 4 ∧ f.2.1 ≠ 5 ∧ f.2.1 ≠ 6
instance (f : Fd) : Decidable (sortN f) := by unfold sortN; infer_instance
def hasS (l : List Fd) (s : Int) : Bool := l.any fun f => decide (f.2.1 = s)
def hasN (l : List Fd) (p : Nat) : Bool := l.any fun f => decide (sortN f ∧ f.2.2.1.toNat = p)
def zN (l : List Fd) (N : List Int) (p : Nat) : Int := if hasN l p = true then 0 else N.getD p 0
def leftB (l : List Fd) (m : Mg) : Mg :=
 (m.1, [zN l m.2.1 0, zN l m.2.1 1, zN l m.2.1 2, zN l m.2.1 3, zN l m.2.1 4, zN l m.2.1 5], if hasS l 3 = true then [] else m.2.2.1, if hasS l 4 = true then [] else m.2.2.2.1, if hasS l 5 = true then bstr [] else m.2.2.2.2.1, if hasS l 6 = true then bstr [] else m.2.2.2.2.2)
theorem hasS_snoc (l : List Fd) (f : Fd) (s : Int) : hasS (l ++ [f]) s = (hasS l s || decide (f.2.1 = s)) := by simp [hasS]
theorem hasN_snoc (l : List Fd) (f : Fd) (p : Nat) : hasN (l ++ [f]) p = (hasN l p || decide (sortN f ∧ f.2.2.1.toNat = p)) := by simp [hasN]
theorem zN_same {l : List Fd} {f : Fd} (h : ¬ sortN f) (N : List Int) (p : Nat) : zN (l ++ [f]) N p = zN l N p := by
 unfold zN; rw [hasN_snoc, decide_eq_false (fun hh => h hh.1), Bool.or_false]
theorem zN_put {l : List Fd} {f : Fd} (h : sortN f) (N : List Int) {p : Nat} (hp : p < 6) : (putN 6 0 [zN l N 0, zN l N 1, zN l N 2, zN l N 3, zN l N 4, zN l N 5] f.2.2.1.toNat 0).getD p 0 = zN (l ++ [f]) N p := by
 rw [putN_getD hp]
 have e : [zN l N 0, zN l N 1, zN l N 2, zN l N 3, zN l N 4, zN l N 5].getD p 0 = zN l N p := by
  match p, hp with
  | 0, _ => rfl
  | 1, _ => rfl
  | 2, _ => rfl
  | 3, _ => rfl
  | 4, _ => rfl
  | 5, _ => rfl
 rw [e]
 unfold zN
 rw [hasN_snoc]
 by_cases hq : p = f.2.2.1.toNat
 ·rw [if_pos hq, decide_eq_true ⟨h, hq.symm⟩]; simp
 ·rw [if_neg hq, decide_eq_false (fun hh => hq hh.2.symm), Bool.or_false]
theorem without_ok (l : List Fd) (m : Mg) {f : Fd} (ok : fdOk f) : msg_without (leftB l m) f (leftB (l ++ [f]) m) := by
 obtain ⟨_, _, ok⟩ := ok
 unfold msg_without
 simp only [decide_eq_true_eq]
 have no : ∀ {s : Int}, f.2.1 ≠ s → hasS (l ++ [f]) s = hasS l s := fun h => by rw [hasS_snoc, decide_eq_false h, Bool.or_false]
 have yes : ∀ {s : Int}, f.2.1 = s → hasS (l ++ [f]) s = true := fun h => by rw [hasS_snoc, decide_eq_true h, Bool.or_true]
 by_cases h3 : f.2.1 = 3
 ·rw [if_pos h3]
  have hs : ¬ sortN f := fun h => h.1 h3
  unfold msg_without_j1 leftB
  simp only [zN_same hs, yes h3, no (s := 4) (by omega), no (s := 5) (by omega), no (s := 6) (by omega), List.getD_cons_zero, List.getD_cons_succ, if_true]
 rw [if_neg h3]
 by_cases h4 : f.2.1 = 4
 ·rw [if_pos h4]
  have hs : ¬ sortN f := fun h => h.2.1 h4
  unfold msg_without_j1 leftB
  simp only [zN_same hs, yes h4, no h3, no (s := 5) (by omega), no (s := 6) (by omega), List.getD_cons_zero, List.getD_cons_succ, if_true]
 rw [if_neg h4]
 by_cases h5 : f.2.1 = 5
 ·rw [if_pos h5]
  have hs : ¬ sortN f := fun h => h.2.2.1 h5
  unfold msg_without_j1 leftB
  simp only [zN_same hs, yes h5, no h3, no h4, no (s := 6) (by omega), List.getD_cons_zero, List.getD_cons_succ, if_true]
 rw [if_neg h5]
 by_cases h6 : f.2.1 = 6
 ·rw [if_pos h6]
  have hs : ¬ sortN f := fun h => h.2.2.2 h6
  unfold msg_without_j1 leftB
  simp only [zN_same hs, yes h6, no h3, no h4, no h5, List.getD_cons_zero, List.getD_cons_succ, if_true]
 rw [if_neg h6]
 have hs : sortN f := ⟨h3, h4, h5, h6⟩
 refine ⟨by omega, by omega, ?_⟩
 unfold msg_without_j1 leftB
 simp only [no h3, no h4, no h5, no h6]
 rw [zN_put hs m.2.1 (p := 0) (by omega), zN_put hs m.2.1 (p := 1) (by omega), zN_put hs m.2.1 (p := 2) (by omega), zN_put hs m.2.1 (p := 3) (by omega), zN_put hs m.2.1 (p := 4) (by omega), zN_put hs m.2.1 (p := 5) (by omega)]
def firstW (m : Mg) : List Fd → Int
 | [] => 0
 | f :: l => if wrongB m f ≠ 0 then wrongB m f else firstW m l
abbrev Ex := Int × Int × Int × Int × Int × Int × Int × Int × List (Int × Int) × List Int × ByteArray × ByteArray
def exB (e : Int) (x : Mg) : Ex := (e, x.1, x.2.1.getD 0 0, x.2.1.getD 1 0, x.2.1.getD 2 0, x.2.1.getD 3 0, x.2.1.getD 4 0, x.2.1.getD 5 0, x.2.2.1, x.2.2.2.1, x.2.2.2.2.1, x.2.2.2.2.2)
def stB (e i : Int) (x : Mg) : Int × Ex := (e, i, x.1, x.2.1.getD 0 0, x.2.1.getD 1 0, x.2.1.getD 2 0, x.2.1.getD 3 0, x.2.1.getD 4 0, x.2.1.getD 5 0, x.2.2.1, x.2.2.2.1, x.2.2.2.2.1, x.2.2.2.2.2)
theorem check_run (m : Mg) (fs : List Fd) (hfs : fs.length < 100) (hok : ∀ f ∈ fs, fdOk f) : ∀ (l pre : List Fd) (e : Int), fs = pre ++ l → ∃ ex, Loops (msg_Check_l3 m fs) (stB e (pre.length : Int) (leftB pre m)) ex ∧ (firstW m l ≠ 0 → ex.1 = firstW m l) ∧ (firstW m l = 0 → ex = exB (if l = [] then e else 0) (leftB fs m))
 | [], pre, e, h => by
  refine ⟨exB e (leftB fs m), .done ?_, fun h => absurd rfl h, fun _ => by rw [if_pos rfl]⟩
  rw [List.append_nil] at h
  unfold msg_Check_l3
  rw [if_neg (by rw [h]; simp [stB])]
  rw [h]; rfl
 | f :: l, pre, e, h => by
  have hlen : fs.length = pre.length + l.length + 1 := by rw [h]; simp; omega
  have hat : fs[pre.length]? = some f := by rw [h]; simp
  have hw := len_wrap (n := pre.length) (by omega)
  have hf := hok f (by rw [h]; simp)
  by_cases hz : wrongB m f = 0
  ·obtain ⟨ex, h1, h2, h3⟩ := check_run m fs hfs hok l (pre ++ [f]) 0 (by rw [h]; simp)
   simp only [firstW, hz, ne_eq, not_true, if_false]
   refine ⟨ex, .next ?_ h1, h2, fun hh => ?_⟩
   ·unfold msg_Check_l3
    rw [if_pos (by simp [stB]; omega)]
    refine ⟨f, idx_at rfl hat, 0, by rw [← hz]; exact wrong_fd m hf, ?_⟩
    rw [if_neg (by simp)]
    refine ⟨leftB (pre ++ [f]) m, without_ok pre m hf, ?_⟩
    simp only [stB, List.length_append, List.length_cons, List.length_nil]
    rw [hw]
   ·rw [h3 hh]; split <;> rfl
  ·simp only [firstW, ne_eq, hz, not_false_iff, if_true]
   refine ⟨exB (wrongB m f) (leftB pre m), .done ?_, fun _ => rfl, fun hh => hh.elim⟩
   unfold msg_Check_l3
   rw [if_pos (by simp [stB]; omega)]
   refine ⟨f, idx_at rfl hat, _, wrong_fd m hf, ?_⟩
   rw [if_pos (by simpa using hz)]
   rfl
def zeroM (k : Int) : Mg := (k, List.replicate 6 0, [], [], bstr [], bstr [])
def checkB (m : Mg) : Int := if fieldsB m.1 = [] then 9 else if firstW m (fieldsB m.1) ≠ 0 then firstW m (fieldsB m.1) else if sameB (leftB (fieldsB m.1) m) (zeroM m.1) = true then 0 else 3
theorem len_if {α : Type} {c : Prop} [Decidable c] {l : List α} {n : Nat} (h : l.length < n) (hn : 0 < n) : (if c then [] else l).length < n := by split <;> simp [h, hn]
theorem mcheck_ok {m : Mg} (hp : m.2.2.1.length < 4611686018427387904) (hc : m.2.2.2.1.length < 4611686018427387904) : msg_Check m (checkB m) := by
 obtain ⟨ex, h1, h2, h3⟩ := check_run m (fieldsB m.1) (by have := fields_len m.1; omega) (fields_fd m.1) (fieldsB m.1) [] 9 rfl
 refine ⟨_, fields_ok m.1, ex, h1, ?_⟩
 unfold checkB msg_Check_j1
 by_cases hl : fieldsB m.1 = []
 ·rw [if_pos hl]
  have : firstW m (fieldsB m.1) = 0 := by rw [hl]; rfl
  have hx := h3 this
  rw [if_pos hl] at hx
  rw [hx, if_neg (by simp [exB])]
  unfold msg_Check_j2
  rw [if_neg (by simp)]; rfl
 ·rw [if_neg hl]
  by_cases hf : firstW m (fieldsB m.1) = 0
  ·rw [if_neg (c := firstW m (fieldsB m.1) ≠ 0) (by simpa using hf)]
   have hx := h3 hf
   rw [if_neg hl] at hx
   rw [hx, if_pos (c := (decide ((exB 0 (leftB (fieldsB m.1) m)).1 = 0)) = true) (by simp [exB])]
   refine ⟨sameB (leftB (fieldsB m.1) m) (zeroM m.1), msame_ok (a := leftB (fieldsB m.1) m) (b := zeroM m.1) (len_if hp (by decide)) (len_if hc (by decide)), ?_⟩
   unfold msg_Check_j2
   cases hs : sameB (leftB (fieldsB m.1) m) (zeroM m.1) <;> rfl
  ·rw [if_pos (c := firstW m (fieldsB m.1) ≠ 0) hf, if_neg (c := (decide (ex.1 = 0)) = true) (by rw [h2 hf]; simpa using hf)]
   unfold msg_Check_j2
   rw [if_neg (by simp), h2 hf]

/-! The document's check. -/
theorem rtext_ok (s : ByteArray) (most : Int) (hs : s.size < 4611686018427387904) : ref17_text s most (textB s 0 most) := by
 unfold ref17_text textB
 by_cases h : manyB s.size 0 most = 0
 ·rw [if_neg (by have := manyB_zero h; simp; omega), if_pos h]
  refine ⟨_, loops_first (fun k => (k : Int)) (textBad s) () s.size (fun k hk => ?_) ?_, aft_err fun _ => rfl⟩
  ·have hw := len_wrap (n := k) (by omega)
   have hk' : k < (bints s).length := by rw [len_bints]; exact hk
   have hx := idx_of hk'
   have hg : (bints s).getD k 0 = (bints s)[k] := by simp [List.getD_eq_getElem?_getD, hk']
   have st : ∀ o, (if (bints s)[k] < 32 ∨ 126 < (bints s)[k] then o = .inr (.inr 19) else o = .inl ((k + 1 : Nat) : Int)) → ref17_text_l2 s (k : Int) o := by
    intro o ho
    unfold ref17_text_l2
    rw [if_pos (by simp only [decide_eq_true_eq]; omega)]
    refine ⟨_, hx, ?_⟩
    by_cases h1 : (bints s)[k] < 32
    ·rw [if_pos (.inl h1)] at ho; rw [if_pos (by simpa using h1)]; unfold ref17_text_j3; rw [if_pos rfl]; exact ho
    ·rw [if_neg (by simpa using h1)]
     refine ⟨_, hx, ?_⟩
     unfold ref17_text_j3
     by_cases h2 : 126 < (bints s)[k]
     ·rw [if_pos (.inr h2)] at ho; rw [if_pos (by simpa using h2)]; exact ho
     ·rw [if_neg (not_or.2 ⟨h1, h2⟩)] at ho; rw [if_neg (by simpa using h2), hw]; exact ho
   unfold textBad
   rw [hg]
   by_cases hb : (bints s)[k] < 32 ∨ 126 < (bints s)[k]
   ·simp only [if_pos hb]; exact ⟨fun e he => (by cases he; exact st _ (by rw [if_pos hb])), fun he => by cases he⟩
   ·simp only [if_neg hb]; exact ⟨fun e he => (by cases he), fun _ => st _ (by rw [if_neg hb])⟩
  ·unfold ref17_text_l2
   rw [if_neg (by simp)]
 ·rw [if_neg h]
  have hn : ¬ ((s.size : Int) < 0) := by omega
  unfold manyB at h ⊢
  rw [if_neg hn] at h ⊢
  by_cases h2 : most < (s.size : Int)
  ·rw [if_pos (by simpa using h2), if_pos h2]
  ·rw [if_neg h2] at h; exact absurd rfl h
theorem rcells_ok (l : List Int) (hl : l.length < 4611686018427387904) : ref17_cells l (cellsB l 1 32) := by
 unfold ref17_cells cellsB manyB
 simp only [decide_eq_true_eq]
 by_cases h0 : (l.length : Int) = 0
 ·rw [if_pos h0, if_neg (by rw [if_pos (by omega)]; decide), if_pos (by omega)]
 rw [if_neg h0, if_neg (c := (l.length : Int) < 1) (by omega)]
 by_cases h1 : 32 < (l.length : Int)
 ·rw [if_pos h1, if_pos h1, if_neg (by decide)]
 rw [if_neg h1, if_neg h1, if_pos rfl]
 refine ⟨_, loops_first (fun k => (k : Int)) (cellsBad l) () l.length (fun k hk => ?_) ?_, aft_err fun _ => rfl⟩
 ·have hw := len_wrap (n := k) (by omega)
  have hx := idx_of hk
  have hg : l.getD k 0 = l[k] := by simp [List.getD_eq_getElem?_getD, hk]
  have st : ∀ o, (if l[k] < 0 ∨ 65535 < l[k] then o = .inr (.inr 5) else if 0 < k ∧ l.getD k 0 ≤ l.getD (k - 1) 0 then o = .inr (.inr 3) else o = .inl ((k + 1 : Nat) : Int)) → ref17_cells_l2 l (k : Int) o := by
   intro o ho
   unfold ref17_cells_l2
   rw [if_pos (by simpa using hk)]
   refine ⟨_, hx, ?_⟩
   by_cases h2 : l[k] < 0
   ·rw [if_pos (.inl h2)] at ho; rw [if_pos (by simpa using h2)]; unfold ref17_cells_j3; rw [if_pos rfl]; exact ho
   ·rw [if_neg (by simpa using h2)]
    refine ⟨_, hx, ?_⟩
    unfold ref17_cells_j3
    by_cases h3 : 65535 < l[k]
    ·rw [if_pos (.inr h3)] at ho; rw [if_pos (by simpa using h3)]; exact ho
    ·rw [if_neg (not_or.2 ⟨h2, h3⟩)] at ho
     rw [if_neg (by simpa using h3)]
     by_cases hk0 : 0 < k
     ·have hx2 : idx l (IntKind.i64.wrap ((k : Int) - 1)) l[k - 1] := by rw [w_small (by omega) (by omega)]; exact idx_at (k := k - 1) (by omega) (by simp [show k - 1 < l.length by omega])
      refine ⟨_, fun _ => hx, _, fun _ => hx2, ?_⟩
      have hg2 : l.getD (k - 1) 0 = l[k - 1] := by simp [List.getD_eq_getElem?_getD, show k - 1 < l.length by omega]
      rw [hg, hg2] at ho
      have hd : decide ((0 : Int) < (k : Int)) = true := by simpa using hk0
      rw [hd, Bool.true_and]
      by_cases h4 : l[k] ≤ l[k - 1]
      ·rw [if_pos ⟨hk0, h4⟩] at ho; rw [if_pos (by simpa using h4)]; exact ho
      ·rw [if_neg (fun h => h4 h.2)] at ho; rw [if_neg (by simpa using h4), hw]; exact ho
     ·refine ⟨0, fun h => absurd h (by simpa using hk0), 0, fun h => absurd h (by simpa using hk0), ?_⟩
      rw [if_neg (fun h => hk0 h.1)] at ho
      rw [if_neg (by simp; omega), hw]; exact ho
  unfold cellsBad
  rw [hg]
  rw [hg] at st
  by_cases hb : l[k] < 0 ∨ 65535 < l[k]
  ·simp only [if_pos hb]; exact ⟨fun e he => (by cases he; exact st _ (by rw [if_pos hb])), fun he => by cases he⟩
  ·simp only [if_neg hb] at st ⊢
   by_cases hd : 0 < k ∧ l[k] ≤ l.getD (k - 1) 0
   ·simp only [if_pos hd] at st ⊢; exact ⟨fun e he => (by cases he; exact st _ rfl), fun he => by cases he⟩
   ·simp only [if_neg hd] at st ⊢; exact ⟨fun e he => (by cases he), fun _ => st _ rfl⟩
 ·unfold ref17_cells_l2
  rw [if_neg (by simp)]
theorem rpath_ok (l : List (Int × Int)) (hl : l.length < 4611686018427387904) : ref17_path (l.map ofP) (pathB l 1 16) := by
 unfold ref17_path pathB manyB
 simp only [decide_eq_true_eq, List.length_map]
 by_cases h0 : (l.length : Int) = 0
 ·rw [if_pos h0, if_neg (by rw [if_pos (by omega)]; decide), if_pos (by omega)]
 rw [if_neg h0, if_neg (c := (l.length : Int) < 1) (by omega)]
 by_cases h1 : 16 < (l.length : Int)
 ·rw [if_pos h1, if_pos h1, if_neg (by decide)]
 rw [if_neg h1, if_neg h1, if_pos rfl]
 refine ⟨_, loops_first (fun k => (k : Int)) (pathBad l) () l.length (fun k hk => ?_) ?_, aft_err fun _ => rfl⟩
 ·have hw := len_wrap (n := k) (by omega)
  have hx : idx (l.map ofP) (k : Int) (ofP l[k]) := idx_at rfl (by simp [hk])
  generalize l[k] = p at *
  have st : ∀ o, (if 1000000 < max p.1 p.2 ∨ min p.1 p.2 < -1000000 then o = .inr (.inr 5) else o = .inl ((k + 1 : Nat) : Int)) → ref17_path_l2 (l.map ofP) (k : Int) o := by
   intro o ho
   unfold ref17_path_l2
   rw [if_pos (by simpa using hk)]
   have s5 : ∀ (i : Int) (b : Bool) o', (if b = true then o' = .inr (.inr 5) else o' = .inl (i + 1)) → 0 ≤ i → i < 2 → ref17_path_j5 i b o' := by
    intro i b o' h h0 h2; unfold ref17_path_j5; rw [w_small (by omega) (by omega)]; exact h
   have sl : ∀ (i : Int) (v : Int), 0 ≤ i → i < 2 → (ofP p).getD i.toNat 0 = v → ∀ o', (if v < -1000000 ∨ 1000000 < v then o' = .inr (.inr 5) else o' = .inl (i + 1)) → ref17_path_l4 (l.map ofP) (k : Int) i o' := by
    intro i v h0 h2 hv o' ho'
    unfold ref17_path_l4
    rw [if_pos (by simpa using h2)]
    refine ⟨_, hx, h0, h2, ?_⟩
    rw [hv]
    by_cases h3 : v < -1000000
    ·rw [if_pos (by simpa using h3)]; rw [if_pos (.inl h3)] at ho'; exact s5 i true o' (by rw [if_pos rfl]; exact ho') h0 h2
    ·rw [if_neg (by simpa using h3)]
     refine ⟨_, hx, h0, h2, ?_⟩
     rw [hv]
     refine s5 i _ o' ?_ h0 h2
     by_cases h4 : 1000000 < v
     ·rw [if_pos (.inr h4)] at ho'; rw [if_pos (by simpa using h4)]; exact ho'
     ·rw [if_neg (not_or.2 ⟨h3, h4⟩)] at ho'; rw [if_neg (by simpa using h4)]; exact ho'
   by_cases ha : p.1 < -1000000 ∨ 1000000 < p.1
   ·rw [if_pos (by omega)] at ho
    exact ⟨.inr 5, .done (sl 0 p.1 (by omega) (by omega) rfl _ (by rw [if_pos ha])), ho⟩
   ·by_cases hb : p.2 < -1000000 ∨ 1000000 < p.2
    ·rw [if_pos (by omega)] at ho
     exact ⟨.inr 5, .next (sl 0 p.1 (by omega) (by omega) rfl _ (by rw [if_neg ha]; rfl)) (.done (sl 1 p.2 (by omega) (by omega) rfl _ (by rw [if_pos hb]))), ho⟩
    ·rw [if_neg (by omega)] at ho
     refine ⟨.inl (), .next (sl 0 p.1 (by omega) (by omega) rfl _ (by rw [if_neg ha]; rfl)) (.next (sl 1 p.2 (by omega) (by omega) rfl _ (by rw [if_neg hb])) (.done ?_)), ?_⟩
     ·unfold ref17_path_l4; rw [if_neg (by decide)]
     ·show ref17_path_j3 _ () _; unfold ref17_path_j3; rw [hw]; exact ho
  have hpb : pathBad l k = if 1000000 < max p.1 p.2 ∨ min p.1 p.2 < -1000000 then some 5 else none := by
   unfold pathBad
   have : l[k]? = some p := by
    have := hx.2
    rw [List.getElem?_map] at this
    obtain ⟨u, hu, he⟩ := Option.map_eq_some_iff.1 this
    rw [show ((k : Int).toNat) = k by omega] at hu
    rw [hu, ofP_inj he]
   rw [this]
  rw [hpb]
  by_cases hb : 1000000 < max p.1 p.2 ∨ min p.1 p.2 < -1000000
  ·simp only [if_pos hb]; exact ⟨fun e he => (by cases he; exact st _ (by rw [if_pos hb])), fun he => by cases he⟩
  ·simp only [if_neg hb]; exact ⟨fun e he => (by cases he), fun _ => st _ (by rw [if_neg hb])⟩
 ·unfold ref17_path_l2
  rw [if_neg (by simp)]

def stR (i : Int) (l : List Fd) : Int × Bool × Bool × Bool × Bool × Bool × Bool × Bool × Bool × Bool × Bool × Bool × Bool × Bool :=
 (i, hasS l 0, hasS l 1, hasS l 2, hasS l 3, hasS l 4, hasS l 5, hasS l 6, hasN l 0, hasN l 1, hasN l 2, hasN l 3, hasN l 4, hasN l 5)
theorem putS_ok (l : List Fd) (f : Fd) (h0 : 0 ≤ f.2.1) (j : Nat) (hj : j < 7) : (putN 7 false [hasS l 0, hasS l 1, hasS l 2, hasS l 3, hasS l 4, hasS l 5, hasS l 6] f.2.1.toNat true).getD j false = hasS (l ++ [f]) (j : Int) := by
 rw [putN_getD hj]
 have e : [hasS l 0, hasS l 1, hasS l 2, hasS l 3, hasS l 4, hasS l 5, hasS l 6].getD j false = hasS l (j : Int) := by
  match j, hj with
  | 0, _ => rfl
  | 1, _ => rfl
  | 2, _ => rfl
  | 3, _ => rfl
  | 4, _ => rfl
  | 5, _ => rfl
  | 6, _ => rfl
 rw [e, hasS_snoc]
 by_cases hq : j = f.2.1.toNat
 ·rw [if_pos hq, decide_eq_true (by omega)]; simp
 ·rw [if_neg hq, decide_eq_false (by omega)]; simp
theorem nN_same {l : List Fd} {f : Fd} (h : ¬ sortN f) (p : Nat) : hasN (l ++ [f]) p = hasN l p := by rw [hasN_snoc, decide_eq_false (fun hh => h hh.1), Bool.or_false]
theorem nN_put {l : List Fd} {f : Fd} (h : sortN f) {p : Nat} (hp : p < 6) : (putN 6 false [hasN l 0, hasN l 1, hasN l 2, hasN l 3, hasN l 4, hasN l 5] f.2.2.1.toNat true).getD p false = hasN (l ++ [f]) p := by
 rw [putN_getD hp]
 have e : [hasN l 0, hasN l 1, hasN l 2, hasN l 3, hasN l 4, hasN l 5].getD p false = hasN l p := by
  match p, hp with
  | 0, _ => rfl
  | 1, _ => rfl
  | 2, _ => rfl
  | 3, _ => rfl
  | 4, _ => rfl
  | 5, _ => rfl
 rw [e, hasN_snoc]
 by_cases hq : p = f.2.2.1.toNat
 ·rw [if_pos hq, decide_eq_true ⟨h, hq.symm⟩]; simp
 ·rw [if_neg hq, decide_eq_false (fun hh => hq hh.2.symm), Bool.or_false]
abbrev SB := Bool × Bool × Bool × Bool × Bool × Bool × Bool × Bool × Bool × Bool × Bool × Bool × Bool
theorem rj7_ok (l : List Fd) (f : Fd) (hl : l.length < 100) (h0 : 0 ≤ f.2.1) (e : Int) {o : Sum (Int × SB) (Sum SB Int)} (ho : if e ≠ 0 then o = .inr (.inr e) else o = .inl (stR ((l.length + 1 : Nat) : Int) (l ++ [f]))) :
    ref17_Check_j7 (stR (l.length : Int) l) f (e, hasN (l ++ [f]) 0, hasN (l ++ [f]) 1, hasN (l ++ [f]) 2, hasN (l ++ [f]) 3, hasN (l ++ [f]) 4, hasN (l ++ [f]) 5) o := by
  unfold ref17_Check_j7
  by_cases he : e = 0
  · rw [if_neg (by simpa using he)]
    rw [if_neg (by simpa using he)] at ho
    simp only [stR]
    rw [putS_ok l f h0 0 (by omega), putS_ok l f h0 1 (by omega), putS_ok l f h0 2 (by omega), putS_ok l f h0 3 (by omega), putS_ok l f h0 4 (by omega), putS_ok l f h0 5 (by omega), putS_ok l f h0 6 (by omega), len_wrap (by omega)]
    exact ho
  · rw [if_pos (by simpa using he)]
    rw [if_pos he] at ho; exact ho
theorem rcheck_run (m : Mg) (hp : m.2.2.1.length < 4611686018427387904) (hc : m.2.2.2.1.length < 4611686018427387904) (ht : m.2.2.2.2.1.size < 4611686018427387904) (hg : m.2.2.2.2.2.size < 4611686018427387904) (fs : List Fd) (hfs : fs.length < 100) (hok : ∀ f ∈ fs, fdOk f) : ∀ (l pre : List Fd), fs = pre ++ l →
    Loops (ref17_Check_l6 (ofM m) fs) (stR (pre.length : Int) pre) (if firstW m l ≠ 0 then .inr (firstW m l) else .inl (stR 0 fs).2)
  | [], pre, h => by
    rw [List.append_nil] at h
    refine .done ?_
    unfold ref17_Check_l6
    rw [if_neg (by rw [h]; simp [stR]), h]
    rfl
  | f :: l, pre, h => by
    have hlen : fs.length = pre.length + l.length + 1 := by rw [h]; simp; omega
    have hat : fs[pre.length]? = some f := by rw [h]; simp
    have hx : idx fs (pre.length : Int) f := idx_at rfl hat
    have hf := hok f (by rw [h]; simp)
    have rest := rcheck_run m hp hc ht hg fs hfs hok l (pre ++ [f]) (by rw [h]; simp)
    have st : ∀ o, (if wrongB m f ≠ 0 then o = .inr (.inr (wrongB m f)) else o = .inl (stR ((pre.length + 1 : Nat) : Int) (pre ++ [f]))) → ref17_Check_l6 (ofM m) fs (stR (pre.length : Int) pre) o := by
      intro o ho
      obtain ⟨_, _, ok⟩ := hf
      unfold ref17_Check_l6
      rw [if_pos (by simp [stR]; omega)]
      refine ⟨f, hx, by omega, by omega, f, hx, ?_⟩
      simp only [decide_eq_true_eq]
      by_cases h3 : f.2.1 = 3
      · rw [if_pos h3]
        have hs : ¬ sortN f := fun h => h.1 h3
        have hw : wrongB m f = pathB m.2.2.1 1 16 := by unfold wrongB; rw [if_pos h3, show f.2.2.2.1 = 1 by omega, show f.2.2.2.2.1 = 16 by omega]
        refine ⟨_, rpath_ok _ hp, ?_⟩
        have := rj7_ok pre f (by omega) (by omega) (pathB m.2.2.1 1 16) (by rw [← hw]; exact ho)
        simp only [nN_same hs] at this; exact this
      rw [if_neg h3]
      by_cases h4 : f.2.1 = 4
      · rw [if_pos h4]
        have hs : ¬ sortN f := fun h => h.2.1 h4
        have hw : wrongB m f = cellsB m.2.2.2.1 1 32 := by unfold wrongB; rw [if_neg h3, if_pos h4, show f.2.2.2.1 = 1 by omega, show f.2.2.2.2.1 = 32 by omega]
        refine ⟨_, rcells_ok _ hc, ?_⟩
        have := rj7_ok pre f (by omega) (by omega) (cellsB m.2.2.2.1 1 32) (by rw [← hw]; exact ho)
        simp only [nN_same hs] at this; exact this
      rw [if_neg h4]
      by_cases h5 : f.2.1 = 5
      · rw [if_pos h5]
        have hs : ¬ sortN f := fun h => h.2.2.1 h5
        have hw : wrongB m f = textB m.2.2.2.2.1 0 64 := by unfold wrongB; rw [if_neg h3, if_neg h4, if_pos h5, show f.2.2.2.1 = 0 by omega, show f.2.2.2.2.1 = 64 by omega]
        refine ⟨_, rtext_ok _ _ ht, ?_⟩
        have := rj7_ok pre f (by omega) (by omega) (textB m.2.2.2.2.1 0 64) (by rw [← hw]; exact ho)
        simp only [nN_same hs] at this; exact this
      rw [if_neg h5]
      by_cases h6 : f.2.1 = 6
      · rw [if_pos h6]
        have hs : ¬ sortN f := fun h => h.2.2.2 h6
        have hw : wrongB m f = textB m.2.2.2.2.2 0 16 := by unfold wrongB; rw [if_neg h3, if_neg h4, if_neg h5, if_pos h6, show f.2.2.2.1 = 0 by omega, show f.2.2.2.2.1 = 16 by omega]
        refine ⟨_, rtext_ok _ _ hg, ?_⟩
        have := rj7_ok pre f (by omega) (by omega) (textB m.2.2.2.2.2 0 16) (by rw [← hw]; exact ho)
        simp only [nN_same hs] at this; exact this
      rw [if_neg h6]
      have hs : sortN f := ⟨h3, h4, h5, h6⟩
      have hw : wrongB m f = if numBad m f then 5 else 0 := by unfold wrongB; rw [if_neg h3, if_neg h4, if_neg h5, if_neg h6]
      refine ⟨f, hx, by omega, by omega, f, hx, by omega, by omega, f, hx, f, fun _ => hx, fun _ => by omega, fun _ => by omega, f, fun _ => hx, ?_⟩
      have key := fun e he => rj7_ok pre f (by omega) (by omega) e (o := o) he
      simp only [← nN_put hs (p := 0) (by omega), ← nN_put hs (p := 1) (by omega), ← nN_put hs (p := 2) (by omega), ← nN_put hs (p := 3) (by omega), ← nN_put hs (p := 4) (by omega), ← nN_put hs (p := 5) (by omega)] at key
      by_cases hb : numBad m f
      · rw [if_pos hb] at hw
        rw [if_pos (by
          rcases hb with hb | hb
          · have : (ofM m).2.1.getD f.2.2.1.toNat 0 < f.2.2.2.1 := hb
            rw [decide_eq_true this, Bool.true_or]
          · have : f.2.2.2.2.1 < (ofM m).2.1.getD f.2.2.1.toNat 0 := hb
            rw [decide_eq_true this, Bool.or_true])]
        exact key 5 (by rw [hw] at ho; exact ho)
      · rw [if_neg hb] at hw
        have hb2 := not_or.1 hb
        rw [if_neg (by
          have h1 : ¬ (ofM m).2.1.getD f.2.2.1.toNat 0 < f.2.2.2.1 := hb2.1
          have h2 : ¬ f.2.2.2.2.1 < (ofM m).2.1.getD f.2.2.1.toNat 0 := hb2.2
          rw [decide_eq_false h1, decide_eq_false h2]; decide)]
        exact key 0 (by rw [hw] at ho; exact ho)
    simp only [List.length_append, List.length_cons, List.length_nil, Nat.zero_add] at rest
    by_cases hz : wrongB m f = 0
    · simp only [firstW, hz, ne_eq, not_true, if_false]
      exact .next (st _ (by rw [if_neg (by simpa using hz)])) rest
    · simp only [firstW, ne_eq, hz, not_false_iff, if_true]
      exact .done (st _ (by rw [if_pos hz]))
theorem len_dec (n : Nat) (p : Prop) [Decidable p] (h : n = 0 ↔ p) [Decidable (0 < (n : Int))] : decide (0 < (n : Int)) = !decide p := by
  by_cases hp : p
  · rw [decide_eq_true hp, decide_eq_false (by have := h.2 hp; omega)]; rfl
  · rw [decide_eq_false hp, decide_eq_true (by have : n ≠ 0 := fun e => hp (h.1 e)
                                               omega)]; rfl
theorem j2_ok (a : Mr) (s : SB) (r : Int) (p3 p4 p5 p6 : Bool) (h3 : decide (0 < (a.2.2.1.length : Int)) = !p3) (h4 : decide (0 < (a.2.2.2.1.length : Int)) = !p4) (h5 : decide (a.2.2.2.2.1 = bstr []) = p5) (h6 : decide (a.2.2.2.2.2 = bstr []) = p6)
    (hr : r = if ((!s.2.2.2.1 && !p3) || (!s.2.2.2.2.1 && !p4) || (!s.2.2.2.2.2.1 && !p5) || (!s.2.2.2.2.2.2.1 && !p6)) = true then 3 else 0) : ref17_Check_j2 a s () r := by
  obtain ⟨b0, b1, b2, b3, b4, b5, b6, b7⟩ := s
  unfold ref17_Check_j2 ref17_Check_j3
  simp only at hr ⊢
  rw [h3, h4, h5, h6]
  subst hr
  cases b3 <;> cases b4 <;> cases b5 <;> cases b6 <;> cases p3 <;> cases p4 <;> cases p5 <;> cases p6 <;> exact rfl
theorem rcheck_ok {m : Mg} (hp : m.2.2.1.length < 4611686018427387904) (hc : m.2.2.2.1.length < 4611686018427387904) (ht : m.2.2.2.2.1.size < 4611686018427387904) (hg : m.2.2.2.2.2.size < 4611686018427387904) : ref17_Check (ofM m) (checkB m) := by
 refine ⟨_, rfields_ok m.1, ?_⟩
 unfold checkB
 by_cases hl : fieldsB m.1 = []
 ·rw [hl, if_pos (by simp), if_pos rfl]
 ·rw [if_neg hl, if_neg (by simp; exact hl)]
  have run := rcheck_run m hp hc ht hg (fieldsB m.1) (by have := fields_len m.1; omega) (fields_fd m.1) (fieldsB m.1) [] rfl
  by_cases hf : firstW m (fieldsB m.1) = 0
  ·rw [if_neg (c := firstW m (fieldsB m.1) ≠ 0) (by simpa using hf)] at run ⊢
   refine ⟨_, run, ?_⟩
   show ref17_Check_j1 (ofM m) (stR 0 (fieldsB m.1)).2 _
   generalize fieldsB m.1 = fs at *
   let bad : Nat → Option Int := fun k => if hasN fs k = false ∧ m.2.1.getD k 0 ≠ 0 then some 3 else none
   refine ⟨_, loops_first (fun k => (k : Int)) bad () 6 (fun k hk => ?_) ?_, ?_⟩
   ·have st : ∀ o, (if hasN fs k = false ∧ m.2.1.getD k 0 ≠ 0 then o = .inr (.inr 3) else o = .inl ((k + 1 : Nat) : Int)) → ref17_Check_l4 (ofM m) (stR 0 fs).2 (k : Int) o := by
     intro o ho
     unfold ref17_Check_l4
     rw [if_pos (by simp; omega)]
     refine ⟨by omega, by omega, ?_⟩
     have e : [hasN fs 0, hasN fs 1, hasN fs 2, hasN fs 3, hasN fs 4, hasN fs 5].getD (k : Int).toNat false = hasN fs k := by
      match k, hk with
      | 0, _ => rfl
      | 1, _ => rfl
      | 2, _ => rfl
      | 3, _ => rfl
      | 4, _ => rfl
      | 5, _ => rfl
     have j5 : ∀ b : Bool, (if b = true then o = .inr (.inr 3) else o = .inl ((k + 1 : Nat) : Int)) → ref17_Check_j5 (k : Int) b o := by
      intro b hb; unfold ref17_Check_j5; rw [len_wrap (by omega)]; exact hb
     split
     ·rename_i hb
      have hb : (!hasN fs k) = true := by rw [← e]; exact hb
      have hn : hasN fs k = false := by simpa using hb
      refine ⟨by omega, by omega, j5 _ ?_⟩
      show if (!decide (m.2.1.getD k 0 = 0)) = true then _ else _
      by_cases hz : m.2.1.getD k 0 = 0
      ·rw [if_neg (fun h => h.2 hz)] at ho; rw [if_neg (by rw [decide_eq_true hz]; simp)]; exact ho
      ·rw [if_pos ⟨hn, hz⟩] at ho; rw [if_pos (by simpa using hz)]; exact ho
     ·rename_i hb
      have hb : ¬ (!hasN fs k) = true := by rw [← e]; exact hb
      have hn : hasN fs k = true := by simpa using hb
      rw [if_neg (by simp [hn])] at ho; exact j5 false (by simpa using ho)
    show (∀ e, (if hasN fs k = false ∧ m.2.1.getD k 0 ≠ 0 then some 3 else none) = some e → _) ∧ ((if hasN fs k = false ∧ m.2.1.getD k 0 ≠ 0 then some 3 else none) = none → _)
    by_cases hb : hasN fs k = false ∧ m.2.1.getD k 0 ≠ 0
    ·rw [if_pos hb]; exact ⟨fun e he => (by cases he; exact st _ (by rw [if_pos hb])), fun he => by cases he⟩
    ·rw [if_neg hb]; exact ⟨fun e he => (by cases he), fun _ => st _ (by rw [if_neg hb])⟩
   ·unfold ref17_Check_l4
    rw [if_neg (by decide)]
   ·have hz : ∀ k, bad k = none ↔ zN fs m.2.1 k = 0 := by
     intro k
     show (if hasN fs k = false ∧ m.2.1.getD k 0 ≠ 0 then some 3 else none) = none ↔ (if hasN fs k = true then 0 else m.2.1.getD k 0) = 0
     cases hasN fs k with
     | true => simp
     | false => by_cases h0 : m.2.1.getD k 0 = 0 <;> simp
    have hsame : sameB (leftB fs m) (zeroM m.1) = true ↔ ((∀ k, k < 6 → zN fs m.2.1 k = 0) ∧ (hasS fs 3 = true ∨ m.2.2.1 = []) ∧ (hasS fs 4 = true ∨ m.2.2.2.1 = []) ∧ (hasS fs 5 = true ∨ m.2.2.2.2.1 = bstr []) ∧ (hasS fs 6 = true ∨ m.2.2.2.2.2 = bstr [])) := by
     unfold sameB leftB zeroM
     rw [decide_eq_true_eq]
     have h1 : ∀ {α : Type} (b : Bool) (x z : α), ((if b = true then z else x) = z) ↔ (b = true ∨ x = z) := by
      intro α b x z; cases b <;> simp
     simp only [n6, List.getD_cons_zero, List.getD_cons_succ, Prod.mk.injEq, true_and, h1, List.cons.injEq, and_true]
     constructor
     ·rintro ⟨⟨a0, a1, a2, a3, a4, a5⟩, b⟩
      refine ⟨fun k hk => ?_, b⟩
      match k, hk with
      | 0, _ => exact a0
      | 1, _ => exact a1
      | 2, _ => exact a2
      | 3, _ => exact a3
      | 4, _ => exact a4
      | 5, _ => exact a5
     ·rintro ⟨a, b⟩
      exact ⟨⟨a 0 (by omega), a 1 (by omega), a 2 (by omega), a 3 (by omega), a 4 (by omega), a 5 (by omega)⟩, b⟩
    cases hfe : firstE () bad 6 with
    | inl u =>
     have hall : ∀ k, k < 6 → zN fs m.2.1 k = 0 := fun k hk => (hz k).1 (firstE_some hfe k hk)
     refine j2_ok (ofM m) _ _ (decide (m.2.2.1 = [])) (decide (m.2.2.2.1 = [])) (decide (m.2.2.2.2.1 = bstr [])) (decide (m.2.2.2.2.2 = bstr [])) (len_dec _ _ (by simp [ofM])) (len_dec _ _ (by simp [ofM])) rfl rfl ?_
     simp only [stR]
     by_cases hs : sameB (leftB fs m) (zeroM m.1) = true
     ·rw [if_pos hs]
      obtain ⟨_, c3, c4, c5, c6⟩ := hsame.1 hs
      refine (if_neg ?_).symm
      rcases c3 with c3 | c3 <;> rcases c4 with c4 | c4 <;> rcases c5 with c5 | c5 <;> rcases c6 with c6 | c6 <;> simp [c3, c4, c5, c6]
     ·rw [if_neg hs]
      refine (if_pos ?_).symm
      by_cases c3 : hasS fs 3 = true ∨ m.2.2.1 = []
      ·by_cases c4 : hasS fs 4 = true ∨ m.2.2.2.1 = []
       ·by_cases c5 : hasS fs 5 = true ∨ m.2.2.2.2.1 = bstr []
        ·by_cases c6 : hasS fs 6 = true ∨ m.2.2.2.2.2 = bstr []
         ·exact absurd (hsame.2 ⟨hall, c3, c4, c5, c6⟩) hs
         ·simp only [not_or, Bool.not_eq_true] at c6; simp [c6]
        ·simp only [not_or, Bool.not_eq_true] at c5; simp [c5]
       ·simp only [not_or, Bool.not_eq_true] at c4; simp [c4]
      ·simp only [not_or, Bool.not_eq_true] at c3; simp [c3]
    | inr e =>
     have he : e = 3 := by
      unfold firstE at hfe
      cases hfs : (List.range 6).findSome? bad with
      | none => rw [hfs] at hfe; cases hfe
      | some e' =>
       rw [hfs] at hfe; cases hfe
       obtain ⟨k, _, hk⟩ := List.exists_of_findSome?_eq_some hfs
       have hk : (if hasN fs k = false ∧ m.2.1.getD k 0 ≠ 0 then some 3 else none) = some e := hk
       split at hk
       ·cases hk; rfl
       ·cases hk
     subst he
     show _ = _
     rw [if_neg]
     intro hd
     have hd := (hsame.1 hd).1
     rw [firstE_none (fun k hk => (hz k).2 (hd k hk))] at hfe
     cases hfe
  ·rw [if_pos (c := firstW m (fieldsB m.1) ≠ 0) hf] at run ⊢
   exact ⟨_, run, rfl⟩
end Go.Rel
/-! Plain laws: fleets: what a message does to what is known of a robot; the chapter's example. -/
namespace Go.Rel
open Go Go.Eng Go.Pl

abbrev Rb := Int × Int × Int × Int × Int × Bool × Bool × Int × Int × List (Int × Int) × Int × Int
abbrev Fl := List (Int × Rb) × List ((Int × Int) × List Int)
def zRb : Rb := (0, 0, 0, 0, 0, false, false, 0, 0, [], 0, 0)
def robB (f : Fl) (n : Int) : Rb := (mget f.1 n).getD zRb
theorem mg_put {K V : Type} [DecidableEq K] (a b : K) (q : V) : ∀ m : List (K × V), mget (mput m a q) b = if b = a then some q else mget m b
 | [] => by simp only [mput, mget]
 | p :: m => by
  simp only [mput]
  by_cases h : a = p.1
  ·rw [if_pos h]
   simp only [mget]
   by_cases hb : b = a
   ·rw [if_pos hb, if_pos hb]
   ·rw [if_neg hb, if_neg hb, if_neg (by rw [← h]; exact hb)]
  ·rw [if_neg h]
   simp only [mget]
   by_cases hb : b = p.1
   ·rw [if_pos hb, if_neg (by rw [hb]; exact fun e => h e.symm), if_pos hb]
   ·rw [if_neg hb, mg_put a b q m, if_neg hb]

/-! ### A field by its name -/
def zFd : Fd := (bstr [], 0, 0, 0, 0, 0, 0)
def findF (a : ByteArray) : List Fd → Fd
 | [] => zFd
 | f :: l => if f.1 = a then f else findF a l
def isF (s3 : Fd) : Bool := (!((decide (s3.1 = (bstr []))) && ((decide (s3.2.1 = 0)) && ((decide (s3.2.2.1 = 0)) && ((decide (s3.2.2.2.1 = 0)) && ((decide (s3.2.2.2.2.1 = 0)) && ((decide (s3.2.2.2.2.2.1 = 0)) && ((decide (s3.2.2.2.2.2.2 = 0)) && true))))))))
theorem find_ok (k : Int) (a : ByteArray) : field_Find k a (findF a (fieldsB k), isF (findF a (fieldsB k))) := by
 have hl := fields_len k
 have key : ∀ (l pre : List Fd), fieldsB k = pre ++ l → Loops (field_Find_l2 a (fieldsB k)) (pre.length : Int) (findF a l) := by
  intro l
  induction l with
  | nil =>
   intro pre h
   refine .done ?_
   unfold field_Find_l2
   rw [if_neg (by rw [h]; simp)]; rfl
  | cons f l ih =>
   intro pre h
   have hx : idx (fieldsB k) (pre.length : Int) f := ⟨by omega, by rw [h]; simp⟩
   have hlt : pre.length < 100 := by rw [h] at hl; simp at hl; omega
   by_cases e : f.1 = a
   ·refine .done ?_
    unfold field_Find_l2
    rw [if_pos (by have := hx.lt; simpa using this)]
    refine ⟨f, hx, ?_⟩
    rw [if_pos (by simpa using e)]
    simp only [findF, if_pos e]
   ·refine .next (s' := ((pre ++ [f]).length : Int)) ?_ ?_
    ·unfold field_Find_l2
     rw [if_pos (by have := hx.lt; simpa using this)]
     refine ⟨f, hx, ?_⟩
     rw [if_neg (by simpa using e), w_small (by omega) (by omega)]
     simp
    ·simp only [findF, if_neg e]
     exact ih (pre ++ [f]) (by simp [h])
 exact ⟨fieldsB k, fields_ok k, findF a (fieldsB k), key _ [] rfl, rfl⟩
theorem fields_low (k : Int) : ∀ f ∈ fieldsB k, f.2.2.1 < 6 := by
 refine fields_all (fun f => f.2.2.1 < 6) k (by simp [robotF]) ?_
 simp only [List.forall_mem_cons]
 simp
theorem findF_low {a : ByteArray} : ∀ {l : List Fd}, (∀ f ∈ l, f.2.2.1 < 6) → (findF a l).2.2.1 < 6
 | [], _ => by show (0 : Int) < 6; decide
 | f :: l, h => by
  simp only [findF]
  split
  ·exact h f List.mem_cons_self
  ·exact findF_low (fun g hg => h g (List.mem_cons_of_mem _ hg))
def valF (f : Fd) (m : Mg) : Int := if isF f = true ∧ 0 ≤ f.2.2.1 then m.2.1.getD f.2.2.1.toNat 0 else 0
def valB (m : Mg) (a : ByteArray) : Int := valF (findF a (fieldsB m.1)) m
theorem value_ok (m : Mg) (a : ByteArray) : fleet_value m a (valB m a) := by
 have hlow := findF_low (a := a) (fields_low m.1)
 have h := find_ok m.1 a
 unfold valB
 generalize findF a (fieldsB m.1) = f at *
 unfold fleet_value msg_Get valF
 by_cases h1 : isF f = true
 ·by_cases h2 : 0 ≤ f.2.2.1
  ·rw [if_pos ⟨h1, h2⟩]
   refine ⟨(_, true), ⟨_, h, ?_⟩, rfl⟩
   rw [if_neg (by simp [h1])]
   unfold msg_Get_j1
   rw [if_neg (by simp; omega)]
   exact ⟨h2, hlow, rfl⟩
  ·rw [if_neg (fun q => h2 q.2)]
   refine ⟨(0, false), ⟨_, h, ?_⟩, rfl⟩
   rw [if_neg (by simp [h1])]
   unfold msg_Get_j1
   rw [if_pos (by simp; omega)]
 ·rw [if_neg (fun q => h1 q.1)]
  refine ⟨(0, false), ⟨_, h, ?_⟩, rfl⟩
  rw [if_pos (by simp [h1])]
  unfold msg_Get_j1
  rw [if_pos rfl]

/-! ### What a message does -/
theorem cloneP_ok {l : List (Int × Int)} (h : l.length < 1099511627776) : slices_Clone_msg_Point_msg_Point l l := by
 intro b hb
 show if b = true then l = [] else _
 cases b with
 | true => exact hb rfl
 | false => exact ⟨by simp; omega, by simp; omega, rfl⟩
theorem cloneI_ok {l : List Int} (h : l.length < 1099511627776) : slices_Clone_int_int l l := by
 intro b hb
 show if b = true then l = [] else _
 cases b with
 | true => exact hb rfl
 | false => exact ⟨by simp; omega, by simp; omega, rfl⟩
theorem robot_ok {f : Fl} {n : Int} (h : (robB f n).2.2.2.2.2.2.2.2.2.1.length < 1099511627776) : fleet_Fleet_Robot f n (robB f n, (mget f.1 n).isSome) := ⟨_, cloneP_ok h, rfl⟩
def nmRobot : ByteArray := bstr [114, 111, 98, 111, 116]
def nmZone : ByteArray := bstr [122, 111, 110, 101]
def apR (r : Rb) (m : Mg) : Rb :=
 if m.1 = 1 then (r.1, r.2.1, r.2.2.1, r.2.2.2.1, r.2.2.2.2.1, r.2.2.2.2.2.1, false, 0, 0, m.2.2.1, r.2.2.2.2.2.2.2.2.2.2.1, r.2.2.2.2.2.2.2.2.2.2.2)
 else if m.1 = 2 then (r.1, r.2.1, r.2.2.1, r.2.2.2.1, r.2.2.2.2.1, r.2.2.2.2.2.1, true, valB m (bstr [114, 101, 97, 115, 111, 110]), valB m nmZone, [], r.2.2.2.2.2.2.2.2.2.2.1, r.2.2.2.2.2.2.2.2.2.2.2)
 else if m.1 = 3 then r
 else if m.1 = 4 then (valB m (bstr [120]), valB m (bstr [121]), valB m (bstr [104, 101, 97, 100, 105, 110, 103]), valB m (bstr [98, 97, 116, 116, 101, 114, 121]), valB m (bstr [115, 117, 114, 101]), true, r.2.2.2.2.2.2.1, r.2.2.2.2.2.2.2.1, r.2.2.2.2.2.2.2.2.1, r.2.2.2.2.2.2.2.2.2.1, r.2.2.2.2.2.2.2.2.2.2.1, r.2.2.2.2.2.2.2.2.2.2.2)
 else if m.1 = 5 then (r.1, r.2.1, r.2.2.1, r.2.2.2.1, r.2.2.2.2.1, r.2.2.2.2.2.1, r.2.2.2.2.2.2.1, r.2.2.2.2.2.2.2.1, r.2.2.2.2.2.2.2.2.1, r.2.2.2.2.2.2.2.2.2.1, IntKind.i64.wrap (r.2.2.2.2.2.2.2.2.2.2.1 + valB m (bstr [116, 105, 109, 101, 115])), valB m (bstr [99, 111, 100, 101]))
 else r
def apL (l : List ((Int × Int) × List Int)) (m : Mg) : List ((Int × Int) × List Int) := if m.1 = 3 then mput l (valB m nmRobot, valB m nmZone) m.2.2.2.1 else l
def apB (f : Fl) (m : Mg) : Fl := (mput f.1 (valB m nmRobot) (apR (robB f (valB m nmRobot)) m), apL f.2 m)
theorem apply_ok {f : Fl} {m : Mg} (hp : m.2.2.1.length < 1099511627776) (hc : m.2.2.2.1.length < 1099511627776) : fleet_Fleet_apply f m (apB f m) := by
 refine ⟨valB m nmRobot, value_ok m _, ?_⟩
 unfold apB apR apL
 by_cases h1 : m.1 = 1
 ·rw [if_pos (by simpa using h1), if_pos h1, if_neg (by omega)]
  exact ⟨m.2.2.1, cloneP_ok hp, rfl⟩
 rw [if_neg (by simpa using h1), if_neg h1]
 by_cases h2 : m.1 = 2
 ·rw [if_pos (by simpa using h2), if_pos h2, if_neg (by omega)]
  exact ⟨_, value_ok m _, _, value_ok m _, rfl⟩
 rw [if_neg (by simpa using h2), if_neg h2]
 by_cases h3 : m.1 = 3
 ·rw [if_pos (by simpa using h3), if_pos h3, if_pos h3]
  exact ⟨_, value_ok m _, _, cloneI_ok hc, rfl⟩
 rw [if_neg (by simpa using h3), if_neg h3, if_neg h3]
 by_cases h4 : m.1 = 4
 ·rw [if_pos (by simpa using h4), if_pos h4]
  exact ⟨_, value_ok m _, _, value_ok m _, _, value_ok m _, _, value_ok m _, _, value_ok m _, rfl⟩
 rw [if_neg (by simpa using h4), if_neg h4]
 by_cases h5 : m.1 = 5
 ·rw [if_pos (by simpa using h5), if_pos h5]
  exact ⟨_, value_ok m _, _, value_ok m _, rfl⟩
 rw [if_neg (by simpa using h5), if_neg h5]
 exact rfl
def stepB (s : Int × Fl) (m : Mg) : Int × Fl := if checkB m = 0 then (s.1 + 1, apB s.2 m) else s
theorem applyAll_ok (f : Fl) (l : List Mg) (hl : l.length < 1000) (hm : ∀ m ∈ l, m.2.2.1.length < 1099511627776 ∧ m.2.2.2.1.length < 1099511627776) : fleet_Fleet_Apply f l (l.foldl stepB (0, f)) := by
 have key : ∀ (r pre : List Mg) (s : Int × Fl), l = pre ++ r → 0 ≤ s.1 → s.1 ≤ pre.length → Loops (fleet_Fleet_Apply_l2 l) (s.1, (pre.length : Int), s.2.1, s.2.2) (r.foldl stepB s) := by
  intro r
  induction r with
  | nil =>
   intro pre s h _ _
   refine .done ?_
   unfold fleet_Fleet_Apply_l2
   rw [if_neg (by rw [h]; simp)]; rfl
  | cons m r ih =>
   intro pre s h h0 h1
   have hx : idx l (pre.length : Int) m := ⟨by omega, by rw [h]; simp⟩
   have hlt := hx.lt
   obtain ⟨hp, hc⟩ := hm m (by rw [h]; simp)
   have hi : IntKind.i64.wrap ((pre.length : Int) + 1) = ((pre ++ [m]).length : Int) := by rw [w_small (by omega) (by omega)]; simp
   have hnext : ∀ s', s' = stepB s m → Loops (fleet_Fleet_Apply_l2 l) (s'.1, ((pre ++ [m]).length : Int), s'.2.1, s'.2.2) ((m :: r).foldl stepB s) := by
    rintro s' rfl
    refine ih (pre ++ [m]) (stepB s m) (by simp [h]) ?_ ?_
    ·unfold stepB; split
     ·show 0 ≤ s.1 + 1; omega
     ·exact h0
    ·unfold stepB; simp only [List.length_append, List.length_cons, List.length_nil]; split
     ·show s.1 + 1 ≤ _; omega
     ·omega
   refine .next ?_ (hnext _ rfl)
   unfold fleet_Fleet_Apply_l2
   rw [if_pos (by simpa using hlt)]
   refine ⟨m, hx, checkB m, mcheck_ok (by omega) (by omega), ?_⟩
   unfold stepB
   by_cases hk : checkB m = 0
   ·rw [if_neg (by simp [hk]), if_pos hk]
    refine ⟨apB s.2 m, apply_ok hp hc, ?_⟩
    unfold fleet_Fleet_Apply_j3
    simp only
    rw [hi, w_small (by omega) (by omega)]
   ·rw [if_pos (by simp [hk]), if_neg hk]
    unfold fleet_Fleet_Apply_j3
    simp only
    rw [hi]
 exact ⟨_, key l [] (0, f) rfl (by simp) (by simp), rfl⟩

/-! ### What is right of a right message -/
theorem firstW_zero {m : Mg} : ∀ {l : List Fd}, firstW m l = 0 → ∀ f ∈ l, wrongB m f = 0
 | [], _, f, hf => nomatch hf
 | g :: l, h, f, hf => by
  simp only [firstW] at h
  by_cases e : wrongB m g = 0
  ·rw [if_neg (by simpa using e)] at h
   rcases List.mem_cons.1 hf with rfl | hf
   ·exact e
   ·exact firstW_zero h f hf
  ·rw [if_pos e] at h; exact absurd h e
theorem check_first {m : Mg} (h : checkB m = 0) : fieldsB m.1 ≠ [] ∧ firstW m (fieldsB m.1) = 0 := by
 unfold checkB at h
 by_cases h1 : fieldsB m.1 = []
 ·rw [if_pos h1] at h; cases h
 ·rw [if_neg h1] at h
  by_cases h2 : firstW m (fieldsB m.1) = 0
  ·exact ⟨h1, h2⟩
  ·rw [if_pos h2] at h; exact absurd h h2
theorem check_kind {m : Mg} (h : checkB m = 0) : m.1 = 1 ∨ m.1 = 2 ∨ m.1 = 3 ∨ m.1 = 4 ∨ m.1 = 5 := by
 have h1 := (check_first h).1
 unfold fieldsB at h1
 by_cases e1 : m.1 = 1
 ·exact .inl e1
 by_cases e2 : m.1 = 2
 ·exact .inr (.inl e2)
 by_cases e3 : m.1 = 3
 ·exact .inr (.inr (.inl e3))
 by_cases e4 : m.1 = 4
 ·exact .inr (.inr (.inr (.inl e4)))
 by_cases e5 : m.1 = 5
 ·exact .inr (.inr (.inr (.inr e5)))
 rw [if_neg e1, if_neg e2, if_neg e3, if_neg e4, if_neg e5] at h1
 exact absurd rfl h1
theorem find_robot {k : Int} (h : k = 1 ∨ k = 2 ∨ k = 3 ∨ k = 4 ∨ k = 5) : findF nmRobot (fieldsB k) = robotF := by
 rcases h with rfl | rfl | rfl | rfl | rfl <;> rfl
theorem val_robot {m : Mg} (h : checkB m = 0) : valB m nmRobot = m.2.1.getD 0 0 := by
 unfold valB; rw [find_robot (check_kind h)]; rfl
/-! ### The chapter's example -/
theorem loopsD_map {K V S E : Type} [DecidableEq K] {step : Option (K × V) → S → Sum S E → Prop} {Q : E → Prop} (left : S → List (K × V)) (Inv : S → Prop)
    (h0 : ∀ s, Inv s → left s = [] → ∃ e, step none s (.inr e) ∧ Q e) (h1 : ∀ s p, Inv s → p ∈ left s → ∃ s', step (some p) s (.inl s') ∧ Inv s' ∧ left s' = mdel (left s) p.1) : ∀ s, Inv s → LoopsD (fun s c => mopt (left s) c) step Q s := by
  have key : ∀ (n : Nat) (s : S), (left s).length ≤ n → Inv s → LoopsD (fun s c => mopt (left s) c) step Q s := by
    intro n
    induction n with
    | zero =>
      intro s hn hi
      have hl : left s = [] := List.eq_nil_of_length_eq_zero (by omega)
      obtain ⟨e, he, hq⟩ := h0 s hi hl
      refine .mk (fun _ => .inr e) (fun c hc => ?_) (fun c e' _ h => by cases h; exact hq) (fun c s' _ h => by cases h)
      cases c with
      | none => exact he
      | some p => have hc : p ∈ left s := hc; rw [hl] at hc; cases hc
    | succ n ih =>
      intro s hn hi
      have hex : ∀ c, ∃ o, mopt (left s) c → step c s o ∧ (∀ e, o = .inr e → Q e) ∧ (∀ s', o = .inl s' → LoopsD (fun s c => mopt (left s) c) step Q s') := by
        intro c
        by_cases hc : mopt (left s) c
        · cases c with
          | none =>
            obtain ⟨e, he, hq⟩ := h0 s hi hc
            exact ⟨.inr e, fun _ => ⟨he, (fun e' h => by cases h; exact hq), (fun s' h => by cases h)⟩⟩
          | some p =>
            obtain ⟨s', hs, hi', hl⟩ := h1 s p hi hc
            refine ⟨.inl s', fun _ => ⟨hs, (fun e' h => by cases h), fun s2 h => ?_⟩⟩
            cases h
            refine ih s' ?_ hi'
            rw [hl]
            have : (mdel (left s) p.1).length < (left s).length := by
              unfold mdel
              refine Nat.lt_of_le_of_ne (List.length_filter_le _ _) (fun e => ?_)
              have := List.length_filter_eq_length_iff.1 e p hc
              simp at this
            omega
        · exact ⟨.inl s, fun h => absurd h hc⟩
      have ho := fun c => Classical.choose_spec (hex c)
      exact .mk (fun c => Classical.choose (hex c)) (fun c hc => (ho c hc).1) (fun c e hc h => (ho c hc).2.1 e h) (fun c s' hc h => (ho c hc).2.2 s' h)
  exact fun s hi => key _ s (Nat.le_refl _) hi
def cntB (z : Int) (o : List ((Int × Int) × Int)) (zs : List Int) : List ((Int × Int) × Int) := zs.foldl (fun o q => mput o (z, q) (IntKind.i64.wrap ((mget o (z, q)).getD 0 + 1))) o
theorem cells_run (s : List ((Int × Int) × Int) × List ((Int × Int) × List Int)) (p : (Int × Int) × List Int) (hl : p.2.length < 1099511627776) : ∀ (zs pre : List Int) (o : List ((Int × Int) × Int)), p.2 = pre ++ zs → Loops (fleet_Fleet_Contested_l5 s p) (o, (pre.length : Int)) (cntB p.1.2 o zs, mdel s.2 p.1) := by
 intro zs
 induction zs with
 | nil =>
  intro pre o h
  refine .done ?_
  unfold fleet_Fleet_Contested_l5
  rw [if_neg (by rw [h]; simp)]; rfl
 | cons q zs ih =>
  intro pre o h
  have hx : idx p.2 (pre.length : Int) q := ⟨by omega, by rw [h]; simp⟩
  have hlt := hx.lt
  refine .next (s' := (mput o (p.1.2, q) (IntKind.i64.wrap ((mget o (p.1.2, q)).getD 0 + 1)), ((pre ++ [q]).length : Int))) ?_ (ih (pre ++ [q]) _ (by simp [h]))
  unfold fleet_Fleet_Contested_l5
  rw [if_pos (by simpa using hlt)]
  refine ⟨q, hx, ?_⟩
  simp only
  rw [w_small (n := (pre.length : Int) + 1) (by omega) (by omega)]
  simp
/-! ### Maps as finite lists -/
section maps
variable {K V : Type} [DecidableEq K]
theorem mput_keysG (a : K) (q : V) : ∀ m : List (K × V), (mput m a q).map (·.1) = if a ∈ m.map (·.1) then m.map (·.1) else m.map (·.1) ++ [a]
 | [] => by simp [mput]
 | p :: m => by
  simp only [mput]
  by_cases h : a = p.1
  ·rw [if_pos h, if_pos (by simp [h])]; simp [h]
  ·rw [if_neg h, List.map_cons, mput_keysG a q m]
   by_cases h2 : a ∈ m.map (·.1)
   ·rw [if_pos h2, if_pos (by rw [List.map_cons]; exact List.mem_cons_of_mem _ h2)]; rfl
   ·rw [if_neg h2, if_neg (by rw [List.map_cons, List.mem_cons]; exact fun e => e.elim h h2)]; rfl
theorem mput_nodup {m : List (K × V)} (a : K) (q : V) (h : (m.map (·.1)).Nodup) : ((mput m a q).map (·.1)).Nodup := by
 rw [mput_keysG]
 split
 ·exact h
 ·rename_i hn
  rw [List.nodup_append]
  exact ⟨h, by simp, fun x hx y hy e => by rw [List.mem_singleton] at hy; subst hy; subst e; exact hn hx⟩
theorem mget_of_mem : ∀ {m : List (K × V)}, (m.map (·.1)).Nodup → ∀ {p}, p ∈ m → mget m p.1 = some p.2
 | [], _, p, hp => nomatch hp
 | p0 :: m, h, p, hp => by
  rw [List.map_cons, List.nodup_cons] at h
  simp only [mget]
  rcases List.mem_cons.1 hp with rfl | hp
  ·rw [if_pos rfl]
  ·rw [if_neg (fun e => h.1 (by rw [← e]; exact List.mem_map_of_mem hp))]; exact mget_of_mem h.2 hp
theorem mem_of_mget {a : K} {x : V} : ∀ {m : List (K × V)}, mget m a = some x → (a, x) ∈ m
 | [], h => by simp [mget] at h
 | p :: m, h => by
  simp only [mget] at h
  by_cases e : a = p.1
  ·rw [if_pos e] at h; cases h; rw [e]; exact List.mem_cons_self
  ·rw [if_neg e] at h; exact List.mem_cons_of_mem _ (mem_of_mget h)
theorem perm_mdel : ∀ {m : List (K × V)}, (m.map (·.1)).Nodup → ∀ {p}, p ∈ m → m.Perm (p :: mdel m p.1)
 | [], _, p, hp => nomatch hp
 | p0 :: m, h, p, hp => by
  rw [List.map_cons, List.nodup_cons] at h
  rcases List.mem_cons.1 hp with rfl | hp
  ·have : mdel (p :: m) p.1 = m := by
    unfold mdel
    rw [List.filter_cons_of_neg (by simp)]
    refine List.filter_eq_self.2 (fun q hq => ?_)
    simp only [ne_eq, decide_not, Bool.not_eq_eq_eq_not, Bool.not_true, decide_eq_false_iff_not]
    exact fun e => h.1 (by rw [← e]; exact List.mem_map_of_mem hq)
   rw [this]
  ·have hne : p0.1 ≠ p.1 := fun e => h.1 (by rw [e]; exact List.mem_map_of_mem hp)
   have : mdel (p0 :: m) p.1 = p0 :: mdel m p.1 := by
    unfold mdel
    rw [List.filter_cons_of_pos (by simpa using hne)]
   rw [this]
   exact (List.Perm.cons p0 (perm_mdel h.2 hp)).trans (List.Perm.swap p p0 _)
theorem mdel_nodup {m : List (K × V)} (a : K) (h : (m.map (·.1)).Nodup) : ((mdel m a).map (·.1)).Nodup := (List.filter_sublist.map _).nodup h
end maps
theorem sortP_perm {a b : List (Int × Int)} (h : a.Perm b) : sortP a = sortP b := by
 have tr : ∀ x y z : Int × Int, leP x y = true → leP y z = true → leP x z = true := by
  intro x y z h1 h2; simp only [leP, decide_eq_true_eq] at *; omega
 have to : ∀ x y : Int × Int, (leP x y || leP y x) = true := by
  intro x y; simp only [leP, Bool.or_eq_true, decide_eq_true_eq]; omega
 refine List.Perm.eq_of_pairwise (le := fun x y => leP x y = true) ?_ (List.pairwise_mergeSort tr to a) (List.pairwise_mergeSort tr to b) ((List.mergeSort_perm a leP).trans (h.trans (List.mergeSort_perm b leP).symm))
 intro x y _ _ h1 h2
 simp only [leP, decide_eq_true_eq] at h1 h2
 exact Prod.ext (by omega) (by omega)
theorem sortI_perm {a b : List Int} (h : a.Perm b) : (a.mergeSort fun x y => decide (x ≤ y)) = b.mergeSort fun x y => decide (x ≤ y) := by
 refine List.Perm.eq_of_pairwise (le := fun x y : Int => decide (x ≤ y) = true) ?_ (List.pairwise_mergeSort (fun x y z h1 h2 => ?_) (fun x y => ?_) a) (List.pairwise_mergeSort (fun x y z h1 h2 => ?_) (fun x y => ?_) b) ((List.mergeSort_perm a _).trans (h.trans (List.mergeSort_perm b _).symm))
 ·intro x y _ _ h1 h2; simp only [decide_eq_true_eq] at h1 h2; omega
 all_goals simp only [Bool.or_eq_true, decide_eq_true_eq] at *; omega
/-! ### The cells that several were granted -/
def allC (l : List ((Int × Int) × List Int)) : List (Int × Int) := l.flatMap fun p => p.2.map fun q => (p.1.2, q)
theorem allC_perm {a b : List ((Int × Int) × List Int)} (h : a.Perm b) : (allC a).Perm (allC b) := h.flatMap_right _
def nub : List (Int × Int) → List (Int × Int)
 | [] => []
 | c :: l => if c ∈ l then nub l else c :: nub l
theorem mem_nub {c : Int × Int} : ∀ {l : List (Int × Int)}, c ∈ nub l ↔ c ∈ l
 | [] => Iff.rfl
 | d :: l => by
  simp only [nub]
  split
  ·rename_i h; rw [mem_nub, List.mem_cons]; exact ⟨.inr, fun e => e.elim (fun e => e ▸ h) id⟩
  ·rw [List.mem_cons, List.mem_cons, mem_nub]
theorem nodup_nub : ∀ l : List (Int × Int), (nub l).Nodup
 | [] => .nil
 | c :: l => by
  simp only [nub]
  split
  ·exact nodup_nub l
  ·rename_i h; exact List.nodup_cons.2 ⟨fun e => h (mem_nub.1 e), nodup_nub l⟩
theorem nub_len : ∀ l : List (Int × Int), (nub l).length ≤ l.length
 | [] => Nat.le_refl _
 | c :: l => by
  have := nub_len l
  simp only [nub]
  split <;> simp only [List.length_cons] <;> omega
def conT (l : List ((Int × Int) × List Int)) : List (Int × Int) := (nub (allC l)).filter fun c => decide (1 < (allC l).count c)
def conB (f : Fl) : List (Int × Int) := sortP (conT f.2)
theorem mem_conT {c : Int × Int} {l : List ((Int × Int) × List Int)} : c ∈ conT l ↔ 1 < (allC l).count c := by
 unfold conT
 rw [List.mem_filter, mem_nub, decide_eq_true_eq]
 exact ⟨fun h => h.2, fun h => ⟨List.count_pos_iff.1 (by omega), h⟩⟩
theorem conT_nodup (l : List ((Int × Int) × List Int)) : (conT l).Nodup := (nodup_nub _).filter _
theorem cnt_get (z : Int) : ∀ (zs : List Int) (o : List ((Int × Int) × Int)), (∀ c, 0 ≤ (mget o c).getD 0 ∧ (mget o c).getD 0 + (zs.length : Int) ≤ 1099511627776) →
    ∀ c, (mget (cntB z o zs) c).getD 0 = (mget o c).getD 0 + (((zs.map fun q => (z, q)).count c : Nat) : Int)
  | [], o, _, c => by simp [cntB]
  | q :: zs, o, h, c => by
    have e : cntB z o (q :: zs) = cntB z (mput o (z, q) (IntKind.i64.wrap ((mget o (z, q)).getD 0 + 1))) zs := rfl
    obtain ⟨h1, h2⟩ := h (z, q)
    rw [List.length_cons] at h2
    have hw : IntKind.i64.wrap ((mget o (z, q)).getD 0 + 1) = (mget o (z, q)).getD 0 + 1 := w_small (by omega) (by omega)
    rw [hw] at e
    have hg : ∀ d, (mget (mput o (z, q) ((mget o (z, q)).getD 0 + 1)) d).getD 0 = if d = (z, q) then (mget o (z, q)).getD 0 + 1 else (mget o d).getD 0 := by
      intro d; rw [mg_put]; split <;> rfl
    rw [e, cnt_get z zs _ (fun d => by
      rw [hg]
      obtain ⟨h3, h4⟩ := h d
      rw [List.length_cons] at h4
      split <;> omega) c, hg, List.map_cons, List.count_cons]
    by_cases hc : c = (z, q)
    · subst hc; rw [if_pos rfl, if_pos (by simp)]; omega
    · rw [if_neg hc, if_neg (by simpa using fun e => hc e.symm)]; omega
theorem cnt_nodup (z : Int) : ∀ (zs : List Int) (o : List ((Int × Int) × Int)), (o.map (·.1)).Nodup → ((cntB z o zs).map (·.1)).Nodup
 | [], _, h => h
 | _ :: zs, _, h => cnt_nodup z zs _ (mput_nodup _ _ h)
def kO (m : List ((Int × Int) × Int)) : List (Int × Int) := (m.filter fun q => decide (1 < q.2)).map (·.1)
theorem kO_perm {a b : List ((Int × Int) × Int)} (h : a.Perm b) : (kO a).Perm (kO b) := (h.filter _).map _
theorem pick_ok {O : List ((Int × Int) × Int)} {T : List (Int × Int)} (hn : (O.map (·.1)).Nodup) (hT : (kO O).Perm T) (hl : T.length < 1000000000) : fleet_Fleet_Contested_j1 O (sortP T) := by
 unfold fleet_Fleet_Contested_j1
 refine loopsD_map (left := fun s : List (Int × Int) × List ((Int × Int) × Int) => s.2) (Inv := fun s => (s.2.map (·.1)).Nodup ∧ (s.1 ++ kO s.2).Perm T) ?_ ?_ _ ⟨hn, by simpa using hT⟩
 ·rintro ⟨a, l⟩ ⟨_, ha⟩ hl'
  have hl' : l = [] := hl'
  subst hl'
  have ha : (a ++ kO []).Perm T := ha
  have ha : a.Perm T := by simpa [kO] using ha
  exact ⟨a, ⟨fun _ => rfl, fun p h => by cases h⟩, by have := ha.length_eq; omega, sortP_perm ha.symm⟩
 ·rintro ⟨a, l⟩ p ⟨hi, ha⟩ hp
  have hp : p ∈ l := hp
  have hi : (l.map (·.1)).Nodup := hi
  have ha : (a ++ kO l).Perm T := ha
  have hpm := kO_perm (perm_mdel hi hp)
  by_cases h : 1 < p.2
  ·have e : kO (p :: mdel l p.1) = p.1 :: kO (mdel l p.1) := by simp [kO, h]
   rw [e] at hpm
   have hlen := ha.length_eq
   rw [List.length_append] at hlen
   refine ⟨(a ++ [p.1], mdel l p.1), ⟨(fun h => by cases h), fun p' hp' => ?_⟩, ⟨mdel_nodup _ hi, ?_⟩, rfl⟩
   ·cases hp'
    rw [if_pos (by simpa using h)]
    exact ⟨by simp only [List.length_cons, List.length_nil]; omega, by simp only [List.length_cons, List.length_nil]; omega, rfl⟩
   ·show ((a ++ [p.1]) ++ kO (mdel l p.1)).Perm T
    rw [List.append_assoc]
    exact ((hpm.append_left a).symm).trans ha
  ·have e : kO (p :: mdel l p.1) = kO (mdel l p.1) := by simp [kO, h]
   rw [e] at hpm
   refine ⟨(a, mdel l p.1), ⟨(fun h => by cases h), fun p' hp' => ?_⟩, ⟨mdel_nodup _ hi, ?_⟩, rfl⟩
   ·cases hp'
    rw [if_neg (by simpa using h)]
   ·exact ((hpm.append_left a).symm).trans ha
theorem contested_ok {f : Fl} (hn : (f.2.map (·.1)).Nodup) (hl : (allC f.2).length < 1000000000) (hc : ∀ p ∈ f.2, p.2.length < 1000000000) : fleet_Fleet_Contested f (conB f) := by
 unfold fleet_Fleet_Contested
 refine loopsD_map (left := fun s : List ((Int × Int) × Int) × List ((Int × Int) × List Int) => s.2)
  (Inv := fun s => (s.1.map (·.1)).Nodup ∧ (s.2.map (·.1)).Nodup ∧ (∀ p ∈ s.2, p ∈ f.2) ∧ ∀ c, 0 ≤ (mget s.1 c).getD 0 ∧ (mget s.1 c).getD 0 + (((allC s.2).count c : Nat) : Int) = (((allC f.2).count c : Nat) : Int)) ?_ ?_ _ ⟨.nil, hn, fun p h => h, fun c => by simp [mget]⟩
 ·rintro ⟨O, l⟩ ⟨h1, _, _, h4⟩ hl'
  have hl' : l = [] := hl'
  subst hl'
  have h1 : (O.map (·.1)).Nodup := h1
  have h4 : ∀ c, 0 ≤ (mget O c).getD 0 ∧ (mget O c).getD 0 + (((allC []).count c : Nat) : Int) = (((allC f.2).count c : Nat) : Int) := h4
  refine ⟨O, ⟨fun _ => rfl, fun p h => by cases h⟩, pick_ok h1 ?_ ?_⟩
  ·refine (List.perm_ext_iff_of_nodup ((List.filter_sublist.map _).nodup h1) (conT_nodup _)).2 (fun c => ?_)
   rw [mem_conT]
   obtain ⟨_, h5⟩ := h4 c
   have h5 : (mget O c).getD 0 = (((allC f.2).count c : Nat) : Int) := by simpa [allC] using h5
   constructor
   ·intro h
    obtain ⟨q, hq, rfl⟩ := List.mem_map.1 h
    obtain ⟨hq, hv⟩ := List.mem_filter.1 hq
    rw [mget_of_mem h1 hq] at h5
    simp only [Option.getD_some, decide_eq_true_eq] at h5 hv; omega
   ·intro h
    cases hg : mget O c with
    | none => rw [hg] at h5; simp only [Option.getD_none] at h5; omega
    | some v =>
     rw [hg] at h5
     simp only [Option.getD_some] at h5
     exact List.mem_map.2 ⟨(c, v), List.mem_filter.2 ⟨mem_of_mget hg, by simp only [decide_eq_true_eq]; omega⟩, rfl⟩
  ·have := nub_len (allC f.2)
   have h2 : (conT f.2).length ≤ (nub (allC f.2)).length := List.length_filter_le _ _
   omega
 ·rintro ⟨O, l⟩ p ⟨h1, h2, h3, h4⟩ hp
  have hp : p ∈ l := hp
  have h1 : (O.map (·.1)).Nodup := h1
  have h2 : (l.map (·.1)).Nodup := h2
  have h3 : ∀ p ∈ l, p ∈ f.2 := h3
  have h4 : ∀ c, 0 ≤ (mget O c).getD 0 ∧ (mget O c).getD 0 + (((allC l).count c : Nat) : Int) = (((allC f.2).count c : Nat) : Int) := h4
  have hpl := hc p (h3 p hp)
  have hcl : ∀ c, (allC f.2).count c ≤ (allC f.2).length := fun c => List.count_le_length
  have hg := cnt_get p.1.2 p.2 O (fun c => ⟨(h4 c).1, by have := (h4 c).2; have := hcl c; omega⟩)
  refine ⟨(cntB p.1.2 O p.2, mdel l p.1), ⟨(fun h => by cases h), fun p' hp' => ?_⟩, ⟨cnt_nodup _ _ _ h1, mdel_nodup _ h2, fun q hq => h3 q (List.mem_filter.1 hq).1, fun c => ?_⟩, rfl⟩
  ·cases hp'
   exact ⟨_, cells_run (O, l) p (by omega) p.2 [] O rfl, rfl⟩
  ·show 0 ≤ (mget (cntB p.1.2 O p.2) c).getD 0 ∧ (mget (cntB p.1.2 O p.2) c).getD 0 + (((allC (mdel l p.1)).count c : Nat) : Int) = _
   rw [hg c]
   obtain ⟨h5, h6⟩ := h4 c
   have h7 := (allC_perm (perm_mdel h2 hp)).count_eq c
   have h8 : allC (p :: mdel l p.1) = (p.2.map fun q => (p.1.2, q)) ++ allC (mdel l p.1) := rfl
   rw [h8, List.count_append] at h7
   omega
def exA : Mg := (3, [1, 5, 1, 0, 0, 0], [], [1, 2], (bstr []), (bstr []))
def exBm : Mg := (3, [2, 5, 1, 0, 0, 0], [], [2, 3], (bstr []), (bstr []))
theorem exC_ok : fleet_Fleet_Contested (apB (apB ([], []) exA) exBm) [(5, 2)] := by
 have e0 : (apB (apB ([], []) exA) exBm).2 = [((1, 5), [1, 2]), ((2, 5), [2, 3])] := by rfl
 have h := contested_ok (f := apB (apB ([], []) exA) exBm) (by rw [e0]; decide) (by rw [e0]; decide) (by rw [e0]; decide)
 have e1 : conT (apB (apB ([], []) exA) exBm).2 = [(5, 2)] := by rw [e0]; decide
 have e2 : conB (apB (apB ([], []) exA) exBm) = [(5, 2)] := by unfold conB; rw [e1]; simp [sortP]
 rwa [e2] at h
theorem known30_ok : law30_known true := by
 have e1 : checkB exA = 0 := by rfl
 have e2 : checkB exBm = 0 := by rfl
 have e : [exA, exBm].foldl stepB (0, (([], []) : Fl)) = (2, apB (apB ([], []) exA) exBm) := by
  simp only [List.foldl_cons, List.foldl_nil, stepB, e1, e2, if_true]; rfl
 have ha := applyAll_ok (([], []) : Fl) [exA, exBm] (by decide) (by simp [exA, exBm])
 rw [e] at ha
 refine ⟨([], []), rfl, _, ha, ?_⟩
 rw [if_neg (by decide)]
 refine ⟨[(5, 2)], exC_ok, ?_⟩
 rw [if_pos (by decide)]
 exact ⟨(5, 2), ⟨by decide, rfl⟩, rfl⟩
end Go.Rel
/-! Plain laws: functions that are ranged over, as lists. -/
namespace Go.Pl
open Go Go.Eng
inductive Run {X S : Type} (Y : X → S → Bool × S → Prop) : List X → S → S → Prop
 | nil {s : S} : Run Y [] s s
 | go {x : X} {xs : List X} {s s1 s' : S} (h : Y x s (true, s1)) (h' : Run Y xs s1 s') : Run Y (x :: xs) s s'
 | stop {x : X} {xs : List X} {s s' : S} (h : Y x s (false, s')) : Run Y (x :: xs) s s'
def Itr {X : Type} (it : (S : Type) → (X → S → Bool × S → Prop) → S → S × Unit → Prop) (xs : List X) : Prop := ∀ S Y s s', Run Y xs s s' → it S Y s (s', ())
inductive RunB {X S E : Type} (B : X → S → Sum S E → Prop) : List X → S → Sum S E → Prop
 | nil {s : S} : RunB B [] s (.inl s)
 | go {x : X} {xs : List X} {s s1 : S} {t : Sum S E} (h : B x s (.inl s1)) (h' : RunB B xs s1 t) : RunB B (x :: xs) s t
 | stop {x : X} {xs : List X} {s : S} {e : E} (h : B x s (.inr e)) : RunB B (x :: xs) s (.inr e)
theorem run_yof {X S E : Type} {B : X → S → Sum S E → Prop} {xs : List X} {s : S} {t : Sum S E} (h : RunB B xs s t) : Run (Yof B) xs (.inl s) t := by
 induction h with
 | nil => exact .nil
 | go h _ ih => exact .go ⟨_, _, rfl, h, .inl ⟨_, rfl, rfl⟩⟩ ih
 | stop h => exact .stop ⟨_, _, rfl, h, .inr ⟨_, rfl, rfl⟩⟩
theorem runB_inv {X S E : Type} {B : X → S → Sum S E → Prop} (I : Nat → S → Prop) (Q : E → Prop) (xs : List X) {s : S} (h0 : I 0 s)
    (hs : ∀ k (hk : k < xs.length) s, I k s → (∃ s', B xs[k] s (.inl s') ∧ I (k + 1) s') ∨ ∃ e, B xs[k] s (.inr e) ∧ Q e) : ∃ t, RunB B xs s t ∧ ((∃ s', t = .inl s' ∧ I xs.length s') ∨ ∃ e, t = .inr e ∧ Q e) := by
  have key : ∀ (ys : List X) (k : Nat) (s : S), k + ys.length = xs.length → (∀ j (hj : j < ys.length), xs[k + j]? = some ys[j]) → I k s → ∃ t, RunB B ys s t ∧ ((∃ s', t = .inl s' ∧ I xs.length s') ∨ ∃ e, t = .inr e ∧ Q e) := by
    intro ys
    induction ys with
    | nil => intro k s hk _ hi; exact ⟨_, .nil, .inl ⟨s, rfl, by simp at hk; rw [← hk]; exact hi⟩⟩
    | cons y ys ih =>
      intro k s hk hat hi
      have hkl : k < xs.length := by simp at hk; omega
      have hy : xs[k] = y := by
        have := hat 0 (by simp)
        rw [Nat.add_zero, List.getElem?_eq_getElem hkl] at this
        simpa using this
      rcases hs k hkl s hi with ⟨s', h1, h2⟩ | ⟨e, h1, h2⟩
      · rw [hy] at h1
        obtain ⟨t, h3, h4⟩ := ih (k + 1) s' (by simp at hk; omega) (fun j hj => by
          have := hat (j + 1) (by simp; omega)
          rw [show k + 1 + j = k + (j + 1) by omega, this]; simp) h2
        exact ⟨t, .go h1 h3, h4⟩
      · rw [hy] at h1
        exact ⟨_, .stop h1, .inr ⟨e, rfl, h2⟩⟩
  exact key xs 0 s (by omega) (fun j hj => by simp [hj]) h0
theorem runB_fold {X S E : Type} {B : X → S → Sum S E → Prop} (f : S → X → S) : ∀ (xs : List X) (s : S), (∀ p x q, xs = p ++ x :: q → B x (p.foldl f s) (.inl (f (p.foldl f s) x))) → RunB B xs s (.inl (xs.foldl f s))
 | [], s, _ => .nil
 | x :: xs, s, h => .go (h [] x xs rfl) (runB_fold f xs (f s x) (fun p y q e => h (x :: p) y q (by rw [e]; rfl)))
end Go.Pl
/-! Plain laws: the line of a message: the program's and the document's. -/
namespace Go.Rel
open Go Go.Eng Go.Pl

structure MgOk (m : Mg) : Prop where
 kind : IntOk .i64 m.1
 six : m.2.1.length = 6
 num : ∀ x ∈ m.2.1, IntOk .i64 x
 path : ∀ p ∈ m.2.2.1, IntOk .i64 p.1 ∧ IntOk .i64 p.2
 cells : ∀ x ∈ m.2.2.2.1, IntOk .i64 x
 lpath : m.2.2.1.length ≤ 1000
 lcells : m.2.2.2.1.length ≤ 1000
 ltext : m.2.2.2.2.1.size ≤ 1000
 ltag : m.2.2.2.2.2.size ≤ 1000
theorem MgOk.at {m : Mg} (ok : MgOk m) (p : Nat) : IntOk .i64 (m.2.1.getD p 0) := by
 rw [List.getD_eq_getElem?_getD]
 cases h : m.2.1[p]? with
 | none => exact ⟨by decide, by decide⟩
 | some x => exact ok.num x (List.mem_of_getElem? h)
theorem snum_ok {n : Int} (h : IntOk .i64 n) : say_Number n (bstr (decI n)) := ⟨_, itoa_ok h, rfl⟩
end Go.Rel
/-! Plain laws: fleets: robots, zones, lines, in general. -/
namespace Go.Rel
open Go Go.Eng Go.Pl

theorem fskeys_perm {V : Type} (m : List (Int × V)) : (skeys m).Perm (m.map (·.1)) := List.mergeSort_perm _ _
theorem robots_itr {f : Fl} (hk : ∀ p ∈ f.1, IntOk .i64 p.1) (hn : f.1.length < 1000000) : Itr (fleet_Fleet_Robots_1 f) (skeys f.1) := by
 intro S Y s s' hr
 have hl : (skeys f.1).length < 1000000 := by rw [(fskeys_perm _).length_eq, List.length_map]; exact hn
 refine ⟨hk, by omega, (s', ()), ?_, rfl⟩
 have key : ∀ (l pre : List Int) (s : S), skeys f.1 = pre ++ l → Run Y l s s' → Loops (fleet_Fleet_Robots_1_l1 S Y f) (s, (pre.length : Int)) (s', ()) := by
  intro l
  induction l with
  | nil =>
   intro pre s h hr
   cases hr
   refine .done ?_
   unfold fleet_Fleet_Robots_1_l1
   rw [if_neg (by rw [h]; simp)]
  | cons x l ih =>
   intro pre s h hr
   have hlen : (skeys f.1).length = pre.length + l.length + 1 := by rw [h]; simp; omega
   have hi := ih (pre ++ [x])
   simp only [List.length_append, List.length_cons, List.length_nil, Nat.zero_add] at hi
   have hat : (skeys f.1)[pre.length]? = some x := by rw [h]; simp
   have stp : ∀ o y u, Y x s (y, u) → (if (!y) = true then o = .inr (u, ()) else o = .inl (u, ((pre.length + 1 : Nat) : Int))) → fleet_Fleet_Robots_1_l1 S Y f (s, (pre.length : Int)) o := by
    intro o y u hy ho
    unfold fleet_Fleet_Robots_1_l1
    rw [if_pos (by simp; omega)]
    refine ⟨x, ⟨by simp, by simpa using hat⟩, y, u, hy, ?_⟩
    simp only [len_wrap (show pre.length < 4611686018427387904 by omega)]
    exact ho
   cases hr with
   | go h1 h2 => exact .next (stp _ _ _ h1 (by simp)) (hi _ (by rw [h]; simp) h2)
   | stop h1 => exact .done (stp _ _ _ h1 (by simp))
 exact key _ [] s rfl hr
/-! ### Zones -/
def zoZ (n : Int) (l : List ((Int × Int) × List Int)) : List Int := (l.filter fun p => decide (p.1.1 = n)).map fun p => p.1.2
def zonB (f : Fl) (n : Int) : List Int := (zoZ n f.2).mergeSort fun x y => decide (x ≤ y)
theorem zoZ_perm {n : Int} {a b : List ((Int × Int) × List Int)} (h : a.Perm b) : (zoZ n a).Perm (zoZ n b) := (h.filter _).map _
theorem zoZ_len (n : Int) (l : List ((Int × Int) × List Int)) : (zoZ n l).length ≤ l.length := by
 unfold zoZ; rw [List.length_map]; exact List.length_filter_le _ _
theorem zonB_len (f : Fl) (n : Int) : (zonB f n).length ≤ f.2.length := by
 unfold zonB; rw [List.length_mergeSort]; exact zoZ_len _ _
theorem zones_ok {f : Fl} {n : Int} (hn : (f.2.map (·.1)).Nodup) (hl : f.2.length < 1000000000) : fleet_Fleet_zones f n (zonB f n) := by
 unfold fleet_Fleet_zones
 refine loopsD_map (left := fun s : List Int × List ((Int × Int) × List Int) => s.2) (Inv := fun s => (s.2.map (·.1)).Nodup ∧ (s.1 ++ zoZ n s.2).Perm (zoZ n f.2)) ?_ ?_ _ ⟨hn, .refl _⟩
 ·rintro ⟨a, l⟩ ⟨_, ha⟩ hl'
  have hl' : l = [] := hl'
  subst hl'
  have ha : (a ++ zoZ n []).Perm (zoZ n f.2) := ha
  have ha : a.Perm (zoZ n f.2) := by simpa [zoZ] using ha
  have := zoZ_len n f.2
  exact ⟨a, ⟨fun _ => rfl, fun p h => by cases h⟩, by have := ha.length_eq; omega, sortI_perm ha.symm⟩
 ·rintro ⟨a, l⟩ p ⟨hi, ha⟩ hp
  have hp : p ∈ l := hp
  have hi : (l.map (·.1)).Nodup := hi
  have ha : (a ++ zoZ n l).Perm (zoZ n f.2) := ha
  have hpm := zoZ_perm (n := n) (perm_mdel hi hp)
  have hzl := zoZ_len n f.2
  by_cases h : p.1.1 = n
  ·have e : zoZ n (p :: mdel l p.1) = p.1.2 :: zoZ n (mdel l p.1) := by simp [zoZ, h]
   rw [e] at hpm
   have hlen := ha.length_eq
   rw [List.length_append] at hlen
   refine ⟨(a ++ [p.1.2], mdel l p.1), ⟨(fun h => by cases h), fun p' hp' => ?_⟩, ⟨mdel_nodup _ hi, ?_⟩, rfl⟩
   ·cases hp'
    rw [if_pos (by simpa using h)]
    exact ⟨by simp only [List.length_cons, List.length_nil]; omega, by simp only [List.length_cons, List.length_nil]; omega, rfl⟩
   ·show ((a ++ [p.1.2]) ++ zoZ n (mdel l p.1)).Perm _
    rw [List.append_assoc]
    exact ((hpm.append_left a).symm).trans ha
  ·have e : zoZ n (p :: mdel l p.1) = zoZ n (mdel l p.1) := by simp [zoZ, h]
   rw [e] at hpm
   refine ⟨(a, mdel l p.1), ⟨(fun h => by cases h), fun p' hp' => ?_⟩, ⟨mdel_nodup _ hi, ?_⟩, rfl⟩
   ·cases hp'
    rw [if_neg (by simpa using h)]
   ·exact ((hpm.append_left a).symm).trans ha
/-! ### Lines -/
def lnB (w : ByteArray) (l : List Int) : ByteArray := l.foldl (fun w n => w ++ (bstr [32] ++ bstr (decI n))) w
theorem lnB_size : ∀ (l : List Int) (w : ByteArray), (∀ n ∈ l, IntOk .i64 n) → (lnB w l).size ≤ w.size + 22 * l.length
 | [], w, _ => by simp [lnB]
 | n :: l, w, h => by
  have h1 := lnB_size l (w ++ (bstr [32] ++ bstr (decI n))) (fun m hm => h m (List.mem_cons_of_mem _ hm))
  have h2 := decI_len (h n List.mem_cons_self)
  have e : lnB w (n :: l) = lnB (w ++ (bstr [32] ++ bstr (decI n))) l := rfl
  rw [e]
  simp only [ByteArray.size_append, size_bstr, List.length_cons, List.length_nil] at *
  omega
theorem line_ok {w : ByteArray} {l : List Int} (hl : ∀ n ∈ l, IntOk .i64 n) (hs : w.size < 1000000) (hn : l.length < 1000000) : fleet_line w l (lnB w l) := by
 have key : ∀ (r pre : List Int) (v : ByteArray), l = pre ++ r → v.size ≤ 1000000 + 22 * pre.length → Loops (fleet_line_l2 l) (v, (pre.length : Int)) (lnB v r) := by
  intro r
  induction r with
  | nil =>
   intro pre v h _
   refine .done ?_
   unfold fleet_line_l2
   rw [if_neg (by rw [h]; simp)]; rfl
  | cons n r ih =>
   intro pre v h hv
   have hx : idx l (pre.length : Int) n := ⟨by omega, by rw [h]; simp⟩
   have hlt := hx.lt
   have hk : IntOk .i64 n := hl n (by rw [h]; simp)
   have hd := decI_len hk
   have hsz : (bstr [32] ++ bstr (decI n)).size ≤ 22 := by simp only [ByteArray.size_append, size_bstr, List.length_cons, List.length_nil]; omega
   have hpl : pre.length < l.length := by rw [h]; simp
   refine .next (s' := (v ++ (bstr [32] ++ bstr (decI n)), ((pre ++ [n]).length : Int))) ?_ (ih (pre ++ [n]) _ (by rw [h]; simp) ?_)
   ·unfold fleet_line_l2
    rw [if_pos (by simpa using hlt)]
    refine ⟨n, hx, _, snum_ok hk, by simp only [ByteArray.size_append] at hsz; omega, by show v.size + (bstr [32] ++ bstr (decI n)).size < _; omega, ?_⟩
    simp only
    rw [w_small (by omega) (by omega)]; simp
   ·rw [ByteArray.size_append]; simp only [List.length_append, List.length_cons, List.length_nil]; omega
 exact ⟨_, key l [] w rfl (by simp; omega), rfl⟩
/-! ### What is right of fleets -/
structure RbOk (r : Rb) : Prop where
 a1 : IntOk .i64 r.1
 a2 : IntOk .i64 r.2.1
 a3 : IntOk .i64 r.2.2.1
 a4 : IntOk .i64 r.2.2.2.1
 a5 : IntOk .i64 r.2.2.2.2.1
 a6 : IntOk .i64 r.2.2.2.2.2.2.2.1
 a7 : IntOk .i64 r.2.2.2.2.2.2.2.2.1
 a8 : r.2.2.2.2.2.2.2.2.2.1.length ≤ 40
 a9 : IntOk .i64 r.2.2.2.2.2.2.2.2.2.2.1
 a10 : IntOk .i64 r.2.2.2.2.2.2.2.2.2.2.2
theorem ok0 : IntOk .i64 0 := ⟨by decide, by decide⟩
theorem zRb_ok : RbOk zRb := ⟨ok0, ok0, ok0, ok0, ok0, ok0, ok0, by decide, ok0, ok0⟩
structure FlW (k : Nat) (f : Fl) : Prop where
 k1 : (f.1.map (·.1)).Nodup
 k2 : (f.2.map (·.1)).Nodup
 n1 : f.1.length ≤ k
 n2 : f.2.length ≤ k
 r1 : ∀ p ∈ f.1, IntOk .i64 p.1 ∧ RbOk p.2
 r2 : ∀ p ∈ f.2, IntOk .i64 p.1.1 ∧ IntOk .i64 p.1.2 ∧ p.2.length ≤ 40 ∧ ∀ q ∈ p.2, IntOk .i64 q
theorem FlW.rob {k : Nat} {f : Fl} (h : FlW k f) (n : Int) : RbOk (robB f n) := by
 unfold robB
 cases hg : mget f.1 n with
 | none => exact zRb_ok
 | some r => exact (h.r1 _ (mem_of_mget hg)).2
theorem FlW.cells {k : Nat} {f : Fl} (h : FlW k f) (a : Int × Int) : ((mget f.2 a).getD []).length ≤ 40 ∧ ∀ q ∈ (mget f.2 a).getD [], IntOk .i64 q := by
 cases hg : mget f.2 a with
 | none => exact ⟨by simp, by simp⟩
 | some r => exact (h.r2 _ (mem_of_mget hg)).2.2
theorem FlW.key {k : Nat} {f : Fl} (h : FlW k f) {n : Int} (hn : n ∈ skeys f.1) : IntOk .i64 n := by
 obtain ⟨p, hp, rfl⟩ := List.mem_map.1 ((fskeys_perm _).mem_iff.1 hn)
 exact (h.r1 p hp).1
theorem allC_len {l : List ((Int × Int) × List Int)} (h : ∀ p ∈ l, p.2.length ≤ 40) : (allC l).length ≤ 40 * l.length := by
 induction l with
 | nil => simp [allC]
 | cons p l ih =>
  have h1 := ih (fun q hq => h q (List.mem_cons_of_mem _ hq))
  have h2 := h p List.mem_cons_self
  have e : allC (p :: l) = (p.2.map fun q => (p.1.2, q)) ++ allC l := rfl
  rw [e]; simp only [List.length_append, List.length_map, List.length_cons]; omega
theorem FlW.allC {k : Nat} {f : Fl} (h : FlW k f) : (Rel.allC f.2).length ≤ 40 * k := by
 have h1 := allC_len (l := f.2) (fun p hp => (h.r2 p hp).2.2.1)
 have h2 := h.n2
 omega
theorem FlW.con {k : Nat} {f : Fl} (h : FlW k f) (hk : k ≤ 1000) : fleet_Fleet_Contested f (conB f) := by
 have h1 := h.allC
 exact contested_ok h.k2 (by omega) (fun p hp => by have := (h.r2 p hp).2.2.1; omega)
theorem FlW.conM {k : Nat} {f : Fl} (h : FlW k f) {c : Int × Int} (hc : c ∈ conB f) : IntOk .i64 c.1 ∧ IntOk .i64 c.2 := by
 have h1 : c ∈ conT f.2 := (List.mergeSort_perm _ _).mem_iff.1 hc
 have h2 := List.count_pos_iff.1 (show 0 < (Rel.allC f.2).count c by have := mem_conT.1 h1; omega)
 obtain ⟨p, hp, hc⟩ := List.mem_flatMap.1 h2
 obtain ⟨q, hq, rfl⟩ := List.mem_map.1 hc
 exact ⟨(h.r2 p hp).2.1, (h.r2 p hp).2.2.2 q hq⟩
theorem FlW.zoneM {k : Nat} {f : Fl} (h : FlW k f) {n z : Int} (hz : z ∈ zonB f n) : IntOk .i64 z := by
 have h1 : z ∈ zoZ n f.2 := (List.mergeSort_perm _ _).mem_iff.1 hz
 obtain ⟨p, hp, rfl⟩ := List.mem_map.1 h1
 exact (h.r2 p (List.mem_filter.1 hp).1).2.1
/-! ### All lines -/
def grB (f : Fl) (n z : Int) : ByteArray := lnB (bstr [103, 114, 97, 110, 116]) ([n, z] ++ (mget f.2 (n, z)).getD [])
def headB (n : Int) (r : Rb) : ByteArray :=
 let s1 := if r.2.2.2.2.2.1 = true then lnB (bstr [114, 111, 98, 111, 116]) [n] ++ lnB (bstr [32, 97, 116]) [r.1, r.2.1, r.2.2.1, r.2.2.2.1, r.2.2.2.2.1] else lnB (bstr [114, 111, 98, 111, 116]) [n]
 let s2 := if r.2.2.2.2.2.2.1 = true then s1 ++ lnB (bstr [32, 104, 101, 108, 100]) [r.2.2.2.2.2.2.2.1, r.2.2.2.2.2.2.2.2.1] else s1
 (s2 ++ lnB (bstr [32, 112, 97, 116, 104]) [(r.2.2.2.2.2.2.2.2.2.1.length : Int)]) ++ lnB (bstr [32, 102, 97, 117, 108, 116, 115]) [r.2.2.2.2.2.2.2.2.2.2.1, r.2.2.2.2.2.2.2.2.2.2.2]
def rlB (f : Fl) (n : Int) : List ByteArray := headB n (robB f n) :: (zonB f n).map (grB f n)
def linesB (f : Fl) : List ByteArray := (skeys f.1).flatMap (rlB f) ++ (conB f).map fun c => lnB (bstr [99, 111, 110, 116, 101, 115, 116, 101, 100]) [c.1, c.2]
theorem rlB_len (f : Fl) (n : Int) : (rlB f n).length ≤ f.2.length + 1 := by
 have := zonB_len f n
 simp only [rlB, List.length_cons, List.length_map]; omega
theorem two_ok {a b : Int} (ha : IntOk .i64 a) (hb : IntOk .i64 b) : ∀ n ∈ [a, b], IntOk .i64 n := by
 intro n hn; simp only [List.mem_cons, List.not_mem_nil, or_false] at hn; rcases hn with rfl | rfl <;> assumption
theorem lines_round {k : Nat} {f : Fl} (h : FlW k f) (hk : k ≤ 1000) {n : Int} (hn : IntOk .i64 n) (s : List ByteArray) (hs : s.length ≤ 1000000000) : fleet_Fleet_Lines_l1 f n s (.inl (s ++ rlB f n)) := by
 have hr := h.rob n
 have hrb : (mget f.1 n).getD (0, 0, 0, 0, 0, false, false, 0, 0, [], 0, 0) = robB f n := rfl
 unfold fleet_Fleet_Lines_l1
 rw [hrb]
 unfold rlB headB
 generalize robB f n = r at hr hrb
 have one : ∀ m ∈ [n], IntOk .i64 m := by intro m hm; rw [List.mem_singleton] at hm; subst hm; exact hn
 have hl0 := line_ok (w := bstr [114, 111, 98, 111, 116]) one (by rw [size_bstr]; decide) (by simp)
 have hz0 := lnB_size [n] (bstr [114, 111, 98, 111, 116]) one
 have h5 : ∀ m ∈ [r.1, r.2.1, r.2.2.1, r.2.2.2.1, r.2.2.2.2.1], IntOk .i64 m := by
  intro m hm; simp only [List.mem_cons, List.not_mem_nil, or_false] at hm
  rcases hm with rfl | rfl | rfl | rfl | rfl <;> first | exact hr.a1 | exact hr.a2 | exact hr.a3 | exact hr.a4 | exact hr.a5
 have hl1 := line_ok (w := bstr [32, 97, 116]) h5 (by rw [size_bstr]; decide) (by simp)
 have hz1 := lnB_size _ (bstr [32, 97, 116]) h5
 have h2 := two_ok hr.a6 hr.a7
 have hl2 := line_ok (w := bstr [32, 104, 101, 108, 100]) h2 (by rw [size_bstr]; decide) (by simp)
 have hz2 := lnB_size _ (bstr [32, 104, 101, 108, 100]) h2
 have hp1 : ∀ m ∈ [(r.2.2.2.2.2.2.2.2.2.1.length : Int)], IntOk .i64 m := by
  intro m hm; rw [List.mem_singleton] at hm; subst hm; have := hr.a8; exact ⟨by show (-9223372036854775808 : Int) ≤ _; omega, by show _ ≤ (9223372036854775807 : Int); omega⟩
 have hl3 := line_ok (w := bstr [32, 112, 97, 116, 104]) hp1 (by rw [size_bstr]; decide) (by simp)
 have hz3 := lnB_size _ (bstr [32, 112, 97, 116, 104]) hp1
 have h4 := two_ok hr.a9 hr.a10
 have hl4 := line_ok (w := bstr [32, 102, 97, 117, 108, 116, 115]) h4 (by rw [size_bstr]; decide) (by simp)
 have hz4 := lnB_size _ (bstr [32, 102, 97, 117, 108, 116, 115]) h4
 rw [size_bstr] at hz0 hz1 hz2 hz3 hz4
 simp only [List.length_cons, List.length_nil] at hz0 hz1 hz2 hz3 hz4
 have hzl := zonB_len f n
 have hn2 := h.n2
 -- behind the first line
 have j3 : ∀ s2 : ByteArray, s2.size < 1000000 → fleet_Fleet_Lines_j3 f n s s2 (.inl (s ++ (((s2 ++ lnB (bstr [32, 112, 97, 116, 104]) [(r.2.2.2.2.2.2.2.2.2.1.length : Int)]) ++ lnB (bstr [32, 102, 97, 117, 108, 116, 115]) [r.2.2.2.2.2.2.2.2.2.2.1, r.2.2.2.2.2.2.2.2.2.2.2]) :: (zonB f n).map (grB f n)))) := by
  intro s2 hs2
  unfold fleet_Fleet_Lines_j3
  rw [hrb]
  refine ⟨_, hl3, by omega, _, hl4, by rw [ByteArray.size_append]; omega, by simp only [List.length_cons, List.length_nil]; omega, by simp only [List.length_cons, List.length_nil]; omega, zonB f n, zones_ok h.k2 (by omega), _, ?_, rfl⟩
  have hz := fun z (hz : z ∈ zonB f n) => h.zoneM hz
  generalize (s2 ++ lnB (bstr [32, 112, 97, 116, 104]) [(r.2.2.2.2.2.2.2.2.2.1.length : Int)]) ++ lnB (bstr [32, 102, 97, 117, 108, 116, 115]) [r.2.2.2.2.2.2.2.2.2.2.1, r.2.2.2.2.2.2.2.2.2.2.2] = L at *
  generalize zonB f n = zs at *
  have key : ∀ (l pre : List Int), zs = pre ++ l → Loops (fleet_Fleet_Lines_l4 f n zs) ((pre.length : Int), s ++ [L] ++ pre.map (grB f n)) (s ++ L :: zs.map (grB f n)) := by
   intro l
   induction l with
   | nil =>
    intro pre e
    refine .done ?_
    unfold fleet_Fleet_Lines_l4
    rw [if_neg (by rw [e]; simp)]
    rw [e]; simp
   | cons z l ih =>
    intro pre e
    have hx : idx zs (pre.length : Int) z := ⟨by omega, by rw [e]; simp⟩
    have hlt := hx.lt
    have hpl : pre.length < zs.length := by rw [e]; simp
    have hzk := hz z (by rw [e]; simp)
    obtain ⟨hc1, hc2⟩ := h.cells (n, z)
    have hall : ∀ m ∈ [n, z] ++ (mget f.2 (n, z)).getD [], IntOk .i64 m := by
     intro m hm
     rcases List.mem_append.1 hm with hm | hm
     ·exact two_ok hn hzk m hm
     ·exact hc2 m hm
    refine .next (s' := (((pre ++ [z]).length : Int), s ++ [L] ++ (pre ++ [z]).map (grB f n))) ?_ (ih (pre ++ [z]) (by rw [e]; simp))
    unfold fleet_Fleet_Lines_l4
    rw [if_pos (by simpa using hlt)]
    refine ⟨z, hx, (mget f.2 (n, z)).getD [], ⟨_, cloneI_ok (by omega), rfl⟩, by simp only [List.length_cons, List.length_nil]; omega, by simp only [List.length_cons, List.length_nil]; omega, grB f n z, line_ok hall (by rw [size_bstr]; decide) (by simp only [List.length_append, List.length_cons, List.length_nil]; omega), ?_, ?_, ?_⟩
    ·simp only [List.length_append, List.length_map, List.length_cons, List.length_nil]; omega
    ·simp only [List.length_append, List.length_map, List.length_cons, List.length_nil]; omega
    ·simp only
     rw [w_small (by omega) (by omega)]; simp
  have := key zs [] rfl
  simpa using this
 have j2 : ∀ s1 : ByteArray, s1.size < 500000 → fleet_Fleet_Lines_j2 f n s s1 (.inl (s ++ ((((if r.2.2.2.2.2.2.1 = true then s1 ++ lnB (bstr [32, 104, 101, 108, 100]) [r.2.2.2.2.2.2.2.1, r.2.2.2.2.2.2.2.2.1] else s1) ++ lnB (bstr [32, 112, 97, 116, 104]) [(r.2.2.2.2.2.2.2.2.2.1.length : Int)]) ++ lnB (bstr [32, 102, 97, 117, 108, 116, 115]) [r.2.2.2.2.2.2.2.2.2.2.1, r.2.2.2.2.2.2.2.2.2.2.2]) :: (zonB f n).map (grB f n)))) := by
  intro s1 hs1
  unfold fleet_Fleet_Lines_j2
  rw [hrb]
  by_cases hh : r.2.2.2.2.2.2.1 = true
  ·rw [if_pos hh, if_pos hh]
   exact ⟨_, hl2, by omega, j3 _ (by rw [ByteArray.size_append]; omega)⟩
  ·rw [if_neg hh, if_neg hh]
   exact j3 _ (by omega)
 refine ⟨_, hl0, ?_⟩
 by_cases hp : r.2.2.2.2.2.1 = true
 ·rw [if_pos hp]
  simp only [if_pos hp]
  exact ⟨_, hl1, by omega, j2 _ (by rw [ByteArray.size_append]; omega)⟩
 ·rw [if_neg hp]
  simp only [if_neg hp]
  exact j2 _ (by omega)
theorem foldl_flat {α β : Type} (g : α → List β) : ∀ (xs : List α) (s : List β), xs.foldl (fun s x => s ++ g x) s = s ++ xs.flatMap g
 | [], s => by simp
 | x :: xs, s => by rw [List.foldl_cons, foldl_flat g xs, List.flatMap_cons, List.append_assoc]
theorem flat_len {α β : Type} {g : α → List β} {N : Nat} : ∀ (xs : List α), (∀ x, (g x).length ≤ N) → (xs.flatMap g).length ≤ N * xs.length
 | [], _ => by simp
 | x :: xs, h => by
  have h1 := flat_len xs h
  have h2 := h x
  rw [List.flatMap_cons, List.length_append, List.length_cons, Nat.mul_add]; omega
theorem lines_ok {k : Nat} {f : Fl} (h : FlW k f) (hk : k ≤ 1000) : fleet_Fleet_Lines f (linesB f) := by
 have hn1 := h.n1
 have hn2 := h.n2
 have hsl : (skeys f.1).length = f.1.length := by rw [(fskeys_perm _).length_eq, List.length_map]
 have hrl : ∀ n, (rlB f n).length ≤ 1001 := fun n => by have := rlB_len f n; omega
 have hrun : RunB (fleet_Fleet_Lines_l1 f) (skeys f.1) [] (.inl ((skeys f.1).flatMap (rlB f))) := by
  have := runB_fold (E := Unit) (B := fleet_Fleet_Lines_l1 f) (fun s x => s ++ rlB f x) (skeys f.1) [] (fun p x q e => by
   refine lines_round h hk (h.key (by rw [e]; simp)) _ ?_
   rw [foldl_flat, List.nil_append]
   have h1 := flat_len (g := rlB f) (N := 1001) p hrl
   have h2 : p.length ≤ 1000 := by
    have := congrArg List.length e
    rw [List.length_append] at this; omega
   have h3 : 1001 * p.length ≤ 1001 * 1000 := Nat.mul_le_mul_left _ h2
   omega)
  rw [foldl_flat, List.nil_append] at this
  exact this
 refine ⟨_, rfl, .inl ((skeys f.1).flatMap (rlB f)), (), robots_itr (fun p hp => (h.r1 p hp).1) (by omega) _ _ _ _ (run_yof hrun), ?_⟩
 refine ⟨conB f, h.con hk, linesB f, ?_, rfl⟩
 have hP : ((skeys f.1).flatMap (rlB f)).length ≤ 1001 * 1000 := by
  have h1 := flat_len (g := rlB f) (N := 1001) (skeys f.1) hrl
  have h3 : 1001 * (skeys f.1).length ≤ 1001 * 1000 := Nat.mul_le_mul_left _ (by omega)
  omega
 have hcm := fun c hc => h.conM (c := c) hc
 have hcl : (conB f).length ≤ 40000 := by
  have h1 : (conB f).length = (conT f.2).length := List.length_mergeSort _
  have h2 : (conT f.2).length ≤ (nub (allC f.2)).length := List.length_filter_le _ _
  have h3 := nub_len (allC f.2)
  have h4 := h.allC
  omega
 unfold linesB
 generalize (skeys f.1).flatMap (rlB f) = P at *
 generalize conB f = C at *
 have key : ∀ (l pre : List (Int × Int)), C = pre ++ l → Loops (fleet_Fleet_Lines_l6 C) ((pre.length : Int), P ++ pre.map fun c => lnB (bstr [99, 111, 110, 116, 101, 115, 116, 101, 100]) [c.1, c.2]) (P ++ C.map fun c => lnB (bstr [99, 111, 110, 116, 101, 115, 116, 101, 100]) [c.1, c.2]) := by
  intro l
  induction l with
  | nil =>
   intro pre e
   refine .done ?_
   unfold fleet_Fleet_Lines_l6
   rw [if_neg (by rw [e]; simp)]
   rw [e]; simp
  | cons c l ih =>
   intro pre e
   have hx : idx C (pre.length : Int) c := ⟨by omega, by rw [e]; simp⟩
   have hlt := hx.lt
   have hpl : pre.length < C.length := by rw [e]; simp
   obtain ⟨c1, c2⟩ := hcm c (by rw [e]; simp)
   refine .next (s' := (((pre ++ [c]).length : Int), P ++ (pre ++ [c]).map fun c => lnB (bstr [99, 111, 110, 116, 101, 115, 116, 101, 100]) [c.1, c.2])) ?_ (ih (pre ++ [c]) (by rw [e]; simp))
   unfold fleet_Fleet_Lines_l6
   rw [if_pos (by simpa using hlt)]
   refine ⟨c, hx, _, line_ok (two_ok c1 c2) (by rw [size_bstr]; decide) (by simp), ?_, ?_, ?_⟩
   ·simp only [List.length_append, List.length_map, List.length_cons, List.length_nil]; omega
   ·simp only [List.length_append, List.length_map, List.length_cons, List.length_nil]; omega
   ·simp only
    rw [w_small (by omega) (by omega)]; simp
 have := key C [] rfl
 simpa using this
/-! ### Fleets that tell the same -/
structure FlEq (a b : Fl) : Prop where
 p1 : a.1.Perm b.1
 p2 : a.2.Perm b.2
 g1 : ∀ n, mget a.1 n = mget b.1 n
 g2 : ∀ n, mget a.2 n = mget b.2 n
end Go.Rel
