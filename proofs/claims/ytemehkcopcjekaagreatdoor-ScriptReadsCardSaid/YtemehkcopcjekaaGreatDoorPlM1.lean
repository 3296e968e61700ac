import Derived.Test.YtemehkcopcjekaaGreatDoorEngP
import Derived.Test.YtemehkcopcjekaaGreatDoorURel
/-! Plain laws: whole numbers of a kind; loops that count. -/
namespace Go.Pl
open Go Go.Eng

theorem w_u8 (n : Int) : IntKind.u8.wrap n = n % 256 := by simp [IntKind.wrap, IntKind.bits, IntKind.signed]
theorem w_u32 (n : Int) : IntKind.u32.wrap n = n % 4294967296 := by simp [IntKind.wrap, IntKind.bits, IntKind.signed]
theorem w_i64 (n : Int) : IntKind.i64.wrap n = (n + 9223372036854775808) % 18446744073709551616 - 9223372036854775808 := by
 simp only [IntKind.wrap, IntKind.bits, IntKind.signed]
 simp only [Bool.true_and]
 split
 ·rename_i h; simp at h; omega
 ·rename_i h; simp at h; omega
theorem w_small {n : Int} (h0 : -9223372036854775808 ≤ n) (h1 : n ≤ 9223372036854775807) : IntKind.i64.wrap n = n := by rw [w_i64]; omega
theorem loops_count {S E : Type} {step : S → Sum S E → Prop} (f : Nat → S) (N : Nat) {e : E} (hstep : ∀ k, k < N → step (f k) (.inl (f (k + 1)))) (hend : step (f N) (.inr e)) : Loops step (f 0) e := by
  have key : ∀ m k, k + m = N → Loops step (f k) e := by
    intro m
    induction m with
    | zero => intro k hk; have : k = N := by omega
              subst this; exact .done hend
    | succ m ih => intro k hk; exact .next (hstep k (by omega)) (ih (k + 1) (by omega))
  exact key N 0 (by omega)
end Go.Pl
/-! Plain laws: loops by what holds; words of 32 bits. -/
namespace Go.Pl
open Go Go.Eng

theorem loops_inv {S E : Type} {step : S → Sum S E → Prop} (I : Nat → S → Prop) (Q : E → Prop) (N : Nat) {s : S} (h0 : I 0 s)
    (hs : ∀ k s, k < N → I k s → (∃ s', step s (.inl s') ∧ I (k + 1) s') ∨ ∃ e, step s (.inr e) ∧ Q e) (he : ∀ s, I N s → ∃ e, step s (.inr e) ∧ Q e) : ∃ e, Loops step s e ∧ Q e := by
  have key : ∀ m k s, k + m = N → I k s → ∃ e, Loops step s e ∧ Q e := by
    intro m
    induction m with
    | zero =>
      intro k s hk hi
      have : k = N := by omega
      subst this
      obtain ⟨e, h1, h2⟩ := he s hi
      exact ⟨e, .done h1, h2⟩
    | succ m ih =>
      intro k s hk hi
      rcases hs k s (by omega) hi with ⟨s', h1, h2⟩ | ⟨e, h1, h2⟩
      · obtain ⟨e, h3, h4⟩ := ih (k + 1) s' (by omega) h2
        exact ⟨e, .next h1 h3, h4⟩
      · exact ⟨e, .done h1, h2⟩
  exact key N 0 s (by omega) h0
theorem idx_of {α : Type} {xs : List α} {k : Nat} (h : k < xs.length) : idx xs (k : Int) xs[k] := ⟨by omega, by simp [h]⟩
theorem idx_at {α : Type} {xs : List α} {i : Int} {k : Nat} {x : α} (hi : i = (k : Int)) (h : xs[k]? = some x) : idx xs i x := by
 subst hi; exact ⟨by omega, by simpa using h⟩
theorem putN_getD {α : Type} {n : Nat} {z v : α} {xs : List α} {q j : Nat} (hj : j < n) : (putN n z xs q v).getD j z = if j = q then v else xs.getD j z := by
 simp only [putN, List.getD_eq_getElem?_getD, List.getElem?_map]
 rw [List.getElem?_range hj]; rfl

def B (x : BitVec 32) : Int := (x.toNat : Int)
theorem ok_i64 {n : Int} (h : IntOk .i64 n) : -9223372036854775808 ≤ n ∧ n ≤ 9223372036854775807 := by
 obtain ⟨h1, h2⟩ := h
 simp only [IntKind.min, IntKind.max, IntKind.signed, IntKind.bits] at h1 h2
 simp at h1 h2; omega
end Go.Pl
/-! Plain laws: numbers in digits. -/
namespace Go.Rel
open Go Go.Eng Go.Pl
/-! ### Bytes as strings -/
theorem foldl_push_size (l : List Int) (s : ByteArray) : (l.foldl (fun r n => r.push (UInt8.ofNat n.toNat)) s).size = s.size + l.length := by
 induction l generalizing s with
 | nil => simp
 | cons x l ih => rw [List.foldl_cons, ih, ByteArray.size_push, List.length_cons]; omega
theorem size_bstr (l : List Int) : (bstr l).size = l.length := by
 unfold bstr
 rw [foldl_push_size]
 show ByteArray.empty.size + _ = _
 simp
theorem foldl_push_append (l : List Int) (s t : ByteArray) : l.foldl (fun r n => r.push (UInt8.ofNat n.toNat)) (s ++ t) = s ++ l.foldl (fun r n => r.push (UInt8.ofNat n.toNat)) t := by
 induction l generalizing t with
 | nil => rfl
 | cons x l ih =>
  rw [List.foldl_cons, List.foldl_cons, ← ih]
  congr 1
  apply ByteArray.ext
  simp [ByteArray.push, ByteArray.data_append]
theorem bstr_append (a b : List Int) : bstr (a ++ b) = bstr a ++ bstr b := by
 unfold bstr
 rw [List.foldl_append]
 have h := foldl_push_append b (a.foldl (fun r n => r.push (UInt8.ofNat n.toNat)) ByteArray.empty) ByteArray.empty
 rw [← h]
 congr 1
 simp
/-! ### Digits -/
theorem decF_fuel : ∀ (f u f' : Nat), u ≤ f → u ≤ f' → decF f u = decF f' u
 | 0, u, f', h, h' => by
  obtain rfl : u = 0 := by omega
  cases f' with
  | zero => rfl
  | succ f' => simp [decF]
 | f + 1, u, f', h, h' => by
  cases f' with
  | zero =>
   obtain rfl : u = 0 := by omega
   simp [decF]
  | succ f' =>
   by_cases hu : u < 10
   ·simp [decF, hu]
   ·simp only [decF, if_neg hu]
    rw [decF_fuel f (u / 10) f' (by omega) (by omega)]
theorem decL_lt {u : Nat} (h : u < 10) : decL u = [48 + (u : Int)] := by
 unfold decL
 cases u with
 | zero => rfl
 | succ u => simp only [decF, if_pos h]
theorem decL_ge {u : Nat} (h : ¬ u < 10) : decL u = decL (u / 10) ++ [48 + ((u % 10 : Nat) : Int)] := by
 unfold decL
 match u, h with
 | u + 1, h =>
  simp only [decF, if_neg h]
  rw [decF_fuel u ((u + 1) / 10) ((u + 1) / 10) (by omega) (by omega)]
theorem decL_len : ∀ (k u : Nat), u < 10 ^ (k + 1) → (decL u).length ≤ k + 1
 | 0, u, h => by rw [decL_lt (by omega)]; simp
 | k + 1, u, h => by
  by_cases hu : u < 10
  ·rw [decL_lt hu]; simp
  ·rw [decL_ge hu, List.length_append]
   have := decL_len k (u / 10) (by rw [Nat.pow_succ] at h; omega)
   simp only [List.length_cons, List.length_nil]; omega
theorem decI_len {n : Int} (h : IntOk .i64 n) : (decI n).length ≤ 21 := by
 have ⟨h0, h1⟩ := ok_i64 h
 unfold decI
 split
 ·rw [List.length_cons]; have := decL_len 19 n.natAbs (by omega); omega
 ·have := decL_len 19 n.toNat (by omega); omega
/-! ### The library's -/
theorem itoa_ok {n : Int} (h : IntOk .i64 n) : strconv_Itoa n (bstr (decI n)) := ⟨h, rfl⟩
/-! ### The document's -/
end Go.Rel
/-! Plain laws: messages: fields, what is wrong with one. -/
namespace Go.Rel
open Go Go.Eng Go.Pl

theorem len_wrap {n : Nat} (h : n < 4611686018427387904) : IntKind.i64.wrap ((n : Int) + 1) = ((n + 1 : Nat) : Int) := by rw [w_small] <;> omega
def firstE {U E : Type} (u : U) (bad : Nat → Option E) (n : Nat) : Sum U E := match (List.range n).findSome? bad with | some e => .inr e | none => .inl u
theorem loops_first {S U E : Type} {step : S → Sum S (Sum U E) → Prop} (f : Nat → S) (bad : Nat → Option E) (u : U) (n : Nat) (hs : ∀ k, k < n → (∀ e, bad k = some e → step (f k) (.inr (.inr e))) ∧ (bad k = none → step (f k) (.inl (f (k + 1))))) (he : step (f n) (.inr (.inl u))) : Loops step (f 0) (firstE u bad n) := by
  have key : ∀ m k, k + m = n → Loops step (f k) (match (List.range' k m).findSome? bad with | some e => .inr e | none => .inl u) := by
    intro m
    induction m with
    | zero => intro k hk; obtain rfl : k = n := by omega
              exact .done he
    | succ m ih =>
      intro k hk
      have hsk := hs k (by omega)
      rw [List.range'_succ, List.findSome?_cons]
      cases hb : bad k with
      | some e => exact .done (hsk.1 e hb)
      | none => exact .next (hsk.2 hb) (ih (k + 1) (by omega))
  have := key n 0 (by omega)
  unfold firstE
  rw [List.range_eq_range']
  exact this
theorem firstE_none {U E : Type} {u : U} {bad : Nat → Option E} {n : Nat} (h : ∀ k, k < n → bad k = none) : firstE u bad n = .inl u := by
 unfold firstE
 rw [List.findSome?_eq_none_iff.2 (fun k hk => h k (List.mem_range.1 hk))]
theorem firstE_some {U E : Type} {u : U} {bad : Nat → Option E} {n : Nat} (h : firstE u bad n = .inl u) : ∀ k, k < n → bad k = none := by
 unfold firstE at h
 intro k hk
 cases hf : (List.range n).findSome? bad with
 | some e => rw [hf] at h; cases h
 | none => exact List.findSome?_eq_none_iff.1 hf k (List.mem_range.2 hk)

abbrev Mg := Int × List Int × List (Int × Int) × List Int × ByteArray × ByteArray
abbrev Mr := Int × List Int × List (List Int) × List Int × ByteArray × ByteArray
abbrev Fd := ByteArray × Int × Int × Int × Int × Int × Int
def robotF : Fd := ((bstr [114, 111, 98, 111, 116]), 1, 0, 0, 65535, 1, 0)
def fieldsB (k : Int) : List Fd :=
 if k = 1 then [robotF, ((bstr [115, 112, 101, 101, 100]), 1, 1, 1, 5000, 1, 0), ((bstr [97, 99, 99, 101, 108]), 1, 2, 1, 10000, 2, 500), ((bstr [112, 97, 116, 104]), 3, (-1), 1, 16, 1, 0), ((bstr [116, 97, 103]), 6, (-1), 0, 16, 2, 0)]
 else if k = 2 then [robotF, ((bstr [114, 101, 97, 115, 111, 110]), 1, 1, 0, 15, 1, 0), ((bstr [122, 111, 110, 101]), 1, 2, 0, 4095, 2, 0)]
 else if k = 3 then [robotF, ((bstr [122, 111, 110, 101]), 1, 1, 0, 4095, 1, 0), ((bstr [108, 101, 97, 115, 101]), 1, 2, 1, 255, 2, 1), ((bstr [99, 101, 108, 108, 115]), 4, (-1), 1, 32, 1, 0)]
 else if k = 4 then [robotF, ((bstr [120]), 2, 1, (-1000000), 1000000, 1, 0), ((bstr [121]), 2, 2, (-1000000), 1000000, 1, 0), ((bstr [104, 101, 97, 100, 105, 110, 103]), 1, 3, 0, 35999, 1, 0), ((bstr [98, 97, 116, 116, 101, 114, 121]), 1, 4, 0, 1000, 1, 0), ((bstr [115, 117, 114, 101]), 1, 5, 0, 100, 2, 100)]
 else if k = 5 then [robotF, ((bstr [99, 111, 100, 101]), 1, 1, 1, 9999, 1, 0), ((bstr [115, 101, 118, 101, 114, 105, 116, 121]), 1, 2, 0, 4, 1, 0), ((bstr [112, 97, 114, 116]), 1, 3, 0, 255, 2, 0), ((bstr [116, 105, 109, 101, 115]), 1, 4, 1, 1000000, 2, 1), ((bstr [116, 101, 120, 116]), 5, (-1), 0, 64, 1, 0)]
 else []
theorem fields_ok (k : Int) : field_Of k (fieldsB k) := by
 unfold field_Of fieldsB
 by_cases h1 : k = 1
 ·rw [if_pos (by simpa using h1), if_pos h1]; exact ⟨_, rfl, rfl⟩
 rw [if_neg (by simpa using h1), if_neg h1]
 by_cases h2 : k = 2
 ·rw [if_pos (by simpa using h2), if_pos h2]; exact ⟨_, rfl, rfl⟩
 rw [if_neg (by simpa using h2), if_neg h2]
 by_cases h3 : k = 3
 ·rw [if_pos (by simpa using h3), if_pos h3]; exact ⟨_, rfl, rfl⟩
 rw [if_neg (by simpa using h3), if_neg h3]
 by_cases h4 : k = 4
 ·rw [if_pos (by simpa using h4), if_pos h4]; exact ⟨_, rfl, rfl⟩
 rw [if_neg (by simpa using h4), if_neg h4]
 by_cases h5 : k = 5
 ·rw [if_pos (by simpa using h5), if_pos h5]; exact ⟨_, rfl, rfl⟩
 rw [if_neg (by simpa using h5), if_neg h5]
def fdOk (f : Fd) : Prop := f.2.2.2.2.2.1 ≤ 2 ∧ f.1.size ≤ 10 ∧ ((f.2.1 = 3 ∧ f.2.2.2.1 = 1 ∧ f.2.2.2.2.1 = 16) ∨ (f.2.1 = 4 ∧ f.2.2.2.1 = 1 ∧ f.2.2.2.2.1 = 32) ∨ (f.2.1 = 5 ∧ f.2.2.2.1 = 0 ∧ f.2.2.2.2.1 = 64) ∨ (f.2.1 = 6 ∧ f.2.2.2.1 = 0 ∧ f.2.2.2.2.1 = 16) ∨ (1 ≤ f.2.1 ∧ f.2.1 < 3 ∧ 0 ≤ f.2.2.1 ∧ f.2.2.1 < 6 ∧ -1000000 ≤ f.2.2.2.1 ∧ f.2.2.2.2.1 ≤ 1000000))
theorem fields_all (P : Fd → Prop) (k : Int) (h0 : P robotF) (h1 : ∀ f ∈ [((bstr [115, 112, 101, 101, 100]), 1, 1, 1, 5000, 1, 0), ((bstr [97, 99, 99, 101, 108]), 1, 2, 1, 10000, 2, 500), ((bstr [112, 97, 116, 104]), 3, (-1), 1, 16, 1, 0), ((bstr [116, 97, 103]), 6, (-1), 0, 16, 2, 0), ((bstr [114, 101, 97, 115, 111, 110]), 1, 1, 0, 15, 1, 0), ((bstr [122, 111, 110, 101]), 1, 2, 0, 4095, 2, 0), ((bstr [122, 111, 110, 101]), 1, 1, 0, 4095, 1, 0), ((bstr [108, 101, 97, 115, 101]), 1, 2, 1, 255, 2, 1), ((bstr [99, 101, 108, 108, 115]), 4, (-1), 1, 32, 1, 0), ((bstr [120]), 2, 1, (-1000000), 1000000, 1, 0), ((bstr [121]), 2, 2, (-1000000), 1000000, 1, 0), ((bstr [104, 101, 97, 100, 105, 110, 103]), 1, 3, 0, 35999, 1, 0), ((bstr [98, 97, 116, 116, 101, 114, 121]), 1, 4, 0, 1000, 1, 0), ((bstr [115, 117, 114, 101]), 1, 5, 0, 100, 2, 100), ((bstr [99, 111, 100, 101]), 1, 1, 1, 9999, 1, 0), ((bstr [115, 101, 118, 101, 114, 105, 116, 121]), 1, 2, 0, 4, 1, 0), ((bstr [112, 97, 114, 116]), 1, 3, 0, 255, 2, 0), ((bstr [116, 105, 109, 101, 115]), 1, 4, 1, 1000000, 2, 1), ((bstr [116, 101, 120, 116]), 5, (-1), 0, 64, 1, 0)], P f) : ∀ f ∈ fieldsB k, P f := by
 simp only [List.forall_mem_cons] at h1
 unfold fieldsB
 by_cases e1 : k = 1
 ·rw [if_pos e1]; simp only [List.forall_mem_cons]; simp [h0, h1]
 rw [if_neg e1]
 by_cases e2 : k = 2
 ·rw [if_pos e2]; simp only [List.forall_mem_cons]; simp [h0, h1]
 rw [if_neg e2]
 by_cases e3 : k = 3
 ·rw [if_pos e3]; simp only [List.forall_mem_cons]; simp [h0, h1]
 rw [if_neg e3]
 by_cases e4 : k = 4
 ·rw [if_pos e4]; simp only [List.forall_mem_cons]; simp [h0, h1]
 rw [if_neg e4]
 by_cases e5 : k = 5
 ·rw [if_pos e5]; simp only [List.forall_mem_cons]; simp [h0, h1]
 rw [if_neg e5]
 simp
theorem fields_fd (k : Int) : ∀ f ∈ fieldsB k, fdOk f := by
 refine fields_all fdOk k (by simp [fdOk, robotF, size_bstr]) ?_
 simp only [List.forall_mem_cons]
 simp [fdOk, size_bstr]
theorem fields_len (k : Int) : (fieldsB k).length ≤ 6 := by
 unfold fieldsB
 by_cases e1 : k = 1
 ·rw [if_pos e1]; simp
 rw [if_neg e1]
 by_cases e2 : k = 2
 ·rw [if_pos e2]; simp
 rw [if_neg e2]
 by_cases e3 : k = 3
 ·rw [if_pos e3]; simp
 rw [if_neg e3]
 by_cases e4 : k = 4
 ·rw [if_pos e4]; simp
 rw [if_neg e4]
 by_cases e5 : k = 5
 ·rw [if_pos e5]; simp
 rw [if_neg e5]
 simp
/-! The reference's list. -/
def placed : Int → List Fd → List Fd
 | _, [] => []
 | p, f :: l => if f.2.1 < 3 then (f.1, f.2.1, p, f.2.2.2) :: placed (p + 1) l else (f.1, f.2.1, -1, f.2.2.2) :: placed p l
theorem placed_ok (fs : List Fd) (hl : fs.length < 100) : ∀ (l pre : List Fd), fs = pre ++ l → ∀ (acc : List Fd) (p : Int), acc.length ≤ pre.length → 0 ≤ p → p ≤ pre.length → Loops (ref16_All_l3 fs) (acc, p, (pre.length : Int)) (acc ++ placed p l)
 | [], pre, h, acc, p, _, _, _ => by
  have : fs.length = pre.length := by rw [h]; simp
  refine .done ?_
  unfold ref16_All_l3
  rw [if_neg (by simp; omega)]
  simp [placed]
 | f :: l, pre, h, acc, p, ha, h0, hp => by
  have hlen : fs.length = pre.length + l.length + 1 := by rw [h]; simp; omega
  have hat : fs[pre.length]? = some f := by rw [h]; simp
  have hw := len_wrap (n := pre.length) (by omega)
  have rest := fun acc p h1 h2 h3 => placed_ok fs hl l (pre ++ [f]) (by rw [h]; simp) acc p h1 h2 h3
  simp only [List.length_append, List.length_cons, List.length_nil] at rest
  by_cases hf : f.2.1 < 3
  ·have r := rest (acc ++ [(f.1, f.2.1, p, f.2.2.2)]) (p + 1) (by simp; omega) (by omega) (by omega)
   refine .next (s' := (acc ++ [(f.1, f.2.1, p, f.2.2.2)], p + 1, ((pre.length + 1 : Nat) : Int))) ?_ (by simpa [placed, hf] using r)
   unfold ref16_All_l3
   rw [if_pos (by simp; omega)]
   refine ⟨f, idx_at rfl hat, ?_⟩
   rw [if_pos (by simpa using hf)]
   unfold ref16_All_j4
   refine ⟨by simp only [List.length_cons, List.length_nil]; omega, by simp only [List.length_cons, List.length_nil]; omega, ?_⟩
   simp only
   rw [hw, w_small (by omega) (by omega)]
  ·have r := rest (acc ++ [(f.1, f.2.1, -1, f.2.2.2)]) p (by simp; omega) (by omega) (by omega)
   refine .next (s' := (acc ++ [(f.1, f.2.1, -1, f.2.2.2)], p, ((pre.length + 1 : Nat) : Int))) ?_ (by simpa [placed, hf] using r)
   unfold ref16_All_l3
   rw [if_pos (by simp; omega)]
   refine ⟨f, idx_at rfl hat, ?_⟩
   rw [if_neg (by simpa using hf)]
   unfold ref16_All_j4
   refine ⟨by simp only [List.length_cons, List.length_nil]; omega, by simp only [List.length_cons, List.length_nil]; omega, ?_⟩
   simp only
   rw [hw]
theorem rall_of (fs : List Fd) (hl : fs.length < 100) {r : List Fd} (h : placed 0 fs = r) : ref16_All_j1 fs r := by
 subst h
 exact ⟨_, placed_ok fs hl fs [] rfl [] 0 (by simp) (by simp) (by simp), by simp [ref16_All_j2]⟩
theorem rfields_ok (k : Int) : ref16_All k (fieldsB k) := by
 unfold ref16_All fieldsB
 by_cases h1 : k = 1
 ·rw [if_pos (by simpa using h1), if_pos h1]; exact rall_of _ (by simp) rfl
 rw [if_neg (by simpa using h1), if_neg h1]
 by_cases h2 : k = 2
 ·rw [if_pos (by simpa using h2), if_pos h2]; exact rall_of _ (by simp) rfl
 rw [if_neg (by simpa using h2), if_neg h2]
 by_cases h3 : k = 3
 ·rw [if_pos (by simpa using h3), if_pos h3]; exact rall_of _ (by simp) rfl
 rw [if_neg (by simpa using h3), if_neg h3]
 by_cases h4 : k = 4
 ·rw [if_pos (by simpa using h4), if_pos h4]; exact rall_of _ (by simp) rfl
 rw [if_neg (by simpa using h4), if_neg h4]
 by_cases h5 : k = 5
 ·rw [if_pos (by simpa using h5), if_pos h5]; exact rall_of _ (by simp) rfl
 rw [if_neg (by simpa using h5), if_neg h5]
 exact rall_of _ (by simp) rfl
/-! What is wrong with a part. -/
def manyB (n least most : Int) : Int := if n < least then 13 else if most < n then 6 else 0
theorem many_ok (n : Int) (f : Fd) : msg_many n f (manyB n f.2.2.2.1 f.2.2.2.2.1) := by
 unfold msg_many manyB
 simp only [decide_eq_true_eq]
 repeat' (first | rfl | split)
def errO (o : Sum Unit Int) : Int := match o with | .inr e => e | .inl _ => 0
theorem aft_err {j : Unit → Int → Prop} {o : Sum Unit Int} (h : ∀ u, j u 0) : Aft (fun p => j p (errO o)) (fun p => errO o = p) o := by
 cases o with
 | inl u => exact h u
 | inr e => rfl
def pathBad (l : List (Int × Int)) (k : Nat) : Option Int := match l[k]? with | some p => if 1000000 < max p.1 p.2 ∨ min p.1 p.2 < -1000000 then some 5 else none | none => none
def pathL (l : List (Int × Int)) : Int := errO (firstE () (pathBad l) l.length)
def pathB (l : List (Int × Int)) (least most : Int) : Int := if manyB l.length least most = 0 then pathL l else manyB l.length least most
theorem manyB_zero {n a b : Int} (h : manyB n a b = 0) : a ≤ n ∧ n ≤ b := by
 unfold manyB at h; split at h
 ·omega
 ·split at h <;> omega
theorem path_ok (l : List (Int × Int)) (f : Fd) (hm : f.2.2.2.2.1 < 1000) : msg_path l f (pathB l f.2.2.2.1 f.2.2.2.2.1) := by
 refine ⟨_, many_ok _ f, ?_⟩
 unfold pathB
 by_cases h : manyB l.length f.2.2.2.1 f.2.2.2.2.1 = 0
 ·rw [if_neg (by simpa using h), if_pos h]
  have hl := (manyB_zero h).2
  refine ⟨_, loops_first (fun k => (k : Int)) (pathBad l) () l.length (fun k hk => ?_) ?_, aft_err fun _ => rfl⟩
  ·have hw := len_wrap (n := k) (by omega)
   have hx := idx_of hk
   have st : ∀ o, (if 1000000 < max l[k].1 l[k].2 ∨ min l[k].1 l[k].2 < -1000000 then o = .inr (.inr 5) else o = .inl ((k + 1 : Nat) : Int)) → msg_path_l2 l (k : Int) o := by
    intro o ho
    unfold msg_path_l2
    rw [if_pos (by simp; omega)]
    refine ⟨_, hx, ?_⟩
    unfold msg_path_j3
    by_cases h1 : 1000000 < max l[k].1 l[k].2
    ·rw [if_pos (.inl h1)] at ho; rw [if_pos (by simpa using h1)]; simpa using ho
    ·rw [if_neg (by simpa using h1)]
     by_cases h2 : min l[k].1 l[k].2 < -1000000
     ·rw [if_pos (.inr h2)] at ho; rw [if_pos (by simpa using h2)]; exact ho
     ·rw [if_neg (not_or.2 ⟨h1, h2⟩)] at ho; rw [if_neg (by simpa using h2), hw]; exact ho
   unfold pathBad
   rw [List.getElem?_eq_getElem hk]
   by_cases hb : 1000000 < max l[k].1 l[k].2 ∨ min l[k].1 l[k].2 < -1000000
   ·simp only [if_pos hb]; exact ⟨fun e he => (by cases he; exact st _ (by rw [if_pos hb])), fun he => by cases he⟩
   ·simp only [if_neg hb]; exact ⟨fun e he => (by cases he), fun _ => st _ (by rw [if_neg hb])⟩
  ·unfold msg_path_l2
   rw [if_neg (by simp)]
 ·rw [if_pos (by simpa using h), if_neg h]
def cellsBad (l : List Int) (k : Nat) : Option Int := if l.getD k 0 < 0 ∨ 65535 < l.getD k 0 then some 5 else if 0 < k ∧ l.getD k 0 ≤ l.getD (k - 1) 0 then some 3 else none
def cellsL (l : List Int) : Int := errO (firstE () (cellsBad l) l.length)
def cellsB (l : List Int) (least most : Int) : Int := if manyB l.length least most = 0 then cellsL l else manyB l.length least most
theorem cells_ok (l : List Int) (f : Fd) (hm : f.2.2.2.2.1 < 1000) : msg_cells l f (cellsB l f.2.2.2.1 f.2.2.2.2.1) := by
 refine ⟨_, many_ok _ f, ?_⟩
 unfold cellsB
 by_cases h : manyB l.length f.2.2.2.1 f.2.2.2.2.1 = 0
 ·rw [if_neg (by simpa using h), if_pos h]
  have hl := (manyB_zero h).2
  refine ⟨_, loops_first (fun k => ((if k = 0 then -1 else l.getD (k - 1) 0), (k : Int))) (cellsBad l) () l.length (fun k hk => ?_) ?_, aft_err fun _ => rfl⟩
  ·have hw := len_wrap (n := k) (by omega)
   have hx := idx_of hk
   have hg : l.getD k 0 = l[k] := by simp [List.getD_eq_getElem?_getD, hk]
   have st : ∀ o, (if l[k] < 0 ∨ 65535 < l[k] then o = .inr (.inr 5) else if l[k] ≤ (if k = 0 then -1 else l.getD (k - 1) 0) then o = .inr (.inr 3) else o = .inl (l[k], ((k + 1 : Nat) : Int))) → msg_cells_l2 l ((if k = 0 then -1 else l.getD (k - 1) 0), (k : Int)) o := by
    intro o ho
    unfold msg_cells_l2
    rw [if_pos (by simp; omega)]
    refine ⟨_, hx, ?_⟩
    unfold msg_cells_j3
    have hj : (if l[k] < 0 ∨ 65535 < l[k] then o = .inr (.inr 5) else if (decide (l[k] ≤ (if k = 0 then -1 else l.getD (k - 1) 0))) = true then o = .inr (.inr 3) else o = .inl (l[k], (IntKind.i64.wrap ((k : Int) + 1)))) := by
     rw [hw]; simpa only [decide_eq_true_eq] using ho
    by_cases h1 : l[k] < 0
    ·rw [if_pos (.inl h1)] at hj; rw [if_pos (by simpa using h1)]; simpa using hj
    ·rw [if_neg (by simpa using h1)]
     by_cases h2 : 65535 < l[k]
     ·rw [if_pos (.inr h2)] at hj; rw [if_pos (by simpa using h2)]; exact hj
     ·rw [if_neg (not_or.2 ⟨h1, h2⟩)] at hj; rw [if_neg (by simpa using h2)]; exact hj
   unfold cellsBad
   rw [hg]
   by_cases hb : l[k] < 0 ∨ 65535 < l[k]
   ·simp only [if_pos hb]; exact ⟨fun e he => (by cases he; exact st _ (by rw [if_pos hb])), fun he => by cases he⟩
   ·have hc : (0 < k ∧ l[k] ≤ l.getD (k - 1) 0) ↔ l[k] ≤ (if k = 0 then -1 else l.getD (k - 1) 0) := by
     by_cases h2 : k = 0
     ·subst h2; simp; omega
     ·rw [if_neg h2]; omega
    simp only [if_neg hb, Nat.add_eq_zero_iff, Nat.one_ne_zero, and_false, if_false, Nat.add_sub_cancel, hg]
    by_cases hd : 0 < k ∧ l[k] ≤ l.getD (k - 1) 0
    ·simp only [if_pos hd]; exact ⟨fun e he => (by cases he; exact st _ (by rw [if_neg hb, if_pos (hc.1 hd)])), fun he => by cases he⟩
    ·simp only [if_neg hd]; exact ⟨fun e he => (by cases he), fun _ => st _ (by rw [if_neg hb, if_neg (fun h => hd (hc.2 h))])⟩
  ·unfold msg_cells_l2
   rw [if_neg (by simp)]
 ·rw [if_pos (by simpa using h), if_neg h]
theorem len_bints (s : ByteArray) : (bints s).length = s.size := by unfold bints; rw [List.length_map]; rfl
def textBad (s : ByteArray) (k : Nat) : Option Int := if (bints s).getD k 0 < 32 ∨ 126 < (bints s).getD k 0 then some 19 else none
def textL (s : ByteArray) : Int := errO (firstE () (textBad s) s.size)
def textB (s : ByteArray) (least most : Int) : Int := if manyB s.size least most = 0 then textL s else manyB s.size least most
theorem text_ok (s : ByteArray) (f : Fd) (hm : f.2.2.2.2.1 < 1000) : msg_text s f (textB s f.2.2.2.1 f.2.2.2.2.1) := by
 refine ⟨_, many_ok _ f, ?_⟩
 unfold textB
 by_cases h : manyB s.size f.2.2.2.1 f.2.2.2.2.1 = 0
 ·rw [if_neg (by simpa using h), if_pos h]
  have hl := (manyB_zero h).2
  refine ⟨by omega, _, loops_first (fun k => (k : Int)) (textBad s) () s.size (fun k hk => ?_) ?_, aft_err fun _ => rfl⟩
  ·have hw := len_wrap (n := k) (by omega)
   have hk' : k < (bints s).length := by rw [len_bints]; exact hk
   have hx := idx_of hk'
   have hg : (bints s).getD k 0 = (bints s)[k] := by simp [List.getD_eq_getElem?_getD, hk']
   have st : ∀ o, (if (bints s)[k] < 32 ∨ 126 < (bints s)[k] then o = .inr (.inr 19) else o = .inl ((k + 1 : Nat) : Int)) → msg_text_l2 s (k : Int) o := by
    intro o ho
    unfold msg_text_l2
    rw [if_pos (by simp only [decide_eq_true_eq]; omega)]
    refine ⟨_, hx, ?_⟩
    unfold msg_text_j3
    by_cases h1 : (bints s)[k] < 32
    ·rw [if_pos (.inl h1)] at ho; rw [if_pos (by simpa using h1)]; simpa using ho
    ·rw [if_neg (by simpa using h1)]
     by_cases h2 : 126 < (bints s)[k]
     ·rw [if_pos (.inr h2)] at ho; rw [if_pos (by simpa using h2)]; exact ho
     ·rw [if_neg (not_or.2 ⟨h1, h2⟩)] at ho; rw [if_neg (by simpa using h2), hw]; exact ho
   unfold textBad
   rw [hg]
   by_cases hb : (bints s)[k] < 32 ∨ 126 < (bints s)[k]
   ·simp only [if_pos hb]; exact ⟨fun e he => (by cases he; exact st _ (by rw [if_pos hb])), fun he => by cases he⟩
   ·simp only [if_neg hb]; exact ⟨fun e he => (by cases he), fun _ => st _ (by rw [if_neg hb])⟩
  ·unfold msg_text_l2
   rw [if_neg (by rw [len_bints]; simp)]
 ·rw [if_pos (by simpa using h), if_neg h]
def numBad (m : Mg) (f : Fd) : Prop := m.2.1.getD f.2.2.1.toNat 0 < f.2.2.2.1 ∨ f.2.2.2.2.1 < m.2.1.getD f.2.2.1.toNat 0
instance (m : Mg) (f : Fd) : Decidable (numBad m f) := by unfold numBad; infer_instance
def wrongB (m : Mg) (f : Fd) : Int :=
 if f.2.1 = 3 then pathB m.2.2.1 f.2.2.2.1 f.2.2.2.2.1 else if f.2.1 = 4 then cellsB m.2.2.2.1 f.2.2.2.1 f.2.2.2.2.1
 else if f.2.1 = 5 then textB m.2.2.2.2.1 f.2.2.2.1 f.2.2.2.2.1 else if f.2.1 = 6 then textB m.2.2.2.2.2 f.2.2.2.1 f.2.2.2.2.1
 else if numBad m f then 5 else 0
theorem wrong_fd (m : Mg) {f : Fd} (ok : fdOk f) : msg_wrong m f (wrongB m f) := by
 obtain ⟨_, _, ok⟩ := ok
 unfold msg_wrong wrongB
 simp only [decide_eq_true_eq]
 split
 ·exact ⟨_, path_ok _ f (by omega), rfl⟩
 split
 ·exact ⟨_, cells_ok _ f (by omega), rfl⟩
 split
 ·exact ⟨_, text_ok _ f (by omega), rfl⟩
 split
 ·exact ⟨_, text_ok _ f (by omega), rfl⟩
 refine ⟨by omega, by omega, ?_⟩
 unfold msg_wrong_j1
 by_cases h1 : m.2.1.getD f.2.2.1.toNat 0 < f.2.2.2.1
 ·have hb : numBad m f := Or.inl h1
  rw [if_pos h1, if_pos rfl, if_pos hb]
 ·rw [if_neg h1]
  by_cases h2 : f.2.2.2.2.1 < m.2.1.getD f.2.2.1.toNat 0
  ·have hb : numBad m f := Or.inr h2
   rw [if_pos (decide_eq_true h2), if_pos hb]
  ·have hb : ¬ numBad m f := not_or.2 ⟨h1, h2⟩
   rw [if_neg (by simpa using h2), if_neg hb]
end Go.Rel
/-! Plain laws: are lists, messages the same; copies; the document's view of a message. -/
namespace Go.Rel
open Go Go.Eng Go.Pl

theorem loops_eq {α : Type} [DecidableEq α] {xs ys : List α} {step : Int → Sum Int (Sum Unit Bool) → Prop} (hlen : xs.length = ys.length) (_hx : xs.length < 4611686018427387904)
    (hst : ∀ (k : Nat) x y, xs[k]? = some x → ys[k]? = some y → (x = y → step (k : Int) (.inl ((k + 1 : Nat) : Int))) ∧ (x ≠ y → step (k : Int) (.inr (.inr false)))) (hend : step (xs.length : Int) (.inr (.inl ()))) :
    ∃ e, Loops step 0 e ∧ (∀ (j : Unit → Bool → Prop), (∀ u, j u true) → Aft (fun p => j p (decide (xs = ys))) (fun p => decide (xs = ys) = p) e) := by
  let bad : Nat → Option Bool := fun k => if xs[k]? = ys[k]? then none else some false
  refine ⟨firstE () bad xs.length, loops_first (fun k => (k : Int)) bad () xs.length (fun k hk => ?_) hend, fun j hj => ?_⟩
  · have h1 := List.getElem?_eq_getElem hk
    have h2 : ys[k]? = some (ys[k]'(by omega)) := List.getElem?_eq_getElem (by omega)
    have hs := hst k _ _ h1 h2
    show (∀ e, (if xs[k]? = ys[k]? then none else some false) = some e → _) ∧ ((if xs[k]? = ys[k]? then none else some false) = none → _)
    rw [h1, h2]
    by_cases he : xs[k] = ys[k]'(by omega)
    · rw [if_pos (by rw [he])]; exact ⟨fun e h => (by cases h), fun _ => hs.1 he⟩
    · rw [if_neg (fun h => he (Option.some.inj h))]; exact ⟨fun e h => (by cases h; exact hs.2 he), fun h => (by cases h)⟩
  · by_cases he : xs = ys
    · rw [firstE_none (fun k hk => by show (if xs[k]? = ys[k]? then none else some false) = none; rw [if_pos (by rw [he])])]
      show j () _
      rw [decide_eq_true he]; exact hj ()
    · have : firstE () bad xs.length = .inr false := by
        unfold firstE
        cases hf : (List.range xs.length).findSome? bad with
        | some e =>
          obtain ⟨k, _, hk⟩ := List.exists_of_findSome?_eq_some hf
          have hk : (if xs[k]? = ys[k]? then none else some false) = some e := hk
          split at hk
          · cases hk
          · cases hk; rfl
        | none =>
          exact absurd (List.ext_getElem? fun k => by
            by_cases h : k < xs.length
            · have h2 := List.findSome?_eq_none_iff.1 hf k (List.mem_range.2 h)
              have h2 : (if xs[k]? = ys[k]? then none else some false) = none := h2
              split at h2
              · assumption
              · cases h2
            · rw [List.getElem?_eq_none (by omega), List.getElem?_eq_none (by omega)]) he
      rw [this]; exact decide_eq_false he
theorem ints_ok {a b : List Int} (h : a.length < 4611686018427387904) : ref01_Ints a b (decide (a = b)) := by
 unfold ref01_Ints
 by_cases hl : a.length = b.length
 ·rw [if_neg (by simp; omega)]
  obtain ⟨e, h1, h2⟩ := loops_eq (step := ref01_Ints_l2 a b) hl h (fun k x y hx hy => by
   have hk := (List.getElem?_eq_some_iff.1 hx).1
   have st : ∀ o, (if x = y then o = .inl ((k + 1 : Nat) : Int) else o = .inr (.inr false)) → ref01_Ints_l2 a b k o := by
    intro o ho
    unfold ref01_Ints_l2
    rw [if_pos (by simpa using hk)]
    refine ⟨x, idx_at rfl hx, y, idx_at rfl hy, ?_⟩
    by_cases e : x = y
    ·rw [if_pos e] at ho; rw [if_neg (by simp [e]), len_wrap (by omega)]; exact ho
    ·rw [if_neg e] at ho; rw [if_pos (by simp [e])]; exact ho
   exact ⟨fun e => st _ (by rw [if_pos e]), fun e => st _ (by rw [if_neg e])⟩) (by unfold ref01_Ints_l2; rw [if_neg (by simp)])
  exact ⟨e, h1, h2 ref01_Ints_j1 fun _ => rfl⟩
 ·rw [if_pos (by simp; omega), decide_eq_false]; intro e; exact hl (by rw [e])
theorem equalI_ok {a b : List Int} (h : a.length < 4611686018427387904) : slices_Equal_int_int a b (decide (a = b)) := by
 unfold slices_Equal_int_int
 by_cases hl : a.length = b.length
 ·rw [if_neg (by simp; omega)]
  obtain ⟨e, h1, h2⟩ := loops_eq (step := slices_Equal_int_int_l2 a b) hl h (fun k x y hx hy => by
   have hk := (List.getElem?_eq_some_iff.1 hx).1
   have st : ∀ o, (if x = y then o = .inl ((k + 1 : Nat) : Int) else o = .inr (.inr false)) → slices_Equal_int_int_l2 a b k o := by
    intro o ho
    unfold slices_Equal_int_int_l2
    rw [if_pos (by simpa using hk)]
    refine ⟨x, idx_at rfl hx, y, idx_at rfl hy, ?_⟩
    by_cases e : x = y
    ·rw [if_pos e] at ho; rw [if_neg (by simp [e]), len_wrap (by omega)]; exact ho
    ·rw [if_neg e] at ho; rw [if_pos (by simp [e])]; exact ho
   exact ⟨fun e => st _ (by rw [if_pos e]), fun e => st _ (by rw [if_neg e])⟩) (by unfold slices_Equal_int_int_l2; rw [if_neg (by simp)])
  exact ⟨e, h1, h2 slices_Equal_int_int_j1 fun _ => rfl⟩
 ·rw [if_pos (by simp; omega), decide_eq_false]; intro e; exact hl (by rw [e])
theorem equalP_ok {a b : List (Int × Int)} (h : a.length < 4611686018427387904) : slices_Equal_msg_Point_msg_Point a b (decide (a = b)) := by
 unfold slices_Equal_msg_Point_msg_Point
 by_cases hl : a.length = b.length
 ·rw [if_neg (by simp; omega)]
  obtain ⟨e, h1, h2⟩ := loops_eq (step := slices_Equal_msg_Point_msg_Point_l2 a b) hl h (fun k x y hx hy => by
   have hk := (List.getElem?_eq_some_iff.1 hx).1
   have st : ∀ o, (if x = y then o = .inl ((k + 1 : Nat) : Int) else o = .inr (.inr false)) → slices_Equal_msg_Point_msg_Point_l2 a b k o := by
    intro o ho
    unfold slices_Equal_msg_Point_msg_Point_l2
    rw [if_pos (by simpa using hk)]
    refine ⟨x, idx_at rfl hx, y, idx_at rfl hy, ?_⟩
    by_cases e : x = y
    ·rw [if_pos e] at ho; rw [if_neg (by simp [e]), len_wrap (by omega)]; exact ho
    ·rw [if_neg e] at ho; rw [if_pos (by
      obtain ⟨x1, x2⟩ := x; obtain ⟨y1, y2⟩ := y
      simp only [Prod.mk.injEq, not_and] at e
      by_cases h1 : x1 = y1
      ·simp [h1, e h1]
      ·simp [h1])]; exact ho
   exact ⟨fun e => st _ (by rw [if_pos e]), fun e => st _ (by rw [if_neg e])⟩) (by unfold slices_Equal_msg_Point_msg_Point_l2; rw [if_neg (by simp)])
  exact ⟨e, h1, h2 slices_Equal_msg_Point_msg_Point_j1 fun _ => rfl⟩
 ·rw [if_pos (by simp; omega), decide_eq_false]; intro e; exact hl (by rw [e])

def n6 (l : List Int) : List Int := [l.getD 0 0, l.getD 1 0, l.getD 2 0, l.getD 3 0, l.getD 4 0, l.getD 5 0]
theorem n6_eq {l : List Int} (h : l.length = 6) : n6 l = l := by
 match l, h with
 | [a, b, c, d, e, f], _ => rfl
theorem eqN6 (a b : List Int) : eqN 6 0 a b = decide (n6 a = n6 b) := by
 unfold eqN n6
 simp [List.range_succ]
def sameB (a b : Mg) : Bool := decide (a.1 = b.1 ∧ n6 a.2.1 = n6 b.2.1 ∧ a.2.2 = b.2.2)
theorem msame_ok {a b : Mg} (hp : a.2.2.1.length < 4611686018427387904) (hc : a.2.2.2.1.length < 4611686018427387904) : msg_Same a b (sameB a b) := by
 obtain ⟨k, n, p, c, t, g⟩ := a
 obtain ⟨k', n', p', c', t', g'⟩ := b
 unfold msg_Same sameB
 simp only [eqN6, decide_eq_true_eq, Prod.mk.injEq]
 by_cases h1 : k = k'
 ·by_cases h2 : n6 n = n6 n'
  ·rw [if_pos h1, if_pos h2]
   refine ⟨_, equalP_ok hp, ?_⟩
   by_cases h3 : p = p'
   ·rw [if_pos (by simpa using h3)]
    refine ⟨_, equalI_ok hc, ?_⟩
    by_cases h4 : c = c'
    ·rw [if_pos (by simpa using h4)]
     by_cases h5 : t = t'
     ·rw [if_pos h5]; simp only [msg_Same_j1, h1, h2, h3, h4, h5, true_and]
     ·rw [if_neg h5]; simp [msg_Same_j1, h5]
    ·rw [if_neg (by simpa using h4)]; simp [msg_Same_j1, h4]
   ·rw [if_neg (by simpa using h3)]; simp [msg_Same_j1, h3]
  ·rw [if_pos h1, if_neg h2]; simp [msg_Same_j1, h2]
 ·rw [if_neg h1]; simp [msg_Same_j1, h1]
def ofP (p : Int × Int) : List Int := [p.1, p.2]
theorem ofP_inj {p q : Int × Int} (h : ofP p = ofP q) : p = q := by
 obtain ⟨a, b⟩ := p; obtain ⟨c, d⟩ := q
 simp only [ofP, List.cons.injEq, and_true] at h
 rw [h.1, h.2]
def ofM (m : Mg) : Mr := (m.1, m.2.1, m.2.2.1.map ofP, m.2.2.2.1, m.2.2.2.2.1, m.2.2.2.2.2)
theorem ofm_ok {m : Mg} (hp : m.2.2.1.length < 1099511627776) : law17_Of m (ofM m) := by
 refine ⟨m.2.2.1.map ofP, ?_, rfl⟩
 have := loops_count (step := law17_Of_l2 m) (e := m.2.2.1.map ofP) (fun k => ((k : Int), (m.2.2.1.take k).map ofP)) m.2.2.1.length (fun k hk => by
  unfold law17_Of_l2
  rw [if_pos (by simpa using hk)]
  refine ⟨_, idx_of hk, _, idx_of hk, ?_⟩
  have hw := len_wrap (n := k) (by omega)
  simp only [List.length_map, List.length_take, List.length_cons, List.length_nil]
  refine ⟨by omega, by omega, ?_⟩
  rw [hw, List.take_succ_eq_append_getElem hk, List.map_append]; rfl) (by
  unfold law17_Of_l2
  rw [if_neg (by simp)]
  simp)
 simpa using this
theorem rsame_ok {a b : Mg} (hp : a.2.2.1.length < 4611686018427387904) (hc : a.2.2.2.1.length < 4611686018427387904) : ref17_Same (ofM a) (ofM b) (sameB a b) := by
 obtain ⟨k, n, p, c, t, g⟩ := a
 obtain ⟨k', n', p', c', t', g'⟩ := b
 unfold ref17_Same sameB ofM
 simp only [eqN6, Prod.mk.injEq]
 have jt : ∀ x y, ref17_Same_j1 x y true false := fun x y => by unfold ref17_Same_j1; rw [if_pos rfl]
 by_cases h1 : k = k'
 ·rw [if_neg (by simp [h1])]
  by_cases h2 : n6 n = n6 n'
  ·rw [if_neg (by simp [h2])]
   by_cases h3 : p.length = p'.length
   ·rw [if_neg (by simp [h3])]
    refine ⟨_, ints_ok hc, ?_⟩
    by_cases h4 : c = c'
    ·rw [if_neg (by simp [h4])]
     by_cases h5 : t = t'
     ·rw [if_neg (by simp [h5])]
      by_cases h6 : g = g'
      ·subst h1; subst h4; subst h5; subst h6
       rw [decide_eq_true rfl]
       unfold ref17_Same_j1
       rw [if_neg (by simp)]
       simp only [true_and, and_true, h2]
       have hl : (p.map ofP).length = (p'.map ofP).length := by simp [h3]
       obtain ⟨e, he, ha⟩ := loops_eq (xs := p.map ofP) (ys := p'.map ofP) (step := ref17_Same_l3 (k, n, p.map ofP, c, t, g) (k, n', p'.map ofP, c, t, g)) hl (by simpa using hp) (fun q x y hx hy => by
        have hq := (List.getElem?_eq_some_iff.1 hx).1
        simp only [List.length_map] at hq
        simp only at hp
        have st : ∀ o, (if x = y then o = .inl ((q + 1 : Nat) : Int) else o = .inr (.inr false)) → ref17_Same_l3 (k, n, p.map ofP, c, t, g) (k, n', p'.map ofP, c, t, g) q o := by
         intro o ho
         unfold ref17_Same_l3
         rw [if_pos (by simpa using hq)]
         refine ⟨x, idx_at rfl hx, y, idx_at rfl hy, ?_⟩
         rw [List.getElem?_map] at hx hy
         obtain ⟨u, hu, rfl⟩ := Option.map_eq_some_iff.1 hx
         obtain ⟨v, hv, rfl⟩ := Option.map_eq_some_iff.1 hy
         have hh : eqN 2 0 (ofP u) (ofP v) = decide (ofP u = ofP v) := by
          unfold eqN ofP; simp [List.range_succ]
         rw [hh]
         by_cases e : ofP u = ofP v
         ·rw [if_pos e] at ho; rw [if_neg (by simp [e]), len_wrap (by omega)]; exact ho
         ·rw [if_neg e] at ho; rw [if_pos (by simp [e])]; exact ho
        exact ⟨fun e => st _ (by rw [if_pos e]), fun e => st _ (by rw [if_neg e])⟩) (by unfold ref17_Same_l3; rw [if_neg (by simp)])
       refine ⟨e, he, ?_⟩
       have hd : (decide (p = p') : Bool) = decide (p.map ofP = p'.map ofP) := by
        refine decide_eq_decide.2 ⟨fun h => by rw [h], fun h => ?_⟩
        exact List.map_inj_right (fun _ _ => ofP_inj) |>.1 h
       rw [hd]
       exact ha ref17_Same_j2 fun _ => rfl
      ·rw [decide_eq_false h6, decide_eq_false (by simp [h6])]; exact jt _ _
     ·rw [if_pos (by simp [h5]), decide_eq_false (by simp [h5])]; exact jt _ _
    ·rw [if_pos (by simp [h4]), decide_eq_false (by simp [h4])]; exact jt _ _
   ·rw [if_pos (by simp; omega), decide_eq_false (by rintro ⟨_, _, h, _⟩; exact h3 (by rw [h]))]; exact jt _ _
  ·rw [if_pos (by simp [h2]), decide_eq_false (by simp [h2])]; exact jt _ _
 ·rw [if_pos (by simp [h1]), decide_eq_false (by simp [h1])]; exact jt _ _
theorem ext_min (s : ByteArray) (n : Nat) : s.extract 0 (min (s.size : Int) (n : Int)).toNat = s.extract 0 n := by
 by_cases h : s.size ≤ n
 ·rw [show (min (s.size : Int) (n : Int)).toNat = s.size by omega]
  have hs : s.data.toList.length = s.size := rfl
  apply ByteArray.ext
  apply Array.ext'
  rw [ByteArray.data_extract, ByteArray.data_extract, Array.toList_extract, Array.toList_extract, List.extract_eq_take_drop, List.extract_eq_take_drop]
  simp only [List.drop_zero, Nat.sub_zero]
  rw [List.take_of_length_le (by omega), List.take_of_length_le (by omega)]
 ·rw [show (min (s.size : Int) (n : Int)).toNat = n by omega]
end Go.Rel
/-! Plain laws: what is wrong with a message: the program's answer and the document's. -/
namespace Go.Rel
open Go Go.Eng Go.Pl

def sortN (f : Fd) : Prop := f.2.1 ≠ 3 ∧ f.2.1 ≠ 4 ∧ f.2.1 ≠ 5 ∧ f.2.1 ≠ 6
instance (f : Fd) : Decidable (sortN f) := by unfold sortN; infer_instance
def hasS (l : List Fd) (s : Int) : Bool := l.any fun f => decide (f.2.1 = s)
def hasN (l : List Fd) (p : Nat) : Bool := l.any fun f => decide (sortN f ∧ f.2.2.1.toNat = p)
def zN (l : List Fd) (N : List Int) (p : Nat) : Int := if hasN l p = true then 0 else N.getD p 0
def leftB (l : List Fd) (m : Mg) : Mg :=
 (m.1, [zN l m.2.1 0, zN l m.2.1 1, zN l m.2.1 2, zN l m.2.1 3, zN l m.2.1 4, zN l m.2.1 5], if hasS l 3 = true then [] else m.2.2.1, if hasS l 4 = true then [] else m.2.2.2.1, if hasS l 5 = true then bstr [] else m.2.2.2.2.1, if hasS l 6 = true then bstr [] else m.2.2.2.2.2)
theorem hasS_snoc (l : List Fd) (f : Fd) (s : Int) : hasS (l ++ [f]) s = (hasS l s || decide (f.2.1 = s)) := by simp [hasS]
theorem hasN_snoc (l : List Fd) (f : Fd) (p : Nat) : hasN (l ++ [f]) p = (hasN l p || decide (sortN f ∧ f.2.2.1.toNat = p)) := by simp [hasN]
theorem zN_same {l : List Fd} {f : Fd} (h : ¬ sortN f) (N : List Int) (p : Nat) : zN (l ++ [f]) N p = zN l N p := by
 unfold zN; rw [hasN_snoc, decide_eq_false (fun hh => h hh.1), Bool.or_false]
theorem zN_put {l : List Fd} {f : Fd} (h : sortN f) (N : List Int) {p : Nat} (hp : p < 6) : (putN 6 0 [zN l N 0, zN l N 1, zN l N 2, zN l N 3, zN l N 4, zN l N 5] f.2.2.1.toNat 0).getD p 0 = zN (l ++ [f]) N p := by
 rw [putN_getD hp]
 have e : [zN l N 0, zN l N 1, zN l N 2, zN l N 3, zN l N 4, zN l N 5].getD p 0 = zN l N p := by
  match p, hp with
  | 0, _ => rfl
  | 1, _ => rfl
  | 2, _ => rfl
  | 3, _ => rfl
  | 4, _ => rfl
  | 5, _ => rfl
 rw [e]
 unfold zN
 rw [hasN_snoc]
 by_cases hq : p = f.2.2.1.toNat
 ·rw [if_pos hq, decide_eq_true ⟨h, hq.symm⟩]; simp
 ·rw [if_neg hq, decide_eq_false (fun hh => hq hh.2.symm), Bool.or_false]
theorem without_ok (l : List Fd) (m : Mg) {f : Fd} (ok : fdOk f) : msg_without (leftB l m) f (leftB (l ++ [f]) m) := by
 obtain ⟨_, _, ok⟩ := ok
 unfold msg_without
 simp only [decide_eq_true_eq]
 have no : ∀ {s : Int}, f.2.1 ≠ s → hasS (l ++ [f]) s = hasS l s := fun h => by rw [hasS_snoc, decide_eq_false h, Bool.or_false]
 have yes : ∀ {s : Int}, f.2.1 = s → hasS (l ++ [f]) s = true := fun h => by rw [hasS_snoc, decide_eq_true h, Bool.or_true]
 by_cases h3 : f.2.1 = 3
 ·rw [if_pos h3]
  have hs : ¬ sortN f := fun h => h.1 h3
  unfold msg_without_j1 leftB
  simp only [zN_same hs, yes h3, no (s := 4) (by omega), no (s := 5) (by omega), no (s := 6) (by omega), List.getD_cons_zero, List.getD_cons_succ, if_true]
 rw [if_neg h3]
 by_cases h4 : f.2.1 = 4
 ·rw [if_pos h4]
  have hs : ¬ sortN f := fun h => h.2.1 h4
  unfold msg_without_j1 leftB
  simp only [zN_same hs, yes h4, no h3, no (s := 5) (by omega), no (s := 6) (by omega), List.getD_cons_zero, List.getD_cons_succ, if_true]
 rw [if_neg h4]
 by_cases h5 : f.2.1 = 5
 ·rw [if_pos h5]
  have hs : ¬ sortN f := fun h => h.2.2.1 h5
  unfold msg_without_j1 leftB
  simp only [zN_same hs, yes h5, no h3, no h4, no (s := 6) (by omega), List.getD_cons_zero, List.getD_cons_succ, if_true]
 rw [if_neg h5]
 by_cases h6 : f.2.1 = 6
 ·rw [if_pos h6]
  have hs : ¬ sortN f := fun h => h.2.2.2 h6
  unfold msg_without_j1 leftB
  simp only [zN_same hs, yes h6, no h3, no h4, no h5, List.getD_cons_zero, List.getD_cons_succ, if_true]
 rw [if_neg h6]
 have hs : sortN f := ⟨h3, h4, h5, h6⟩
 refine ⟨by omega, by omega, ?_⟩
 unfold msg_without_j1 leftB
 simp only [no h3, no h4, no h5, no h6]
 rw [zN_put hs m.2.1 (p := 0) (by omega), zN_put hs m.2.1 (p := 1) (by omega), zN_put hs m.2.1 (p := 2) (by omega), zN_put hs m.2.1 (p := 3) (by omega), zN_put hs m.2.1 (p := 4) (by omega), zN_put hs m.2.1 (p := 5) (by omega)]
def firstW (m : Mg) : List Fd → Int
 | [] => 0
 | f :: l => if wrongB m f ≠ 0 then wrongB m f else firstW m l
abbrev Ex := Int × Int × Int × Int × Int × Int × Int × Int × List (Int × Int) × List Int × ByteArray × ByteArray
def exB (e : Int) (x : Mg) : Ex := (e, x.1, x.2.1.getD 0 0, x.2.1.getD 1 0, x.2.1.getD 2 0, x.2.1.getD 3 0, x.2.1.getD 4 0, x.2.1.getD 5 0, x.2.2.1, x.2.2.2.1, x.2.2.2.2.1, x.2.2.2.2.2)
def stB (e i : Int) (x : Mg) : Int × Ex := (e, i, x.1, x.2.1.getD 0 0, x.2.1.getD 1 0, x.2.1.getD 2 0, x.2.1.getD 3 0, x.2.1.getD 4 0, x.2.1.getD 5 0, x.2.2.1, x.2.2.2.1, x.2.2.2.2.1, x.2.2.2.2.2)
theorem check_run (m : Mg) (fs : List Fd) (hfs : fs.length < 100) (hok : ∀ f ∈ fs, fdOk f) : ∀ (l pre : List Fd) (e : Int), fs = pre ++ l → ∃ ex, Loops (msg_Check_l3 m fs) (stB e (pre.length : Int) (leftB pre m)) ex ∧ (firstW m l ≠ 0 → ex.1 = firstW m l) ∧ (firstW m l = 0 → ex = exB (if l = [] then e else 0) (leftB fs m))
 | [], pre, e, h => by
  refine ⟨exB e (leftB fs m), .done ?_, fun h => absurd rfl h, fun _ => by rw [if_pos rfl]⟩
  rw [List.append_nil] at h
  unfold msg_Check_l3
  rw [if_neg (by rw [h]; simp [stB])]
  rw [h]; rfl
 | f :: l, pre, e, h => by
  have hlen : fs.length = pre.length + l.length + 1 := by rw [h]; simp; omega
  have hat : fs[pre.length]? = some f := by rw [h]; simp
  have hw := len_wrap (n := pre.length) (by omega)
  have hf := hok f (by rw [h]; simp)
  by_cases hz : wrongB m f = 0
  ·obtain ⟨ex, h1, h2, h3⟩ := check_run m fs hfs hok l (pre ++ [f]) 0 (by rw [h]; simp)
   simp only [firstW, hz, ne_eq, not_true, if_false]
   refine ⟨ex, .next ?_ h1, h2, fun hh => ?_⟩
   ·unfold msg_Check_l3
    rw [if_pos (by simp [stB]; omega)]
    refine ⟨f, idx_at rfl hat, 0, by rw [← hz]; exact wrong_fd m hf, ?_⟩
    rw [if_neg (by simp)]
    refine ⟨leftB (pre ++ [f]) m, without_ok pre m hf, ?_⟩
    simp only [stB, List.length_append, List.length_cons, List.length_nil]
    rw [hw]
   ·rw [h3 hh]; split <;> rfl
  ·simp only [firstW, ne_eq, hz, not_false_iff, if_true]
   refine ⟨exB (wrongB m f) (leftB pre m), .done ?_, fun _ => rfl, fun hh => hh.elim⟩
   unfold msg_Check_l3
   rw [if_pos (by simp [stB]; omega)]
   refine ⟨f, idx_at rfl hat, _, wrong_fd m hf, ?_⟩
   rw [if_pos (by simpa using hz)]
   rfl
def zeroM (k : Int) : Mg := (k, List.replicate 6 0, [], [], bstr [], bstr [])
def checkB (m : Mg) : Int := if fieldsB m.1 = [] then 9 else if firstW m (fieldsB m.1) ≠ 0 then firstW m (fieldsB m.1) else if sameB (leftB (fieldsB m.1) m) (zeroM m.1) = true then 0 else 3
theorem len_if {α : Type} {c : Prop} [Decidable c] {l : List α} {n : Nat} (h : l.length < n) (hn : 0 < n) : (if c then [] else l).length < n := by split <;> simp [h, hn]
theorem mcheck_ok {m : Mg} (hp : m.2.2.1.length < 4611686018427387904) (hc : m.2.2.2.1.length < 4611686018427387904) : msg_Check m (checkB m) := by
 obtain ⟨ex, h1, h2, h3⟩ := check_run m (fieldsB m.1) (by have := fields_len m.1; omega) (fields_fd m.1) (fieldsB m.1) [] 9 rfl
 refine ⟨_, fields_ok m.1, ex, h1, ?_⟩
 unfold checkB msg_Check_j1
 by_cases hl : fieldsB m.1 = []
 ·rw [if_pos hl]
  have : firstW m (fieldsB m.1) = 0 := by rw [hl]; rfl
  have hx := h3 this
  rw [if_pos hl] at hx
  rw [hx, if_neg (by simp [exB])]
  unfold msg_Check_j2
  rw [if_neg (by simp)]; rfl
 ·rw [if_neg hl]
  by_cases hf : firstW m (fieldsB m.1) = 0
  ·rw [if_neg (c := firstW m (fieldsB m.1) ≠ 0) (by simpa using hf)]
   have hx := h3 hf
   rw [if_neg hl] at hx
   rw [hx, if_pos (c := (decide ((exB 0 (leftB (fieldsB m.1) m)).1 = 0)) = true) (by simp [exB])]
   refine ⟨sameB (leftB (fieldsB m.1) m) (zeroM m.1), msame_ok (a := leftB (fieldsB m.1) m) (b := zeroM m.1) (len_if hp (by decide)) (len_if hc (by decide)), ?_⟩
   unfold msg_Check_j2
   cases hs : sameB (leftB (fieldsB m.1) m) (zeroM m.1) <;> rfl
  ·rw [if_pos (c := firstW m (fieldsB m.1) ≠ 0) hf, if_neg (c := (decide (ex.1 = 0)) = true) (by rw [h2 hf]; simpa using hf)]
   unfold msg_Check_j2
   rw [if_neg (by simp), h2 hf]

/-! The document's check. -/
theorem rtext_ok (s : ByteArray) (most : Int) (hs : s.size < 4611686018427387904) : ref17_text s most (textB s 0 most) := by
 unfold ref17_text textB
 by_cases h : manyB s.size 0 most = 0
 ·rw [if_neg (by have := manyB_zero h; simp; omega), if_pos h]
  refine ⟨_, loops_first (fun k => (k : Int)) (textBad s) () s.size (fun k hk => ?_) ?_, aft_err fun _ => rfl⟩
  ·have hw := len_wrap (n := k) (by omega)
   have hk' : k < (bints s).length := by rw [len_bints]; exact hk
   have hx := idx_of hk'
   have hg : (bints s).getD k 0 = (bints s)[k] := by simp [List.getD_eq_getElem?_getD, hk']
   have st : ∀ o, (if (bints s)[k] < 32 ∨ 126 < (bints s)[k] then o = .inr (.inr 19) else o = .inl ((k + 1 : Nat) : Int)) → ref17_text_l2 s (k : Int) o := by
    intro o ho
    unfold ref17_text_l2
    rw [if_pos (by simp only [decide_eq_true_eq]; omega)]
    refine ⟨_, hx, ?_⟩
    by_cases h1 : (bints s)[k] < 32
    ·rw [if_pos (.inl h1)] at ho; rw [if_pos (by simpa using h1)]; unfold ref17_text_j3; rw [if_pos rfl]; exact ho
    ·rw [if_neg (by simpa using h1)]
     refine ⟨_, hx, ?_⟩
     unfold ref17_text_j3
     by_cases h2 : 126 < (bints s)[k]
     ·rw [if_pos (.inr h2)] at ho; rw [if_pos (by simpa using h2)]; exact ho
     ·rw [if_neg (not_or.2 ⟨h1, h2⟩)] at ho; rw [if_neg (by simpa using h2), hw]; exact ho
   unfold textBad
   rw [hg]
   by_cases hb : (bints s)[k] < 32 ∨ 126 < (bints s)[k]
   ·simp only [if_pos hb]; exact ⟨fun e he => (by cases he; exact st _ (by rw [if_pos hb])), fun he => by cases he⟩
   ·simp only [if_neg hb]; exact ⟨fun e he => (by cases he), fun _ => st _ (by rw [if_neg hb])⟩
  ·unfold ref17_text_l2
   rw [if_neg (by simp)]
 ·rw [if_neg h]
  have hn : ¬ ((s.size : Int) < 0) := by omega
  unfold manyB at h ⊢
  rw [if_neg hn] at h ⊢
  by_cases h2 : most < (s.size : Int)
  ·rw [if_pos (by simpa using h2), if_pos h2]
  ·rw [if_neg h2] at h; exact absurd rfl h
theorem rcells_ok (l : List Int) (hl : l.length < 4611686018427387904) : ref17_cells l (cellsB l 1 32) := by
 unfold ref17_cells cellsB manyB
 simp only [decide_eq_true_eq]
 by_cases h0 : (l.length : Int) = 0
 ·rw [if_pos h0, if_neg (by rw [if_pos (by omega)]; decide), if_pos (by omega)]
 rw [if_neg h0, if_neg (c := (l.length : Int) < 1) (by omega)]
 by_cases h1 : 32 < (l.length : Int)
 ·rw [if_pos h1, if_pos h1, if_neg (by decide)]
 rw [if_neg h1, if_neg h1, if_pos rfl]
 refine ⟨_, loops_first (fun k => (k : Int)) (cellsBad l) () l.length (fun k hk => ?_) ?_, aft_err fun _ => rfl⟩
 ·have hw := len_wrap (n := k) (by omega)
  have hx := idx_of hk
  have hg : l.getD k 0 = l[k] := by simp [List.getD_eq_getElem?_getD, hk]
  have st : ∀ o, (if l[k] < 0 ∨ 65535 < l[k] then o = .inr (.inr 5) else if 0 < k ∧ l.getD k 0 ≤ l.getD (k - 1) 0 then o = .inr (.inr 3) else o = .inl ((k + 1 : Nat) : Int)) → ref17_cells_l2 l (k : Int) o := by
   intro o ho
   unfold ref17_cells_l2
   rw [if_pos (by simpa using hk)]
   refine ⟨_, hx, ?_⟩
   by_cases h2 : l[k] < 0
   ·rw [if_pos (.inl h2)] at ho; rw [if_pos (by simpa using h2)]; unfold ref17_cells_j3; rw [if_pos rfl]; exact ho
   ·rw [if_neg (by simpa using h2)]
    refine ⟨_, hx, ?_⟩
    unfold ref17_cells_j3
    by_cases h3 : 65535 < l[k]
    ·rw [if_pos (.inr h3)] at ho; rw [if_pos (by simpa using h3)]; exact ho
    ·rw [if_neg (not_or.2 ⟨h2, h3⟩)] at ho
     rw [if_neg (by simpa using h3)]
     by_cases hk0 : 0 < k
     ·have hx2 : idx l (IntKind.i64.wrap ((k : Int) - 1)) l[k - 1] := by rw [w_small (by omega) (by omega)]; exact idx_at (k := k - 1) (by omega) (by simp [show k - 1 < l.length by omega])
      refine ⟨_, fun _ => hx, _, fun _ => hx2, ?_⟩
      have hg2 : l.getD (k - 1) 0 = l[k - 1] := by simp [List.getD_eq_getElem?_getD, show k - 1 < l.length by omega]
      rw [hg, hg2] at ho
      have hd : decide ((0 : Int) < (k : Int)) = true := by simpa using hk0
      rw [hd, Bool.true_and]
      by_cases h4 : l[k] ≤ l[k - 1]
      ·rw [if_pos ⟨hk0, h4⟩] at ho; rw [if_pos (by simpa using h4)]; exact ho
      ·rw [if_neg (fun h => h4 h.2)] at ho; rw [if_neg (by simpa using h4), hw]; exact ho
     ·refine ⟨0, fun h => absurd h (by simpa using hk0), 0, fun h => absurd h (by simpa using hk0), ?_⟩
      rw [if_neg (fun h => hk0 h.1)] at ho
      rw [if_neg (by simp; omega), hw]; exact ho
  unfold cellsBad
  rw [hg]
  rw [hg] at st
  by_cases hb : l[k] < 0 ∨ 65535 < l[k]
  ·simp only [if_pos hb]; exact ⟨fun e he => (by cases he; exact st _ (by rw [if_pos hb])), fun he => by cases he⟩
  ·simp only [if_neg hb] at st ⊢
   by_cases hd : 0 < k ∧ l[k] ≤ l.getD (k - 1) 0
   ·simp only [if_pos hd] at st ⊢; exact ⟨fun e he => (by cases he; exact st _ rfl), fun he => by cases he⟩
   ·simp only [if_neg hd] at st ⊢; exact ⟨fun e he => (by cases he), fun _ => st _ rfl⟩
 ·unfold ref17_cells_l2
  rw [if_neg (by simp)]
theorem rpath_ok (l : List (Int × Int)) (hl : l.length < 4611686018427387904) : ref17_path (l.map ofP) (pathB l 1 16) := by
 unfold ref17_path pathB manyB
 simp only [decide_eq_true_eq, List.length_map]
 by_cases h0 : (l.length : Int) = 0
 ·rw [if_pos h0, if_neg (by rw [if_pos (by omega)]; decide), if_pos (by omega)]
 rw [if_neg h0, if_neg (c := (l.length : Int) < 1) (by omega)]
 by_cases h1 : 16 < (l.length : Int)
 ·rw [if_pos h1, if_pos h1, if_neg (by decide)]
 rw [if_neg h1, if_neg h1, if_pos rfl]
 refine ⟨_, loops_first (fun k => (k : Int)) (pathBad l) () l.length (fun k hk => ?_) ?_, aft_err fun _ => rfl⟩
 ·have hw := len_wrap (n := k) (by omega)
  have hx : idx (l.map ofP) (k : Int) (ofP l[k]) := idx_at rfl (by simp [hk])
  generalize l[k] = p at *
  have st : ∀ o, (if 1000000 < max p.1 p.2 ∨ min p.1 p.2 < -1000000 then o = .inr (.inr 5) else o = .inl ((k + 1 : Nat) : Int)) → ref17_path_l2 (l.map ofP) (k : Int) o := by
   intro o ho
   unfold ref17_path_l2
   rw [if_pos (by simpa using hk)]
   have s5 : ∀ (i : Int) (b : Bool) o', (if b = true then o' = .inr (.inr 5) else o' = .inl (i + 1)) → 0 ≤ i → i < 2 → ref17_path_j5 i b o' := by
    intro i b o' h h0 h2; unfold ref17_path_j5; rw [w_small (by omega) (by omega)]; exact h
   have sl : ∀ (i : Int) (v : Int), 0 ≤ i → i < 2 → (ofP p).getD i.toNat 0 = v → ∀ o', (if v < -1000000 ∨ 1000000 < v then o' = .inr (.inr 5) else o' = .inl (i + 1)) → ref17_path_l4 (l.map ofP) (k : Int) i o' := by
    intro i v h0 h2 hv o' ho'
    unfold ref17_path_l4
    rw [if_pos (by simpa using h2)]
    refine ⟨_, hx, h0, h2, ?_⟩
    rw [hv]
    by_cases h3 : v < -1000000
    ·rw [if_pos (by simpa using h3)]; rw [if_pos (.inl h3)] at ho'; exact s5 i true o' (by rw [if_pos rfl]; exact ho') h0 h2
    ·rw [if_neg (by simpa using h3)]
     refine ⟨_, hx, h0, h2, ?_⟩
     rw [hv]
     refine s5 i _ o' ?_ h0 h2
     by_cases h4 : 1000000 < v
     ·rw [if_pos (.inr h4)] at ho'; rw [if_pos (by simpa using h4)]; exact ho'
     ·rw [if_neg (not_or.2 ⟨h3, h4⟩)] at ho'; rw [if_neg (by simpa using h4)]; exact ho'
   by_cases ha : p.1 < -1000000 ∨ 1000000 < p.1
   ·rw [if_pos (by omega)] at ho
    exact ⟨.inr 5, .done (sl 0 p.1 (by omega) (by omega) rfl _ (by rw [if_pos ha])), ho⟩
   ·by_cases hb : p.2 < -1000000 ∨ 1000000 < p.2
    ·rw [if_pos (by omega)] at ho
     exact ⟨.inr 5, .next (sl 0 p.1 (by omega) (by omega) rfl _ (by rw [if_neg ha]; rfl)) (.done (sl 1 p.2 (by omega) (by omega) rfl _ (by rw [if_pos hb]))), ho⟩
    ·rw [if_neg (by omega)] at ho
     refine ⟨.inl (), .next (sl 0 p.1 (by omega) (by omega) rfl _ (by rw [if_neg ha]; rfl)) (.next (sl 1 p.2 (by omega) (by omega) rfl _ (by rw [if_neg hb])) (.done ?_)), ?_⟩
     ·unfold ref17_path_l4; rw [if_neg (by decide)]
     ·show ref17_path_j3 _ () _; unfold ref17_path_j3; rw [hw]; exact ho
  have hpb : pathBad l k = if 1000000 < max p.1 p.2 ∨ min p.1 p.2 < -1000000 then some 5 else none := by
   unfold pathBad
   have : l[k]? = some p := by
    have := hx.2
    rw [List.getElem?_map] at this
    obtain ⟨u, hu, he⟩ := Option.map_eq_some_iff.1 this
    rw [show ((k : Int).toNat) = k by omega] at hu
    rw [hu, ofP_inj he]
   rw [this]
  rw [hpb]
  by_cases hb : 1000000 < max p.1 p.2 ∨ min p.1 p.2 < -1000000
  ·simp only [if_pos hb]; exact ⟨fun e he => (by cases he; exact st _ (by rw [if_pos hb])), fun he => by cases he⟩
  ·simp only [if_neg hb]; exact ⟨fun e he => (by cases he), fun _ => st _ (by rw [if_neg hb])⟩
 ·unfold ref17_path_l2
  rw [if_neg (by simp)]

def stR (i : Int) (l : List Fd) : Int × Bool × Bool × Bool × Bool × Bool × Bool × Bool × Bool × Bool × Bool × Bool × Bool × Bool :=
 (i, hasS l 0, hasS l 1, hasS l 2, hasS l 3, hasS l 4, hasS l 5, hasS l 6, hasN l 0, hasN l 1, hasN l 2, hasN l 3, hasN l 4, hasN l 5)
theorem putS_ok (l : List Fd) (f : Fd) (h0 : 0 ≤ f.2.1) (j : Nat) (hj : j < 7) : (putN 7 false [hasS l 0, hasS l 1, hasS l 2, hasS l 3, hasS l 4, hasS l 5, hasS l 6] f.2.1.toNat true).getD j false = hasS (l ++ [f]) (j : Int) := by
 rw [putN_getD hj]
 have e : [hasS l 0, hasS l 1, hasS l 2, hasS l 3, hasS l 4, hasS l 5, hasS l 6].getD j false = hasS l (j : Int) := by
  match j, hj with
  | 0, _ => rfl
  | 1, _ => rfl
  | 2, _ => rfl
  | 3, _ => rfl
  | 4, _ => rfl
  | 5, _ => rfl
  | 6, _ => rfl
 rw [e, hasS_snoc]
 by_cases hq : j = f.2.1.toNat
 ·rw [if_pos hq, decide_eq_true (by omega)]; simp
 ·rw [if_neg hq, decide_eq_false (by omega)]; simp
theorem nN_same {l : List Fd} {f : Fd} (h : ¬ sortN f) (p : Nat) : hasN (l ++ [f]) p = hasN l p := by rw [hasN_snoc, decide_eq_false (fun hh => h hh.1), Bool.or_false]
theorem nN_put {l : List Fd} {f : Fd} (h : sortN f) {p : Nat} (hp : p < 6) : (putN 6 false [hasN l 0, hasN l 1, hasN l 2, hasN l 3, hasN l 4, hasN l 5] f.2.2.1.toNat true).getD p false = hasN (l ++ [f]) p := by
 rw [putN_getD hp]
 have e : [hasN l 0, hasN l 1, hasN l 2, hasN l 3, hasN l 4, hasN l 5].getD p false = hasN l p := by
  match p, hp with
  | 0, _ => rfl
  | 1, _ => rfl
  | 2, _ => rfl
  | 3, _ => rfl
  | 4, _ => rfl
  | 5, _ => rfl
 rw [e, hasN_snoc]
 by_cases hq : p = f.2.2.1.toNat
 ·rw [if_pos hq, decide_eq_true ⟨h, hq.symm⟩]; simp
 ·rw [if_neg hq, decide_eq_false (fun hh => hq hh.2.symm), Bool.or_false]
abbrev SB := Bool × Bool × Bool × Bool × Bool × Bool × Bool × Bool × Bool × Bool × Bool × Bool × Bool
theorem rj7_ok (l : List Fd) (f : Fd) (hl : l.length < 100) (h0 : 0 ≤ f.2.1) (e : Int) {o : Sum (Int × SB) (Sum SB Int)} (ho : if e ≠ 0 then o = .inr (.inr e) else o = .inl (stR ((l.length + 1 : Nat) : Int) (l ++ [f]))) :
    ref17_Check_j7 (stR (l.length : Int) l) f (e, hasN (l ++ [f]) 0, hasN (l ++ [f]) 1, hasN (l ++ [f]) 2, hasN (l ++ [f]) 3, hasN (l ++ [f]) 4, hasN (l ++ [f]) 5) o := by
  unfold ref17_Check_j7
  by_cases he : e = 0
  · rw [if_neg (by simpa using he)]
    rw [if_neg (by simpa using he)] at ho
    simp only [stR]
    rw [putS_ok l f h0 0 (by omega), putS_ok l f h0 1 (by omega), putS_ok l f h0 2 (by omega), putS_ok l f h0 3 (by omega), putS_ok l f h0 4 (by omega), putS_ok l f h0 5 (by omega), putS_ok l f h0 6 (by omega), len_wrap (by omega)]
    exact ho
  · rw [if_pos (by simpa using he)]
    rw [if_pos he] at ho; exact ho
theorem rcheck_run (m : Mg) (hp : m.2.2.1.length < 4611686018427387904) (hc : m.2.2.2.1.length < 4611686018427387904) (ht : m.2.2.2.2.1.size < 4611686018427387904) (hg : m.2.2.2.2.2.size < 4611686018427387904) (fs : List Fd) (hfs : fs.length < 100) (hok : ∀ f ∈ fs, fdOk f) : ∀ (l pre : List Fd), fs = pre ++ l →
    Loops (ref17_Check_l6 (ofM m) fs) (stR (pre.length : Int) pre) (if firstW m l ≠ 0 then .inr (firstW m l) else .inl (stR 0 fs).2)
  | [], pre, h => by
    rw [List.append_nil] at h
    refine .done ?_
    unfold ref17_Check_l6
    rw [if_neg (by rw [h]; simp [stR]), h]
    rfl
  | f :: l, pre, h => by
    have hlen : fs.length = pre.length + l.length + 1 := by rw [h]; simp; omega
    have hat : fs[pre.length]? = some f := by rw [h]; simp
    have hx : idx fs (pre.length : Int) f := idx_at rfl hat
    have hf := hok f (by rw [h]; simp)
    have rest := rcheck_run m hp hc ht hg fs hfs hok l (pre ++ [f]) (by rw [h]; simp)
    have st : ∀ o, (if wrongB m f ≠ 0 then o = .inr (.inr (wrongB m f)) else o = .inl (stR ((pre.length + 1 : Nat) : Int) (pre ++ [f]))) → ref17_Check_l6 (ofM m) fs (stR (pre.length : Int) pre) o := by
      intro o ho
      obtain ⟨_, _, ok⟩ := hf
      unfold ref17_Check_l6
      rw [if_pos (by simp [stR]; omega)]
      refine ⟨f, hx, by omega, by omega, f, hx, ?_⟩
      simp only [decide_eq_true_eq]
      by_cases h3 : f.2.1 = 3
      · rw [if_pos h3]
        have hs : ¬ sortN f := fun h => h.1 h3
        have hw : wrongB m f = pathB m.2.2.1 1 16 := by unfold wrongB; rw [if_pos h3, show f.2.2.2.1 = 1 by omega, show f.2.2.2.2.1 = 16 by omega]
        refine ⟨_, rpath_ok _ hp, ?_⟩
        have := rj7_ok pre f (by omega) (by omega) (pathB m.2.2.1 1 16) (by rw [← hw]; exact ho)
        simp only [nN_same hs] at this; exact this
      rw [if_neg h3]
      by_cases h4 : f.2.1 = 4
      · rw [if_pos h4]
        have hs : ¬ sortN f := fun h => h.2.1 h4
        have hw : wrongB m f = cellsB m.2.2.2.1 1 32 := by unfold wrongB; rw [if_neg h3, if_pos h4, show f.2.2.2.1 = 1 by omega, show f.2.2.2.2.1 = 32 by omega]
        refine ⟨_, rcells_ok _ hc, ?_⟩
        have := rj7_ok pre f (by omega) (by omega) (cellsB m.2.2.2.1 1 32) (by rw [← hw]; exact ho)
        simp only [nN_same hs] at this; exact this
      rw [if_neg h4]
      by_cases h5 : f.2.1 = 5
      · rw [if_pos h5]
        have hs : ¬ sortN f := fun h => h.2.2.1 h5
        have hw : wrongB m f = textB m.2.2.2.2.1 0 64 := by unfold wrongB; rw [if_neg h3, if_neg h4, if_pos h5, show f.2.2.2.1 = 0 by omega, show f.2.2.2.2.1 = 64 by omega]
        refine ⟨_, rtext_ok _ _ ht, ?_⟩
        have := rj7_ok pre f (by omega) (by omega) (textB m.2.2.2.2.1 0 64) (by rw [← hw]; exact ho)
        simp only [nN_same hs] at this; exact this
      rw [if_neg h5]
      by_cases h6 : f.2.1 = 6
      · rw [if_pos h6]
        have hs : ¬ sortN f := fun h => h.2.2.2 h6
        have hw : wrongB m f = textB m.2.2.2.2.2 0 16 := by unfold wrongB; rw [if_neg h3, if_neg h4, if_neg h5, if_pos h6, show f.2.2.2.1 = 0 by omega, show f.2.2.2.2.1 = 16 by omega]
        refine ⟨_, rtext_ok _ _ hg, ?_⟩
        have := rj7_ok pre f (by omega) (by omega) (textB m.2.2.2.2.2 0 16) (by rw [← hw]; exact ho)
        simp only [nN_same hs] at this; exact this
      rw [if_neg h6]
      have hs : sortN f := ⟨h3, h4, h5, h6⟩
      have hw : wrongB m f = if numBad m f then 5 else 0 := by unfold wrongB; rw [if_neg h3, if_neg h4, if_neg h5, if_neg h6]
      refine ⟨f, hx, by omega, by omega, f, hx, by omega, by omega, f, hx, f, fun _ => hx, fun _ => by omega, fun _ => by omega, f, fun _ => hx, ?_⟩
      have key := fun e he => rj7_ok pre f (by omega) (by omega) e (o := o) he
      simp only [← nN_put hs (p := 0) (by omega), ← nN_put hs (p := 1) (by omega), ← nN_put hs (p := 2) (by omega), ← nN_put hs (p := 3) (by omega), ← nN_put hs (p := 4) (by omega), ← nN_put hs (p := 5) (by omega)] at key
      by_cases hb : numBad m f
      · rw [if_pos hb] at hw
        rw [if_pos (by
          rcases hb with hb | hb
          · have : (ofM m).2.1.getD f.2.2.1.toNat 0 < f.2.2.2.1 := hb
            rw [decide_eq_true this, Bool.true_or]
          · have : f.2.2.2.2.1 < (ofM m).2.1.getD f.2.2.1.toNat 0 := hb
            rw [decide_eq_true this, Bool.or_true])]
        exact key 5 (by rw [hw] at ho; exact ho)
      · rw [if_neg hb] at hw
        have hb2 := not_or.1 hb
        rw [if_neg (by
          have h1 : ¬ (ofM m).2.1.getD f.2.2.1.toNat 0 < f.2.2.2.1 := hb2.1
          have h2 : ¬ f.2.2.2.2.1 < (ofM m).2.1.getD f.2.2.1.toNat 0 := hb2.2
          rw [decide_eq_false h1, decide_eq_false h2]; decide)]
        exact key 0 (by rw [hw] at ho; exact ho)
    simp only [List.length_append, List.length_cons, List.length_nil, Nat.zero_add] at rest
    by_cases hz : wrongB m f = 0
    · simp only [firstW, hz, ne_eq, not_true, if_false]
      exact .next (st _ (by rw [if_neg (by simpa using hz)])) rest
    · simp only [firstW, ne_eq, hz, not_false_iff, if_true]
      exact .done (st _ (by rw [if_pos hz]))
theorem len_dec (n : Nat) (p : Prop) [Decidable p] (h : n = 0 ↔ p) [Decidable (0 < (n : Int))] : decide (0 < (n : Int)) = !decide p := by
  by_cases hp : p
  · rw [decide_eq_true hp, decide_eq_false (by have := h.2 hp; omega)]; rfl
  · rw [decide_eq_false hp, decide_eq_true (by have : n ≠ 0 := fun e => hp (h.1 e)
                                               omega)]; rfl
theorem j2_ok (a : Mr) (s : SB) (r : Int) (p3 p4 p5 p6 : Bool) (h3 : decide (0 < (a.2.2.1.length : Int)) = !p3) (h4 : decide (0 < (a.2.2.2.1.length : Int)) = !p4) (h5 : decide (a.2.2.2.2.1 = bstr []) = p5) (h6 : decide (a.2.2.2.2.2 = bstr []) = p6)
    (hr : r = if ((!s.2.2.2.1 && !p3) || (!s.2.2.2.2.1 && !p4) || (!s.2.2.2.2.2.1 && !p5) || (!s.2.2.2.2.2.2.1 && !p6)) = true then 3 else 0) : ref17_Check_j2 a s () r := by
  obtain ⟨b0, b1, b2, b3, b4, b5, b6, b7⟩ := s
  unfold ref17_Check_j2 ref17_Check_j3
  simp only at hr ⊢
  rw [h3, h4, h5, h6]
  subst hr
  cases b3 <;> cases b4 <;> cases b5 <;> cases b6 <;> cases p3 <;> cases p4 <;> cases p5 <;> cases p6 <;> exact rfl
theorem rcheck_ok {m : Mg} (hp : m.2.2.1.length < 4611686018427387904) (hc : m.2.2.2.1.length < 4611686018427387904) (ht : m.2.2.2.2.1.size < 4611686018427387904) (hg : m.2.2.2.2.2.size < 4611686018427387904) : ref17_Check (ofM m) (checkB m) := by
 refine ⟨_, rfields_ok m.1, ?_⟩
 unfold checkB
 by_cases hl : fieldsB m.1 = []
 ·rw [hl, if_pos (by simp), if_pos rfl]
 ·rw [if_neg hl, if_neg (by simp; exact hl)]
  have run := rcheck_run m hp hc ht hg (fieldsB m.1) (by have := fields_len m.1; omega) (fields_fd m.1) (fieldsB m.1) [] rfl
  by_cases hf : firstW m (fieldsB m.1) = 0
  ·rw [if_neg (c := firstW m (fieldsB m.1) ≠ 0) (by simpa using hf)] at run ⊢
   refine ⟨_, run, ?_⟩
   show ref17_Check_j1 (ofM m) (stR 0 (fieldsB m.1)).2 _
   generalize fieldsB m.1 = fs at *
   let bad : Nat → Option Int := fun k => if hasN fs k = false ∧ m.2.1.getD k 0 ≠ 0 then some 3 else none
   refine ⟨_, loops_first (fun k => (k : Int)) bad () 6 (fun k hk => ?_) ?_, ?_⟩
   ·have st : ∀ o, (if hasN fs k = false ∧ m.2.1.getD k 0 ≠ 0 then o = .inr (.inr 3) else o = .inl ((k + 1 : Nat) : Int)) → ref17_Check_l4 (ofM m) (stR 0 fs).2 (k : Int) o := by
     intro o ho
     unfold ref17_Check_l4
     rw [if_pos (by simp; omega)]
     refine ⟨by omega, by omega, ?_⟩
     have e : [hasN fs 0, hasN fs 1, hasN fs 2, hasN fs 3, hasN fs 4, hasN fs 5].getD (k : Int).toNat false = hasN fs k := by
      match k, hk with
      | 0, _ => rfl
      | 1, _ => rfl
      | 2, _ => rfl
      | 3, _ => rfl
      | 4, _ => rfl
      | 5, _ => rfl
     have j5 : ∀ b : Bool, (if b = true then o = .inr (.inr 3) else o = .inl ((k + 1 : Nat) : Int)) → ref17_Check_j5 (k : Int) b o := by
      intro b hb; unfold ref17_Check_j5; rw [len_wrap (by omega)]; exact hb
     split
     ·rename_i hb
      have hb : (!hasN fs k) = true := by rw [← e]; exact hb
      have hn : hasN fs k = false := by simpa using hb
      refine ⟨by omega, by omega, j5 _ ?_⟩
      show if (!decide (m.2.1.getD k 0 = 0)) = true then _ else _
      by_cases hz : m.2.1.getD k 0 = 0
      ·rw [if_neg (fun h => h.2 hz)] at ho; rw [if_neg (by rw [decide_eq_true hz]; simp)]; exact ho
      ·rw [if_pos ⟨hn, hz⟩] at ho; rw [if_pos (by simpa using hz)]; exact ho
     ·rename_i hb
      have hb : ¬ (!hasN fs k) = true := by rw [← e]; exact hb
      have hn : hasN fs k = true := by simpa using hb
      rw [if_neg (by simp [hn])] at ho; exact j5 false (by simpa using ho)
    show (∀ e, (if hasN fs k = false ∧ m.2.1.getD k 0 ≠ 0 then some 3 else none) = some e → _) ∧ ((if hasN fs k = false ∧ m.2.1.getD k 0 ≠ 0 then some 3 else none) = none → _)
    by_cases hb : hasN fs k = false ∧ m.2.1.getD k 0 ≠ 0
    ·rw [if_pos hb]; exact ⟨fun e he => (by cases he; exact st _ (by rw [if_pos hb])), fun he => by cases he⟩
    ·rw [if_neg hb]; exact ⟨fun e he => (by cases he), fun _ => st _ (by rw [if_neg hb])⟩
   ·unfold ref17_Check_l4
    rw [if_neg (by decide)]
   ·have hz : ∀ k, bad k = none ↔ zN fs m.2.1 k = 0 := by
     intro k
     show (if hasN fs k = false ∧ m.2.1.getD k 0 ≠ 0 then some 3 else none) = none ↔ (if hasN fs k = true then 0 else m.2.1.getD k 0) = 0
     cases hasN fs k with
     | true => simp
     | false => by_cases h0 : m.2.1.getD k 0 = 0 <;> simp
    have hsame : sameB (leftB fs m) (zeroM m.1) = true ↔ ((∀ k, k < 6 → zN fs m.2.1 k = 0) ∧ (hasS fs 3 = true ∨ m.2.2.1 = []) ∧ (hasS fs 4 = true ∨ m.2.2.2.1 = []) ∧ (hasS fs 5 = true ∨ m.2.2.2.2.1 = bstr []) ∧ (hasS fs 6 = true ∨ m.2.2.2.2.2 = bstr [])) := by
     unfold sameB leftB zeroM
     rw [decide_eq_true_eq]
     have h1 : ∀ {α : Type} (b : Bool) (x z : α), ((if b = true then z else x) = z) ↔ (b = true ∨ x = z) := by
      intro α b x z; cases b <;> simp
     simp only [n6, List.getD_cons_zero, List.getD_cons_succ, Prod.mk.injEq, true_and, h1, List.cons.injEq, and_true]
     constructor
     ·rintro ⟨⟨a0, a1, a2, a3, a4, a5⟩, b⟩
      refine ⟨fun k hk => ?_, b⟩
      match k, hk with
      | 0, _ => exact a0
      | 1, _ => exact a1
      | 2, _ => exact a2
      | 3, _ => exact a3
      | 4, _ => exact a4
      | 5, _ => exact a5
     ·rintro ⟨a, b⟩
      exact ⟨⟨a 0 (by omega), a 1 (by omega), a 2 (by omega), a 3 (by omega), a 4 (by omega), a 5 (by omega)⟩, b⟩
    cases hfe : firstE () bad 6 with
    | inl u =>
     have hall : ∀ k, k < 6 → zN fs m.2.1 k = 0 := fun k hk => (hz k).1 (firstE_some hfe k hk)
     refine j2_ok (ofM m) _ _ (decide (m.2.2.1 = [])) (decide (m.2.2.2.1 = [])) (decide (m.2.2.2.2.1 = bstr [])) (decide (m.2.2.2.2.2 = bstr [])) (len_dec _ _ (by simp [ofM])) (len_dec _ _ (by simp [ofM])) rfl rfl ?_
     simp only [stR]
     by_cases hs : sameB (leftB fs m) (zeroM m.1) = true
     ·rw [if_pos hs]
      obtain ⟨_, c3, c4, c5, c6⟩ := hsame.1 hs
      refine (if_neg ?_).symm
      rcases c3 with c3 | c3 <;> rcases c4 with c4 | c4 <;> rcases c5 with c5 | c5 <;> rcases c6 with c6 | c6 <;> simp [c3, c4, c5, c6]
     ·rw [if_neg hs]
      refine (if_pos ?_).symm
      by_cases c3 : hasS fs 3 = true ∨ m.2.2.1 = []
      ·by_cases c4 : hasS fs 4 = true ∨ m.2.2.2.1 = []
       ·by_cases c5 : hasS fs 5 = true ∨ m.2.2.2.2.1 = bstr []
        ·by_cases c6 : hasS fs 6 = true ∨ m.2.2.2.2.2 = bstr []
         ·exact absurd (hsame.2 ⟨hall, c3, c4, c5, c6⟩) hs
         ·simp only [not_or, Bool.not_eq_true] at c6; simp [c6]
        ·simp only [not_or, Bool.not_eq_true] at c5; simp [c5]
       ·simp only [not_or, Bool.not_eq_true] at c4; simp [c4]
      ·simp only [not_or, Bool.not_eq_true] at c3; simp [c3]
    | inr e =>
     have he : e = 3 := by
      unfold firstE at hfe
      cases hfs : (List.range 6).findSome? bad with
      | none => rw [hfs] at hfe; cases hfe
      | some e' =>
       rw [hfs] at hfe; cases hfe
       obtain ⟨k, _, hk⟩ := List.exists_of_findSome?_eq_some hfs
       have hk : (if hasN fs k = false ∧ m.2.1.getD k 0 ≠ 0 then some 3 else none) = some e := hk
       split at hk
       ·cases hk; rfl
       ·cases hk
     subst he
     show _ = _
     rw [if_neg]
     intro hd
     have hd := (hsame.1 hd).1
     rw [firstE_none (fun k hk => (hz k).2 (hd k hk))] at hfe
     cases hfe
  ·rw [if_pos (c := firstW m (fieldsB m.1) ≠ 0) hf] at run ⊢
   exact ⟨_, run, rfl⟩
end Go.Rel
/-! Plain laws: functions that are ranged over, as lists. -/
namespace Go.Pl
open Go Go.Eng
inductive Run {X S : Type} (Y : X → S → Bool × S → Prop) : List X → S → S → Prop
 | nil {s : S} : Run Y [] s s
 | go {x : X} {xs : List X} {s s1 s' : S} (h : Y x s (true, s1)) (h' : Run Y xs s1 s') : Run Y (x :: xs) s s'
 | stop {x : X} {xs : List X} {s s' : S} (h : Y x s (false, s')) : Run Y (x :: xs) s s'
def Itr {X : Type} (it : (S : Type) → (X → S → Bool × S → Prop) → S → S × Unit → Prop) (xs : List X) : Prop := ∀ S Y s s', Run Y xs s s' → it S Y s (s', ())
inductive RunB {X S E : Type} (B : X → S → Sum S E → Prop) : List X → S → Sum S E → Prop
 | nil {s : S} : RunB B [] s (.inl s)
 | go {x : X} {xs : List X} {s s1 : S} {t : Sum S E} (h : B x s (.inl s1)) (h' : RunB B xs s1 t) : RunB B (x :: xs) s t
 | stop {x : X} {xs : List X} {s : S} {e : E} (h : B x s (.inr e)) : RunB B (x :: xs) s (.inr e)
theorem run_yof {X S E : Type} {B : X → S → Sum S E → Prop} {xs : List X} {s : S} {t : Sum S E} (h : RunB B xs s t) : Run (Yof B) xs (.inl s) t := by
 induction h with
 | nil => exact .nil
 | go h _ ih => exact .go ⟨_, _, rfl, h, .inl ⟨_, rfl, rfl⟩⟩ ih
 | stop h => exact .stop ⟨_, _, rfl, h, .inr ⟨_, rfl, rfl⟩⟩
theorem runB_inv {X S E : Type} {B : X → S → Sum S E → Prop} (I : Nat → S → Prop) (Q : E → Prop) (xs : List X) {s : S} (h0 : I 0 s)
    (hs : ∀ k (hk : k < xs.length) s, I k s → (∃ s', B xs[k] s (.inl s') ∧ I (k + 1) s') ∨ ∃ e, B xs[k] s (.inr e) ∧ Q e) : ∃ t, RunB B xs s t ∧ ((∃ s', t = .inl s' ∧ I xs.length s') ∨ ∃ e, t = .inr e ∧ Q e) := by
  have key : ∀ (ys : List X) (k : Nat) (s : S), k + ys.length = xs.length → (∀ j (hj : j < ys.length), xs[k + j]? = some ys[j]) → I k s → ∃ t, RunB B ys s t ∧ ((∃ s', t = .inl s' ∧ I xs.length s') ∨ ∃ e, t = .inr e ∧ Q e) := by
    intro ys
    induction ys with
    | nil => intro k s hk _ hi; exact ⟨_, .nil, .inl ⟨s, rfl, by simp at hk; rw [← hk]; exact hi⟩⟩
    | cons y ys ih =>
      intro k s hk hat hi
      have hkl : k < xs.length := by simp at hk; omega
      have hy : xs[k] = y := by
        have := hat 0 (by simp)
        rw [Nat.add_zero, List.getElem?_eq_getElem hkl] at this
        simpa using this
      rcases hs k hkl s hi with ⟨s', h1, h2⟩ | ⟨e, h1, h2⟩
      · rw [hy] at h1
        obtain ⟨t, h3, h4⟩ := ih (k + 1) s' (by simp at hk; omega) (fun j hj => by
          have := hat (j + 1) (by simp; omega)
          rw [show k + 1 + j = k + (j + 1) by omega, this]; simp) h2
        exact ⟨t, .go h1 h3, h4⟩
      · rw [hy] at h1
        exact ⟨_, .stop h1, .inr ⟨e, rfl, h2⟩⟩
  exact key xs 0 s (by omega) (fun j hj => by simp [hj]) h0
theorem runB_fold {X S E : Type} {B : X → S → Sum S E → Prop} (f : S → X → S) : ∀ (xs : List X) (s : S), (∀ p x q, xs = p ++ x :: q → B x (p.foldl f s) (.inl (f (p.foldl f s) x))) → RunB B xs s (.inl (xs.foldl f s))
 | [], s, _ => .nil
 | x :: xs, s, h => .go (h [] x xs rfl) (runB_fold f xs (f s x) (fun p y q e => h (x :: p) y q (by rw [e]; rfl)))
end Go.Pl
/-! Plain laws: the line of a message: the program's and the document's. -/
namespace Go.Rel
open Go Go.Eng Go.Pl

theorem bstr_bints (s : ByteArray) : bstr (bints s) = s := by
 have h : ∀ (l : List UInt8) (t : ByteArray), (l.map fun b => (b.toNat : Int)).foldl (fun r n => r.push (UInt8.ofNat n.toNat)) t = ⟨t.data ++ l.toArray⟩ := by
  intro l
  induction l with
  | nil => intro t; simp
  | cons b l ih =>
   intro t
   rw [List.map_cons, List.foldl_cons, ih]
   apply ByteArray.ext
   apply Array.ext'
   simp [ByteArray.push]
 have := h s.data.toList ByteArray.empty
 unfold bstr bints
 rw [this]
 apply ByteArray.ext
 apply Array.ext'
 simp [ByteArray.empty, ByteArray.emptyWithCapacity]
 rfl
theorem bints_byt (s : ByteArray) : ∀ x ∈ bints s, 0 ≤ x ∧ x < 256 := by
 intro x hx
 unfold bints at hx
 obtain ⟨b, _, rfl⟩ := List.mem_map.1 hx
 have := b.toNat_lt
 omega
def joinL (sep : List Int) : List (List Int) → List Int
 | [] => []
 | [x] => x
 | x :: y :: l => x ++ sep ++ joinL sep (y :: l)
theorem joinS_bstr (sep : List Int) : ∀ ls : List (List Int), joinS (ls.map bstr) (bstr sep) = bstr (joinL sep ls)
 | [] => rfl
 | [x] => rfl
 | x :: y :: l => by
  have := joinS_bstr sep (y :: l)
  simp only [List.map_cons] at this
  simp only [List.map_cons, joinS, joinL, bstr_append]
  rw [this]
theorem joinL_cons (sep x : List Int) {l : List (List Int)} (h : l ≠ []) : joinL sep (x :: l) = x ++ sep ++ joinL sep l := by
 cases l with
 | nil => exact absurd rfl h
 | cons y l => rfl
theorem joinL_len (sep : List Int) (n : Nat) : ∀ (l : List (List Int)), (∀ x ∈ l, x.length ≤ n) → (joinL sep l).length ≤ l.length * (n + sep.length)
 | [], _ => by simp [joinL]
 | [x], h => by have := h x (by simp); simp [joinL]; omega
 | x :: y :: l, h => by
  have h1 := h x (by simp)
  have h2 := joinL_len sep n (y :: l) (fun z hz => h z (by simp only [List.mem_cons] at hz ⊢; right; exact hz))
  simp only [joinL, List.length_append]
  rw [List.length_cons, Nat.add_mul]; omega
def hexD (n : Int) : Int := if n < 10 then 48 + n else 87 + n
def hexL (l : List Int) : List Int := l.flatMap fun c => [hexD (c / 16), hexD (c % 16)]
def hexV (s : ByteArray) : List Int := if s = bstr [] then [45] else hexL (bints s)
theorem hexL_len (l : List Int) : (hexL l).length = 2 * l.length := by
 induction l with
 | nil => rfl
 | cons x l ih => simp [hexL] at ih ⊢; omega
theorem hexL_snoc (l : List Int) (x : Int) : hexL (l ++ [x]) = hexL l ++ [hexD (x / 16), hexD (x % 16)] := by simp [hexL]
def digs : List Int := [48, 49, 50, 51, 52, 53, 54, 55, 56, 57, 97, 98, 99, 100, 101, 102]
theorem digs_at : ∀ i : Nat, i < 16 → digs[i]? = some (hexD i) := by decide
theorem digs_lit : bints (bstr [48, 49, 50, 51, 52, 53, 54, 55, 56, 57, 97, 98, 99, 100, 101, 102]) = digs := rfl
theorem iand_15 {a : Int} (h0 : 0 ≤ a) (h1 : a < 256) : iand .u8 a 15 = a % 16 := by
 obtain ⟨n, rfl⟩ := Int.eq_ofNat_of_zero_le h0
 have h2 : n < 2 ^ 8 := by omega
 have : (BitVec.ofInt 8 (n : Int) &&& BitVec.ofInt 8 15).toNat = n % 16 := by
  rw [BitVec.toNat_and]
  have e1 : (BitVec.ofInt 8 (n : Int)).toNat = n := by rw [BitVec.ofInt_natCast, BitVec.toNat_ofNat, Nat.mod_eq_of_lt h2]
  have e2 : (BitVec.ofInt 8 (15 : Int)).toNat = 2 ^ 4 - 1 := by decide
  rw [e1, e2, Nat.and_two_pow_sub_one_eq_mod]
 show IntKind.u8.wrap (((BitVec.ofInt 8 (n : Int) &&& BitVec.ofInt 8 15).toNat : Nat) : Int) = _
 rw [this, w_u8]; omega
theorem ishr_4 (a : Int) : ishr .u8 a 4 = a / 16 := by
 show a.fdiv (2 ^ min (4 : Int).toNat 8) = _
 rw [show min (4 : Int).toNat 8 = 4 from rfl, Int.fdiv_eq_ediv_of_nonneg _ (by decide)]; rfl
theorem hex_at {q : Int} (h0 : 0 ≤ q) (h1 : q < 16) : idx (bints (bstr [48, 49, 50, 51, 52, 53, 54, 55, 56, 57, 97, 98, 99, 100, 101, 102])) q (hexD q) := by
 rw [digs_lit]
 have := digs_at q.toNat (by omega)
 rw [show ((q.toNat : Nat) : Int) = q by omega] at this
 exact ⟨h0, this⟩
theorem bints_size (s : ByteArray) : (bints s).length = s.size := len_bints s
theorem shex_ok {s : ByteArray} (h : s.size < 1000000) : say_hex s (bstr (hexV s)) := by
 unfold say_hex hexV
 by_cases he : s = bstr []
 ·rw [if_pos (by simpa using he), if_pos he]
 ·rw [if_neg (by simpa using he), if_neg he]
  refine ⟨by omega, hexL (bints s), ?_, rfl⟩
  have := loops_count (step := say_hex_l2 s) (e := hexL (bints s)) (fun k => (hexL ((bints s).take k), (k : Int))) (bints s).length (fun k hk => by
   have hb := bints_byt s _ (List.getElem_mem hk)
   have hsz := bints_size s
   unfold say_hex_l2
   rw [if_pos (by simpa using hk)]
   refine ⟨_, idx_of hk, hexD ((bints s)[k] / 16), ?_, hexD ((bints s)[k] % 16), ?_, ?_⟩
   ·rw [ishr_4]; exact hex_at (by omega) (by omega)
   ·rw [iand_15 hb.1 hb.2]; exact hex_at (by omega) (by omega)
   ·simp only [hexL_len, List.length_take, List.length_cons, List.length_nil]
    refine ⟨by omega, by omega, ?_⟩
    rw [len_wrap (by omega), List.take_succ_eq_append_getElem hk, hexL_snoc]) (by
   unfold say_hex_l2
   rw [if_neg (by simp)]
   simp)
  simpa [hexL] using this
theorem rdigit_ok {n : Int} (h0 : 0 ≤ n) (h1 : n < 16) : ref20_digit n (hexD n) := by
 unfold ref20_digit hexD
 by_cases h : n < 10
 ·rw [if_pos (by simpa using h), if_pos h, w_u8]; omega
 ·rw [if_neg (by simpa using h), if_neg h, w_u8]; omega
def ptL (p : Int × Int) : List Int := decI p.1 ++ [44] ++ decI p.2
def valueL (m : Mg) (f : Fd) : List Int :=
 if f.2.1 = 3 then joinL [59] (m.2.2.1.map ptL) else if f.2.1 = 4 then joinL [44] (m.2.2.2.1.map decI) else if f.2.1 = 5 then hexV m.2.2.2.2.1 else if f.2.1 = 6 then hexV m.2.2.2.2.2 else decI (m.2.1.getD f.2.2.1.toNat 0)
structure MgOk (m : Mg) : Prop where
 kind : IntOk .i64 m.1
 six : m.2.1.length = 6
 num : ∀ x ∈ m.2.1, IntOk .i64 x
 path : ∀ p ∈ m.2.2.1, IntOk .i64 p.1 ∧ IntOk .i64 p.2
 cells : ∀ x ∈ m.2.2.2.1, IntOk .i64 x
 lpath : m.2.2.1.length ≤ 1000
 lcells : m.2.2.2.1.length ≤ 1000
 ltext : m.2.2.2.2.1.size ≤ 1000
 ltag : m.2.2.2.2.2.size ≤ 1000
theorem MgOk.at {m : Mg} (ok : MgOk m) (p : Nat) : IntOk .i64 (m.2.1.getD p 0) := by
 rw [List.getD_eq_getElem?_getD]
 cases h : m.2.1[p]? with
 | none => exact ⟨by decide, by decide⟩
 | some x => exact ok.num x (List.mem_of_getElem? h)
theorem hexV_len {s : ByteArray} {n : Nat} (h : s.size ≤ n) : (hexV s).length ≤ 2 * n + 1 := by
 unfold hexV; split
 ·simp
 ·rw [hexL_len, bints_size]; omega
theorem ptL_len {p : Int × Int} (h : IntOk .i64 p.1 ∧ IntOk .i64 p.2) : (ptL p).length ≤ 43 := by
 have h1 := decI_len h.1
 have h2 := decI_len h.2
 simp only [ptL, List.length_append, List.length_cons, List.length_nil]; omega
theorem valueL_len {m : Mg} (ok : MgOk m) (f : Fd) : (valueL m f).length ≤ 100000 := by
 unfold valueL
 split
 ·have := joinL_len [59] 43 (m.2.2.1.map ptL) (fun x hx => by obtain ⟨p, hp, rfl⟩ := List.mem_map.1 hx; exact ptL_len (ok.path p hp))
  have := ok.lpath
  simp only [List.length_map, List.length_cons, List.length_nil] at *; omega
 split
 ·have := joinL_len [44] 43 (m.2.2.2.1.map decI) (fun x hx => by obtain ⟨p, hp, rfl⟩ := List.mem_map.1 hx; have := decI_len (ok.cells p hp); omega)
  have := ok.lcells
  simp only [List.length_map, List.length_cons, List.length_nil] at *; omega
 split
 ·have := hexV_len ok.ltext; omega
 split
 ·have := hexV_len ok.ltag; omega
 ·have := decI_len (ok.at f.2.2.1.toNat); omega
theorem snum_ok {n : Int} (h : IntOk .i64 n) : say_Number n (bstr (decI n)) := ⟨_, itoa_ok h, rfl⟩
theorem map_take_snoc {α β : Type} (g : α → β) (l : List α) {k : Nat} (hk : k < l.length) : (l.take (k + 1)).map g = (l.take k).map g ++ [g l[k]] := by
 rw [List.take_succ_eq_append_getElem hk, List.map_append]; rfl
theorem svalue_ok {m : Mg} (ok : MgOk m) {f : Fd} (hf : fdOk f) : say_value m f (bstr (valueL m f)) := by
 have hvl := valueL_len ok f
 obtain ⟨_, _, hf⟩ := hf
 unfold say_value
 simp only [decide_eq_true_eq]
 unfold valueL at hvl ⊢
 have fin : ∀ a b : List Int, a.length + b.length < 1000000 → (bstr a).size + (bstr b).size < 4611686018427387904 := by
  intro a b hab; rw [size_bstr, size_bstr]; omega
 by_cases h3 : f.2.1 = 3
 ·rw [if_pos h3] at hvl ⊢
  rw [if_pos h3]
  have hlp := ok.lpath
  refine ⟨(m.2.2.1.map ptL).map bstr, ?_, ?_⟩
  ·have := loops_count (step := say_value_l2 m) (e := (m.2.2.1.map ptL).map bstr) (fun k => ((m.2.2.1.take k).map (fun p => bstr (ptL p)), (k : Int))) m.2.2.1.length (fun k hk => by
    have hp := ok.path _ (List.getElem_mem hk)
    have l1 := decI_len hp.1
    have l2 := decI_len hp.2
    unfold say_value_l2
    rw [if_pos (by simpa using hk)]
    refine ⟨_, idx_of hk, _, snum_ok hp.1, fin _ _ (by simp; omega), _, snum_ok hp.2, by rw [← bstr_append]; exact fin _ _ (by simp; omega), ?_⟩
    simp only [List.length_map, List.length_take, List.length_cons, List.length_nil]
    refine ⟨by omega, by omega, ?_⟩
    rw [len_wrap (by omega), map_take_snoc _ _ hk, ptL, bstr_append, bstr_append]) (by
    unfold say_value_l2
    rw [if_neg (by simp)]
    simp)
   simpa using this
  ·refine ⟨_, ⟨by simp; omega, ?_, rfl⟩, ?_⟩
   ·rw [joinS_bstr, size_bstr]; omega
   ·rw [joinS_bstr]
 rw [if_neg h3] at hvl ⊢
 rw [if_neg h3]
 by_cases h4 : f.2.1 = 4
 ·rw [if_pos h4] at hvl ⊢
  rw [if_pos h4]
  have hlp := ok.lcells
  refine ⟨(m.2.2.2.1.map decI).map bstr, ?_, ?_⟩
  ·have := loops_count (step := say_value_l4 m) (e := (m.2.2.2.1.map decI).map bstr) (fun k => ((m.2.2.2.1.take k).map (fun p => bstr (decI p)), (k : Int))) m.2.2.2.1.length (fun k hk => by
    have hp := ok.cells _ (List.getElem_mem hk)
    unfold say_value_l4
    rw [if_pos (by simpa using hk)]
    refine ⟨_, idx_of hk, _, snum_ok hp, ?_⟩
    simp only [List.length_map, List.length_take, List.length_cons, List.length_nil]
    refine ⟨by omega, by omega, ?_⟩
    rw [len_wrap (by omega), map_take_snoc _ _ hk]) (by
    unfold say_value_l4
    rw [if_neg (by simp)]
    simp)
   simpa using this
  ·refine ⟨_, ⟨by simp; omega, ?_, rfl⟩, ?_⟩
   ·rw [joinS_bstr, size_bstr]; omega
   ·rw [joinS_bstr]
 rw [if_neg h4] at hvl ⊢
 rw [if_neg h4]
 by_cases h5 : f.2.1 = 5
 ·rw [if_pos h5, if_pos h5]; have := ok.ltext; exact ⟨_, shex_ok (by show m.2.2.2.2.1.size < _; omega), rfl⟩
 rw [if_neg h5, if_neg h5]
 by_cases h6 : f.2.1 = 6
 ·rw [if_pos h6, if_pos h6]; have := ok.ltag; exact ⟨_, shex_ok (by show m.2.2.2.2.2.size < _; omega), rfl⟩
 rw [if_neg h6, if_neg h6]
 exact ⟨by omega, by omega, _, snum_ok (ok.at _), rfl⟩
def wordL (k : Int) : List Int := if k = 1 then [109, 111, 118, 101] else if k = 2 then [104, 111, 108, 100] else if k = 3 then [103, 114, 97, 110, 116] else if k = 4 then [112, 111, 115, 101] else if k = 5 then [102, 97, 117, 108, 116] else []
theorem fword_ok (k : Int) : field_Word k (bstr (wordL k)) := by
 unfold field_Word wordL
 simp only [decide_eq_true_eq]
 repeat' (first | rfl | split)
theorem rword_ok {k : Int} (h : IntOk .i64 k) : ref16_Word k (bstr (wordL k)) := by
 unfold ref16_Word ref16_Word_j1 wordL
 have ⟨h0, h1⟩ := ok_i64 h
 by_cases hk : k < 1
 ·rw [if_pos (by simpa using hk), if_pos rfl, if_neg (by omega), if_neg (by omega), if_neg (by omega), if_neg (by omega), if_neg (by omega)]
 ·rw [if_neg (by simpa using hk)]
  by_cases hk5 : 5 < k
  ·rw [if_pos (by simpa using hk5), if_neg (by omega), if_neg (by omega), if_neg (by omega), if_neg (by omega), if_neg (by omega)]
  ·rw [if_neg (by simpa using hk5), w_small (by omega) (by omega)]
   have : k = 1 ∨ k = 2 ∨ k = 3 ∨ k = 4 ∨ k = 5 := by omega
   rcases this with rfl | rfl | rfl | rfl | rfl <;> exact ⟨_, ⟨by decide, rfl⟩, rfl⟩
def partL (m : Mg) (f : Fd) : List Int := [32] ++ bints f.1 ++ [32] ++ valueL m f
def bodyL (m : Mg) (fs : List Fd) : List Int := fs.flatMap (partL m)
def lineL (m : Mg) : List Int := if checkB m = 0 then wordL m.1 ++ bodyL m (fieldsB m.1) else []
theorem wordL_len (k : Int) : (wordL k).length ≤ 5 := by unfold wordL; repeat' (first | decide | split)
theorem partL_len {m : Mg} (ok : MgOk m) {f : Fd} (hf : fdOk f) : (partL m f).length ≤ 100020 := by
 have := valueL_len ok f
 have := hf.2.1
 have := bints_size f.1
 simp only [partL, List.length_append, List.length_cons, List.length_nil]; omega
theorem bodyL_len {m : Mg} (ok : MgOk m) : ∀ {fs : List Fd}, (∀ f ∈ fs, fdOk f) → (bodyL m fs).length ≤ fs.length * 100020
 | [], _ => by simp [bodyL]
 | f :: l, h => by
  have h1 := partL_len ok (h f (by simp))
  have h2 := bodyL_len ok (fs := l) (fun g hg => h g (by simp [hg]))
  simp only [bodyL, List.flatMap_cons, List.length_append, List.length_cons] at *
  omega
theorem all_itr (k : Int) : Itr (field_All_1 k 2) (fieldsB k) := by
 intro S Y s s' hr
 refine ⟨_, fields_ok k, (s', ()), ?_, rfl⟩
 have hfd := fields_fd k
 have hfl := fields_len k
 generalize fieldsB k = fs at *
 have key : ∀ (l pre : List Fd) (s : S), fs = pre ++ l → Run Y l s s' → Loops (field_All_1_l1 S Y 2 fs) (s, (pre.length : Int)) (s', ()) := by
  intro l
  induction l with
  | nil =>
   intro pre s h hr
   cases hr
   refine .done ?_
   unfold field_All_1_l1
   rw [if_neg (by rw [h]; simp)]
  | cons f l ih =>
   intro pre s h hr
   have hlen : fs.length = pre.length + l.length + 1 := by rw [h]; simp; omega
   have hat : fs[pre.length]? = some f := by rw [h]; simp
   have hf := (hfd f (by rw [h]; simp)).1
   have st : ∀ o, (∃ y u, Y f s (y, u) ∧ if (!y) = true then o = .inr (u, ()) else o = .inl (u, ((pre.length + 1 : Nat) : Int))) → field_All_1_l1 S Y 2 fs (s, (pre.length : Int)) o := by
    rintro o ⟨y, u, hy, ho⟩
    unfold field_All_1_l1
    rw [if_pos (by simp; omega)]
    refine ⟨f, idx_at rfl hat, ?_⟩
    rw [if_neg (by simp; omega)]
    refine ⟨y, u, hy, ?_⟩
    unfold field_All_1_j2
    rw [len_wrap (by omega)]; exact ho
   cases hr with
   | go hy hr =>
    have := ih (pre ++ [f]) _ (by rw [h]; simp) hr
    rw [List.length_append] at this
    exact .next (st _ ⟨true, _, hy, by rw [if_neg (by simp)]; rfl⟩) this
   | stop hy => exact .done (st _ ⟨false, _, hy, by rw [if_pos (show (!false) = true from rfl)]⟩)
 exact key fs [] s rfl hr
theorem sline_ok {m : Mg} (ok : MgOk m) : say_Line m (bstr (lineL m)) := by
 have h1 := ok.lpath
 have h2 := ok.lcells
 refine ⟨_, mcheck_ok (by omega) (by omega), ?_⟩
 unfold lineL
 by_cases hc : checkB m = 0
 ·rw [if_neg (by simpa using hc), if_pos hc]
  refine ⟨_, fword_ok m.1, _, rfl, ?_⟩
  have hfl := fields_len m.1
  have hfd := fields_fd m.1
  have hwl := wordL_len m.1
  have run := runB_fold (B := say_Line_l1 m) (E := Unit) (fun s f => s ++ bstr (partL m f)) (fieldsB m.1) (bstr (wordL m.1)) (fun p x q e => by
   have hx := hfd x (by rw [e]; simp)
   have hv := valueL_len ok x
   have hn := hx.2.1
   have hb := bodyL_len ok (fs := p) (fun f hf => hfd f (by rw [e]; simp [hf]))
   have hp : p.length ≤ 6 := by rw [e] at hfl; simp at hfl; omega
   have hs : p.foldl (fun s f => s ++ bstr (partL m f)) (bstr (wordL m.1)) = bstr (wordL m.1 ++ bodyL m p) := by
    have : ∀ (p : List Fd) (w : List Int), p.foldl (fun s f => s ++ bstr (partL m f)) (bstr w) = bstr (w ++ bodyL m p) := by
     intro p
     induction p with
     | nil => intro w; simp [bodyL]
     | cons f p ih => intro w; rw [List.foldl_cons, ← bstr_append, ih]; simp [bodyL]
    exact this p _
   have hbn : bstr (bints x.1) = x.1 := bstr_bints x.1
   rw [hs]
   unfold say_Line_l1
   have e1 : (bstr [32] ++ x.1) ++ bstr [32] = bstr ([32] ++ bints x.1 ++ [32]) := by rw [bstr_append, bstr_append, hbn]
   have e2 : bstr ([32] ++ bints x.1 ++ [32]) ++ bstr (valueL m x) = bstr (partL m x) := by rw [← bstr_append]; rfl
   have e3 : (bstr [32] ++ x.1).size = 1 + x.1.size := by rw [ByteArray.size_append, size_bstr]; rfl
   have hbx := bints_size x.1
   refine ⟨by rw [size_bstr]; simp; omega, by rw [e3, size_bstr]; simp; omega, _, svalue_ok ok hx, ?_, ?_, ?_⟩
   ·rw [e1, size_bstr, size_bstr]; simp; omega
   ·rw [e1, e2, size_bstr, size_bstr]
    have := partL_len ok hx
    simp only [List.length_append]; omega
   ·rw [e1, e2])
  refine ⟨_, (), all_itr m.1 _ _ _ _ (run_yof run), ?_⟩
  show _ = _
  have : ∀ (p : List Fd) (w : List Int), p.foldl (fun s f => s ++ bstr (partL m f)) (bstr w) = bstr (w ++ bodyL m p) := by
   intro p
   induction p with
   | nil => intro w; simp [bodyL]
   | cons f p ih => intro w; rw [List.foldl_cons, ← bstr_append, ih]; simp [bodyL]
  rw [this]
 ·rw [if_pos (by simpa using hc), if_neg hc]
end Go.Rel
/-! Plain laws: what a line tells is told back: digits, signs between, hexadecimal digits; two messages with one line. -/
namespace Go.Rel
open Go Go.Eng Go.Pl

/-! Lines are bytes. -/
abbrev Oct (l : List Int) : Prop := ∀ x ∈ l, 0 ≤ x ∧ x < 256
theorem bb_of {l : List Int} (h : Oct l) : bints (bstr l) = l := by
 have key : ∀ (l : List Int) (s : ByteArray), Oct l → bints (l.foldl (fun r n => r.push (UInt8.ofNat n.toNat)) s) = bints s ++ l := by
  intro l
  induction l with
  | nil => intro s _; simp
  | cons x l ih =>
   intro s h
   rw [List.foldl_cons, ih _ (fun y hy => h y (by simp [hy]))]
   have hx := h x (by simp)
   have : bints (s.push (UInt8.ofNat x.toNat)) = bints s ++ [x] := by
    unfold bints
    simp only [ByteArray.push, Array.toList_push, List.map_append, List.map_cons, List.map_nil]
    congr 2
    rw [UInt8.toNat_ofNat', Nat.mod_eq_of_lt (by omega)]; omega
   rw [this]; simp
 have := key l ByteArray.empty h
 simpa [bstr, bints] using this
theorem bs_inj {a b : List Int} (ha : Oct a) (hb : Oct b) (h : bstr a = bstr b) : a = b := by rw [← bb_of ha, h, bb_of hb]
end Go.Rel
/-! Plain laws: strings cut at a byte. -/
namespace Go.Rel
open Go Go.Eng Go.Pl
theorem bstr_arr (ns : List Int) : bstr ns = ⟨(ns.map fun n => UInt8.ofNat n.toNat).toArray⟩ := by
 have key : ∀ (l : List Int) (s : ByteArray), l.foldl (fun r n => r.push (UInt8.ofNat n.toNat)) s = ⟨s.data ++ (l.map fun n => UInt8.ofNat n.toNat).toArray⟩ := by
  intro l
  induction l with
  | nil => intro s; simp
  | cons x l ih =>
   intro s
   rw [List.foldl_cons, ih]
   apply ByteArray.ext
   simp [ByteArray.push]
 have := key ns ByteArray.empty
 unfold bstr
 rw [this]
 apply ByteArray.ext
 simp
theorem run_lone {X S : Type} {Y : X → S → Bool × S → Prop} {x : X} {s s' : S} (h : Run Y [x] s s') : ∃ b, Y x s (b, s') := by
 cases h with
 | go h h' => cases h'; exact ⟨true, h⟩
 | stop h => exact ⟨false, h⟩
theorem ext_bstr (l : List Int) (a b : Nat) : (bstr l).extract a b = bstr ((l.take b).drop a) := by
 rw [bstr_arr, bstr_arr]
 apply ByteArray.ext
 rw [ByteArray.data_extract]
 apply Array.toList_inj.1
 rw [Array.toList_extract, List.extract_eq_take_drop, List.map_drop, List.map_take, List.take_drop]
 simp only
 by_cases h : a ≤ b
 ·rw [Nat.add_sub_cancel' h]
 ·rw [Nat.sub_eq_zero_of_le (by omega), Nat.add_zero, List.drop_eq_nil_of_le (by rw [List.length_take]; omega), List.drop_eq_nil_of_le (by rw [List.length_take]; omega)]
theorem place_no {l : List Int} {c : Int} (h : c ∉ l) : ((l.findIdx? (fun x => decide (x = c))).map Int.ofNat).getD (-1) = -1 := by
 rw [List.findIdx?_eq_none_iff.2 (fun x hx => decide_eq_false (fun e : x = c => h (e ▸ hx)))]; rfl
theorem place_at {p q : List Int} {c : Int} (h : c ∉ p) : (((p ++ c :: q).findIdx? (fun x => decide (x = c))).map Int.ofNat).getD (-1) = (p.length : Int) := by
 have : (p ++ c :: q).findIdx? (fun x => decide (x = c)) = some p.length := by
  rw [List.findIdx?_append, List.findIdx?_eq_none_iff.2 (fun x hx => decide_eq_false (fun e : x = c => h (e ▸ hx)))]
  simp [List.findIdx?_cons]
 rw [this]; rfl
theorem first_at (c : Int) (l : List Int) : c ∉ l ∨ ∃ p q, l = p ++ c :: q ∧ c ∉ p := by
 by_cases h : c ∈ l
 ·obtain ⟨p, q, h1, h2⟩ := List.eq_append_cons_of_mem h
  exact .inr ⟨p, q, h1, h2⟩
 ·exact .inl h
def glue (a : List Int) : List (List Int) → List (List Int)
 | [] => [a]
 | p :: ps => (a ++ p) :: ps
def splitL (c : Int) : List Int → List (List Int)
 | [] => [[]]
 | x :: l => if x = c then [] :: splitL c l else glue [x] (splitL c l)
theorem glue_glue (a b : List Int) (ps : List (List Int)) : glue a (glue b ps) = glue (a ++ b) ps := by cases ps <;> simp [glue]
theorem splitL_ne (c : Int) : ∀ l, splitL c l ≠ []
 | [] => by simp [splitL]
 | x :: l => by
  unfold splitL
  split
  ·simp
  ·cases splitL c l <;> simp [glue]
theorem glue_nil {ps : List (List Int)} (h : ps ≠ []) : glue [] ps = ps := by cases ps <;> simp_all [glue]
theorem splitL_no {c : Int} : ∀ {l : List Int}, c ∉ l → splitL c l = [l]
 | [], _ => rfl
 | x :: l, h => by
  rw [splitL, if_neg (fun e : x = c => h (by rw [← e]; exact List.mem_cons_self)), splitL_no (fun hm => h (List.mem_cons_of_mem _ hm))]; rfl
theorem splitL_at {c : Int} {q : List Int} : ∀ {p : List Int}, c ∉ p → splitL c (p ++ c :: q) = p :: splitL c q
 | [], _ => by rw [List.nil_append, splitL, if_pos rfl]
 | x :: p, h => by
  rw [List.cons_append, splitL, if_neg (fun e : x = c => h (by rw [← e]; exact List.mem_cons_self)), splitL_at (fun hm => h (List.mem_cons_of_mem _ hm))]; rfl
theorem one_bints {c : Int} (h : 0 ≤ c ∧ c < 256) : bints (bstr [c]) = [c] := bb_of (fun x hx => by simp at hx; subst hx; exact h)
theorem oct_ap2 {p q : List Int} (h : Oct (p ++ q)) : Oct p ∧ Oct q := ⟨fun x hx => h x (List.mem_append_left _ hx), fun x hx => h x (List.mem_append_right _ hx)⟩
theorem oct_tl2 {x : Int} {q : List Int} (h : Oct (x :: q)) : Oct q := fun y hy => h y (List.mem_cons_of_mem _ hy)
theorem take_mid (p : List Int) (c : Int) (q : List Int) : ((p ++ c :: q).take p.length).drop 0 = p ∧ ((p ++ c :: q).take (p ++ c :: q).length).drop (p.length + 1) = q := by
 constructor
 ·simp
 ·rw [List.take_length, ← List.drop_drop]; simp
theorem splitSeq_itr {c : Int} (hc : 0 ≤ c ∧ c < 256) {S : Type} {Y : ByteArray → S → Bool × S → Prop} {s' : S} : ∀ (n : Nat) (l : List Int), l.length ≤ n → n < 1000000000 → Oct l → ∀ s, Run Y ((splitL c l).map bstr) s s' →
    ∃ rest e, Loops (strings_splitSeq_1_l4 S Y (bstr [c]) 0) (s, bstr l) e ∧ Aft (fun p52 => strings_splitSeq_1_j3 S Y p52 (s', rest)) (fun p53 => (s', rest) = p53) e := by
  intro n
  induction n with
  | zero =>
    intro l hl _ ho s hr
    obtain rfl := List.eq_nil_of_length_eq_zero (Nat.le_zero.1 hl)
    obtain ⟨y, hy⟩ := run_lone hr
    refine ⟨bstr [], .inl (s, bstr []), .done ⟨-1, ⟨c, one_bints hc, ?_⟩, ?_⟩, y, s', hy, rfl⟩
    · rw [bb_of ho, place_no (by simp)]
    · rw [if_pos (by decide)]
  | succ n ih =>
    intro l hl hn ho s hr
    rcases first_at c l with h | ⟨p, q, rfl, h⟩
    · rw [splitL_no h] at hr
      obtain ⟨y, hy⟩ := run_lone hr
      refine ⟨bstr l, .inl (s, bstr l), .done ⟨-1, ⟨c, one_bints hc, ?_⟩, ?_⟩, y, s', hy, rfl⟩
      · rw [bb_of ho, place_no h]
      · rw [if_pos (by decide)]
    · rw [splitL_at h] at hr
      obtain ⟨m1, m2⟩ := take_mid p c q
      have ho2 := oct_ap2 ho
      simp only [List.length_append, List.length_cons] at hl
      have w1 : IntKind.i64.wrap ((p.length : Int) + 0) = (p.length : Int) := by rw [w_small (by omega) (by omega)]; omega
      have w2 : IntKind.i64.wrap ((p.length : Int) + ((bstr [c]).size : Int)) = ((p.length + 1 : Nat) : Int) := by
        rw [size_bstr, w_small (by simp only [List.length_cons, List.length_nil]; omega) (by simp only [List.length_cons, List.length_nil]; omega)]; rfl
      have hsz : (bstr (p ++ c :: q)).size = (p ++ c :: q).length := size_bstr _
      have stp : ∀ y u, Y (bstr p) s (y, u) → strings_splitSeq_1_l4 S Y (bstr [c]) 0 (s, bstr (p ++ c :: q)) (if y = true then .inl (u, bstr q) else .inr (.inr (u, bstr (p ++ c :: q)))) := by
        intro y u hy
        refine ⟨(p.length : Int), ⟨c, one_bints hc, by rw [bb_of ho, place_at h]⟩, ?_⟩
        rw [if_neg (by simp)]
        simp only
        rw [w1, w2, hsz, ext_bstr, ext_bstr, Int.toNat_natCast, Int.toNat_natCast, m1, m2]
        simp only [List.length_append, List.length_cons]
        refine ⟨by omega, by omega, y, u, hy, ?_⟩
        cases y with
        | true => rw [if_neg (by decide)]; exact ⟨by omega, by omega, rfl⟩
        | false => rw [if_pos (by decide)]; rfl
      rw [List.map_cons] at hr
      cases hr with
      | go h1 h2 =>
        obtain ⟨rest, e, h3, h4⟩ := ih q (by omega) (by omega) (oct_tl2 ho2.2) _ h2
        exact ⟨rest, e, .next (stp true _ h1) h3, h4⟩
      | stop h1 => exact ⟨_, _, .done (stp false _ h1), rfl⟩
theorem split_itr {c : Int} (hc : 0 ≤ c ∧ c < 256) {l : List Int} (hl : l.length < 1000000000) (ho : Oct l) {S : Type} {Y : ByteArray → S → Bool × S → Prop} {s s' : S} (h : Run Y ((splitL c l).map bstr) s s') : ∃ rest, strings_splitSeq_1 (bstr [c]) 0 (bstr l) S Y s (s', rest) := by
 obtain ⟨rest, e, h1, h2⟩ := splitSeq_itr hc l.length l (Nat.le_refl _) hl ho s h
 refine ⟨rest, ?_⟩
 unfold strings_splitSeq_1
 rw [if_neg (by simp [size_bstr])]
 exact ⟨e, h1, h2⟩
theorem splitSeq_ok (l : List Int) (c : Int) : strings_SplitSeq (bstr l) (bstr [c]) (strings_splitSeq_1 (bstr [c]) 0, bstr l) := ⟨_, rfl, rfl⟩
def lnP : List (List Int) → List (List Int)
 | [] => []
 | [p] => if p = [] then [] else [p]
 | p :: q :: ps => (p ++ [10]) :: lnP (q :: ps)
theorem lnP_cons (p : List Int) {ps : List (List Int)} (h : ps ≠ []) : lnP (p :: ps) = (p ++ [10]) :: lnP ps := by
 cases ps with
 | nil => exact absurd rfl h
 | cons => rfl
theorem lines_run {S : Type} {Y : ByteArray → S → Bool × S → Prop} {s' : S} : ∀ (n : Nat) (l : List Int), l.length ≤ n → n < 1000000000 → Oct l → ∀ s, Run Y ((lnP (splitL 10 l)).map bstr) s s' →
    ∃ rest, Loops (strings_Lines_1_l1 S Y) (s, bstr l) (s', rest) := by
  intro n
  induction n with
  | zero =>
    intro l hl _ ho s hr
    obtain rfl := List.eq_nil_of_length_eq_zero (Nat.le_zero.1 hl)
    cases hr
    refine ⟨bstr [], .done ?_⟩
    unfold strings_Lines_1_l1
    rw [if_neg (by simp [size_bstr])]
  | succ n ih =>
    intro l hl hn ho s hr
    have hk : IntOk .u8 10 := ⟨by decide, by decide⟩
    have hsz : (bstr l).size = l.length := size_bstr _
    rcases first_at 10 l with h | ⟨p, q, rfl, h⟩
    · rw [splitL_no h] at hr
      by_cases h0 : l = []
      · subst h0
        cases hr
        refine ⟨bstr [], .done ?_⟩
        unfold strings_Lines_1_l1
        rw [if_neg (by simp [size_bstr])]
      · rw [show lnP [l] = [l] by simp [lnP, h0]] at hr
        have hp := List.length_pos_iff.2 h0
        obtain ⟨y, hy⟩ := run_lone hr
        have j2 : strings_Lines_1_j2 S Y (s, bstr l, bstr []) (if y = true then .inl (s', bstr []) else .inr (s', bstr [])) := by
          refine ⟨y, s', hy, ?_⟩
          cases y with
          | true => rw [if_neg (by decide)]; rfl
          | false => rw [if_pos (by decide)]; rfl
        have stp : strings_Lines_1_l1 S Y (s, bstr l) (if y = true then .inl (s', bstr []) else .inr (s', bstr [])) := by
          unfold strings_Lines_1_l1
          rw [if_pos (by simp only [hsz, decide_eq_true_eq]; omega)]
          refine ⟨-1, ⟨hk, by rw [bb_of ho, place_no h]⟩, ?_⟩
          rw [if_neg (by decide)]
          exact j2
        cases y with
        | true =>
          refine ⟨bstr [], .next stp (.done ?_)⟩
          unfold strings_Lines_1_l1
          rw [if_neg (by simp [size_bstr])]
        | false => exact ⟨bstr [], .done stp⟩
    · rw [splitL_at h, lnP_cons _ (splitL_ne _ _)] at hr
      have ho2 := oct_ap2 ho
      have m2 := (take_mid p 10 q).2
      have m1 : ((p ++ 10 :: q).take (p.length + 1)).drop 0 = p ++ [10] := by
        rw [List.drop_zero, show p ++ (10 : Int) :: q = (p ++ [10]) ++ q by simp, List.take_left' (by simp)]
      simp only [List.length_append, List.length_cons] at hl hsz
      have w1 : IntKind.i64.wrap ((p.length : Int) + 1) = ((p.length + 1 : Nat) : Int) := by rw [w_small (by omega) (by omega)]; rfl
      have stp : ∀ y u, Y (bstr (p ++ [10])) s (y, u) → strings_Lines_1_l1 S Y (s, bstr (p ++ 10 :: q)) (if y = true then .inl (u, bstr q) else .inr (u, bstr q)) := by
        intro y u hy
        unfold strings_Lines_1_l1
        rw [if_pos (by simp only [hsz, decide_eq_true_eq]; omega)]
        refine ⟨(p.length : Int), ⟨hk, by rw [bb_of ho, place_at h]⟩, ?_⟩
        rw [if_pos (by simp)]
        simp only
        rw [w1, show (bstr (p ++ 10 :: q)).size = (p ++ 10 :: q).length from size_bstr _, ext_bstr, ext_bstr, Int.toNat_natCast, m1, m2]
        simp only [List.length_append, List.length_cons]
        refine ⟨by omega, by omega, by omega, by omega, y, u, hy, ?_⟩
        cases y with
        | true => rw [if_neg (by decide)]; rfl
        | false => rw [if_pos (by decide)]; rfl
      rw [List.map_cons] at hr
      cases hr with
      | go h1 h2 =>
        obtain ⟨rest, h3⟩ := ih q (by omega) (by omega) (oct_tl2 ho2.2) _ h2
        exact ⟨rest, .next (stp true _ h1) h3⟩
      | stop h1 => exact ⟨_, .done (stp false _ h1)⟩
theorem lines_itr {l : List Int} (hl : l.length < 1000000000) (ho : Oct l) {S : Type} {Y : ByteArray → S → Bool × S → Prop} {s s' : S} (h : Run Y ((lnP (splitL 10 l)).map bstr) s s') : ∃ rest, strings_Lines_1 (bstr l) S Y s (s', rest) := by
 obtain ⟨rest, h1⟩ := lines_run l.length l (Nat.le_refl _) hl ho s h
 exact ⟨rest, _, h1, rfl⟩
theorem lines_ok (l : List Int) : strings_Lines (bstr l) (strings_Lines_1, bstr l) := rfl
theorem rsplit_ok {c : Int} {l : List Int} (hl : l.length < 100000000) (ho : Oct l) : ref20_Split (bstr l) c ((splitL c l).map bstr) := by
 have hsz : (bstr l).size = l.length := size_bstr _
 have key := loops_inv (step := ref20_Split_l2 (bstr l) c) (s := ([], 0, 0)) (fun k (s : List ByteArray × Int × Int) => s.2.2 = (k : Int) ∧ ((k = l.length + 1 ∧ s.1 = (splitL c l).map bstr) ∨ (k ≤ l.length ∧ ∃ (out : List (List Int)) (st : Nat), s.1 = out.map bstr ∧ s.2.1 = (st : Int) ∧ st ≤ k ∧ out.length ≤ k ∧ out ++ glue ((l.take k).drop st) (splitL c (l.drop k)) = splitL c l))) (fun e => e = (splitL c l).map bstr) (l.length + 1) ⟨rfl, .inr ⟨by omega, [], 0, rfl, rfl, by omega, by simp, by simp [glue_nil (splitL_ne _ _)]⟩⟩ ?_ ?_
 ·obtain ⟨e, h1, rfl⟩ := key
  exact ⟨_, h1, rfl⟩
 ·rintro k ⟨o, st', i⟩ hk ⟨h1, h2⟩
  simp only at h1 h2
  subst h1
  rcases h2 with ⟨h2, _⟩ | ⟨h2, out, st, rfl, rfl, h3, h4, h5⟩
  ·omega
  left
  have wi : IntKind.i64.wrap ((k : Int) + 1) = ((k + 1 : Nat) : Int) := by rw [w_small (by omega) (by omega)]; rfl
  have cut : ∀ z, z = ((out ++ [(l.take k).drop st]).map bstr, ((k + 1 : Nat) : Int), ((k + 1 : Nat) : Int)) → ref20_Split_j4 (bstr l) (out.map bstr, (st : Int), (k : Int)) true (.inl z) := by
   rintro z rfl
   unfold ref20_Split_j4
   rw [if_pos rfl]
   simp only [hsz, Int.toNat_natCast, List.length_map, List.length_cons, List.length_nil]
   refine ⟨by omega, by omega, by omega, by omega, by omega, ?_⟩
   unfold ref20_Split_j3
   simp only
   rw [ext_bstr, wi]; simp
  have hle : decide ((k : Int) ≤ ((bstr l).size : Int)) = true := by rw [hsz, decide_eq_true_eq]; omega
  by_cases he : k = l.length
  ·refine ⟨((out ++ [(l.take k).drop st]).map bstr, ((k + 1 : Nat) : Int), ((k + 1 : Nat) : Int)), ?_, rfl, .inl ⟨by omega, ?_⟩⟩
   ·unfold ref20_Split_l2
    simp only
    rw [if_pos hle, if_pos (by simp [hsz, he])]
    exact cut _ rfl
   ·simp only
    rw [← h5, he, List.drop_length]; simp [splitL, glue]
  ·have hkl : k < l.length := by omega
   have hne : ¬ decide ((k : Int) = ((bstr l).size : Int)) = true := by rw [hsz, decide_eq_true_eq]; omega
   have hx : idx (bints (bstr l)) (k : Int) l[k] := by rw [bb_of ho]; exact idx_of hkl
   rw [List.drop_eq_getElem_cons hkl, splitL] at h5
   by_cases hc : l[k] = c
   ·rw [if_pos hc] at h5
    refine ⟨((out ++ [(l.take k).drop st]).map bstr, ((k + 1 : Nat) : Int), ((k + 1 : Nat) : Int)), ?_, rfl, .inr ⟨by omega, out ++ [(l.take k).drop st], k + 1, rfl, rfl, by omega, by simp; omega, ?_⟩⟩
    ·unfold ref20_Split_l2
     simp only
     rw [if_pos hle, if_neg hne]
     refine ⟨l[k], hx, ?_⟩
     rw [decide_eq_true hc]; exact cut _ rfl
    ·rw [show (l.take (k + 1)).drop (k + 1) = [] from List.drop_eq_nil_of_le (by rw [List.length_take]; omega), glue_nil (splitL_ne _ _), ← h5]
     simp [glue]
   ·rw [if_neg hc, glue_glue] at h5
    refine ⟨(out.map bstr, (st : Int), ((k + 1 : Nat) : Int)), ?_, rfl, .inr ⟨by omega, out, st, rfl, rfl, by omega, by omega, ?_⟩⟩
    ·unfold ref20_Split_l2
     simp only
     rw [if_pos hle, if_neg hne]
     refine ⟨l[k], hx, ?_⟩
     rw [decide_eq_false hc]
     unfold ref20_Split_j4
     rw [if_neg (by decide)]
     unfold ref20_Split_j3
     simp only
     rw [wi]
    ·rw [← h5]
     congr 1
     congr 1
     rw [List.take_succ_eq_append_getElem hkl, List.drop_append_of_le_length (by rw [List.length_take]; omega)]
 ·rintro ⟨o, st', i⟩ ⟨h1, h2⟩
  simp only at h1 h2
  rcases h2 with ⟨_, rfl⟩ | ⟨h2, _⟩
  ·refine ⟨_, ?_, rfl⟩
   unfold ref20_Split_l2
   rw [if_neg (by simp only [hsz, h1, decide_eq_true_eq]; omega)]
  ·omega
theorem scut_no {c : Int} (hc : 0 ≤ c ∧ c < 256) {l : List Int} (ho : Oct l) (h : c ∉ l) : strings_Cut (bstr l) (bstr [c]) (bstr l, bstr [], false) := by
 refine ⟨(bstr l, bstr [], false), ⟨-1, ⟨c, one_bints hc, by rw [bb_of ho, place_no h]⟩, ?_⟩, rfl⟩
 rw [if_neg (by decide)]
theorem scut_at {c : Int} (hc : 0 ≤ c ∧ c < 256) {p q : List Int} (hl : (p ++ c :: q).length < 1000000000) (ho : Oct (p ++ c :: q)) (h : c ∉ p) : strings_Cut (bstr (p ++ c :: q)) (bstr [c]) (bstr p, bstr q, true) := by
 obtain ⟨m1, m2⟩ := take_mid p c q
 simp only [List.length_append, List.length_cons] at hl
 have w2 : IntKind.i64.wrap ((p.length : Int) + ((bstr [c]).size : Int)) = ((p.length + 1 : Nat) : Int) := by
  rw [size_bstr, w_small (by simp only [List.length_cons, List.length_nil]; omega) (by simp only [List.length_cons, List.length_nil]; omega)]; rfl
 refine ⟨(bstr p, bstr q, true), ⟨(p.length : Int), ⟨c, one_bints hc, by rw [bb_of ho, place_at h]⟩, ?_⟩, rfl⟩
 rw [if_pos (by simp), w2, show (bstr (p ++ c :: q)).size = (p ++ c :: q).length from size_bstr _, ext_bstr, ext_bstr, Int.toNat_natCast, Int.toNat_natCast, m1, m2]
 simp only [List.length_append, List.length_cons]
 exact ⟨by omega, by omega, by omega, by omega, trivial⟩
theorem end_yes {p : List Int} (hl : p.length < 1000000000) : strings_CutSuffix (bstr (p ++ [10])) (bstr [10]) (bstr p, true) := by
 have hs : (bstr (p ++ [10])).size = p.length + 1 := by rw [size_bstr]; simp
 have h1 : (bstr [10]).size = 1 := by rw [size_bstr]; rfl
 have w : IntKind.i64.wrap (((bstr (p ++ [10])).size : Int) - ((bstr [10]).size : Int)) = (p.length : Int) := by rw [hs, h1, w_small (by omega) (by omega)]; omega
 refine ⟨(bstr p, true), ⟨true, ?_, ?_⟩, rfl⟩
 ·unfold internal_stringslite_HasSuffix
  rw [if_pos (by rw [hs, h1, decide_eq_true_eq]; omega), w, hs, ext_bstr, Int.toNat_natCast]
  refine ⟨by omega, by omega, ?_⟩
  show true = _
  rw [List.take_of_length_le (by simp), List.drop_left' rfl]; simp
 ·rw [if_neg (by decide), w, hs, ext_bstr, Int.toNat_natCast]
  refine ⟨by omega, by omega, ?_⟩
  rw [List.drop_zero, List.take_left' rfl]
theorem end_no {l : List Int} (hl : l.length < 1000000000) (ho : Oct l) (h : 10 ∉ l) : strings_CutSuffix (bstr l) (bstr [10]) (bstr l, false) := by
 have hs : (bstr l).size = l.length := size_bstr _
 have h1 : (bstr [10]).size = 1 := by rw [size_bstr]; rfl
 refine ⟨(bstr l, false), ⟨false, ?_, by rw [if_pos (by decide)]⟩, rfl⟩
 unfold internal_stringslite_HasSuffix
 by_cases h0 : 1 ≤ l.length
 ·have w : IntKind.i64.wrap (((bstr l).size : Int) - ((bstr [10]).size : Int)) = ((l.length - 1 : Nat) : Int) := by rw [hs, h1, w_small (by omega) (by omega)]; omega
  rw [if_pos (by rw [hs, h1]; simp; omega), w, hs, ext_bstr, Int.toNat_natCast]
  refine ⟨by omega, by omega, ?_⟩
  show false = _
  rw [List.take_length]
  refine (decide_eq_false (fun e => ?_)).symm
  have := bs_inj (fun x hx => ho x (List.mem_of_mem_drop hx)) (fun x hx => by simp at hx; omega) e
  exact h (List.mem_of_mem_drop (i := l.length - 1) (by rw [this]; simp))
 ·rw [if_neg (by rw [hs, h1]; simp; omega)]
  rfl
end Go.Rel
/-! Plain laws: bytes in digits of 16, read and written. -/
namespace Go.Rel
open Go Go.Eng Go.Pl
def hv (c : Int) : Option Int := if 48 ≤ c ∧ c ≤ 57 then some (c - 48) else if 97 ≤ c ∧ c ≤ 102 then some (c - 87) else none
theorem hv_hexD {n : Int} (h0 : 0 ≤ n) (h1 : n < 16) : hv (hexD n) = some n := by
 unfold hv hexD
 by_cases h : n < 10
 ·rw [if_pos h, if_pos (by omega)]; congr 1; omega
 ·rw [if_neg h, if_neg (by omega), if_pos (by omega)]; congr 1; omega
theorem hv_some {c n : Int} (h : hv c = some n) : 0 ≤ n ∧ n < 16 ∧ hexD n = c := by
 unfold hv at h
 split at h
 ·cases h; unfold hexD; rw [if_pos (by omega)]; omega
 ·split at h
  ·cases h; unfold hexD; rw [if_neg (by omega)]; omega
  ·cases h
set_option maxRecDepth 100000 in
theorem place_all : ∀ k : Nat, k < 256 → ((digs.findIdx? (fun x => decide (x = (k : Int)))).map Int.ofNat).getD (-1) = (hv (k : Int)).getD (-1) := by decide
theorem place_hv {c : Int} (h : 0 ≤ c ∧ c < 256) : strings_IndexByte (bstr [48, 49, 50, 51, 52, 53, 54, 55, 56, 57, 97, 98, 99, 100, 101, 102]) c ((hv c).getD (-1)) := by
 refine ⟨⟨h.1, by show c ≤ (255 : Int); omega⟩, ?_⟩
 rw [digs_lit]
 have := place_all c.toNat (by omega)
 rw [Int.toNat_of_nonneg h.1] at this
 exact this.symm
def unhexL : List Int → Option (List Int)
 | [] => some []
 | [_] => none
 | a :: b :: l => match hv a, hv b, unhexL l with
  | some x, some y, some r => some ((16 * x + y) :: r)
  | _, _, _ => none
theorem rdig_ok {n : Int} (h0 : 0 ≤ n) (h1 : n < 16) : ref26_digit n (hexD n) := by
 unfold ref26_digit hexD
 by_cases h : n < 10
 ·rw [if_pos (by simpa using h), if_pos h, w_u8]; omega
 ·rw [if_neg (by simpa using h), if_neg h, w_u8]; omega
set_option maxRecDepth 10000 in
theorem seek_run {w : List Int} (ho : Oct w) (hl : w.length < 1000000) {i : Nat} {c1 c2 : Int} (h1 : w[i]? = some c1) (h2 : w[i + 1]? = some c2) {out : List Int} (hol : out.length < 1000000) :
    Loops (ref26_Unhex_l5 (bstr w) (out, (i : Int))) (out, false, 0) (match hv c1, hv c2 with | some x, some y => (out ++ [16 * x + y], true) | _, _ => (out, false)) := by
  have hi : i + 1 < w.length := (List.getElem?_eq_some_iff.1 h2).1
  have x1 : idx (bints (bstr w)) (i : Int) c1 := by rw [bb_of ho]; exact idx_at rfl h1
  have x2 : idx (bints (bstr w)) (IntKind.i64.wrap ((i : Int) + 1)) c2 := by rw [bb_of ho, w_small (by omega) (by omega)]; exact idx_at (k := i + 1) rfl h2
  have step : ∀ k : Nat, k < 256 → ref26_Unhex_l5 (bstr w) (out, (i : Int)) (out, false, (k : Int)) (.inl (if hexD ((k : Int) / 16) = c1 ∧ hexD ((k : Int) % 16) = c2 then (out ++ [(k : Int)], true, ((k + 1 : Nat) : Int)) else (out, false, ((k + 1 : Nat) : Int)))) := by
    intro k hk
    have wi : IntKind.i64.wrap ((k : Int) + 1) = ((k + 1 : Nat) : Int) := by rw [w_small (by omega) (by omega)]; rfl
    have e1 : IntKind.u8.wrap (IntKind.i64.wrap ((k : Int).tdiv 16)) = (k : Int) / 16 := by rw [Int.tdiv_eq_ediv_of_nonneg (by omega), w_small (by omega) (by omega), w_u8]; omega
    have e2 : IntKind.u8.wrap ((k : Int).tmod 16) = (k : Int) % 16 := by rw [Int.tmod_eq_emod_of_nonneg (by omega), w_u8]; omega
    have e3 : IntKind.u8.wrap (k : Int) = (k : Int) := by rw [w_u8]; omega
    unfold ref26_Unhex_l5
    simp only
    rw [if_pos (by simp only [decide_eq_true_eq]; omega)]
    unfold ref26_Unhex_j6
    rw [if_pos (show (!false) = true from rfl)]
    simp only
    rw [e1, e2, e3]
    refine ⟨_, rdig_ok (by omega) (by omega), c1, x1, hexD ((k : Int) % 16), fun _ => rdig_ok (by omega) (by omega), c2, fun _ => x2, ?_⟩
    by_cases g1 : hexD ((k : Int) / 16) = c1
    · by_cases g2 : hexD ((k : Int) % 16) = c2
      · rw [if_pos (by rw [decide_eq_true g1, decide_eq_true g2]; rfl), if_pos ⟨g1, g2⟩]
        simp only [List.length_cons, List.length_nil]
        refine ⟨by omega, by omega, ?_⟩
        unfold ref26_Unhex_j7; simp only; rw [wi]
      · rw [if_neg (by rw [decide_eq_false g2, Bool.and_false]; decide), if_neg (fun h => g2 h.2)]
        unfold ref26_Unhex_j7; simp only; rw [wi]
    · rw [if_neg (by rw [decide_eq_false g1, Bool.false_and]; decide), if_neg (fun h => g1 h.1)]
      unfold ref26_Unhex_j7; simp only; rw [wi]
  have fin : ∀ (o : List Int) (k : Nat), ref26_Unhex_l5 (bstr w) (out, (i : Int)) (o, true, (k : Int)) (.inr (o, true)) := by
    intro o k
    unfold ref26_Unhex_l5
    simp only
    by_cases hk : (k : Int) < 256
    · rw [if_pos (decide_eq_true hk)]; unfold ref26_Unhex_j6; rw [if_neg (show ¬ ((!true) = true) by decide)]
    · rw [if_neg (fun e => hk (of_decide_eq_true e))]; unfold ref26_Unhex_j6; rw [if_neg (by decide)]
  have fin0 : ref26_Unhex_l5 (bstr w) (out, (i : Int)) (out, false, ((256 : Nat) : Int)) (.inr (out, false)) := by
    unfold ref26_Unhex_l5
    simp only
    rw [if_neg (show ¬ decide (((256 : Nat) : Int) < 256) = true by decide)]; unfold ref26_Unhex_j6; rw [if_neg (by decide)]
  have go : ∀ (m k : Nat) (r : List Int × Bool), k + m = 256 → ((∃ x : Nat, k ≤ x ∧ x < 256 ∧ hexD ((x : Int) / 16) = c1 ∧ hexD ((x : Int) % 16) = c2 ∧ (∀ y : Nat, y < x → ¬ (hexD ((y : Int) / 16) = c1 ∧ hexD ((y : Int) % 16) = c2)) ∧ r = (out ++ [(x : Int)], true)) ∨ ((∀ y : Nat, y < 256 → ¬ (hexD ((y : Int) / 16) = c1 ∧ hexD ((y : Int) % 16) = c2)) ∧ r = (out, false))) → Loops (ref26_Unhex_l5 (bstr w) (out, (i : Int))) (out, false, (k : Int)) r := by
    intro m
    induction m with
    | zero =>
      intro k r hk hr
      obtain rfl : k = 256 := by omega
      rcases hr with ⟨x, h3, h4, _⟩ | ⟨_, rfl⟩
      · omega
      · exact .done fin0
    | succ m ih =>
      intro k r hk hr
      have st := step k (by omega)
      rcases hr with ⟨x, h3, h4, h5, h6, h7, rfl⟩ | ⟨h3, rfl⟩
      · by_cases hkx : k = x
        · subst hkx
          rw [if_pos ⟨h5, h6⟩] at st
          exact .next st (.done (fin _ _))
        · rw [if_neg (h7 k (by omega))] at st
          exact .next st (ih (k + 1) _ (by omega) (.inl ⟨x, by omega, h4, h5, h6, h7, rfl⟩))
      · rw [if_neg (h3 k (by omega))] at st
        exact .next st (ih (k + 1) _ (by omega) (.inr ⟨h3, rfl⟩))
  have inj : ∀ y : Nat, y < 256 → hexD ((y : Int) / 16) = c1 → hexD ((y : Int) % 16) = c2 → hv c1 = some ((y : Int) / 16) ∧ hv c2 = some ((y : Int) % 16) := by
    intro y hy g1 g2
    rw [← g1, ← g2]
    exact ⟨hv_hexD (by omega) (by omega), hv_hexD (by omega) (by omega)⟩
  refine go 256 0 _ rfl ?_
  cases v1 : hv c1 with
  | none => exact .inr ⟨fun y hy h => (by have := (inj y hy h.1 h.2).1; rw [v1] at this; cases this), rfl⟩
  | some x =>
    cases v2 : hv c2 with
    | none => exact .inr ⟨fun y hy h => (by have := (inj y hy h.1 h.2).2; rw [v2] at this; cases this), rfl⟩
    | some y =>
      obtain ⟨a0, a1, a2⟩ := hv_some v1
      obtain ⟨b0, b1, b2⟩ := hv_some v2
      have e : ((16 * x + y).toNat : Int) = 16 * x + y := Int.toNat_of_nonneg (by omega)
      refine .inl ⟨(16 * x + y).toNat, by omega, by omega, ?_, ?_, fun z hz h => ?_, by rw [e]⟩
      · rw [e, show (16 * x + y) / 16 = x by omega, a2]
      · rw [e, show (16 * x + y) % 16 = y by omega, b2]
      · obtain ⟨g1, g2⟩ := inj z (by omega) h.1 h.2
        rw [v1] at g1; rw [v2] at g2
        cases g1; cases g2; omega
theorem unhex_run {w : List Int} (ho : Oct w) (hl : w.length < 1000000) : ∀ (n : Nat) (l pre out : List Int), l.length ≤ n → w = pre ++ l → l.length % 2 = 0 → out.length + l.length ≤ w.length → ∃ e, Loops (ref26_Unhex_l3 (bstr w)) (out, (pre.length : Int)) e ∧ e = (match unhexL l with | none => .inr ([], 3) | some r => .inl (out ++ r)) := by
 intro n
 induction n with
 | zero =>
  intro l pre out hn h _ _
  obtain rfl := List.eq_nil_of_length_eq_zero (Nat.le_zero.1 hn)
  refine ⟨_, .done ?_, rfl⟩
  unfold ref26_Unhex_l3
  rw [if_neg (by rw [size_bstr, h]; simp)]
  simp [unhexL]
 | succ n ih =>
  intro l pre out hn h h2 ho2
  match l, hn, h, h2, ho2 with
  | [], hn, h, h2, ho2 =>
   refine ⟨_, .done ?_, rfl⟩
   unfold ref26_Unhex_l3
   rw [if_neg (by rw [size_bstr, h]; simp)]
   simp [unhexL]
  | [x], hn, h, h2, ho2 => simp at h2
  | a :: b :: l, hn, h, h2, ho2 =>
   simp only [List.length_cons] at hn h2 ho2
   have hlen : w.length = pre.length + l.length + 2 := by rw [h]; simp; omega
   have s := seek_run ho hl (i := pre.length) (c1 := a) (c2 := b) (by rw [h]; simp) (by rw [h]; simp) (out := out) (by omega)
   have wi : IntKind.i64.wrap ((pre.length : Int) + 2) = ((pre ++ [a, b]).length : Int) := by rw [w_small (by omega) (by omega)]; simp
   have bad : (match hv a, hv b with | some x, some y => (out ++ [16 * x + y], true) | _, _ => (out, false)) = (out, false) → unhexL (a :: b :: l) = none → ∃ e, Loops (ref26_Unhex_l3 (bstr w)) (out, (pre.length : Int)) e ∧ e = (match unhexL (a :: b :: l) with | none => .inr ([], 3) | some r => .inl (out ++ r)) := by
    intro hs hu
    rw [hs] at s
    refine ⟨_, .done ?_, rfl⟩
    unfold ref26_Unhex_l3
    rw [if_pos (by rw [size_bstr, decide_eq_true_eq]; simp only; omega)]
    refine ⟨_, s, ?_⟩
    unfold ref26_Unhex_j4
    rw [if_pos (show (!false) = true from rfl), hu]
   cases v1 : hv a with
   | none => exact bad (by rw [v1]) (by simp [unhexL, v1])
   | some x =>
    cases v2 : hv b with
    | none => exact bad (by rw [v1, v2]) (by simp [unhexL, v1, v2])
    | some y =>
     rw [v1, v2] at s
     simp only at s
     obtain ⟨e, h3, h4⟩ := ih l (pre ++ [a, b]) (out ++ [16 * x + y]) (by omega) (by rw [h]; simp) (by omega) (by simp; omega)
     refine ⟨e, .next ?_ h3, ?_⟩
     ·unfold ref26_Unhex_l3
      rw [if_pos (by rw [size_bstr, decide_eq_true_eq]; simp only; omega)]
      refine ⟨_, s, ?_⟩
      unfold ref26_Unhex_j4
      rw [if_neg (show ¬ ((!true) = true) by decide)]
      simp only
      rw [wi]
     ·rw [h4]
      cases v3 : unhexL l with
      | none => simp [unhexL, v1, v2, v3]
      | some r => simp [unhexL, v1, v2, v3]
def unhexR (w : List Int) : List Int × Int := if w = [45] then ([], 0) else if w = [] then ([], 3) else match unhexL w with
 | none => ([], 3)
 | some r => (r, 0)
theorem unhexL_odd : ∀ (n : Nat) (l : List Int), l.length ≤ n → l.length % 2 = 1 → unhexL l = none
 | 0, l, h, h2 => by omega
 | n + 1, [], h, h2 => by simp at h2
 | n + 1, [x], h, h2 => rfl
 | n + 1, a :: b :: l, h, h2 => by
  simp only [List.length_cons] at h h2
  have := unhexL_odd n l (by omega) (by omega)
  simp only [unhexL, this]
  cases hv a <;> cases hv b <;> rfl
theorem bstr_ne {w v : List Int} (ho : Oct w) (hv : Oct v) (h : w ≠ v) : ¬ decide (bstr w = bstr v) = true := by
 rw [decide_eq_true_eq]; exact fun e => h (bs_inj ho hv e)
theorem runhex_ok {w : List Int} (ho : Oct w) (hl : w.length < 1000000) : ref26_Unhex (bstr w) (unhexR w) := by
 have h45 : Oct [45] := fun x hx => by simp at hx; omega
 have h0 : Oct [] := fun x hx => nomatch hx
 unfold ref26_Unhex unhexR
 by_cases e1 : w = [45]
 ·rw [if_pos (by simp [e1]), if_pos e1]
 ·rw [if_neg (bstr_ne ho h45 e1), if_neg e1]
  by_cases e2 : w = []
  ·rw [if_pos (by simp [e2]), if_pos e2]
   unfold ref26_Unhex_j1; rw [if_pos rfl]
  ·rw [if_neg (bstr_ne ho h0 e2), if_neg e2]
   unfold ref26_Unhex_j1
   have hm : ((bstr w).size : Int).tmod 2 = ((w.length % 2 : Nat) : Int) := by rw [size_bstr, Int.tmod_eq_emod_of_nonneg (by omega)]; rfl
   rw [hm]
   by_cases e3 : w.length % 2 = 1
   ·rw [if_pos (by rw [decide_eq_true_eq]; omega), unhexL_odd w.length w (Nat.le_refl _) e3]
   ·rw [if_neg (by rw [decide_eq_true_eq]; omega)]
    obtain ⟨e, h1, h2⟩ := unhex_run ho hl w.length w [] [] (Nat.le_refl _) rfl (by omega) (by simp)
    refine ⟨e, h1, ?_⟩
    rw [h2]
    cases unhexL w with
    | none => rfl
    | some r => rfl
end Go.Rel
