import Derived.Test.YthglcjhdmoljjaaDoorEngP
import Derived.Test.YthglcjhdmoljjaaDoorURel
/-! Plain laws: whole numbers of a kind; loops that count. -/
namespace Go.Pl
open Go Go.Eng

theorem w_u8 (n : Int) : IntKind.u8.wrap n = n % 256 := by simp [IntKind.wrap, IntKind.bits, IntKind.signed]
theorem w_i64 (n : Int) : IntKind.i64.wrap n = (n + 9223372036854775808) % 18446744073709551616 - 9223372036854775808 := by
  simp only [IntKind.wrap, IntKind.bits, IntKind.signed]
  simp only [Bool.true_and]
  split
  · rename_i h; simp at h; omega
  · rename_i h; simp at h; omega
theorem w_small {n : Int} (h0 : -9223372036854775808 ≤ n) (h1 : n ≤ 9223372036854775807) : IntKind.i64.wrap n = n := by rw [w_i64]; omega
theorem loops_count {S E : Type} {step : S → Sum S E → Prop} (f : Nat → S) (N : Nat) {e : E} (hstep : ∀ k, k < N → step (f k) (.inl (f (k + 1)))) (hend : step (f N) (.inr e)) : Loops step (f 0) e := by
  have key : ∀ m k, k + m = N → Loops step (f k) e := by
    intro m
    induction m with
    | zero => intro k hk; have : k = N := by omega
              subst this; exact .done hend
    | succ m ih => intro k hk; exact .next (hstep k (by omega)) (ih (k + 1) (by omega))
  exact key N 0 (by omega)
end Go.Pl
/-! Plain laws: loops by what holds; words of 32 bits. -/
namespace Go.Pl
open Go Go.Eng

theorem idx_of {α : Type} {xs : List α} {k : Nat} (h : k < xs.length) : idx xs (k : Int) xs[k] := ⟨by omega, by simp [h]⟩
theorem idx_at {α : Type} {xs : List α} {i : Int} {k : Nat} {x : α} (hi : i = (k : Int)) (h : xs[k]? = some x) : idx xs i x := by
  subst hi; exact ⟨by omega, by simpa using h⟩
theorem putN_getD {α : Type} {n : Nat} {z v : α} {xs : List α} {q j : Nat} (hj : j < n) : (putN n z xs q v).getD j z = if j = q then v else xs.getD j z := by
  simp only [putN, List.getD_eq_getElem?_getD, List.getElem?_map]
  rw [List.getElem?_range hj]; rfl

def B (x : BitVec 32) : Int := (x.toNat : Int)
theorem ok_u32 {n : Int} (h : IntOk .u32 n) : 0 ≤ n ∧ n < 4294967296 := by
  obtain ⟨h1, h2⟩ := h
  simp only [IntKind.min, IntKind.max, IntKind.signed, IntKind.bits] at h1 h2
  simp at h1 h2; omega
theorem ok_i64 {n : Int} (h : IntOk .i64 n) : -9223372036854775808 ≤ n ∧ n ≤ 9223372036854775807 := by
  obtain ⟨h1, h2⟩ := h
  simp only [IntKind.min, IntKind.max, IntKind.signed, IntKind.bits] at h1 h2
  simp at h1 h2; omega
end Go.Pl
/-! Plain laws: numbers in digits. -/
namespace Go.Rel
open Go Go.Eng Go.Pl
/-! ### Bytes as strings -/
theorem foldl_push_size (l : List Int) (s : ByteArray) : (l.foldl (fun r n => r.push (UInt8.ofNat n.toNat)) s).size = s.size + l.length := by
  induction l generalizing s with
  | nil => simp
  | cons x l ih => rw [List.foldl_cons, ih, ByteArray.size_push, List.length_cons]; omega
theorem size_bstr (l : List Int) : (bstr l).size = l.length := by
  unfold bstr
  rw [foldl_push_size]
  show ByteArray.empty.size + _ = _
  simp
theorem foldl_push_append (l : List Int) (s t : ByteArray) : l.foldl (fun r n => r.push (UInt8.ofNat n.toNat)) (s ++ t) = s ++ l.foldl (fun r n => r.push (UInt8.ofNat n.toNat)) t := by
  induction l generalizing t with
  | nil => rfl
  | cons x l ih =>
    rw [List.foldl_cons, List.foldl_cons, ← ih]
    congr 1
    apply ByteArray.ext
    simp [ByteArray.push, ByteArray.data_append]
theorem bstr_append (a b : List Int) : bstr (a ++ b) = bstr a ++ bstr b := by
  unfold bstr
  rw [List.foldl_append]
  have h := foldl_push_append b (a.foldl (fun r n => r.push (UInt8.ofNat n.toNat)) ByteArray.empty) ByteArray.empty
  rw [← h]
  congr 1
  simp
/-! ### Digits -/
theorem decF_fuel : ∀ (f u f' : Nat), u ≤ f → u ≤ f' → decF f u = decF f' u
  | 0, u, f', h, h' => by
    obtain rfl : u = 0 := by omega
    cases f' with
    | zero => rfl
    | succ f' => simp [decF]
  | f + 1, u, f', h, h' => by
    cases f' with
    | zero =>
      obtain rfl : u = 0 := by omega
      simp [decF]
    | succ f' =>
      by_cases hu : u < 10
      · simp [decF, hu]
      · simp only [decF, if_neg hu]
        rw [decF_fuel f (u / 10) f' (by omega) (by omega)]
theorem decL_lt {u : Nat} (h : u < 10) : decL u = [48 + (u : Int)] := by
  unfold decL
  cases u with
  | zero => rfl
  | succ u => simp only [decF, if_pos h]
theorem decL_ge {u : Nat} (h : ¬ u < 10) : decL u = decL (u / 10) ++ [48 + ((u % 10 : Nat) : Int)] := by
  unfold decL
  match u, h with
  | u + 1, h =>
    simp only [decF, if_neg h]
    rw [decF_fuel u ((u + 1) / 10) ((u + 1) / 10) (by omega) (by omega)]
theorem decL_len : ∀ (k u : Nat), u < 10 ^ (k + 1) → (decL u).length ≤ k + 1
  | 0, u, h => by rw [decL_lt (by omega)]; simp
  | k + 1, u, h => by
    by_cases hu : u < 10
    · rw [decL_lt hu]; simp
    · rw [decL_ge hu, List.length_append]
      have := decL_len k (u / 10) (by rw [Nat.pow_succ] at h; omega)
      simp only [List.length_cons, List.length_nil]; omega
theorem decI_len {n : Int} (h : IntOk .i64 n) : (decI n).length ≤ 21 := by
  have ⟨h0, h1⟩ := ok_i64 h
  unfold decI
  split
  · rw [List.length_cons]; have := decL_len 19 n.natAbs (by omega); omega
  · have := decL_len 19 n.toNat (by omega); omega
/-! ### The library's -/
theorem itoa_ok {n : Int} (h : IntOk .i64 n) : strconv_Itoa n (bstr (decI n)) := ⟨h, rfl⟩
/-! ### The document's -/
end Go.Rel
/-! Plain laws: messages: fields, what is wrong with one. -/
namespace Go.Rel
open Go Go.Eng Go.Pl

theorem len_wrap {n : Nat} (h : n < 4611686018427387904) : IntKind.i64.wrap ((n : Int) + 1) = ((n + 1 : Nat) : Int) := by rw [w_small] <;> omega
def firstE {U E : Type} (u : U) (bad : Nat → Option E) (n : Nat) : Sum U E := match (List.range n).findSome? bad with | some e => .inr e | none => .inl u
theorem loops_first {S U E : Type} {step : S → Sum S (Sum U E) → Prop} (f : Nat → S) (bad : Nat → Option E) (u : U) (n : Nat) (hs : ∀ k, k < n → (∀ e, bad k = some e → step (f k) (.inr (.inr e))) ∧ (bad k = none → step (f k) (.inl (f (k + 1))))) (he : step (f n) (.inr (.inl u))) : Loops step (f 0) (firstE u bad n) := by
  have key : ∀ m k, k + m = n → Loops step (f k) (match (List.range' k m).findSome? bad with | some e => .inr e | none => .inl u) := by
    intro m
    induction m with
    | zero => intro k hk; obtain rfl : k = n := by omega
              exact .done he
    | succ m ih =>
      intro k hk
      have hsk := hs k (by omega)
      rw [List.range'_succ, List.findSome?_cons]
      cases hb : bad k with
      | some e => exact .done (hsk.1 e hb)
      | none => exact .next (hsk.2 hb) (ih (k + 1) (by omega))
  have := key n 0 (by omega)
  unfold firstE
  rw [List.range_eq_range']
  exact this
theorem firstE_none {U E : Type} {u : U} {bad : Nat → Option E} {n : Nat} (h : ∀ k, k < n → bad k = none) : firstE u bad n = .inl u := by
  unfold firstE
  rw [List.findSome?_eq_none_iff.2 (fun k hk => h k (List.mem_range.1 hk))]
abbrev Mg := Int × List Int × List (Int × Int) × List Int × ByteArray × ByteArray
abbrev Mr := Int × List Int × List (List Int) × List Int × ByteArray × ByteArray
abbrev Fd := ByteArray × Int × Int × Int × Int × Int × Int
def robotF : Fd := ((bstr [114, 111, 98, 111, 116]), 1, 0, 0, 65535, 1, 0)
def fieldsB (k : Int) : List Fd :=
  if k = 1 then [robotF, ((bstr [115, 112, 101, 101, 100]), 1, 1, 1, 5000, 1, 0), ((bstr [97, 99, 99, 101, 108]), 1, 2, 1, 10000, 2, 500), ((bstr [112, 97, 116, 104]), 3, (-1), 1, 16, 1, 0), ((bstr [116, 97, 103]), 6, (-1), 0, 16, 2, 0)]
  else if k = 2 then [robotF, ((bstr [114, 101, 97, 115, 111, 110]), 1, 1, 0, 15, 1, 0), ((bstr [122, 111, 110, 101]), 1, 2, 0, 4095, 2, 0)]
  else if k = 3 then [robotF, ((bstr [122, 111, 110, 101]), 1, 1, 0, 4095, 1, 0), ((bstr [108, 101, 97, 115, 101]), 1, 2, 1, 255, 2, 1), ((bstr [99, 101, 108, 108, 115]), 4, (-1), 1, 32, 1, 0)]
  else if k = 4 then [robotF, ((bstr [120]), 2, 1, (-1000000), 1000000, 1, 0), ((bstr [121]), 2, 2, (-1000000), 1000000, 1, 0), ((bstr [104, 101, 97, 100, 105, 110, 103]), 1, 3, 0, 35999, 1, 0), ((bstr [98, 97, 116, 116, 101, 114, 121]), 1, 4, 0, 1000, 1, 0), ((bstr [115, 117, 114, 101]), 1, 5, 0, 100, 2, 100)]
  else if k = 5 then [robotF, ((bstr [99, 111, 100, 101]), 1, 1, 1, 9999, 1, 0), ((bstr [115, 101, 118, 101, 114, 105, 116, 121]), 1, 2, 0, 4, 1, 0), ((bstr [112, 97, 114, 116]), 1, 3, 0, 255, 2, 0), ((bstr [116, 105, 109, 101, 115]), 1, 4, 1, 1000000, 2, 1), ((bstr [116, 101, 120, 116]), 5, (-1), 0, 64, 1, 0)]
  else []
theorem fields_ok (k : Int) : field_Of k (fieldsB k) := by
  unfold field_Of fieldsB
  by_cases h1 : k = 1
  · rw [if_pos (by simpa using h1), if_pos h1]; exact ⟨_, rfl, rfl⟩
  rw [if_neg (by simpa using h1), if_neg h1]
  by_cases h2 : k = 2
  · rw [if_pos (by simpa using h2), if_pos h2]; exact ⟨_, rfl, rfl⟩
  rw [if_neg (by simpa using h2), if_neg h2]
  by_cases h3 : k = 3
  · rw [if_pos (by simpa using h3), if_pos h3]; exact ⟨_, rfl, rfl⟩
  rw [if_neg (by simpa using h3), if_neg h3]
  by_cases h4 : k = 4
  · rw [if_pos (by simpa using h4), if_pos h4]; exact ⟨_, rfl, rfl⟩
  rw [if_neg (by simpa using h4), if_neg h4]
  by_cases h5 : k = 5
  · rw [if_pos (by simpa using h5), if_pos h5]; exact ⟨_, rfl, rfl⟩
  rw [if_neg (by simpa using h5), if_neg h5]
def fdOk (f : Fd) : Prop := f.2.2.2.2.2.1 ≤ 2 ∧ f.1.size ≤ 10 ∧ ((f.2.1 = 3 ∧ f.2.2.2.1 = 1 ∧ f.2.2.2.2.1 = 16) ∨ (f.2.1 = 4 ∧ f.2.2.2.1 = 1 ∧ f.2.2.2.2.1 = 32) ∨ (f.2.1 = 5 ∧ f.2.2.2.1 = 0 ∧ f.2.2.2.2.1 = 64) ∨ (f.2.1 = 6 ∧ f.2.2.2.1 = 0 ∧ f.2.2.2.2.1 = 16) ∨ (1 ≤ f.2.1 ∧ f.2.1 < 3 ∧ 0 ≤ f.2.2.1 ∧ f.2.2.1 < 6 ∧ -1000000 ≤ f.2.2.2.1 ∧ f.2.2.2.2.1 ≤ 1000000))
theorem fields_all (P : Fd → Prop) (k : Int) (h0 : P robotF) (h1 : ∀ f ∈ [((bstr [115, 112, 101, 101, 100]), 1, 1, 1, 5000, 1, 0), ((bstr [97, 99, 99, 101, 108]), 1, 2, 1, 10000, 2, 500), ((bstr [112, 97, 116, 104]), 3, (-1), 1, 16, 1, 0), ((bstr [116, 97, 103]), 6, (-1), 0, 16, 2, 0), ((bstr [114, 101, 97, 115, 111, 110]), 1, 1, 0, 15, 1, 0), ((bstr [122, 111, 110, 101]), 1, 2, 0, 4095, 2, 0), ((bstr [122, 111, 110, 101]), 1, 1, 0, 4095, 1, 0), ((bstr [108, 101, 97, 115, 101]), 1, 2, 1, 255, 2, 1), ((bstr [99, 101, 108, 108, 115]), 4, (-1), 1, 32, 1, 0), ((bstr [120]), 2, 1, (-1000000), 1000000, 1, 0), ((bstr [121]), 2, 2, (-1000000), 1000000, 1, 0), ((bstr [104, 101, 97, 100, 105, 110, 103]), 1, 3, 0, 35999, 1, 0), ((bstr [98, 97, 116, 116, 101, 114, 121]), 1, 4, 0, 1000, 1, 0), ((bstr [115, 117, 114, 101]), 1, 5, 0, 100, 2, 100), ((bstr [99, 111, 100, 101]), 1, 1, 1, 9999, 1, 0), ((bstr [115, 101, 118, 101, 114, 105, 116, 121]), 1, 2, 0, 4, 1, 0), ((bstr [112, 97, 114, 116]), 1, 3, 0, 255, 2, 0), ((bstr [116, 105, 109, 101, 115]), 1, 4, 1, 1000000, 2, 1), ((bstr [116, 101, 120, 116]), 5, (-1), 0, 64, 1, 0)], P f) : ∀ f ∈ fieldsB k, P f := by
  simp only [List.forall_mem_cons] at h1
  unfold fieldsB
  by_cases e1 : k = 1
  · rw [if_pos e1]; simp only [List.forall_mem_cons]; simp [h0, h1]
  rw [if_neg e1]
  by_cases e2 : k = 2
  · rw [if_pos e2]; simp only [List.forall_mem_cons]; simp [h0, h1]
  rw [if_neg e2]
  by_cases e3 : k = 3
  · rw [if_pos e3]; simp only [List.forall_mem_cons]; simp [h0, h1]
  rw [if_neg e3]
  by_cases e4 : k = 4
  · rw [if_pos e4]; simp only [List.forall_mem_cons]; simp [h0, h1]
  rw [if_neg e4]
  by_cases e5 : k = 5
  · rw [if_pos e5]; simp only [List.forall_mem_cons]; simp [h0, h1]
  rw [if_neg e5]
  simp
theorem fields_fd (k : Int) : ∀ f ∈ fieldsB k, fdOk f := by
  refine fields_all fdOk k (by simp [fdOk, robotF, size_bstr]) ?_
  simp only [List.forall_mem_cons]
  simp [fdOk, size_bstr]
theorem fields_len (k : Int) : (fieldsB k).length ≤ 6 := by
  unfold fieldsB
  by_cases e1 : k = 1
  · rw [if_pos e1]; simp
  rw [if_neg e1]
  by_cases e2 : k = 2
  · rw [if_pos e2]; simp
  rw [if_neg e2]
  by_cases e3 : k = 3
  · rw [if_pos e3]; simp
  rw [if_neg e3]
  by_cases e4 : k = 4
  · rw [if_pos e4]; simp
  rw [if_neg e4]
  by_cases e5 : k = 5
  · rw [if_pos e5]; simp
  rw [if_neg e5]
  simp
/-! The reference's list. -/
/-! What is wrong with a part. -/
def manyB (n least most : Int) : Int := if n < least then 13 else if most < n then 6 else 0
theorem many_ok (n : Int) (f : Fd) : msg_many n f (manyB n f.2.2.2.1 f.2.2.2.2.1) := by
  unfold msg_many manyB
  simp only [decide_eq_true_eq]
  repeat' (first | rfl | split)
def errO (o : Sum Unit Int) : Int := match o with | .inr e => e | .inl _ => 0
theorem aft_err {j : Unit → Int → Prop} {o : Sum Unit Int} (h : ∀ u, j u 0) : Aft (fun p => j p (errO o)) (fun p => errO o = p) o := by
  cases o with
  | inl u => exact h u
  | inr e => rfl
def pathBad (l : List (Int × Int)) (k : Nat) : Option Int := match l[k]? with | some p => if 1000000 < max p.1 p.2 ∨ min p.1 p.2 < -1000000 then some 5 else none | none => none
def pathL (l : List (Int × Int)) : Int := errO (firstE () (pathBad l) l.length)
def pathB (l : List (Int × Int)) (least most : Int) : Int := if manyB l.length least most = 0 then pathL l else manyB l.length least most
theorem manyB_zero {n a b : Int} (h : manyB n a b = 0) : a ≤ n ∧ n ≤ b := by
  unfold manyB at h; split at h
  · omega
  · split at h <;> omega
theorem path_ok (l : List (Int × Int)) (f : Fd) (hm : f.2.2.2.2.1 < 1000) : msg_path l f (pathB l f.2.2.2.1 f.2.2.2.2.1) := by
  refine ⟨_, many_ok _ f, ?_⟩
  unfold pathB
  by_cases h : manyB l.length f.2.2.2.1 f.2.2.2.2.1 = 0
  · rw [if_neg (by simpa using h), if_pos h]
    have hl := (manyB_zero h).2
    refine ⟨_, loops_first (fun k => (k : Int)) (pathBad l) () l.length (fun k hk => ?_) ?_, aft_err fun _ => rfl⟩
    · have hw := len_wrap (n := k) (by omega)
      have hx := idx_of hk
      have st : ∀ o, (if 1000000 < max l[k].1 l[k].2 ∨ min l[k].1 l[k].2 < -1000000 then o = .inr (.inr 5) else o = .inl ((k + 1 : Nat) : Int)) → msg_path_l2 l (k : Int) o := by
        intro o ho
        unfold msg_path_l2
        rw [if_pos (by simp; omega)]
        refine ⟨_, hx, ?_⟩
        unfold msg_path_j3
        by_cases h1 : 1000000 < max l[k].1 l[k].2
        · rw [if_pos (.inl h1)] at ho; rw [if_pos (by simpa using h1)]; simpa using ho
        · rw [if_neg (by simpa using h1)]
          by_cases h2 : min l[k].1 l[k].2 < -1000000
          · rw [if_pos (.inr h2)] at ho; rw [if_pos (by simpa using h2)]; exact ho
          · rw [if_neg (not_or.2 ⟨h1, h2⟩)] at ho; rw [if_neg (by simpa using h2), hw]; exact ho
      unfold pathBad
      rw [List.getElem?_eq_getElem hk]
      by_cases hb : 1000000 < max l[k].1 l[k].2 ∨ min l[k].1 l[k].2 < -1000000
      · simp only [if_pos hb]; exact ⟨fun e he => (by cases he; exact st _ (by rw [if_pos hb])), fun he => by cases he⟩
      · simp only [if_neg hb]; exact ⟨fun e he => (by cases he), fun _ => st _ (by rw [if_neg hb])⟩
    · unfold msg_path_l2
      rw [if_neg (by simp)]
  · rw [if_pos (by simpa using h), if_neg h]
def cellsBad (l : List Int) (k : Nat) : Option Int := if l.getD k 0 < 0 ∨ 65535 < l.getD k 0 then some 5 else if 0 < k ∧ l.getD k 0 ≤ l.getD (k - 1) 0 then some 3 else none
def cellsL (l : List Int) : Int := errO (firstE () (cellsBad l) l.length)
def cellsB (l : List Int) (least most : Int) : Int := if manyB l.length least most = 0 then cellsL l else manyB l.length least most
theorem cells_ok (l : List Int) (f : Fd) (hm : f.2.2.2.2.1 < 1000) : msg_cells l f (cellsB l f.2.2.2.1 f.2.2.2.2.1) := by
  refine ⟨_, many_ok _ f, ?_⟩
  unfold cellsB
  by_cases h : manyB l.length f.2.2.2.1 f.2.2.2.2.1 = 0
  · rw [if_neg (by simpa using h), if_pos h]
    have hl := (manyB_zero h).2
    refine ⟨_, loops_first (fun k => ((if k = 0 then -1 else l.getD (k - 1) 0), (k : Int))) (cellsBad l) () l.length (fun k hk => ?_) ?_, aft_err fun _ => rfl⟩
    · have hw := len_wrap (n := k) (by omega)
      have hx := idx_of hk
      have hg : l.getD k 0 = l[k] := by simp [List.getD_eq_getElem?_getD, hk]
      have st : ∀ o, (if l[k] < 0 ∨ 65535 < l[k] then o = .inr (.inr 5) else if l[k] ≤ (if k = 0 then -1 else l.getD (k - 1) 0) then o = .inr (.inr 3) else o = .inl (l[k], ((k + 1 : Nat) : Int))) → msg_cells_l2 l ((if k = 0 then -1 else l.getD (k - 1) 0), (k : Int)) o := by
        intro o ho
        unfold msg_cells_l2
        rw [if_pos (by simp; omega)]
        refine ⟨_, hx, ?_⟩
        unfold msg_cells_j3
        have hj : (if l[k] < 0 ∨ 65535 < l[k] then o = .inr (.inr 5) else if (decide (l[k] ≤ (if k = 0 then -1 else l.getD (k - 1) 0))) = true then o = .inr (.inr 3) else o = .inl (l[k], (IntKind.i64.wrap ((k : Int) + 1)))) := by
          rw [hw]; simpa only [decide_eq_true_eq] using ho
        by_cases h1 : l[k] < 0
        · rw [if_pos (.inl h1)] at hj; rw [if_pos (by simpa using h1)]; simpa using hj
        · rw [if_neg (by simpa using h1)]
          by_cases h2 : 65535 < l[k]
          · rw [if_pos (.inr h2)] at hj; rw [if_pos (by simpa using h2)]; exact hj
          · rw [if_neg (not_or.2 ⟨h1, h2⟩)] at hj; rw [if_neg (by simpa using h2)]; exact hj
      unfold cellsBad
      rw [hg]
      by_cases hb : l[k] < 0 ∨ 65535 < l[k]
      · simp only [if_pos hb]; exact ⟨fun e he => (by cases he; exact st _ (by rw [if_pos hb])), fun he => by cases he⟩
      · have hc : (0 < k ∧ l[k] ≤ l.getD (k - 1) 0) ↔ l[k] ≤ (if k = 0 then -1 else l.getD (k - 1) 0) := by
          by_cases h2 : k = 0
          · subst h2; simp; omega
          · rw [if_neg h2]; omega
        simp only [if_neg hb, Nat.add_eq_zero_iff, Nat.one_ne_zero, and_false, if_false, Nat.add_sub_cancel, hg]
        by_cases hd : 0 < k ∧ l[k] ≤ l.getD (k - 1) 0
        · simp only [if_pos hd]; exact ⟨fun e he => (by cases he; exact st _ (by rw [if_neg hb, if_pos (hc.1 hd)])), fun he => by cases he⟩
        · simp only [if_neg hd]; exact ⟨fun e he => (by cases he), fun _ => st _ (by rw [if_neg hb, if_neg (fun h => hd (hc.2 h))])⟩
    · unfold msg_cells_l2
      rw [if_neg (by simp)]
  · rw [if_pos (by simpa using h), if_neg h]
theorem len_bints (s : ByteArray) : (bints s).length = s.size := by unfold bints; rw [List.length_map]; rfl
def textBad (s : ByteArray) (k : Nat) : Option Int := if (bints s).getD k 0 < 32 ∨ 126 < (bints s).getD k 0 then some 19 else none
def textL (s : ByteArray) : Int := errO (firstE () (textBad s) s.size)
def textB (s : ByteArray) (least most : Int) : Int := if manyB s.size least most = 0 then textL s else manyB s.size least most
theorem text_ok (s : ByteArray) (f : Fd) (hm : f.2.2.2.2.1 < 1000) : msg_text s f (textB s f.2.2.2.1 f.2.2.2.2.1) := by
  refine ⟨_, many_ok _ f, ?_⟩
  unfold textB
  by_cases h : manyB s.size f.2.2.2.1 f.2.2.2.2.1 = 0
  · rw [if_neg (by simpa using h), if_pos h]
    have hl := (manyB_zero h).2
    refine ⟨by omega, _, loops_first (fun k => (k : Int)) (textBad s) () s.size (fun k hk => ?_) ?_, aft_err fun _ => rfl⟩
    · have hw := len_wrap (n := k) (by omega)
      have hk' : k < (bints s).length := by rw [len_bints]; exact hk
      have hx := idx_of hk'
      have hg : (bints s).getD k 0 = (bints s)[k] := by simp [List.getD_eq_getElem?_getD, hk']
      have st : ∀ o, (if (bints s)[k] < 32 ∨ 126 < (bints s)[k] then o = .inr (.inr 19) else o = .inl ((k + 1 : Nat) : Int)) → msg_text_l2 s (k : Int) o := by
        intro o ho
        unfold msg_text_l2
        rw [if_pos (by simp only [decide_eq_true_eq]; omega)]
        refine ⟨_, hx, ?_⟩
        unfold msg_text_j3
        by_cases h1 : (bints s)[k] < 32
        · rw [if_pos (.inl h1)] at ho; rw [if_pos (by simpa using h1)]; simpa using ho
        · rw [if_neg (by simpa using h1)]
          by_cases h2 : 126 < (bints s)[k]
          · rw [if_pos (.inr h2)] at ho; rw [if_pos (by simpa using h2)]; exact ho
          · rw [if_neg (not_or.2 ⟨h1, h2⟩)] at ho; rw [if_neg (by simpa using h2), hw]; exact ho
      unfold textBad
      rw [hg]
      by_cases hb : (bints s)[k] < 32 ∨ 126 < (bints s)[k]
      · simp only [if_pos hb]; exact ⟨fun e he => (by cases he; exact st _ (by rw [if_pos hb])), fun he => by cases he⟩
      · simp only [if_neg hb]; exact ⟨fun e he => (by cases he), fun _ => st _ (by rw [if_neg hb])⟩
    · unfold msg_text_l2
      rw [if_neg (by rw [len_bints]; simp)]
  · rw [if_pos (by simpa using h), if_neg h]
def numBad (m : Mg) (f : Fd) : Prop := m.2.1.getD f.2.2.1.toNat 0 < f.2.2.2.1 ∨ f.2.2.2.2.1 < m.2.1.getD f.2.2.1.toNat 0
instance (m : Mg) (f : Fd) : Decidable (numBad m f) := by unfold numBad; infer_instance
def wrongB (m : Mg) (f : Fd) : Int :=
  if f.2.1 = 3 then pathB m.2.2.1 f.2.2.2.1 f.2.2.2.2.1 else if f.2.1 = 4 then cellsB m.2.2.2.1 f.2.2.2.1 f.2.2.2.2.1
  else if f.2.1 = 5 then textB m.2.2.2.2.1 f.2.2.2.1 f.2.2.2.2.1 else if f.2.1 = 6 then textB m.2.2.2.2.2 f.2.2.2.1 f.2.2.2.2.1
  else if numBad m f then 5 else 0
theorem wrong_fd (m : Mg) {f : Fd} (ok : fdOk f) : msg_wrong m f (wrongB m f) := by
  obtain ⟨_, _, ok⟩ := ok
  unfold msg_wrong wrongB
  simp only [decide_eq_true_eq]
  split
  · exact ⟨_, path_ok _ f (by omega), rfl⟩
  split
  · exact ⟨_, cells_ok _ f (by omega), rfl⟩
  split
  · exact ⟨_, text_ok _ f (by omega), rfl⟩
  split
  · exact ⟨_, text_ok _ f (by omega), rfl⟩
  refine ⟨by omega, by omega, ?_⟩
  unfold msg_wrong_j1
  by_cases h1 : m.2.1.getD f.2.2.1.toNat 0 < f.2.2.2.1
  · have hb : numBad m f := Or.inl h1
    rw [if_pos h1, if_pos rfl, if_pos hb]
  · rw [if_neg h1]
    by_cases h2 : f.2.2.2.2.1 < m.2.1.getD f.2.2.1.toNat 0
    · have hb : numBad m f := Or.inr h2
      rw [if_pos (decide_eq_true h2), if_pos hb]
    · have hb : ¬ numBad m f := not_or.2 ⟨h1, h2⟩
      rw [if_neg (by simpa using h2), if_neg hb]
end Go.Rel
/-! Plain laws: are lists, messages the same; copies; the document's view of a message. -/
namespace Go.Rel
open Go Go.Eng Go.Pl

theorem loops_eq {α : Type} [DecidableEq α] {xs ys : List α} {step : Int → Sum Int (Sum Unit Bool) → Prop} (hlen : xs.length = ys.length) (_hx : xs.length < 4611686018427387904)
    (hst : ∀ (k : Nat) x y, xs[k]? = some x → ys[k]? = some y → (x = y → step (k : Int) (.inl ((k + 1 : Nat) : Int))) ∧ (x ≠ y → step (k : Int) (.inr (.inr false)))) (hend : step (xs.length : Int) (.inr (.inl ()))) :
    ∃ e, Loops step 0 e ∧ (∀ (j : Unit → Bool → Prop), (∀ u, j u true) → Aft (fun p => j p (decide (xs = ys))) (fun p => decide (xs = ys) = p) e) := by
  let bad : Nat → Option Bool := fun k => if xs[k]? = ys[k]? then none else some false
  refine ⟨firstE () bad xs.length, loops_first (fun k => (k : Int)) bad () xs.length (fun k hk => ?_) hend, fun j hj => ?_⟩
  · have h1 := List.getElem?_eq_getElem hk
    have h2 : ys[k]? = some (ys[k]'(by omega)) := List.getElem?_eq_getElem (by omega)
    have hs := hst k _ _ h1 h2
    show (∀ e, (if xs[k]? = ys[k]? then none else some false) = some e → _) ∧ ((if xs[k]? = ys[k]? then none else some false) = none → _)
    rw [h1, h2]
    by_cases he : xs[k] = ys[k]'(by omega)
    · rw [if_pos (by rw [he])]; exact ⟨fun e h => (by cases h), fun _ => hs.1 he⟩
    · rw [if_neg (fun h => he (Option.some.inj h))]; exact ⟨fun e h => (by cases h; exact hs.2 he), fun h => (by cases h)⟩
  · by_cases he : xs = ys
    · rw [firstE_none (fun k hk => by show (if xs[k]? = ys[k]? then none else some false) = none; rw [if_pos (by rw [he])])]
      show j () _
      rw [decide_eq_true he]; exact hj ()
    · have : firstE () bad xs.length = .inr false := by
        unfold firstE
        cases hf : (List.range xs.length).findSome? bad with
        | some e =>
          obtain ⟨k, _, hk⟩ := List.exists_of_findSome?_eq_some hf
          have hk : (if xs[k]? = ys[k]? then none else some false) = some e := hk
          split at hk
          · cases hk
          · cases hk; rfl
        | none =>
          exact absurd (List.ext_getElem? fun k => by
            by_cases h : k < xs.length
            · have h2 := List.findSome?_eq_none_iff.1 hf k (List.mem_range.2 h)
              have h2 : (if xs[k]? = ys[k]? then none else some false) = none := h2
              split at h2
              · assumption
              · cases h2
            · rw [List.getElem?_eq_none (by omega), List.getElem?_eq_none (by omega)]) he
      rw [this]; exact decide_eq_false he
theorem ints_ok {a b : List Int} (h : a.length < 4611686018427387904) : ref01_Ints a b (decide (a = b)) := by
  unfold ref01_Ints
  by_cases hl : a.length = b.length
  · rw [if_neg (by simp; omega)]
    obtain ⟨e, h1, h2⟩ := loops_eq (step := ref01_Ints_l2 a b) hl h (fun k x y hx hy => by
      have hk := (List.getElem?_eq_some_iff.1 hx).1
      have st : ∀ o, (if x = y then o = .inl ((k + 1 : Nat) : Int) else o = .inr (.inr false)) → ref01_Ints_l2 a b k o := by
        intro o ho
        unfold ref01_Ints_l2
        rw [if_pos (by simpa using hk)]
        refine ⟨x, idx_at rfl hx, y, idx_at rfl hy, ?_⟩
        by_cases e : x = y
        · rw [if_pos e] at ho; rw [if_neg (by simp [e]), len_wrap (by omega)]; exact ho
        · rw [if_neg e] at ho; rw [if_pos (by simp [e])]; exact ho
      exact ⟨fun e => st _ (by rw [if_pos e]), fun e => st _ (by rw [if_neg e])⟩) (by unfold ref01_Ints_l2; rw [if_neg (by simp)])
    exact ⟨e, h1, h2 ref01_Ints_j1 fun _ => rfl⟩
  · rw [if_pos (by simp; omega), decide_eq_false]; intro e; exact hl (by rw [e])
theorem equalI_ok {a b : List Int} (h : a.length < 4611686018427387904) : slices_Equal_int_int a b (decide (a = b)) := by
  unfold slices_Equal_int_int
  by_cases hl : a.length = b.length
  · rw [if_neg (by simp; omega)]
    obtain ⟨e, h1, h2⟩ := loops_eq (step := slices_Equal_int_int_l2 a b) hl h (fun k x y hx hy => by
      have hk := (List.getElem?_eq_some_iff.1 hx).1
      have st : ∀ o, (if x = y then o = .inl ((k + 1 : Nat) : Int) else o = .inr (.inr false)) → slices_Equal_int_int_l2 a b k o := by
        intro o ho
        unfold slices_Equal_int_int_l2
        rw [if_pos (by simpa using hk)]
        refine ⟨x, idx_at rfl hx, y, idx_at rfl hy, ?_⟩
        by_cases e : x = y
        · rw [if_pos e] at ho; rw [if_neg (by simp [e]), len_wrap (by omega)]; exact ho
        · rw [if_neg e] at ho; rw [if_pos (by simp [e])]; exact ho
      exact ⟨fun e => st _ (by rw [if_pos e]), fun e => st _ (by rw [if_neg e])⟩) (by unfold slices_Equal_int_int_l2; rw [if_neg (by simp)])
    exact ⟨e, h1, h2 slices_Equal_int_int_j1 fun _ => rfl⟩
  · rw [if_pos (by simp; omega), decide_eq_false]; intro e; exact hl (by rw [e])
theorem equalP_ok {a b : List (Int × Int)} (h : a.length < 4611686018427387904) : slices_Equal_msg_Point_msg_Point a b (decide (a = b)) := by
  unfold slices_Equal_msg_Point_msg_Point
  by_cases hl : a.length = b.length
  · rw [if_neg (by simp; omega)]
    obtain ⟨e, h1, h2⟩ := loops_eq (step := slices_Equal_msg_Point_msg_Point_l2 a b) hl h (fun k x y hx hy => by
      have hk := (List.getElem?_eq_some_iff.1 hx).1
      have st : ∀ o, (if x = y then o = .inl ((k + 1 : Nat) : Int) else o = .inr (.inr false)) → slices_Equal_msg_Point_msg_Point_l2 a b k o := by
        intro o ho
        unfold slices_Equal_msg_Point_msg_Point_l2
        rw [if_pos (by simpa using hk)]
        refine ⟨x, idx_at rfl hx, y, idx_at rfl hy, ?_⟩
        by_cases e : x = y
        · rw [if_pos e] at ho; rw [if_neg (by simp [e]), len_wrap (by omega)]; exact ho
        · rw [if_neg e] at ho; rw [if_pos (by
            obtain ⟨x1, x2⟩ := x; obtain ⟨y1, y2⟩ := y
            simp only [Prod.mk.injEq, not_and] at e
            by_cases h1 : x1 = y1
            · simp [h1, e h1]
            · simp [h1])]; exact ho
      exact ⟨fun e => st _ (by rw [if_pos e]), fun e => st _ (by rw [if_neg e])⟩) (by unfold slices_Equal_msg_Point_msg_Point_l2; rw [if_neg (by simp)])
    exact ⟨e, h1, h2 slices_Equal_msg_Point_msg_Point_j1 fun _ => rfl⟩
  · rw [if_pos (by simp; omega), decide_eq_false]; intro e; exact hl (by rw [e])

def n6 (l : List Int) : List Int := [l.getD 0 0, l.getD 1 0, l.getD 2 0, l.getD 3 0, l.getD 4 0, l.getD 5 0]
theorem eqN6 (a b : List Int) : eqN 6 0 a b = decide (n6 a = n6 b) := by
  unfold eqN n6
  simp [List.range_succ]
def sameB (a b : Mg) : Bool := decide (a.1 = b.1 ∧ n6 a.2.1 = n6 b.2.1 ∧ a.2.2 = b.2.2)
theorem msame_ok {a b : Mg} (hp : a.2.2.1.length < 4611686018427387904) (hc : a.2.2.2.1.length < 4611686018427387904) : msg_Same a b (sameB a b) := by
  obtain ⟨k, n, p, c, t, g⟩ := a
  obtain ⟨k', n', p', c', t', g'⟩ := b
  unfold msg_Same sameB
  simp only [eqN6, decide_eq_true_eq, Prod.mk.injEq]
  by_cases h1 : k = k'
  · by_cases h2 : n6 n = n6 n'
    · rw [if_pos h1, if_pos h2]
      refine ⟨_, equalP_ok hp, ?_⟩
      by_cases h3 : p = p'
      · rw [if_pos (by simpa using h3)]
        refine ⟨_, equalI_ok hc, ?_⟩
        by_cases h4 : c = c'
        · rw [if_pos (by simpa using h4)]
          by_cases h5 : t = t'
          · rw [if_pos h5]; simp only [msg_Same_j1, h1, h2, h3, h4, h5, true_and]
          · rw [if_neg h5]; simp [msg_Same_j1, h5]
        · rw [if_neg (by simpa using h4)]; simp [msg_Same_j1, h4]
      · rw [if_neg (by simpa using h3)]; simp [msg_Same_j1, h3]
    · rw [if_pos h1, if_neg h2]; simp [msg_Same_j1, h2]
  · rw [if_neg h1]; simp [msg_Same_j1, h1]
def ofP (p : Int × Int) : List Int := [p.1, p.2]
theorem ofP_inj {p q : Int × Int} (h : ofP p = ofP q) : p = q := by
  obtain ⟨a, b⟩ := p; obtain ⟨c, d⟩ := q
  simp only [ofP, List.cons.injEq, and_true] at h
  rw [h.1, h.2]
def ofM (m : Mg) : Mr := (m.1, m.2.1, m.2.2.1.map ofP, m.2.2.2.1, m.2.2.2.2.1, m.2.2.2.2.2)
theorem ofm_ok {m : Mg} (hp : m.2.2.1.length < 1099511627776) : law17_Of m (ofM m) := by
  refine ⟨m.2.2.1.map ofP, ?_, rfl⟩
  have := loops_count (step := law17_Of_l2 m) (e := m.2.2.1.map ofP) (fun k => ((k : Int), (m.2.2.1.take k).map ofP)) m.2.2.1.length (fun k hk => by
    unfold law17_Of_l2
    rw [if_pos (by simpa using hk)]
    refine ⟨_, idx_of hk, _, idx_of hk, ?_⟩
    have hw := len_wrap (n := k) (by omega)
    simp only [List.length_map, List.length_take, List.length_cons, List.length_nil]
    refine ⟨by omega, by omega, ?_⟩
    rw [hw, List.take_succ_eq_append_getElem hk, List.map_append]; rfl) (by
    unfold law17_Of_l2
    rw [if_neg (by simp)]
    simp)
  simpa using this
theorem rsame_ok {a b : Mg} (hp : a.2.2.1.length < 4611686018427387904) (hc : a.2.2.2.1.length < 4611686018427387904) : ref17_Same (ofM a) (ofM b) (sameB a b) := by
  obtain ⟨k, n, p, c, t, g⟩ := a
  obtain ⟨k', n', p', c', t', g'⟩ := b
  unfold ref17_Same sameB ofM
  simp only [eqN6, Prod.mk.injEq]
  have jt : ∀ x y, ref17_Same_j1 x y true false := fun x y => by unfold ref17_Same_j1; rw [if_pos rfl]
  by_cases h1 : k = k'
  · rw [if_neg (by simp [h1])]
    by_cases h2 : n6 n = n6 n'
    · rw [if_neg (by simp [h2])]
      by_cases h3 : p.length = p'.length
      · rw [if_neg (by simp [h3])]
        refine ⟨_, ints_ok hc, ?_⟩
        by_cases h4 : c = c'
        · rw [if_neg (by simp [h4])]
          by_cases h5 : t = t'
          · rw [if_neg (by simp [h5])]
            by_cases h6 : g = g'
            · subst h1; subst h4; subst h5; subst h6
              rw [decide_eq_true rfl]
              unfold ref17_Same_j1
              rw [if_neg (by simp)]
              simp only [true_and, and_true, h2]
              have hl : (p.map ofP).length = (p'.map ofP).length := by simp [h3]
              obtain ⟨e, he, ha⟩ := loops_eq (xs := p.map ofP) (ys := p'.map ofP) (step := ref17_Same_l3 (k, n, p.map ofP, c, t, g) (k, n', p'.map ofP, c, t, g)) hl (by simpa using hp) (fun q x y hx hy => by
                have hq := (List.getElem?_eq_some_iff.1 hx).1
                simp only [List.length_map] at hq
                simp only at hp
                have st : ∀ o, (if x = y then o = .inl ((q + 1 : Nat) : Int) else o = .inr (.inr false)) → ref17_Same_l3 (k, n, p.map ofP, c, t, g) (k, n', p'.map ofP, c, t, g) q o := by
                  intro o ho
                  unfold ref17_Same_l3
                  rw [if_pos (by simpa using hq)]
                  refine ⟨x, idx_at rfl hx, y, idx_at rfl hy, ?_⟩
                  rw [List.getElem?_map] at hx hy
                  obtain ⟨u, hu, rfl⟩ := Option.map_eq_some_iff.1 hx
                  obtain ⟨v, hv, rfl⟩ := Option.map_eq_some_iff.1 hy
                  have hh : eqN 2 0 (ofP u) (ofP v) = decide (ofP u = ofP v) := by
                    unfold eqN ofP; simp [List.range_succ]
                  rw [hh]
                  by_cases e : ofP u = ofP v
                  · rw [if_pos e] at ho; rw [if_neg (by simp [e]), len_wrap (by omega)]; exact ho
                  · rw [if_neg e] at ho; rw [if_pos (by simp [e])]; exact ho
                exact ⟨fun e => st _ (by rw [if_pos e]), fun e => st _ (by rw [if_neg e])⟩) (by unfold ref17_Same_l3; rw [if_neg (by simp)])
              refine ⟨e, he, ?_⟩
              have hd : (decide (p = p') : Bool) = decide (p.map ofP = p'.map ofP) := by
                refine decide_eq_decide.2 ⟨fun h => by rw [h], fun h => ?_⟩
                exact List.map_inj_right (fun _ _ => ofP_inj) |>.1 h
              rw [hd]
              exact ha ref17_Same_j2 fun _ => rfl
            · rw [decide_eq_false h6, decide_eq_false (by simp [h6])]; exact jt _ _
          · rw [if_pos (by simp [h5]), decide_eq_false (by simp [h5])]; exact jt _ _
        · rw [if_pos (by simp [h4]), decide_eq_false (by simp [h4])]; exact jt _ _
      · rw [if_pos (by simp; omega), decide_eq_false (by rintro ⟨_, _, h, _⟩; exact h3 (by rw [h]))]; exact jt _ _
    · rw [if_pos (by simp [h2]), decide_eq_false (by simp [h2])]; exact jt _ _
  · rw [if_pos (by simp [h1]), decide_eq_false (by simp [h1])]; exact jt _ _
theorem mcopy_ok {m : Mg} (hp : m.2.2.1.length < 1099511627776) (hc : m.2.2.2.1.length < 1099511627776) : msg_Copy m m := by
  refine ⟨_, fun b hb => (?_ : if b = true then m.2.2.1 = [] else _), _, fun b hb => (?_ : if b = true then m.2.2.2.1 = [] else _), rfl⟩
  · cases b with
    | true => exact hb rfl
    | false => exact ⟨by simp; omega, by simp; omega, rfl⟩
  · cases b with
    | true => exact hb rfl
    | false => exact ⟨by simp; omega, by simp; omega, rfl⟩
def cutM (m : Mg) : Mg := (m.1, m.2.1, m.2.2.1.take 40, m.2.2.2.1.take 40, m.2.2.2.2.1.extract 0 80, m.2.2.2.2.2.extract 0 80)
theorem ext_min (s : ByteArray) (n : Nat) : s.extract 0 (min (s.size : Int) (n : Int)).toNat = s.extract 0 n := by
  by_cases h : s.size ≤ n
  · rw [show (min (s.size : Int) (n : Int)).toNat = s.size by omega]
    have hs : s.data.toList.length = s.size := rfl
    apply ByteArray.ext
    apply Array.ext'
    rw [ByteArray.data_extract, ByteArray.data_extract, Array.toList_extract, Array.toList_extract, List.extract_eq_take_drop, List.extract_eq_take_drop]
    simp only [List.drop_zero, Nat.sub_zero]
    rw [List.take_of_length_le (by omega), List.take_of_length_le (by omega)]
  · rw [show (min (s.size : Int) (n : Int)).toNat = n by omega]
theorem takeP_min {α : Type} (l : List α) (n : Nat) : (l.drop (0 : Int).toNat).take (((min (l.length : Int) (n : Int)) : Int) - 0).toNat = l.take n := by
  rw [show (0 : Int).toNat = 0 from rfl, List.drop_zero, show ((min (l.length : Int) (n : Int)) - 0).toNat = min l.length n by omega]
  by_cases h : l.length ≤ n
  · rw [Nat.min_eq_left h, List.take_length, List.take_of_length_le h]
  · rw [Nat.min_eq_right (by omega)]
theorem cut_ok (m : Mg) : law17_Cut m (cutM m) := by
  unfold law17_Cut cutM
  refine ⟨by omega, by omega, by omega, by omega, by omega, by omega, by omega, by omega, ?_⟩
  have e1 := takeP_min m.2.2.1 40
  have e2 := takeP_min m.2.2.2.1 40
  have e3 := ext_min m.2.2.2.2.1 80
  have e4 := ext_min m.2.2.2.2.2 80
  simp only [Int.cast_ofNat_Int] at e1 e2 e3 e4
  rw [e1, e2, e3, e4]
end Go.Rel
/-! Plain laws: what is wrong with a message: the program's answer and the document's. -/
namespace Go.Rel
open Go Go.Eng Go.Pl

def sortN (f : Fd) : Prop := f.2.1 ≠ 3 ∧ f.2.1 ≠ 4 ∧ f.2.1 ≠ 5 ∧ f.2.1 ≠ 6
instance (f : Fd) : Decidable (sortN f) := by unfold sortN; infer_instance
def hasS (l : List Fd) (s : Int) : Bool := l.any fun f => decide (f.2.1 = s)
def hasN (l : List Fd) (p : Nat) : Bool := l.any fun f => decide (sortN f ∧ f.2.2.1.toNat = p)
def zN (l : List Fd) (N : List Int) (p : Nat) : Int := if hasN l p = true then 0 else N.getD p 0
def leftB (l : List Fd) (m : Mg) : Mg :=
  (m.1, [zN l m.2.1 0, zN l m.2.1 1, zN l m.2.1 2, zN l m.2.1 3, zN l m.2.1 4, zN l m.2.1 5], if hasS l 3 = true then [] else m.2.2.1, if hasS l 4 = true then [] else m.2.2.2.1, if hasS l 5 = true then bstr [] else m.2.2.2.2.1, if hasS l 6 = true then bstr [] else m.2.2.2.2.2)
theorem hasS_snoc (l : List Fd) (f : Fd) (s : Int) : hasS (l ++ [f]) s = (hasS l s || decide (f.2.1 = s)) := by simp [hasS]
theorem hasN_snoc (l : List Fd) (f : Fd) (p : Nat) : hasN (l ++ [f]) p = (hasN l p || decide (sortN f ∧ f.2.2.1.toNat = p)) := by simp [hasN]
theorem zN_same {l : List Fd} {f : Fd} (h : ¬ sortN f) (N : List Int) (p : Nat) : zN (l ++ [f]) N p = zN l N p := by
  unfold zN; rw [hasN_snoc, decide_eq_false (fun hh => h hh.1), Bool.or_false]
theorem zN_put {l : List Fd} {f : Fd} (h : sortN f) (N : List Int) {p : Nat} (hp : p < 6) : (putN 6 0 [zN l N 0, zN l N 1, zN l N 2, zN l N 3, zN l N 4, zN l N 5] f.2.2.1.toNat 0).getD p 0 = zN (l ++ [f]) N p := by
  rw [putN_getD hp]
  have e : [zN l N 0, zN l N 1, zN l N 2, zN l N 3, zN l N 4, zN l N 5].getD p 0 = zN l N p := by
    match p, hp with
    | 0, _ => rfl
    | 1, _ => rfl
    | 2, _ => rfl
    | 3, _ => rfl
    | 4, _ => rfl
    | 5, _ => rfl
  rw [e]
  unfold zN
  rw [hasN_snoc]
  by_cases hq : p = f.2.2.1.toNat
  · rw [if_pos hq, decide_eq_true ⟨h, hq.symm⟩]; simp
  · rw [if_neg hq, decide_eq_false (fun hh => hq hh.2.symm), Bool.or_false]
theorem without_ok (l : List Fd) (m : Mg) {f : Fd} (ok : fdOk f) : msg_without (leftB l m) f (leftB (l ++ [f]) m) := by
  obtain ⟨_, _, ok⟩ := ok
  unfold msg_without
  simp only [decide_eq_true_eq]
  have no : ∀ {s : Int}, f.2.1 ≠ s → hasS (l ++ [f]) s = hasS l s := fun h => by rw [hasS_snoc, decide_eq_false h, Bool.or_false]
  have yes : ∀ {s : Int}, f.2.1 = s → hasS (l ++ [f]) s = true := fun h => by rw [hasS_snoc, decide_eq_true h, Bool.or_true]
  by_cases h3 : f.2.1 = 3
  · rw [if_pos h3]
    have hs : ¬ sortN f := fun h => h.1 h3
    unfold msg_without_j1 leftB
    simp only [zN_same hs, yes h3, no (s := 4) (by omega), no (s := 5) (by omega), no (s := 6) (by omega), List.getD_cons_zero, List.getD_cons_succ, if_true]
  rw [if_neg h3]
  by_cases h4 : f.2.1 = 4
  · rw [if_pos h4]
    have hs : ¬ sortN f := fun h => h.2.1 h4
    unfold msg_without_j1 leftB
    simp only [zN_same hs, yes h4, no h3, no (s := 5) (by omega), no (s := 6) (by omega), List.getD_cons_zero, List.getD_cons_succ, if_true]
  rw [if_neg h4]
  by_cases h5 : f.2.1 = 5
  · rw [if_pos h5]
    have hs : ¬ sortN f := fun h => h.2.2.1 h5
    unfold msg_without_j1 leftB
    simp only [zN_same hs, yes h5, no h3, no h4, no (s := 6) (by omega), List.getD_cons_zero, List.getD_cons_succ, if_true]
  rw [if_neg h5]
  by_cases h6 : f.2.1 = 6
  · rw [if_pos h6]
    have hs : ¬ sortN f := fun h => h.2.2.2 h6
    unfold msg_without_j1 leftB
    simp only [zN_same hs, yes h6, no h3, no h4, no h5, List.getD_cons_zero, List.getD_cons_succ, if_true]
  rw [if_neg h6]
  have hs : sortN f := ⟨h3, h4, h5, h6⟩
  refine ⟨by omega, by omega, ?_⟩
  unfold msg_without_j1 leftB
  simp only [no h3, no h4, no h5, no h6]
  rw [zN_put hs m.2.1 (p := 0) (by omega), zN_put hs m.2.1 (p := 1) (by omega), zN_put hs m.2.1 (p := 2) (by omega), zN_put hs m.2.1 (p := 3) (by omega), zN_put hs m.2.1 (p := 4) (by omega), zN_put hs m.2.1 (p := 5) (by omega)]
def firstW (m : Mg) : List Fd → Int
  | [] => 0
  | f :: l => if wrongB m f ≠ 0 then wrongB m f else firstW m l
abbrev Ex := Int × Int × Int × Int × Int × Int × Int × Int × List (Int × Int) × List Int × ByteArray × ByteArray
def exB (e : Int) (x : Mg) : Ex := (e, x.1, x.2.1.getD 0 0, x.2.1.getD 1 0, x.2.1.getD 2 0, x.2.1.getD 3 0, x.2.1.getD 4 0, x.2.1.getD 5 0, x.2.2.1, x.2.2.2.1, x.2.2.2.2.1, x.2.2.2.2.2)
def stB (e i : Int) (x : Mg) : Int × Ex := (e, i, x.1, x.2.1.getD 0 0, x.2.1.getD 1 0, x.2.1.getD 2 0, x.2.1.getD 3 0, x.2.1.getD 4 0, x.2.1.getD 5 0, x.2.2.1, x.2.2.2.1, x.2.2.2.2.1, x.2.2.2.2.2)
theorem check_run (m : Mg) (fs : List Fd) (hfs : fs.length < 100) (hok : ∀ f ∈ fs, fdOk f) : ∀ (l pre : List Fd) (e : Int), fs = pre ++ l → ∃ ex, Loops (msg_Check_l3 m fs) (stB e (pre.length : Int) (leftB pre m)) ex ∧ (firstW m l ≠ 0 → ex.1 = firstW m l) ∧ (firstW m l = 0 → ex = exB (if l = [] then e else 0) (leftB fs m))
  | [], pre, e, h => by
    refine ⟨exB e (leftB fs m), .done ?_, fun h => absurd rfl h, fun _ => by rw [if_pos rfl]⟩
    rw [List.append_nil] at h
    unfold msg_Check_l3
    rw [if_neg (by rw [h]; simp [stB])]
    rw [h]; rfl
  | f :: l, pre, e, h => by
    have hlen : fs.length = pre.length + l.length + 1 := by rw [h]; simp; omega
    have hat : fs[pre.length]? = some f := by rw [h]; simp
    have hw := len_wrap (n := pre.length) (by omega)
    have hf := hok f (by rw [h]; simp)
    by_cases hz : wrongB m f = 0
    · obtain ⟨ex, h1, h2, h3⟩ := check_run m fs hfs hok l (pre ++ [f]) 0 (by rw [h]; simp)
      simp only [firstW, hz, ne_eq, not_true, if_false]
      refine ⟨ex, .next ?_ h1, h2, fun hh => ?_⟩
      · unfold msg_Check_l3
        rw [if_pos (by simp [stB]; omega)]
        refine ⟨f, idx_at rfl hat, 0, by rw [← hz]; exact wrong_fd m hf, ?_⟩
        rw [if_neg (by simp)]
        refine ⟨leftB (pre ++ [f]) m, without_ok pre m hf, ?_⟩
        simp only [stB, List.length_append, List.length_cons, List.length_nil]
        rw [hw]
      · rw [h3 hh]; split <;> rfl
    · simp only [firstW, ne_eq, hz, not_false_iff, if_true]
      refine ⟨exB (wrongB m f) (leftB pre m), .done ?_, fun _ => rfl, fun hh => hh.elim⟩
      unfold msg_Check_l3
      rw [if_pos (by simp [stB]; omega)]
      refine ⟨f, idx_at rfl hat, _, wrong_fd m hf, ?_⟩
      rw [if_pos (by simpa using hz)]
      rfl
def zeroM (k : Int) : Mg := (k, List.replicate 6 0, [], [], bstr [], bstr [])
def checkB (m : Mg) : Int := if fieldsB m.1 = [] then 9 else if firstW m (fieldsB m.1) ≠ 0 then firstW m (fieldsB m.1) else if sameB (leftB (fieldsB m.1) m) (zeroM m.1) = true then 0 else 3
theorem len_if {α : Type} {c : Prop} [Decidable c] {l : List α} {n : Nat} (h : l.length < n) (hn : 0 < n) : (if c then [] else l).length < n := by split <;> simp [h, hn]
theorem mcheck_ok {m : Mg} (hp : m.2.2.1.length < 4611686018427387904) (hc : m.2.2.2.1.length < 4611686018427387904) : msg_Check m (checkB m) := by
  obtain ⟨ex, h1, h2, h3⟩ := check_run m (fieldsB m.1) (by have := fields_len m.1; omega) (fields_fd m.1) (fieldsB m.1) [] 9 rfl
  refine ⟨_, fields_ok m.1, ex, h1, ?_⟩
  unfold checkB msg_Check_j1
  by_cases hl : fieldsB m.1 = []
  · rw [if_pos hl]
    have : firstW m (fieldsB m.1) = 0 := by rw [hl]; rfl
    have hx := h3 this
    rw [if_pos hl] at hx
    rw [hx, if_neg (by simp [exB])]
    unfold msg_Check_j2
    rw [if_neg (by simp)]; rfl
  · rw [if_neg hl]
    by_cases hf : firstW m (fieldsB m.1) = 0
    · rw [if_neg (c := firstW m (fieldsB m.1) ≠ 0) (by simpa using hf)]
      have hx := h3 hf
      rw [if_neg hl] at hx
      rw [hx, if_pos (c := (decide ((exB 0 (leftB (fieldsB m.1) m)).1 = 0)) = true) (by simp [exB])]
      refine ⟨sameB (leftB (fieldsB m.1) m) (zeroM m.1), msame_ok (a := leftB (fieldsB m.1) m) (b := zeroM m.1) (len_if hp (by decide)) (len_if hc (by decide)), ?_⟩
      unfold msg_Check_j2
      cases hs : sameB (leftB (fieldsB m.1) m) (zeroM m.1) <;> rfl
    · rw [if_pos (c := firstW m (fieldsB m.1) ≠ 0) hf, if_neg (c := (decide (ex.1 = 0)) = true) (by rw [h2 hf]; simpa using hf)]
      unfold msg_Check_j2
      rw [if_neg (by simp), h2 hf]

/-! The document's check. -/
end Go.Rel
/-! Plain laws: functions that are ranged over, as lists. -/
namespace Go.Pl
open Go Go.Eng
inductive Run {X S : Type} (Y : X → S → Bool × S → Prop) : List X → S → S → Prop
  | nil {s : S} : Run Y [] s s
  | go {x : X} {xs : List X} {s s1 s' : S} (h : Y x s (true, s1)) (h' : Run Y xs s1 s') : Run Y (x :: xs) s s'
  | stop {x : X} {xs : List X} {s s' : S} (h : Y x s (false, s')) : Run Y (x :: xs) s s'
def Itr {X : Type} (it : (S : Type) → (X → S → Bool × S → Prop) → S → S × Unit → Prop) (xs : List X) : Prop := ∀ S Y s s', Run Y xs s s' → it S Y s (s', ())
inductive RunB {X S E : Type} (B : X → S → Sum S E → Prop) : List X → S → Sum S E → Prop
  | nil {s : S} : RunB B [] s (.inl s)
  | go {x : X} {xs : List X} {s s1 : S} {t : Sum S E} (h : B x s (.inl s1)) (h' : RunB B xs s1 t) : RunB B (x :: xs) s t
  | stop {x : X} {xs : List X} {s : S} {e : E} (h : B x s (.inr e)) : RunB B (x :: xs) s (.inr e)
theorem run_yof {X S E : Type} {B : X → S → Sum S E → Prop} {xs : List X} {s : S} {t : Sum S E} (h : RunB B xs s t) : Run (Yof B) xs (.inl s) t := by
  induction h with
  | nil => exact .nil
  | go h _ ih => exact .go ⟨_, _, rfl, h, .inl ⟨_, rfl, rfl⟩⟩ ih
  | stop h => exact .stop ⟨_, _, rfl, h, .inr ⟨_, rfl, rfl⟩⟩
theorem runB_fold {X S E : Type} {B : X → S → Sum S E → Prop} (f : S → X → S) : ∀ (xs : List X) (s : S), (∀ p x q, xs = p ++ x :: q → B x (p.foldl f s) (.inl (f (p.foldl f s) x))) → RunB B xs s (.inl (xs.foldl f s))
  | [], s, _ => .nil
  | x :: xs, s, h => .go (h [] x xs rfl) (runB_fold f xs (f s x) (fun p y q e => h (x :: p) y q (by rw [e]; rfl)))
end Go.Pl
/-! Plain laws: the line of a message: the program's and the document's. -/
namespace Go.Rel
open Go Go.Eng Go.Pl

theorem bstr_bints (s : ByteArray) : bstr (bints s) = s := by
  have h : ∀ (l : List UInt8) (t : ByteArray), (l.map fun b => (b.toNat : Int)).foldl (fun r n => r.push (UInt8.ofNat n.toNat)) t = ⟨t.data ++ l.toArray⟩ := by
    intro l
    induction l with
    | nil => intro t; simp
    | cons b l ih =>
      intro t
      rw [List.map_cons, List.foldl_cons, ih]
      apply ByteArray.ext
      apply Array.ext'
      simp [ByteArray.push]
  have := h s.data.toList ByteArray.empty
  unfold bstr bints
  rw [this]
  apply ByteArray.ext
  apply Array.ext'
  simp [ByteArray.empty, ByteArray.emptyWithCapacity]
  rfl
theorem bints_byt (s : ByteArray) : ∀ x ∈ bints s, 0 ≤ x ∧ x < 256 := by
  intro x hx
  unfold bints at hx
  obtain ⟨b, _, rfl⟩ := List.mem_map.1 hx
  have := b.toNat_lt
  omega
def joinL (sep : List Int) : List (List Int) → List Int
  | [] => []
  | [x] => x
  | x :: y :: l => x ++ sep ++ joinL sep (y :: l)
theorem joinS_bstr (sep : List Int) : ∀ ls : List (List Int), joinS (ls.map bstr) (bstr sep) = bstr (joinL sep ls)
  | [] => rfl
  | [x] => rfl
  | x :: y :: l => by
    have := joinS_bstr sep (y :: l)
    simp only [List.map_cons] at this
    simp only [List.map_cons, joinS, joinL, bstr_append]
    rw [this]
theorem joinL_len (sep : List Int) (n : Nat) : ∀ (l : List (List Int)), (∀ x ∈ l, x.length ≤ n) → (joinL sep l).length ≤ l.length * (n + sep.length)
  | [], _ => by simp [joinL]
  | [x], h => by have := h x (by simp); simp [joinL]; omega
  | x :: y :: l, h => by
    have h1 := h x (by simp)
    have h2 := joinL_len sep n (y :: l) (fun z hz => h z (by simp only [List.mem_cons] at hz ⊢; right; exact hz))
    simp only [joinL, List.length_append]
    rw [List.length_cons, Nat.add_mul]; omega
def hexD (n : Int) : Int := if n < 10 then 48 + n else 87 + n
def hexL (l : List Int) : List Int := l.flatMap fun c => [hexD (c / 16), hexD (c % 16)]
def hexV (s : ByteArray) : List Int := if s = bstr [] then [45] else hexL (bints s)
theorem hexL_len (l : List Int) : (hexL l).length = 2 * l.length := by
  induction l with
  | nil => rfl
  | cons x l ih => simp [hexL] at ih ⊢; omega
theorem hexL_snoc (l : List Int) (x : Int) : hexL (l ++ [x]) = hexL l ++ [hexD (x / 16), hexD (x % 16)] := by simp [hexL]
def digs : List Int := [48, 49, 50, 51, 52, 53, 54, 55, 56, 57, 97, 98, 99, 100, 101, 102]
theorem digs_at : ∀ i : Nat, i < 16 → digs[i]? = some (hexD i) := by decide
theorem digs_lit : bints (bstr [48, 49, 50, 51, 52, 53, 54, 55, 56, 57, 97, 98, 99, 100, 101, 102]) = digs := rfl
theorem iand_15 {a : Int} (h0 : 0 ≤ a) (h1 : a < 256) : iand .u8 a 15 = a % 16 := by
  obtain ⟨n, rfl⟩ := Int.eq_ofNat_of_zero_le h0
  have h2 : n < 2 ^ 8 := by omega
  have : (BitVec.ofInt 8 (n : Int) &&& BitVec.ofInt 8 15).toNat = n % 16 := by
    rw [BitVec.toNat_and]
    have e1 : (BitVec.ofInt 8 (n : Int)).toNat = n := by rw [BitVec.ofInt_natCast, BitVec.toNat_ofNat, Nat.mod_eq_of_lt h2]
    have e2 : (BitVec.ofInt 8 (15 : Int)).toNat = 2 ^ 4 - 1 := by decide
    rw [e1, e2, Nat.and_two_pow_sub_one_eq_mod]
  show IntKind.u8.wrap (((BitVec.ofInt 8 (n : Int) &&& BitVec.ofInt 8 15).toNat : Nat) : Int) = _
  rw [this, w_u8]; omega
theorem ishr_4 (a : Int) : ishr .u8 a 4 = a / 16 := by
  show a.fdiv (2 ^ min (4 : Int).toNat 8) = _
  rw [show min (4 : Int).toNat 8 = 4 from rfl, Int.fdiv_eq_ediv_of_nonneg _ (by decide)]; rfl
theorem hex_at {q : Int} (h0 : 0 ≤ q) (h1 : q < 16) : idx (bints (bstr [48, 49, 50, 51, 52, 53, 54, 55, 56, 57, 97, 98, 99, 100, 101, 102])) q (hexD q) := by
  rw [digs_lit]
  have := digs_at q.toNat (by omega)
  rw [show ((q.toNat : Nat) : Int) = q by omega] at this
  exact ⟨h0, this⟩
theorem bints_size (s : ByteArray) : (bints s).length = s.size := len_bints s
theorem shex_ok {s : ByteArray} (h : s.size < 1000000) : say_hex s (bstr (hexV s)) := by
  unfold say_hex hexV
  by_cases he : s = bstr []
  · rw [if_pos (by simpa using he), if_pos he]
  · rw [if_neg (by simpa using he), if_neg he]
    refine ⟨by omega, hexL (bints s), ?_, rfl⟩
    have := loops_count (step := say_hex_l2 s) (e := hexL (bints s)) (fun k => (hexL ((bints s).take k), (k : Int))) (bints s).length (fun k hk => by
      have hb := bints_byt s _ (List.getElem_mem hk)
      have hsz := bints_size s
      unfold say_hex_l2
      rw [if_pos (by simpa using hk)]
      refine ⟨_, idx_of hk, hexD ((bints s)[k] / 16), ?_, hexD ((bints s)[k] % 16), ?_, ?_⟩
      · rw [ishr_4]; exact hex_at (by omega) (by omega)
      · rw [iand_15 hb.1 hb.2]; exact hex_at (by omega) (by omega)
      · simp only [hexL_len, List.length_take, List.length_cons, List.length_nil]
        refine ⟨by omega, by omega, ?_⟩
        rw [len_wrap (by omega), List.take_succ_eq_append_getElem hk, hexL_snoc]) (by
      unfold say_hex_l2
      rw [if_neg (by simp)]
      simp)
    simpa [hexL] using this
def ptL (p : Int × Int) : List Int := decI p.1 ++ [44] ++ decI p.2
def valueL (m : Mg) (f : Fd) : List Int :=
  if f.2.1 = 3 then joinL [59] (m.2.2.1.map ptL) else if f.2.1 = 4 then joinL [44] (m.2.2.2.1.map decI) else if f.2.1 = 5 then hexV m.2.2.2.2.1 else if f.2.1 = 6 then hexV m.2.2.2.2.2 else decI (m.2.1.getD f.2.2.1.toNat 0)
structure MgOk (m : Mg) : Prop where
  kind : IntOk .i64 m.1
  six : m.2.1.length = 6
  num : ∀ x ∈ m.2.1, IntOk .i64 x
  path : ∀ p ∈ m.2.2.1, IntOk .i64 p.1 ∧ IntOk .i64 p.2
  cells : ∀ x ∈ m.2.2.2.1, IntOk .i64 x
  lpath : m.2.2.1.length ≤ 1000
  lcells : m.2.2.2.1.length ≤ 1000
  ltext : m.2.2.2.2.1.size ≤ 1000
  ltag : m.2.2.2.2.2.size ≤ 1000
theorem MgOk.at {m : Mg} (ok : MgOk m) (p : Nat) : IntOk .i64 (m.2.1.getD p 0) := by
  rw [List.getD_eq_getElem?_getD]
  cases h : m.2.1[p]? with
  | none => exact ⟨by decide, by decide⟩
  | some x => exact ok.num x (List.mem_of_getElem? h)
theorem hexV_len {s : ByteArray} {n : Nat} (h : s.size ≤ n) : (hexV s).length ≤ 2 * n + 1 := by
  unfold hexV; split
  · simp
  · rw [hexL_len, bints_size]; omega
theorem ptL_len {p : Int × Int} (h : IntOk .i64 p.1 ∧ IntOk .i64 p.2) : (ptL p).length ≤ 43 := by
  have h1 := decI_len h.1
  have h2 := decI_len h.2
  simp only [ptL, List.length_append, List.length_cons, List.length_nil]; omega
theorem valueL_len {m : Mg} (ok : MgOk m) (f : Fd) : (valueL m f).length ≤ 100000 := by
  unfold valueL
  split
  · have := joinL_len [59] 43 (m.2.2.1.map ptL) (fun x hx => by obtain ⟨p, hp, rfl⟩ := List.mem_map.1 hx; exact ptL_len (ok.path p hp))
    have := ok.lpath
    simp only [List.length_map, List.length_cons, List.length_nil] at *; omega
  split
  · have := joinL_len [44] 43 (m.2.2.2.1.map decI) (fun x hx => by obtain ⟨p, hp, rfl⟩ := List.mem_map.1 hx; have := decI_len (ok.cells p hp); omega)
    have := ok.lcells
    simp only [List.length_map, List.length_cons, List.length_nil] at *; omega
  split
  · have := hexV_len ok.ltext; omega
  split
  · have := hexV_len ok.ltag; omega
  · have := decI_len (ok.at f.2.2.1.toNat); omega
theorem snum_ok {n : Int} (h : IntOk .i64 n) : say_Number n (bstr (decI n)) := ⟨_, itoa_ok h, rfl⟩
theorem map_take_snoc {α β : Type} (g : α → β) (l : List α) {k : Nat} (hk : k < l.length) : (l.take (k + 1)).map g = (l.take k).map g ++ [g l[k]] := by
  rw [List.take_succ_eq_append_getElem hk, List.map_append]; rfl
theorem svalue_ok {m : Mg} (ok : MgOk m) {f : Fd} (hf : fdOk f) : say_value m f (bstr (valueL m f)) := by
  have hvl := valueL_len ok f
  obtain ⟨_, _, hf⟩ := hf
  unfold say_value
  simp only [decide_eq_true_eq]
  unfold valueL at hvl ⊢
  have fin : ∀ a b : List Int, a.length + b.length < 1000000 → (bstr a).size + (bstr b).size < 4611686018427387904 := by
    intro a b hab; rw [size_bstr, size_bstr]; omega
  by_cases h3 : f.2.1 = 3
  · rw [if_pos h3] at hvl ⊢
    rw [if_pos h3]
    have hlp := ok.lpath
    refine ⟨(m.2.2.1.map ptL).map bstr, ?_, ?_⟩
    · have := loops_count (step := say_value_l2 m) (e := (m.2.2.1.map ptL).map bstr) (fun k => ((m.2.2.1.take k).map (fun p => bstr (ptL p)), (k : Int))) m.2.2.1.length (fun k hk => by
        have hp := ok.path _ (List.getElem_mem hk)
        have l1 := decI_len hp.1
        have l2 := decI_len hp.2
        unfold say_value_l2
        rw [if_pos (by simpa using hk)]
        refine ⟨_, idx_of hk, _, snum_ok hp.1, fin _ _ (by simp; omega), _, snum_ok hp.2, by rw [← bstr_append]; exact fin _ _ (by simp; omega), ?_⟩
        simp only [List.length_map, List.length_take, List.length_cons, List.length_nil]
        refine ⟨by omega, by omega, ?_⟩
        rw [len_wrap (by omega), map_take_snoc _ _ hk, ptL, bstr_append, bstr_append]) (by
        unfold say_value_l2
        rw [if_neg (by simp)]
        simp)
      simpa using this
    · refine ⟨_, ⟨by simp; omega, ?_, rfl⟩, ?_⟩
      · rw [joinS_bstr, size_bstr]; omega
      · rw [joinS_bstr]
  rw [if_neg h3] at hvl ⊢
  rw [if_neg h3]
  by_cases h4 : f.2.1 = 4
  · rw [if_pos h4] at hvl ⊢
    rw [if_pos h4]
    have hlp := ok.lcells
    refine ⟨(m.2.2.2.1.map decI).map bstr, ?_, ?_⟩
    · have := loops_count (step := say_value_l4 m) (e := (m.2.2.2.1.map decI).map bstr) (fun k => ((m.2.2.2.1.take k).map (fun p => bstr (decI p)), (k : Int))) m.2.2.2.1.length (fun k hk => by
        have hp := ok.cells _ (List.getElem_mem hk)
        unfold say_value_l4
        rw [if_pos (by simpa using hk)]
        refine ⟨_, idx_of hk, _, snum_ok hp, ?_⟩
        simp only [List.length_map, List.length_take, List.length_cons, List.length_nil]
        refine ⟨by omega, by omega, ?_⟩
        rw [len_wrap (by omega), map_take_snoc _ _ hk]) (by
        unfold say_value_l4
        rw [if_neg (by simp)]
        simp)
      simpa using this
    · refine ⟨_, ⟨by simp; omega, ?_, rfl⟩, ?_⟩
      · rw [joinS_bstr, size_bstr]; omega
      · rw [joinS_bstr]
  rw [if_neg h4] at hvl ⊢
  rw [if_neg h4]
  by_cases h5 : f.2.1 = 5
  · rw [if_pos h5, if_pos h5]; have := ok.ltext; exact ⟨_, shex_ok (by show m.2.2.2.2.1.size < _; omega), rfl⟩
  rw [if_neg h5, if_neg h5]
  by_cases h6 : f.2.1 = 6
  · rw [if_pos h6, if_pos h6]; have := ok.ltag; exact ⟨_, shex_ok (by show m.2.2.2.2.2.size < _; omega), rfl⟩
  rw [if_neg h6, if_neg h6]
  exact ⟨by omega, by omega, _, snum_ok (ok.at _), rfl⟩
def wordL (k : Int) : List Int := if k = 1 then [109, 111, 118, 101] else if k = 2 then [104, 111, 108, 100] else if k = 3 then [103, 114, 97, 110, 116] else if k = 4 then [112, 111, 115, 101] else if k = 5 then [102, 97, 117, 108, 116] else []
theorem fword_ok (k : Int) : field_Word k (bstr (wordL k)) := by
  unfold field_Word wordL
  simp only [decide_eq_true_eq]
  repeat' (first | rfl | split)
def partL (m : Mg) (f : Fd) : List Int := [32] ++ bints f.1 ++ [32] ++ valueL m f
def bodyL (m : Mg) (fs : List Fd) : List Int := fs.flatMap (partL m)
def lineL (m : Mg) : List Int := if checkB m = 0 then wordL m.1 ++ bodyL m (fieldsB m.1) else []
theorem wordL_len (k : Int) : (wordL k).length ≤ 5 := by unfold wordL; repeat' (first | decide | split)
theorem partL_len {m : Mg} (ok : MgOk m) {f : Fd} (hf : fdOk f) : (partL m f).length ≤ 100020 := by
  have := valueL_len ok f
  have := hf.2.1
  have := bints_size f.1
  simp only [partL, List.length_append, List.length_cons, List.length_nil]; omega
theorem bodyL_len {m : Mg} (ok : MgOk m) : ∀ {fs : List Fd}, (∀ f ∈ fs, fdOk f) → (bodyL m fs).length ≤ fs.length * 100020
  | [], _ => by simp [bodyL]
  | f :: l, h => by
    have h1 := partL_len ok (h f (by simp))
    have h2 := bodyL_len ok (fs := l) (fun g hg => h g (by simp [hg]))
    simp only [bodyL, List.flatMap_cons, List.length_append, List.length_cons] at *
    omega
theorem all_itr (k : Int) : Itr (field_All_1 k 2) (fieldsB k) := by
  intro S Y s s' hr
  refine ⟨_, fields_ok k, (s', ()), ?_, rfl⟩
  have hfd := fields_fd k
  have hfl := fields_len k
  generalize fieldsB k = fs at *
  have key : ∀ (l pre : List Fd) (s : S), fs = pre ++ l → Run Y l s s' → Loops (field_All_1_l1 S Y 2 fs) (s, (pre.length : Int)) (s', ()) := by
    intro l
    induction l with
    | nil =>
      intro pre s h hr
      cases hr
      refine .done ?_
      unfold field_All_1_l1
      rw [if_neg (by rw [h]; simp)]
    | cons f l ih =>
      intro pre s h hr
      have hlen : fs.length = pre.length + l.length + 1 := by rw [h]; simp; omega
      have hat : fs[pre.length]? = some f := by rw [h]; simp
      have hf := (hfd f (by rw [h]; simp)).1
      have st : ∀ o, (∃ y u, Y f s (y, u) ∧ if (!y) = true then o = .inr (u, ()) else o = .inl (u, ((pre.length + 1 : Nat) : Int))) → field_All_1_l1 S Y 2 fs (s, (pre.length : Int)) o := by
        rintro o ⟨y, u, hy, ho⟩
        unfold field_All_1_l1
        rw [if_pos (by simp; omega)]
        refine ⟨f, idx_at rfl hat, ?_⟩
        rw [if_neg (by simp; omega)]
        refine ⟨y, u, hy, ?_⟩
        unfold field_All_1_j2
        rw [len_wrap (by omega)]; exact ho
      cases hr with
      | go hy hr =>
        have := ih (pre ++ [f]) _ (by rw [h]; simp) hr
        rw [List.length_append] at this
        exact .next (st _ ⟨true, _, hy, by rw [if_neg (by simp)]; rfl⟩) this
      | stop hy => exact .done (st _ ⟨false, _, hy, by rw [if_pos (show (!false) = true from rfl)]⟩)
  exact key fs [] s rfl hr
theorem sline_ok {m : Mg} (ok : MgOk m) : say_Line m (bstr (lineL m)) := by
  have h1 := ok.lpath
  have h2 := ok.lcells
  refine ⟨_, mcheck_ok (by omega) (by omega), ?_⟩
  unfold lineL
  by_cases hc : checkB m = 0
  · rw [if_neg (by simpa using hc), if_pos hc]
    refine ⟨_, fword_ok m.1, _, rfl, ?_⟩
    have hfl := fields_len m.1
    have hfd := fields_fd m.1
    have hwl := wordL_len m.1
    have run := runB_fold (B := say_Line_l1 m) (E := Unit) (fun s f => s ++ bstr (partL m f)) (fieldsB m.1) (bstr (wordL m.1)) (fun p x q e => by
      have hx := hfd x (by rw [e]; simp)
      have hv := valueL_len ok x
      have hn := hx.2.1
      have hb := bodyL_len ok (fs := p) (fun f hf => hfd f (by rw [e]; simp [hf]))
      have hp : p.length ≤ 6 := by rw [e] at hfl; simp at hfl; omega
      have hs : p.foldl (fun s f => s ++ bstr (partL m f)) (bstr (wordL m.1)) = bstr (wordL m.1 ++ bodyL m p) := by
        have : ∀ (p : List Fd) (w : List Int), p.foldl (fun s f => s ++ bstr (partL m f)) (bstr w) = bstr (w ++ bodyL m p) := by
          intro p
          induction p with
          | nil => intro w; simp [bodyL]
          | cons f p ih => intro w; rw [List.foldl_cons, ← bstr_append, ih]; simp [bodyL]
        exact this p _
      have hbn : bstr (bints x.1) = x.1 := bstr_bints x.1
      rw [hs]
      unfold say_Line_l1
      have e1 : (bstr [32] ++ x.1) ++ bstr [32] = bstr ([32] ++ bints x.1 ++ [32]) := by rw [bstr_append, bstr_append, hbn]
      have e2 : bstr ([32] ++ bints x.1 ++ [32]) ++ bstr (valueL m x) = bstr (partL m x) := by rw [← bstr_append]; rfl
      have e3 : (bstr [32] ++ x.1).size = 1 + x.1.size := by rw [ByteArray.size_append, size_bstr]; rfl
      have hbx := bints_size x.1
      refine ⟨by rw [size_bstr]; simp; omega, by rw [e3, size_bstr]; simp; omega, _, svalue_ok ok hx, ?_, ?_, ?_⟩
      · rw [e1, size_bstr, size_bstr]; simp; omega
      · rw [e1, e2, size_bstr, size_bstr]
        have := partL_len ok hx
        simp only [List.length_append]; omega
      · rw [e1, e2])
    refine ⟨_, (), all_itr m.1 _ _ _ _ (run_yof run), ?_⟩
    show _ = _
    have : ∀ (p : List Fd) (w : List Int), p.foldl (fun s f => s ++ bstr (partL m f)) (bstr w) = bstr (w ++ bodyL m p) := by
      intro p
      induction p with
      | nil => intro w; simp [bodyL]
      | cons f p ih => intro w; rw [List.foldl_cons, ← bstr_append, ih]; simp [bodyL]
    rw [this]
  · rw [if_pos (by simpa using hc), if_neg hc]
end Go.Rel
/-! Plain laws: events: their lines, which are the same, the words of errors. -/
namespace Go.Rel
open Go Go.Eng Go.Pl
abbrev Ev := Int × Int × Int × Int × Mg
abbrev Er := Int × Int × Int × Int × Mr
def errWords : List (Int × List Int) := [(2, [108, 111, 110, 103]), (3, [102, 111, 114, 109]), (4, [101, 110, 100]), (5, [114, 97, 110, 103, 101]), (6, [109, 97, 110, 121]), (9, [107, 105, 110, 100]), (10, [118, 101, 114, 115, 105, 111, 110]), (11, [115, 117, 109]), (12, [115, 116, 117, 102, 102]), (13, [115, 104, 111, 114, 116]), (14, [115, 101, 101, 110]), (15, [111, 108, 100]), (16, [116, 119, 105, 99, 101]), (17, [109, 101, 101, 116]), (18, [108, 97, 116, 101]), (19, [116, 101, 120, 116])]
def wordE (e : Int) : List Int := ((errWords.find? fun p => decide (p.1 = e)).map (·.2)).getD []
theorem wordE_cases (e : Int) : (e = 2 ∨ e = 3 ∨ e = 4 ∨ e = 5 ∨ e = 6 ∨ e = 9 ∨ e = 10 ∨ e = 11 ∨ e = 12 ∨ e = 13 ∨ e = 14 ∨ e = 15 ∨ e = 16 ∨ e = 17 ∨ e = 18 ∨ e = 19) ∨ (¬ (e = 2 ∨ e = 3 ∨ e = 4 ∨ e = 5 ∨ e = 6 ∨ e = 9 ∨ e = 10 ∨ e = 11 ∨ e = 12 ∨ e = 13 ∨ e = 14 ∨ e = 15 ∨ e = 16 ∨ e = 17 ∨ e = 18 ∨ e = 19) ∧ wordE e = []) := by
  by_cases h : e = 2 ∨ e = 3 ∨ e = 4 ∨ e = 5 ∨ e = 6 ∨ e = 9 ∨ e = 10 ∨ e = 11 ∨ e = 12 ∨ e = 13 ∨ e = 14 ∨ e = 15 ∨ e = 16 ∨ e = 17 ∨ e = 18 ∨ e = 19
  · exact .inl h
  · refine .inr ⟨h, ?_⟩
    unfold wordE
    have : errWords.find? (fun p => decide (p.1 = e)) = none := by
      rw [List.find?_eq_none]
      intro p hp
      simp only [errWords, List.mem_cons, List.not_mem_nil, or_false] at hp
      simp only [decide_eq_true_eq]
      rcases hp with rfl | rfl | rfl | rfl | rfl | rfl | rfl | rfl | rfl | rfl | rfl | rfl | rfl | rfl | rfl | rfl <;> simp only <;> omega
    rw [this]; rfl
theorem eword_ok (e : Int) : event_Word e (bstr (wordE e)) := by
  unfold event_Word
  simp only [decide_eq_true_eq]
  rcases wordE_cases e with h | ⟨h, hw⟩
  · rcases h with rfl | rfl | rfl | rfl | rfl | rfl | rfl | rfl | rfl | rfl | rfl | rfl | rfl | rfl | rfl | rfl <;> exact rfl
  · rw [hw]
    simp only [not_or] at h
    obtain ⟨h1, h2, h3, h4, h5, h6, h7, h8, h9, h10, h11, h12, h13, h14, h15, h16⟩ := h
    rw [if_neg h1, if_neg h2, if_neg h3, if_neg h4, if_neg h5, if_neg h6, if_neg h7, if_neg h8, if_neg h9, if_neg h10, if_neg h11, if_neg h12, if_neg h13, if_neg h14, if_neg h15, if_neg h16]
theorem wordE_len (e : Int) : (wordE e).length ≤ 7 := by
  rcases wordE_cases e with h | ⟨_, hw⟩
  · rcases h with rfl | rfl | rfl | rfl | rfl | rfl | rfl | rfl | rfl | rfl | rfl | rfl | rfl | rfl | rfl | rfl <;> decide
  · rw [hw]; decide
def evLine (e : Ev) : List Int :=
  if e.1 = 1 then [100, 101, 108, 105, 118, 101, 114, 32] ++ decI e.2.1 ++ [32, 118, 32] ++ decI e.2.2.1 ++ [32] ++ lineL e.2.2.2.2
  else if e.1 = 2 then [114, 101, 106, 101, 99, 116, 32] ++ decI e.2.1 ++ [32] ++ wordE e.2.2.2.1
  else if e.1 = 3 then [101, 118, 105, 99, 116, 32] ++ decI e.2.1 else []
structure EvOk (e : Ev) : Prop where
  kind : IntOk .i64 e.1
  seq : IntOk .u32 e.2.1
  ver : IntOk .i64 e.2.2.1
  err : IntOk .i64 e.2.2.2.1
  msg : MgOk e.2.2.2.2
theorem lineL_len {m : Mg} (ok : MgOk m) : (lineL m).length ≤ 1000000 := by
  unfold lineL; split
  · have := wordL_len m.1
    have := bodyL_len ok (fields_fd m.1)
    have := fields_len m.1
    simp only [List.length_append]; omega
  · simp
theorem i64_u32 {n : Int} (h : IntOk .u32 n) : IntOk .i64 n ∧ IntKind.i64.wrap n = n := by
  have ⟨q0, q1⟩ := ok_u32 h
  exact ⟨⟨by show (-9223372036854775808 : Int) ≤ n; omega, by show n ≤ 9223372036854775807; omega⟩, w_small (by omega) (by omega)⟩
theorem fin_app (a b : List Int) (hab : a.length + b.length < 1000000000) : (bstr a).size + (bstr b).size < 4611686018427387904 := by rw [size_bstr, size_bstr]; omega
theorem eline_ok {e : Ev} (ok : EvOk e) : event_Line e (bstr (evLine e)) := by
  obtain ⟨hs, hw⟩ := i64_u32 ok.seq
  have l1 := decI_len hs
  have l2 := decI_len ok.ver
  have l3 := lineL_len ok.msg
  have l4 := wordE_len e.2.2.2.1
  refine ⟨_, by rw [hw]; exact snum_ok hs, ?_⟩
  unfold evLine
  simp only [decide_eq_true_eq]
  by_cases h1 : e.1 = 1
  · rw [if_pos h1, if_pos h1]
    refine ⟨?_, ?_, _, snum_ok ok.ver, ?_, ?_, _, sline_ok ok.msg, ?_, ?_⟩
    all_goals (try simp only [← bstr_append])
    all_goals first | (refine fin_app _ _ ?_; simp only [List.length_append, List.length_cons, List.length_nil]; omega)
  rw [if_neg h1, if_neg h1]
  by_cases h2 : e.1 = 2
  · rw [if_pos h2, if_pos h2]
    refine ⟨?_, ?_, _, eword_ok _, ?_, ?_⟩
    all_goals (try simp only [← bstr_append])
    all_goals first | (refine fin_app _ _ ?_; simp only [List.length_append, List.length_cons, List.length_nil]; omega)
  rw [if_neg h2, if_neg h2]
  by_cases h3 : e.1 = 3
  · rw [if_pos h3, if_pos h3]
    refine ⟨?_, ?_⟩
    all_goals (try simp only [← bstr_append])
    all_goals first | (refine fin_app _ _ ?_; simp only [List.length_cons, List.length_nil]; omega)
  rw [if_neg h3, if_neg h3]
def ofE (e : Ev) : Er := (e.1, e.2.1, e.2.2.1, e.2.2.2.1, ofM e.2.2.2.2)
def sameE (a b : Ev) : Bool := decide (a.1 = b.1 ∧ a.2.1 = b.2.1 ∧ a.2.2.1 = b.2.2.1 ∧ a.2.2.2.1 = b.2.2.2.1) && sameB a.2.2.2.2 b.2.2.2.2
theorem resame_ok {a b : Ev} (hp : a.2.2.2.2.2.2.1.length < 4611686018427387904) (hc : a.2.2.2.2.2.2.2.1.length < 4611686018427387904) : ref23_Same (ofE a) (ofE b) (sameE a b) := by
  unfold ref23_Same sameE ofE
  simp only [decide_eq_true_eq, ref23_Same_j1]
  by_cases h1 : a.1 = b.1
  · by_cases h2 : a.2.1 = b.2.1
    · by_cases h3 : a.2.2.1 = b.2.2.1
      · by_cases h4 : a.2.2.2.1 = b.2.2.2.1
        · rw [if_pos h1, if_pos h2, if_pos h3, if_pos h4]; exact ⟨_, rsame_ok hp hc, by simp [h1, h2, h3, h4]⟩
        · rw [if_pos h1, if_pos h2, if_pos h3, if_neg h4]; simp [h4]
      · rw [if_pos h1, if_pos h2, if_neg h3]; simp [h3]
    · rw [if_pos h1, if_neg h2]; simp [h2]
  · rw [if_neg h1]; simp [h1]
theorem sameB_refl (m : Mg) : sameB m m = true := by simp [sameB]
theorem sameE_refl (e : Ev) : sameE e e = true := by simp [sameE, sameB_refl]
theorem eof_ok {e : Ev} (h : e.2.2.2.2.2.2.1.length < 1099511627776) : law23_Of e (ofE e) := ⟨_, ofm_ok h, rfl⟩
structure MgIn (m : Mg) : Prop where
  kind : IntOk .i64 m.1
  six : m.2.1.length = 6
  num : ∀ x ∈ m.2.1, IntOk .i64 x
  path : ∀ p ∈ m.2.2.1, IntOk .i64 p.1 ∧ IntOk .i64 p.2
  cells : ∀ x ∈ m.2.2.2.1, IntOk .i64 x
structure EvIn (e : Ev) : Prop where
  kind : IntOk .i64 e.1
  seq : IntOk .u32 e.2.1
  ver : IntOk .i64 e.2.2.1
  err : IntOk .i64 e.2.2.2.1
  msg : MgIn e.2.2.2.2
theorem deliv_ok (seq ver : Int) {m : Mg} (hp : m.2.2.1.length < 1099511627776) (hc : m.2.2.2.1.length < 1099511627776) : event_Delivery seq ver m (1, seq, ver, 0, m) := ⟨_, mcopy_ok hp hc, rfl⟩
instance (k : IntKind) (n : Int) : Decidable (IntOk k n) := by unfold IntOk; infer_instance
def zM : Mg := (0, [0, 0, 0, 0, 0, 0], [], [], bstr [], bstr [])
theorem zM_ok : MgOk zM := ⟨by decide, rfl, by decide, by decide, by decide, by decide, by decide, by decide, by decide⟩
theorem known23_ok : law23_known true := by
  have hm : MgOk (2, [1, 2, 0, 0, 0, 0], [], [], bstr [], bstr []) := ⟨by decide, rfl, by decide, by decide, by decide, by decide, by decide, by decide, by decide⟩
  refine ⟨_, deliv_ok 7 1 (by decide) (by decide), _, eline_ok ⟨by decide, by decide, by decide, by decide, hm⟩, ?_⟩
  rw [if_pos (by decide)]
  refine ⟨_, rfl, _, eline_ok ⟨by decide, by decide, by decide, by decide, zM_ok⟩, ?_⟩
  rw [if_pos (by decide)]
  refine ⟨_, rfl, _, eline_ok ⟨by decide, by decide, by decide, by decide, zM_ok⟩, ?_⟩
  show true = _
  decide
abbrev MgRaw (m : Mg) : Prop := IntOk .i64 m.1 ∧ (m.2.1.length = 6 ∧ ∀ x ∈ m.2.1, IntOk .i64 x) ∧ ListOk (fun p : Int × Int => IntOk .i64 p.1 ∧ IntOk .i64 p.2) m.2.2.1 ∧ ListOk (IntOk .i64) m.2.2.2.1 ∧ StrOk m.2.2.2.2.1 ∧ StrOk m.2.2.2.2.2
end Go.Rel
/-! Plain law: deliveries, rejects and evictions are what they are told to be; a delivery's message is a copy. -/
namespace Go.Rel
open Go Go.Eng Go.Pl
theorem makes_run : ∀ (m k : Nat) (l : List (Int × Int)), k + m = l.length → l.length < 1000 → Loops law23_EventMakes_l2 ((k : Int), l) ()
  | 0, k, l, hk, hl => by
    refine .done ?_
    unfold law23_EventMakes_l2
    rw [if_neg (by simp; omega)]
  | m + 1, k, l, hk, hl => by
    refine .next (s' := (((k + 1 : Nat) : Int), l.set k (9, (l[k]'(by omega)).2))) ?_ (makes_run m (k + 1) _ (by simp; omega) (by simpa using hl))
    unfold law23_EventMakes_l2
    rw [if_pos (by simp; omega)]
    refine ⟨l[k]'(by omega), ⟨by simp, by simp⟩, ?_⟩
    rw [len_wrap (by omega)]
    rfl
theorem same_self {e : Ev} (hp : e.2.2.2.2.2.2.1.length < 4611686018427387904) (hc : e.2.2.2.2.2.2.2.1.length < 4611686018427387904) : ref23_Same (ofE e) (ofE e) true := by
  have := resame_ok (a := e) (b := e) hp hc
  rwa [sameE_refl] at this
theorem eventMakes_true {q v e : Int} {m : Mg} : law23_EventMakes q v m e true := by
  have hp : (cutM m).2.2.1.length ≤ 40 := by simp only [cutM, List.length_take]; omega
  have hc : (cutM m).2.2.2.1.length ≤ 40 := by simp only [cutM, List.length_take]; omega
  have z1 : ([] : List (Int × Int)).length < 1099511627776 := by decide
  have z2 : ∀ {α : Type}, ([] : List α).length < 4611686018427387904 := fun {α} => by show 0 < _; decide
  have d := deliv_ok q v (m := cutM m) (by omega) (by omega)
  refine ⟨_, cut_ok m, _, d, _, mcopy_ok (by omega) (by omega), _, ofm_ok (by omega), _, eof_ok (by show (cutM m).2.2.1.length < _; omega), true, same_self (e := (1, q, v, 0, cutM m)) (by show (cutM m).2.2.1.length < _; omega) (by show (cutM m).2.2.2.1.length < _; omega), ?_⟩
  rw [if_neg (by decide)]
  refine ⟨(), makes_run _ 0 _ (Nat.zero_add _) (by show (cutM m).2.2.1.length < _; omega), ?_⟩
  refine ⟨_, d, true, known23_ok, _, fun _ => eof_ok (by show (cutM m).2.2.1.length < _; omega), true, fun _ => same_self (e := (1, q, v, 0, cutM m)) (by show (cutM m).2.2.1.length < _; omega) (by show (cutM m).2.2.2.1.length < _; omega), _, fun _ => rfl, _, fun _ => eof_ok z1, true,
    fun _ => same_self (e := (2, q, 0, e, zM)) z2 z2, _, fun _ => rfl, _, fun _ => eof_ok z1, true, fun _ => same_self (e := (3, q, 0, 0, zM)) z2 z2, rfl⟩
theorem eventMakes_claim {q v e : Int} {m : Mg} (_h0 : IntOk .u32 q) (_h1 : IntOk .i64 v) (_h2 : MgRaw m) (_h3 : IntOk .i64 e) : law23_EventMakes q v m e true := eventMakes_true
end Go.Rel
