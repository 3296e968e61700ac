import Derived.Test.YtonmgcebhhdplaaGreatEngP
import Derived.Test.YtonmgcebhhdplaaGreatURel
/-! Plain laws: whole numbers of a kind; loops that count. -/
namespace Go.Pl
open Go Go.Eng

theorem w_u8 (n : Int) : IntKind.u8.wrap n = n % 256 := by simp [IntKind.wrap, IntKind.bits, IntKind.signed]
theorem w_u32 (n : Int) : IntKind.u32.wrap n = n % 4294967296 := by simp [IntKind.wrap, IntKind.bits, IntKind.signed]
theorem w_u64 (n : Int) : IntKind.u64.wrap n = n % 18446744073709551616 := by simp [IntKind.wrap, IntKind.bits, IntKind.signed]
theorem w_i64 (n : Int) : IntKind.i64.wrap n = (n + 9223372036854775808) % 18446744073709551616 - 9223372036854775808 := by
  simp only [IntKind.wrap, IntKind.bits, IntKind.signed]
  simp only [Bool.true_and]
  split
  · rename_i h; simp at h; omega
  · rename_i h; simp at h; omega
theorem w_small {n : Int} (h0 : -9223372036854775808 ≤ n) (h1 : n ≤ 9223372036854775807) : IntKind.i64.wrap n = n := by rw [w_i64]; omega
theorem w32_small {n : Int} (h0 : 0 ≤ n) (h1 : n < 4294967296) : IntKind.u32.wrap n = n := by rw [w_u32]; omega
theorem w64_small {n : Int} (h0 : 0 ≤ n) (h1 : n < 18446744073709551616) : IntKind.u64.wrap n = n := by rw [w_u64]; omega

theorem iand_one {a : Int} (h0 : 0 ≤ a) (h1 : a < 18446744073709551616) : iand .u64 a 1 = a % 2 := by
  obtain ⟨n, rfl⟩ := Int.eq_ofNat_of_zero_le h0
  have h2 : n < 2 ^ 64 := by omega
  have : (BitVec.ofInt 64 (n : Int) &&& BitVec.ofInt 64 1).toNat = n % 2 := by
    rw [BitVec.toNat_and]
    have e1 : (BitVec.ofInt 64 (n : Int)).toNat = n := by rw [BitVec.ofInt_natCast, BitVec.toNat_ofNat, Nat.mod_eq_of_lt h2]
    have e2 : (BitVec.ofInt 64 (1 : Int)).toNat = 1 := by decide
    rw [e1, e2, Nat.and_one_is_mod]
  show IntKind.u64.wrap (((BitVec.ofInt 64 (n : Int) &&& BitVec.ofInt 64 1).toNat : Nat) : Int) = _
  rw [this, w_u64]; omega
theorem ishr_u64 {a s : Int} (h0 : 0 ≤ s) (h1 : s ≤ 64) : ishr .u64 a s = a / 2 ^ s.toNat := by
  show a.fdiv (2 ^ min s.toNat 64) = _
  have e : min s.toNat 64 = s.toNat := by omega
  rw [e]
  have : (0 : Int) < 2 ^ s.toNat := Int.pow_pos (by decide)
  rw [Int.fdiv_eq_ediv_of_nonneg _ (by omega)]

theorem loops_count {S E : Type} {step : S → Sum S E → Prop} (f : Nat → S) (N : Nat) {e : E} (hstep : ∀ k, k < N → step (f k) (.inl (f (k + 1)))) (hend : step (f N) (.inr e)) : Loops step (f 0) e := by
  have key : ∀ m k, k + m = N → Loops step (f k) e := by
    intro m
    induction m with
    | zero => intro k hk; have : k = N := by omega
              subst this; exact .done hend
    | succ m ih => intro k hk; exact .next (hstep k (by omega)) (ih (k + 1) (by omega))
  exact key N 0 (by omega)
end Go.Pl
/-! Plain laws: loops by what holds; words of 32 bits. -/
namespace Go.Pl
open Go Go.Eng

theorem loops_inv {S E : Type} {step : S → Sum S E → Prop} (I : Nat → S → Prop) (Q : E → Prop) (N : Nat) {s : S} (h0 : I 0 s)
    (hs : ∀ k s, k < N → I k s → (∃ s', step s (.inl s') ∧ I (k + 1) s') ∨ ∃ e, step s (.inr e) ∧ Q e) (he : ∀ s, I N s → ∃ e, step s (.inr e) ∧ Q e) : ∃ e, Loops step s e ∧ Q e := by
  have key : ∀ m k s, k + m = N → I k s → ∃ e, Loops step s e ∧ Q e := by
    intro m
    induction m with
    | zero =>
      intro k s hk hi
      have : k = N := by omega
      subst this
      obtain ⟨e, h1, h2⟩ := he s hi
      exact ⟨e, .done h1, h2⟩
    | succ m ih =>
      intro k s hk hi
      rcases hs k s (by omega) hi with ⟨s', h1, h2⟩ | ⟨e, h1, h2⟩
      · obtain ⟨e, h3, h4⟩ := ih (k + 1) s' (by omega) h2
        exact ⟨e, .next h1 h3, h4⟩
      · exact ⟨e, .done h1, h2⟩
  exact key N 0 s (by omega) h0
theorem idx_of {α : Type} {xs : List α} {k : Nat} (h : k < xs.length) : idx xs (k : Int) xs[k] := ⟨by omega, by simp [h]⟩
theorem idx_at {α : Type} {xs : List α} {i : Int} {k : Nat} {x : α} (hi : i = (k : Int)) (h : xs[k]? = some x) : idx xs i x := by
  subst hi; exact ⟨by omega, by simpa using h⟩
theorem putN_getD {α : Type} {n : Nat} {z v : α} {xs : List α} {q j : Nat} (hj : j < n) : (putN n z xs q v).getD j z = if j = q then v else xs.getD j z := by
  simp only [putN, List.getD_eq_getElem?_getD, List.getElem?_map]
  rw [List.getElem?_range hj]; rfl

def B (x : BitVec 32) : Int := (x.toNat : Int)
end Go.Pl
/-! Plain laws: numbers in digits. -/
namespace Go.Rel
open Go Go.Eng Go.Pl
/-! ### Bytes as strings -/
theorem foldl_push_size (l : List Int) (s : ByteArray) : (l.foldl (fun r n => r.push (UInt8.ofNat n.toNat)) s).size = s.size + l.length := by
  induction l generalizing s with
  | nil => simp
  | cons x l ih => rw [List.foldl_cons, ih, ByteArray.size_push, List.length_cons]; omega
theorem size_bstr (l : List Int) : (bstr l).size = l.length := by
  unfold bstr
  rw [foldl_push_size]
  show ByteArray.empty.size + _ = _
  simp
/-! ### Digits -/
/-! ### The library's -/
/-! ### The document's -/
end Go.Rel
/-! Plain laws: messages: fields, what is wrong with one. -/
namespace Go.Rel
open Go Go.Eng Go.Pl

theorem len_wrap {n : Nat} (h : n < 4611686018427387904) : IntKind.i64.wrap ((n : Int) + 1) = ((n + 1 : Nat) : Int) := by rw [w_small] <;> omega
def firstE {U E : Type} (u : U) (bad : Nat → Option E) (n : Nat) : Sum U E := match (List.range n).findSome? bad with | some e => .inr e | none => .inl u
theorem loops_first {S U E : Type} {step : S → Sum S (Sum U E) → Prop} (f : Nat → S) (bad : Nat → Option E) (u : U) (n : Nat) (hs : ∀ k, k < n → (∀ e, bad k = some e → step (f k) (.inr (.inr e))) ∧ (bad k = none → step (f k) (.inl (f (k + 1))))) (he : step (f n) (.inr (.inl u))) : Loops step (f 0) (firstE u bad n) := by
  have key : ∀ m k, k + m = n → Loops step (f k) (match (List.range' k m).findSome? bad with | some e => .inr e | none => .inl u) := by
    intro m
    induction m with
    | zero => intro k hk; obtain rfl : k = n := by omega
              exact .done he
    | succ m ih =>
      intro k hk
      have hsk := hs k (by omega)
      rw [List.range'_succ, List.findSome?_cons]
      cases hb : bad k with
      | some e => exact .done (hsk.1 e hb)
      | none => exact .next (hsk.2 hb) (ih (k + 1) (by omega))
  have := key n 0 (by omega)
  unfold firstE
  rw [List.range_eq_range']
  exact this
theorem firstE_none {U E : Type} {u : U} {bad : Nat → Option E} {n : Nat} (h : ∀ k, k < n → bad k = none) : firstE u bad n = .inl u := by
  unfold firstE
  rw [List.findSome?_eq_none_iff.2 (fun k hk => h k (List.mem_range.1 hk))]
theorem firstE_some {U E : Type} {u : U} {bad : Nat → Option E} {n : Nat} (h : firstE u bad n = .inl u) : ∀ k, k < n → bad k = none := by
  unfold firstE at h
  intro k hk
  cases hf : (List.range n).findSome? bad with
  | some e => rw [hf] at h; cases h
  | none => exact List.findSome?_eq_none_iff.1 hf k (List.mem_range.2 hk)

abbrev Mg := Int × List Int × List (Int × Int) × List Int × ByteArray × ByteArray
abbrev Mr := Int × List Int × List (List Int) × List Int × ByteArray × ByteArray
abbrev Fd := ByteArray × Int × Int × Int × Int × Int × Int
def robotF : Fd := ((bstr [114, 111, 98, 111, 116]), 1, 0, 0, 65535, 1, 0)
def fieldsB (k : Int) : List Fd :=
  if k = 1 then [robotF, ((bstr [115, 112, 101, 101, 100]), 1, 1, 1, 5000, 1, 0), ((bstr [97, 99, 99, 101, 108]), 1, 2, 1, 10000, 2, 500), ((bstr [112, 97, 116, 104]), 3, (-1), 1, 16, 1, 0), ((bstr [116, 97, 103]), 6, (-1), 0, 16, 2, 0)]
  else if k = 2 then [robotF, ((bstr [114, 101, 97, 115, 111, 110]), 1, 1, 0, 15, 1, 0), ((bstr [122, 111, 110, 101]), 1, 2, 0, 4095, 2, 0)]
  else if k = 3 then [robotF, ((bstr [122, 111, 110, 101]), 1, 1, 0, 4095, 1, 0), ((bstr [108, 101, 97, 115, 101]), 1, 2, 1, 255, 2, 1), ((bstr [99, 101, 108, 108, 115]), 4, (-1), 1, 32, 1, 0)]
  else if k = 4 then [robotF, ((bstr [120]), 2, 1, (-1000000), 1000000, 1, 0), ((bstr [121]), 2, 2, (-1000000), 1000000, 1, 0), ((bstr [104, 101, 97, 100, 105, 110, 103]), 1, 3, 0, 35999, 1, 0), ((bstr [98, 97, 116, 116, 101, 114, 121]), 1, 4, 0, 1000, 1, 0), ((bstr [115, 117, 114, 101]), 1, 5, 0, 100, 2, 100)]
  else if k = 5 then [robotF, ((bstr [99, 111, 100, 101]), 1, 1, 1, 9999, 1, 0), ((bstr [115, 101, 118, 101, 114, 105, 116, 121]), 1, 2, 0, 4, 1, 0), ((bstr [112, 97, 114, 116]), 1, 3, 0, 255, 2, 0), ((bstr [116, 105, 109, 101, 115]), 1, 4, 1, 1000000, 2, 1), ((bstr [116, 101, 120, 116]), 5, (-1), 0, 64, 1, 0)]
  else []
theorem fields_ok (k : Int) : field_Of k (fieldsB k) := by
  unfold field_Of fieldsB
  by_cases h1 : k = 1
  · rw [if_pos (by simpa using h1), if_pos h1]; exact ⟨_, rfl, rfl⟩
  rw [if_neg (by simpa using h1), if_neg h1]
  by_cases h2 : k = 2
  · rw [if_pos (by simpa using h2), if_pos h2]; exact ⟨_, rfl, rfl⟩
  rw [if_neg (by simpa using h2), if_neg h2]
  by_cases h3 : k = 3
  · rw [if_pos (by simpa using h3), if_pos h3]; exact ⟨_, rfl, rfl⟩
  rw [if_neg (by simpa using h3), if_neg h3]
  by_cases h4 : k = 4
  · rw [if_pos (by simpa using h4), if_pos h4]; exact ⟨_, rfl, rfl⟩
  rw [if_neg (by simpa using h4), if_neg h4]
  by_cases h5 : k = 5
  · rw [if_pos (by simpa using h5), if_pos h5]; exact ⟨_, rfl, rfl⟩
  rw [if_neg (by simpa using h5), if_neg h5]
def fdOk (f : Fd) : Prop := f.2.2.2.2.2.1 ≤ 2 ∧ f.1.size ≤ 10 ∧ ((f.2.1 = 3 ∧ f.2.2.2.1 = 1 ∧ f.2.2.2.2.1 = 16) ∨ (f.2.1 = 4 ∧ f.2.2.2.1 = 1 ∧ f.2.2.2.2.1 = 32) ∨ (f.2.1 = 5 ∧ f.2.2.2.1 = 0 ∧ f.2.2.2.2.1 = 64) ∨ (f.2.1 = 6 ∧ f.2.2.2.1 = 0 ∧ f.2.2.2.2.1 = 16) ∨ (1 ≤ f.2.1 ∧ f.2.1 < 3 ∧ 0 ≤ f.2.2.1 ∧ f.2.2.1 < 6 ∧ -1000000 ≤ f.2.2.2.1 ∧ f.2.2.2.2.1 ≤ 1000000))
theorem fields_all (P : Fd → Prop) (k : Int) (h0 : P robotF) (h1 : ∀ f ∈ [((bstr [115, 112, 101, 101, 100]), 1, 1, 1, 5000, 1, 0), ((bstr [97, 99, 99, 101, 108]), 1, 2, 1, 10000, 2, 500), ((bstr [112, 97, 116, 104]), 3, (-1), 1, 16, 1, 0), ((bstr [116, 97, 103]), 6, (-1), 0, 16, 2, 0), ((bstr [114, 101, 97, 115, 111, 110]), 1, 1, 0, 15, 1, 0), ((bstr [122, 111, 110, 101]), 1, 2, 0, 4095, 2, 0), ((bstr [122, 111, 110, 101]), 1, 1, 0, 4095, 1, 0), ((bstr [108, 101, 97, 115, 101]), 1, 2, 1, 255, 2, 1), ((bstr [99, 101, 108, 108, 115]), 4, (-1), 1, 32, 1, 0), ((bstr [120]), 2, 1, (-1000000), 1000000, 1, 0), ((bstr [121]), 2, 2, (-1000000), 1000000, 1, 0), ((bstr [104, 101, 97, 100, 105, 110, 103]), 1, 3, 0, 35999, 1, 0), ((bstr [98, 97, 116, 116, 101, 114, 121]), 1, 4, 0, 1000, 1, 0), ((bstr [115, 117, 114, 101]), 1, 5, 0, 100, 2, 100), ((bstr [99, 111, 100, 101]), 1, 1, 1, 9999, 1, 0), ((bstr [115, 101, 118, 101, 114, 105, 116, 121]), 1, 2, 0, 4, 1, 0), ((bstr [112, 97, 114, 116]), 1, 3, 0, 255, 2, 0), ((bstr [116, 105, 109, 101, 115]), 1, 4, 1, 1000000, 2, 1), ((bstr [116, 101, 120, 116]), 5, (-1), 0, 64, 1, 0)], P f) : ∀ f ∈ fieldsB k, P f := by
  simp only [List.forall_mem_cons] at h1
  unfold fieldsB
  by_cases e1 : k = 1
  · rw [if_pos e1]; simp only [List.forall_mem_cons]; simp [h0, h1]
  rw [if_neg e1]
  by_cases e2 : k = 2
  · rw [if_pos e2]; simp only [List.forall_mem_cons]; simp [h0, h1]
  rw [if_neg e2]
  by_cases e3 : k = 3
  · rw [if_pos e3]; simp only [List.forall_mem_cons]; simp [h0, h1]
  rw [if_neg e3]
  by_cases e4 : k = 4
  · rw [if_pos e4]; simp only [List.forall_mem_cons]; simp [h0, h1]
  rw [if_neg e4]
  by_cases e5 : k = 5
  · rw [if_pos e5]; simp only [List.forall_mem_cons]; simp [h0, h1]
  rw [if_neg e5]
  simp
theorem fields_fd (k : Int) : ∀ f ∈ fieldsB k, fdOk f := by
  refine fields_all fdOk k (by simp [fdOk, robotF, size_bstr]) ?_
  simp only [List.forall_mem_cons]
  simp [fdOk, size_bstr]
theorem fields_len (k : Int) : (fieldsB k).length ≤ 6 := by
  unfold fieldsB
  by_cases e1 : k = 1
  · rw [if_pos e1]; simp
  rw [if_neg e1]
  by_cases e2 : k = 2
  · rw [if_pos e2]; simp
  rw [if_neg e2]
  by_cases e3 : k = 3
  · rw [if_pos e3]; simp
  rw [if_neg e3]
  by_cases e4 : k = 4
  · rw [if_pos e4]; simp
  rw [if_neg e4]
  by_cases e5 : k = 5
  · rw [if_pos e5]; simp
  rw [if_neg e5]
  simp
/-! The reference's list. -/
def placed : Int → List Fd → List Fd
  | _, [] => []
  | p, f :: l => if f.2.1 < 3 then (f.1, f.2.1, p, f.2.2.2) :: placed (p + 1) l else (f.1, f.2.1, -1, f.2.2.2) :: placed p l
theorem placed_ok (fs : List Fd) (hl : fs.length < 100) : ∀ (l pre : List Fd), fs = pre ++ l → ∀ (acc : List Fd) (p : Int), acc.length ≤ pre.length → 0 ≤ p → p ≤ pre.length → Loops (ref16_All_l3 fs) (acc, p, (pre.length : Int)) (acc ++ placed p l)
  | [], pre, h, acc, p, _, _, _ => by
    have : fs.length = pre.length := by rw [h]; simp
    refine .done ?_
    unfold ref16_All_l3
    rw [if_neg (by simp; omega)]
    simp [placed]
  | f :: l, pre, h, acc, p, ha, h0, hp => by
    have hlen : fs.length = pre.length + l.length + 1 := by rw [h]; simp; omega
    have hat : fs[pre.length]? = some f := by rw [h]; simp
    have hw := len_wrap (n := pre.length) (by omega)
    have rest := fun acc p h1 h2 h3 => placed_ok fs hl l (pre ++ [f]) (by rw [h]; simp) acc p h1 h2 h3
    simp only [List.length_append, List.length_cons, List.length_nil] at rest
    by_cases hf : f.2.1 < 3
    · have r := rest (acc ++ [(f.1, f.2.1, p, f.2.2.2)]) (p + 1) (by simp; omega) (by omega) (by omega)
      refine .next (s' := (acc ++ [(f.1, f.2.1, p, f.2.2.2)], p + 1, ((pre.length + 1 : Nat) : Int))) ?_ (by simpa [placed, hf] using r)
      unfold ref16_All_l3
      rw [if_pos (by simp; omega)]
      refine ⟨f, idx_at rfl hat, ?_⟩
      rw [if_pos (by simpa using hf)]
      unfold ref16_All_j4
      refine ⟨by simp only [List.length_cons, List.length_nil]; omega, by simp only [List.length_cons, List.length_nil]; omega, ?_⟩
      simp only
      rw [hw, w_small (by omega) (by omega)]
    · have r := rest (acc ++ [(f.1, f.2.1, -1, f.2.2.2)]) p (by simp; omega) (by omega) (by omega)
      refine .next (s' := (acc ++ [(f.1, f.2.1, -1, f.2.2.2)], p, ((pre.length + 1 : Nat) : Int))) ?_ (by simpa [placed, hf] using r)
      unfold ref16_All_l3
      rw [if_pos (by simp; omega)]
      refine ⟨f, idx_at rfl hat, ?_⟩
      rw [if_neg (by simpa using hf)]
      unfold ref16_All_j4
      refine ⟨by simp only [List.length_cons, List.length_nil]; omega, by simp only [List.length_cons, List.length_nil]; omega, ?_⟩
      simp only
      rw [hw]
theorem rall_of (fs : List Fd) (hl : fs.length < 100) {r : List Fd} (h : placed 0 fs = r) : ref16_All_j1 fs r := by
  subst h
  exact ⟨_, placed_ok fs hl fs [] rfl [] 0 (by simp) (by simp) (by simp), by simp [ref16_All_j2]⟩
theorem rfields_ok (k : Int) : ref16_All k (fieldsB k) := by
  unfold ref16_All fieldsB
  by_cases h1 : k = 1
  · rw [if_pos (by simpa using h1), if_pos h1]; exact rall_of _ (by simp) rfl
  rw [if_neg (by simpa using h1), if_neg h1]
  by_cases h2 : k = 2
  · rw [if_pos (by simpa using h2), if_pos h2]; exact rall_of _ (by simp) rfl
  rw [if_neg (by simpa using h2), if_neg h2]
  by_cases h3 : k = 3
  · rw [if_pos (by simpa using h3), if_pos h3]; exact rall_of _ (by simp) rfl
  rw [if_neg (by simpa using h3), if_neg h3]
  by_cases h4 : k = 4
  · rw [if_pos (by simpa using h4), if_pos h4]; exact rall_of _ (by simp) rfl
  rw [if_neg (by simpa using h4), if_neg h4]
  by_cases h5 : k = 5
  · rw [if_pos (by simpa using h5), if_pos h5]; exact rall_of _ (by simp) rfl
  rw [if_neg (by simpa using h5), if_neg h5]
  exact rall_of _ (by simp) rfl
/-! What is wrong with a part. -/
def manyB (n least most : Int) : Int := if n < least then 13 else if most < n then 6 else 0
theorem many_ok (n : Int) (f : Fd) : msg_many n f (manyB n f.2.2.2.1 f.2.2.2.2.1) := by
  unfold msg_many manyB
  simp only [decide_eq_true_eq]
  repeat' (first | rfl | split)
def errO (o : Sum Unit Int) : Int := match o with | .inr e => e | .inl _ => 0
theorem aft_err {j : Unit → Int → Prop} {o : Sum Unit Int} (h : ∀ u, j u 0) : Aft (fun p => j p (errO o)) (fun p => errO o = p) o := by
  cases o with
  | inl u => exact h u
  | inr e => rfl
def pathBad (l : List (Int × Int)) (k : Nat) : Option Int := match l[k]? with | some p => if 1000000 < max p.1 p.2 ∨ min p.1 p.2 < -1000000 then some 5 else none | none => none
def pathL (l : List (Int × Int)) : Int := errO (firstE () (pathBad l) l.length)
def pathB (l : List (Int × Int)) (least most : Int) : Int := if manyB l.length least most = 0 then pathL l else manyB l.length least most
theorem manyB_zero {n a b : Int} (h : manyB n a b = 0) : a ≤ n ∧ n ≤ b := by
  unfold manyB at h; split at h
  · omega
  · split at h <;> omega
theorem path_ok (l : List (Int × Int)) (f : Fd) (hm : f.2.2.2.2.1 < 1000) : msg_path l f (pathB l f.2.2.2.1 f.2.2.2.2.1) := by
  refine ⟨_, many_ok _ f, ?_⟩
  unfold pathB
  by_cases h : manyB l.length f.2.2.2.1 f.2.2.2.2.1 = 0
  · rw [if_neg (by simpa using h), if_pos h]
    have hl := (manyB_zero h).2
    refine ⟨_, loops_first (fun k => (k : Int)) (pathBad l) () l.length (fun k hk => ?_) ?_, aft_err fun _ => rfl⟩
    · have hw := len_wrap (n := k) (by omega)
      have hx := idx_of hk
      have st : ∀ o, (if 1000000 < max l[k].1 l[k].2 ∨ min l[k].1 l[k].2 < -1000000 then o = .inr (.inr 5) else o = .inl ((k + 1 : Nat) : Int)) → msg_path_l2 l (k : Int) o := by
        intro o ho
        unfold msg_path_l2
        rw [if_pos (by simp; omega)]
        refine ⟨_, hx, ?_⟩
        unfold msg_path_j3
        by_cases h1 : 1000000 < max l[k].1 l[k].2
        · rw [if_pos (.inl h1)] at ho; rw [if_pos (by simpa using h1)]; simpa using ho
        · rw [if_neg (by simpa using h1)]
          by_cases h2 : min l[k].1 l[k].2 < -1000000
          · rw [if_pos (.inr h2)] at ho; rw [if_pos (by simpa using h2)]; exact ho
          · rw [if_neg (not_or.2 ⟨h1, h2⟩)] at ho; rw [if_neg (by simpa using h2), hw]; exact ho
      unfold pathBad
      rw [List.getElem?_eq_getElem hk]
      by_cases hb : 1000000 < max l[k].1 l[k].2 ∨ min l[k].1 l[k].2 < -1000000
      · simp only [if_pos hb]; exact ⟨fun e he => (by cases he; exact st _ (by rw [if_pos hb])), fun he => by cases he⟩
      · simp only [if_neg hb]; exact ⟨fun e he => (by cases he), fun _ => st _ (by rw [if_neg hb])⟩
    · unfold msg_path_l2
      rw [if_neg (by simp)]
  · rw [if_pos (by simpa using h), if_neg h]
def cellsBad (l : List Int) (k : Nat) : Option Int := if l.getD k 0 < 0 ∨ 65535 < l.getD k 0 then some 5 else if 0 < k ∧ l.getD k 0 ≤ l.getD (k - 1) 0 then some 3 else none
def cellsL (l : List Int) : Int := errO (firstE () (cellsBad l) l.length)
def cellsB (l : List Int) (least most : Int) : Int := if manyB l.length least most = 0 then cellsL l else manyB l.length least most
theorem cells_ok (l : List Int) (f : Fd) (hm : f.2.2.2.2.1 < 1000) : msg_cells l f (cellsB l f.2.2.2.1 f.2.2.2.2.1) := by
  refine ⟨_, many_ok _ f, ?_⟩
  unfold cellsB
  by_cases h : manyB l.length f.2.2.2.1 f.2.2.2.2.1 = 0
  · rw [if_neg (by simpa using h), if_pos h]
    have hl := (manyB_zero h).2
    refine ⟨_, loops_first (fun k => ((if k = 0 then -1 else l.getD (k - 1) 0), (k : Int))) (cellsBad l) () l.length (fun k hk => ?_) ?_, aft_err fun _ => rfl⟩
    · have hw := len_wrap (n := k) (by omega)
      have hx := idx_of hk
      have hg : l.getD k 0 = l[k] := by simp [List.getD_eq_getElem?_getD, hk]
      have st : ∀ o, (if l[k] < 0 ∨ 65535 < l[k] then o = .inr (.inr 5) else if l[k] ≤ (if k = 0 then -1 else l.getD (k - 1) 0) then o = .inr (.inr 3) else o = .inl (l[k], ((k + 1 : Nat) : Int))) → msg_cells_l2 l ((if k = 0 then -1 else l.getD (k - 1) 0), (k : Int)) o := by
        intro o ho
        unfold msg_cells_l2
        rw [if_pos (by simp; omega)]
        refine ⟨_, hx, ?_⟩
        unfold msg_cells_j3
        have hj : (if l[k] < 0 ∨ 65535 < l[k] then o = .inr (.inr 5) else if (decide (l[k] ≤ (if k = 0 then -1 else l.getD (k - 1) 0))) = true then o = .inr (.inr 3) else o = .inl (l[k], (IntKind.i64.wrap ((k : Int) + 1)))) := by
          rw [hw]; simpa only [decide_eq_true_eq] using ho
        by_cases h1 : l[k] < 0
        · rw [if_pos (.inl h1)] at hj; rw [if_pos (by simpa using h1)]; simpa using hj
        · rw [if_neg (by simpa using h1)]
          by_cases h2 : 65535 < l[k]
          · rw [if_pos (.inr h2)] at hj; rw [if_pos (by simpa using h2)]; exact hj
          · rw [if_neg (not_or.2 ⟨h1, h2⟩)] at hj; rw [if_neg (by simpa using h2)]; exact hj
      unfold cellsBad
      rw [hg]
      by_cases hb : l[k] < 0 ∨ 65535 < l[k]
      · simp only [if_pos hb]; exact ⟨fun e he => (by cases he; exact st _ (by rw [if_pos hb])), fun he => by cases he⟩
      · have hc : (0 < k ∧ l[k] ≤ l.getD (k - 1) 0) ↔ l[k] ≤ (if k = 0 then -1 else l.getD (k - 1) 0) := by
          by_cases h2 : k = 0
          · subst h2; simp; omega
          · rw [if_neg h2]; omega
        simp only [if_neg hb, Nat.add_eq_zero_iff, Nat.one_ne_zero, and_false, if_false, Nat.add_sub_cancel, hg]
        by_cases hd : 0 < k ∧ l[k] ≤ l.getD (k - 1) 0
        · simp only [if_pos hd]; exact ⟨fun e he => (by cases he; exact st _ (by rw [if_neg hb, if_pos (hc.1 hd)])), fun he => by cases he⟩
        · simp only [if_neg hd]; exact ⟨fun e he => (by cases he), fun _ => st _ (by rw [if_neg hb, if_neg (fun h => hd (hc.2 h))])⟩
    · unfold msg_cells_l2
      rw [if_neg (by simp)]
  · rw [if_pos (by simpa using h), if_neg h]
theorem len_bints (s : ByteArray) : (bints s).length = s.size := by unfold bints; rw [List.length_map]; rfl
def textBad (s : ByteArray) (k : Nat) : Option Int := if (bints s).getD k 0 < 32 ∨ 126 < (bints s).getD k 0 then some 19 else none
def textL (s : ByteArray) : Int := errO (firstE () (textBad s) s.size)
def textB (s : ByteArray) (least most : Int) : Int := if manyB s.size least most = 0 then textL s else manyB s.size least most
theorem text_ok (s : ByteArray) (f : Fd) (hm : f.2.2.2.2.1 < 1000) : msg_text s f (textB s f.2.2.2.1 f.2.2.2.2.1) := by
  refine ⟨_, many_ok _ f, ?_⟩
  unfold textB
  by_cases h : manyB s.size f.2.2.2.1 f.2.2.2.2.1 = 0
  · rw [if_neg (by simpa using h), if_pos h]
    have hl := (manyB_zero h).2
    refine ⟨by omega, _, loops_first (fun k => (k : Int)) (textBad s) () s.size (fun k hk => ?_) ?_, aft_err fun _ => rfl⟩
    · have hw := len_wrap (n := k) (by omega)
      have hk' : k < (bints s).length := by rw [len_bints]; exact hk
      have hx := idx_of hk'
      have hg : (bints s).getD k 0 = (bints s)[k] := by simp [List.getD_eq_getElem?_getD, hk']
      have st : ∀ o, (if (bints s)[k] < 32 ∨ 126 < (bints s)[k] then o = .inr (.inr 19) else o = .inl ((k + 1 : Nat) : Int)) → msg_text_l2 s (k : Int) o := by
        intro o ho
        unfold msg_text_l2
        rw [if_pos (by simp only [decide_eq_true_eq]; omega)]
        refine ⟨_, hx, ?_⟩
        unfold msg_text_j3
        by_cases h1 : (bints s)[k] < 32
        · rw [if_pos (.inl h1)] at ho; rw [if_pos (by simpa using h1)]; simpa using ho
        · rw [if_neg (by simpa using h1)]
          by_cases h2 : 126 < (bints s)[k]
          · rw [if_pos (.inr h2)] at ho; rw [if_pos (by simpa using h2)]; exact ho
          · rw [if_neg (not_or.2 ⟨h1, h2⟩)] at ho; rw [if_neg (by simpa using h2), hw]; exact ho
      unfold textBad
      rw [hg]
      by_cases hb : (bints s)[k] < 32 ∨ 126 < (bints s)[k]
      · simp only [if_pos hb]; exact ⟨fun e he => (by cases he; exact st _ (by rw [if_pos hb])), fun he => by cases he⟩
      · simp only [if_neg hb]; exact ⟨fun e he => (by cases he), fun _ => st _ (by rw [if_neg hb])⟩
    · unfold msg_text_l2
      rw [if_neg (by rw [len_bints]; simp)]
  · rw [if_pos (by simpa using h), if_neg h]
def numBad (m : Mg) (f : Fd) : Prop := m.2.1.getD f.2.2.1.toNat 0 < f.2.2.2.1 ∨ f.2.2.2.2.1 < m.2.1.getD f.2.2.1.toNat 0
instance (m : Mg) (f : Fd) : Decidable (numBad m f) := by unfold numBad; infer_instance
def wrongB (m : Mg) (f : Fd) : Int :=
  if f.2.1 = 3 then pathB m.2.2.1 f.2.2.2.1 f.2.2.2.2.1 else if f.2.1 = 4 then cellsB m.2.2.2.1 f.2.2.2.1 f.2.2.2.2.1
  else if f.2.1 = 5 then textB m.2.2.2.2.1 f.2.2.2.1 f.2.2.2.2.1 else if f.2.1 = 6 then textB m.2.2.2.2.2 f.2.2.2.1 f.2.2.2.2.1
  else if numBad m f then 5 else 0
theorem wrong_fd (m : Mg) {f : Fd} (ok : fdOk f) : msg_wrong m f (wrongB m f) := by
  obtain ⟨_, _, ok⟩ := ok
  unfold msg_wrong wrongB
  simp only [decide_eq_true_eq]
  split
  · exact ⟨_, path_ok _ f (by omega), rfl⟩
  split
  · exact ⟨_, cells_ok _ f (by omega), rfl⟩
  split
  · exact ⟨_, text_ok _ f (by omega), rfl⟩
  split
  · exact ⟨_, text_ok _ f (by omega), rfl⟩
  refine ⟨by omega, by omega, ?_⟩
  unfold msg_wrong_j1
  by_cases h1 : m.2.1.getD f.2.2.1.toNat 0 < f.2.2.2.1
  · have hb : numBad m f := Or.inl h1
    rw [if_pos h1, if_pos rfl, if_pos hb]
  · rw [if_neg h1]
    by_cases h2 : f.2.2.2.2.1 < m.2.1.getD f.2.2.1.toNat 0
    · have hb : numBad m f := Or.inr h2
      rw [if_pos (decide_eq_true h2), if_pos hb]
    · have hb : ¬ numBad m f := not_or.2 ⟨h1, h2⟩
      rw [if_neg (by simpa using h2), if_neg hb]
end Go.Rel
/-! Plain laws: are lists, messages the same; copies; the document's view of a message. -/
namespace Go.Rel
open Go Go.Eng Go.Pl

theorem loops_eq {α : Type} [DecidableEq α] {xs ys : List α} {step : Int → Sum Int (Sum Unit Bool) → Prop} (hlen : xs.length = ys.length) (_hx : xs.length < 4611686018427387904)
    (hst : ∀ (k : Nat) x y, xs[k]? = some x → ys[k]? = some y → (x = y → step (k : Int) (.inl ((k + 1 : Nat) : Int))) ∧ (x ≠ y → step (k : Int) (.inr (.inr false)))) (hend : step (xs.length : Int) (.inr (.inl ()))) :
    ∃ e, Loops step 0 e ∧ (∀ (j : Unit → Bool → Prop), (∀ u, j u true) → Aft (fun p => j p (decide (xs = ys))) (fun p => decide (xs = ys) = p) e) := by
  let bad : Nat → Option Bool := fun k => if xs[k]? = ys[k]? then none else some false
  refine ⟨firstE () bad xs.length, loops_first (fun k => (k : Int)) bad () xs.length (fun k hk => ?_) hend, fun j hj => ?_⟩
  · have h1 := List.getElem?_eq_getElem hk
    have h2 : ys[k]? = some (ys[k]'(by omega)) := List.getElem?_eq_getElem (by omega)
    have hs := hst k _ _ h1 h2
    show (∀ e, (if xs[k]? = ys[k]? then none else some false) = some e → _) ∧ ((if xs[k]? = ys[k]? then none else some false) = none → _)
    rw [h1, h2]
    by_cases he : xs[k] = ys[k]'(by omega)
    · rw [if_pos (by rw [he])]; exact ⟨fun e h => (by cases h), fun _ => hs.1 he⟩
    · rw [if_neg (fun h => he (Option.some.inj h))]; exact ⟨fun e h => (by cases h; exact hs.2 he), fun h => (by cases h)⟩
  · by_cases he : xs = ys
    · rw [firstE_none (fun k hk => by show (if xs[k]? = ys[k]? then none else some false) = none; rw [if_pos (by rw [he])])]
      show j () _
      rw [decide_eq_true he]; exact hj ()
    · have : firstE () bad xs.length = .inr false := by
        unfold firstE
        cases hf : (List.range xs.length).findSome? bad with
        | some e =>
          obtain ⟨k, _, hk⟩ := List.exists_of_findSome?_eq_some hf
          have hk : (if xs[k]? = ys[k]? then none else some false) = some e := hk
          split at hk
          · cases hk
          · cases hk; rfl
        | none =>
          exact absurd (List.ext_getElem? fun k => by
            by_cases h : k < xs.length
            · have h2 := List.findSome?_eq_none_iff.1 hf k (List.mem_range.2 h)
              have h2 : (if xs[k]? = ys[k]? then none else some false) = none := h2
              split at h2
              · assumption
              · cases h2
            · rw [List.getElem?_eq_none (by omega), List.getElem?_eq_none (by omega)]) he
      rw [this]; exact decide_eq_false he
theorem ints_ok {a b : List Int} (h : a.length < 4611686018427387904) : ref01_Ints a b (decide (a = b)) := by
  unfold ref01_Ints
  by_cases hl : a.length = b.length
  · rw [if_neg (by simp; omega)]
    obtain ⟨e, h1, h2⟩ := loops_eq (step := ref01_Ints_l2 a b) hl h (fun k x y hx hy => by
      have hk := (List.getElem?_eq_some_iff.1 hx).1
      have st : ∀ o, (if x = y then o = .inl ((k + 1 : Nat) : Int) else o = .inr (.inr false)) → ref01_Ints_l2 a b k o := by
        intro o ho
        unfold ref01_Ints_l2
        rw [if_pos (by simpa using hk)]
        refine ⟨x, idx_at rfl hx, y, idx_at rfl hy, ?_⟩
        by_cases e : x = y
        · rw [if_pos e] at ho; rw [if_neg (by simp [e]), len_wrap (by omega)]; exact ho
        · rw [if_neg e] at ho; rw [if_pos (by simp [e])]; exact ho
      exact ⟨fun e => st _ (by rw [if_pos e]), fun e => st _ (by rw [if_neg e])⟩) (by unfold ref01_Ints_l2; rw [if_neg (by simp)])
    exact ⟨e, h1, h2 ref01_Ints_j1 fun _ => rfl⟩
  · rw [if_pos (by simp; omega), decide_eq_false]; intro e; exact hl (by rw [e])
theorem equalI_ok {a b : List Int} (h : a.length < 4611686018427387904) : slices_Equal_int_int a b (decide (a = b)) := by
  unfold slices_Equal_int_int
  by_cases hl : a.length = b.length
  · rw [if_neg (by simp; omega)]
    obtain ⟨e, h1, h2⟩ := loops_eq (step := slices_Equal_int_int_l2 a b) hl h (fun k x y hx hy => by
      have hk := (List.getElem?_eq_some_iff.1 hx).1
      have st : ∀ o, (if x = y then o = .inl ((k + 1 : Nat) : Int) else o = .inr (.inr false)) → slices_Equal_int_int_l2 a b k o := by
        intro o ho
        unfold slices_Equal_int_int_l2
        rw [if_pos (by simpa using hk)]
        refine ⟨x, idx_at rfl hx, y, idx_at rfl hy, ?_⟩
        by_cases e : x = y
        · rw [if_pos e] at ho; rw [if_neg (by simp [e]), len_wrap (by omega)]; exact ho
        · rw [if_neg e] at ho; rw [if_pos (by simp [e])]; exact ho
      exact ⟨fun e => st _ (by rw [if_pos e]), fun e => st _ (by rw [if_neg e])⟩) (by unfold slices_Equal_int_int_l2; rw [if_neg (by simp)])
    exact ⟨e, h1, h2 slices_Equal_int_int_j1 fun _ => rfl⟩
  · rw [if_pos (by simp; omega), decide_eq_false]; intro e; exact hl (by rw [e])
theorem equalP_ok {a b : List (Int × Int)} (h : a.length < 4611686018427387904) : slices_Equal_msg_Point_msg_Point a b (decide (a = b)) := by
  unfold slices_Equal_msg_Point_msg_Point
  by_cases hl : a.length = b.length
  · rw [if_neg (by simp; omega)]
    obtain ⟨e, h1, h2⟩ := loops_eq (step := slices_Equal_msg_Point_msg_Point_l2 a b) hl h (fun k x y hx hy => by
      have hk := (List.getElem?_eq_some_iff.1 hx).1
      have st : ∀ o, (if x = y then o = .inl ((k + 1 : Nat) : Int) else o = .inr (.inr false)) → slices_Equal_msg_Point_msg_Point_l2 a b k o := by
        intro o ho
        unfold slices_Equal_msg_Point_msg_Point_l2
        rw [if_pos (by simpa using hk)]
        refine ⟨x, idx_at rfl hx, y, idx_at rfl hy, ?_⟩
        by_cases e : x = y
        · rw [if_pos e] at ho; rw [if_neg (by simp [e]), len_wrap (by omega)]; exact ho
        · rw [if_neg e] at ho; rw [if_pos (by
            obtain ⟨x1, x2⟩ := x; obtain ⟨y1, y2⟩ := y
            simp only [Prod.mk.injEq, not_and] at e
            by_cases h1 : x1 = y1
            · simp [h1, e h1]
            · simp [h1])]; exact ho
      exact ⟨fun e => st _ (by rw [if_pos e]), fun e => st _ (by rw [if_neg e])⟩) (by unfold slices_Equal_msg_Point_msg_Point_l2; rw [if_neg (by simp)])
    exact ⟨e, h1, h2 slices_Equal_msg_Point_msg_Point_j1 fun _ => rfl⟩
  · rw [if_pos (by simp; omega), decide_eq_false]; intro e; exact hl (by rw [e])

def n6 (l : List Int) : List Int := [l.getD 0 0, l.getD 1 0, l.getD 2 0, l.getD 3 0, l.getD 4 0, l.getD 5 0]
theorem eqN6 (a b : List Int) : eqN 6 0 a b = decide (n6 a = n6 b) := by
  unfold eqN n6
  simp [List.range_succ]
def sameB (a b : Mg) : Bool := decide (a.1 = b.1 ∧ n6 a.2.1 = n6 b.2.1 ∧ a.2.2 = b.2.2)
theorem msame_ok {a b : Mg} (hp : a.2.2.1.length < 4611686018427387904) (hc : a.2.2.2.1.length < 4611686018427387904) : msg_Same a b (sameB a b) := by
  obtain ⟨k, n, p, c, t, g⟩ := a
  obtain ⟨k', n', p', c', t', g'⟩ := b
  unfold msg_Same sameB
  simp only [eqN6, decide_eq_true_eq, Prod.mk.injEq]
  by_cases h1 : k = k'
  · by_cases h2 : n6 n = n6 n'
    · rw [if_pos h1, if_pos h2]
      refine ⟨_, equalP_ok hp, ?_⟩
      by_cases h3 : p = p'
      · rw [if_pos (by simpa using h3)]
        refine ⟨_, equalI_ok hc, ?_⟩
        by_cases h4 : c = c'
        · rw [if_pos (by simpa using h4)]
          by_cases h5 : t = t'
          · rw [if_pos h5]; simp only [msg_Same_j1, h1, h2, h3, h4, h5, true_and]
          · rw [if_neg h5]; simp [msg_Same_j1, h5]
        · rw [if_neg (by simpa using h4)]; simp [msg_Same_j1, h4]
      · rw [if_neg (by simpa using h3)]; simp [msg_Same_j1, h3]
    · rw [if_pos h1, if_neg h2]; simp [msg_Same_j1, h2]
  · rw [if_neg h1]; simp [msg_Same_j1, h1]
def ofP (p : Int × Int) : List Int := [p.1, p.2]
theorem ofP_inj {p q : Int × Int} (h : ofP p = ofP q) : p = q := by
  obtain ⟨a, b⟩ := p; obtain ⟨c, d⟩ := q
  simp only [ofP, List.cons.injEq, and_true] at h
  rw [h.1, h.2]
def ofM (m : Mg) : Mr := (m.1, m.2.1, m.2.2.1.map ofP, m.2.2.2.1, m.2.2.2.2.1, m.2.2.2.2.2)
theorem ofm_ok {m : Mg} (hp : m.2.2.1.length < 1099511627776) : law17_Of m (ofM m) := by
  refine ⟨m.2.2.1.map ofP, ?_, rfl⟩
  have := loops_count (step := law17_Of_l2 m) (e := m.2.2.1.map ofP) (fun k => ((k : Int), (m.2.2.1.take k).map ofP)) m.2.2.1.length (fun k hk => by
    unfold law17_Of_l2
    rw [if_pos (by simpa using hk)]
    refine ⟨_, idx_of hk, _, idx_of hk, ?_⟩
    have hw := len_wrap (n := k) (by omega)
    simp only [List.length_map, List.length_take, List.length_cons, List.length_nil]
    refine ⟨by omega, by omega, ?_⟩
    rw [hw, List.take_succ_eq_append_getElem hk, List.map_append]; rfl) (by
    unfold law17_Of_l2
    rw [if_neg (by simp)]
    simp)
  simpa using this
theorem rsame_ok {a b : Mg} (hp : a.2.2.1.length < 4611686018427387904) (hc : a.2.2.2.1.length < 4611686018427387904) : ref17_Same (ofM a) (ofM b) (sameB a b) := by
  obtain ⟨k, n, p, c, t, g⟩ := a
  obtain ⟨k', n', p', c', t', g'⟩ := b
  unfold ref17_Same sameB ofM
  simp only [eqN6, Prod.mk.injEq]
  have jt : ∀ x y, ref17_Same_j1 x y true false := fun x y => by unfold ref17_Same_j1; rw [if_pos rfl]
  by_cases h1 : k = k'
  · rw [if_neg (by simp [h1])]
    by_cases h2 : n6 n = n6 n'
    · rw [if_neg (by simp [h2])]
      by_cases h3 : p.length = p'.length
      · rw [if_neg (by simp [h3])]
        refine ⟨_, ints_ok hc, ?_⟩
        by_cases h4 : c = c'
        · rw [if_neg (by simp [h4])]
          by_cases h5 : t = t'
          · rw [if_neg (by simp [h5])]
            by_cases h6 : g = g'
            · subst h1; subst h4; subst h5; subst h6
              rw [decide_eq_true rfl]
              unfold ref17_Same_j1
              rw [if_neg (by simp)]
              simp only [true_and, and_true, h2]
              have hl : (p.map ofP).length = (p'.map ofP).length := by simp [h3]
              obtain ⟨e, he, ha⟩ := loops_eq (xs := p.map ofP) (ys := p'.map ofP) (step := ref17_Same_l3 (k, n, p.map ofP, c, t, g) (k, n', p'.map ofP, c, t, g)) hl (by simpa using hp) (fun q x y hx hy => by
                have hq := (List.getElem?_eq_some_iff.1 hx).1
                simp only [List.length_map] at hq
                simp only at hp
                have st : ∀ o, (if x = y then o = .inl ((q + 1 : Nat) : Int) else o = .inr (.inr false)) → ref17_Same_l3 (k, n, p.map ofP, c, t, g) (k, n', p'.map ofP, c, t, g) q o := by
                  intro o ho
                  unfold ref17_Same_l3
                  rw [if_pos (by simpa using hq)]
                  refine ⟨x, idx_at rfl hx, y, idx_at rfl hy, ?_⟩
                  rw [List.getElem?_map] at hx hy
                  obtain ⟨u, hu, rfl⟩ := Option.map_eq_some_iff.1 hx
                  obtain ⟨v, hv, rfl⟩ := Option.map_eq_some_iff.1 hy
                  have hh : eqN 2 0 (ofP u) (ofP v) = decide (ofP u = ofP v) := by
                    unfold eqN ofP; simp [List.range_succ]
                  rw [hh]
                  by_cases e : ofP u = ofP v
                  · rw [if_pos e] at ho; rw [if_neg (by simp [e]), len_wrap (by omega)]; exact ho
                  · rw [if_neg e] at ho; rw [if_pos (by simp [e])]; exact ho
                exact ⟨fun e => st _ (by rw [if_pos e]), fun e => st _ (by rw [if_neg e])⟩) (by unfold ref17_Same_l3; rw [if_neg (by simp)])
              refine ⟨e, he, ?_⟩
              have hd : (decide (p = p') : Bool) = decide (p.map ofP = p'.map ofP) := by
                refine decide_eq_decide.2 ⟨fun h => by rw [h], fun h => ?_⟩
                exact List.map_inj_right (fun _ _ => ofP_inj) |>.1 h
              rw [hd]
              exact ha ref17_Same_j2 fun _ => rfl
            · rw [decide_eq_false h6, decide_eq_false (by simp [h6])]; exact jt _ _
          · rw [if_pos (by simp [h5]), decide_eq_false (by simp [h5])]; exact jt _ _
        · rw [if_pos (by simp [h4]), decide_eq_false (by simp [h4])]; exact jt _ _
      · rw [if_pos (by simp; omega), decide_eq_false (by rintro ⟨_, _, h, _⟩; exact h3 (by rw [h]))]; exact jt _ _
    · rw [if_pos (by simp [h2]), decide_eq_false (by simp [h2])]; exact jt _ _
  · rw [if_pos (by simp [h1]), decide_eq_false (by simp [h1])]; exact jt _ _
theorem mcopy_ok {m : Mg} (hp : m.2.2.1.length < 1099511627776) (hc : m.2.2.2.1.length < 1099511627776) : msg_Copy m m := by
  refine ⟨_, fun b hb => (?_ : if b = true then m.2.2.1 = [] else _), _, fun b hb => (?_ : if b = true then m.2.2.2.1 = [] else _), rfl⟩
  · cases b with
    | true => exact hb rfl
    | false => exact ⟨by simp; omega, by simp; omega, rfl⟩
  · cases b with
    | true => exact hb rfl
    | false => exact ⟨by simp; omega, by simp; omega, rfl⟩
def cutM (m : Mg) : Mg := (m.1, m.2.1, m.2.2.1.take 40, m.2.2.2.1.take 40, m.2.2.2.2.1.extract 0 80, m.2.2.2.2.2.extract 0 80)
theorem ext_min (s : ByteArray) (n : Nat) : s.extract 0 (min (s.size : Int) (n : Int)).toNat = s.extract 0 n := by
  by_cases h : s.size ≤ n
  · rw [show (min (s.size : Int) (n : Int)).toNat = s.size by omega]
    have hs : s.data.toList.length = s.size := rfl
    apply ByteArray.ext
    apply Array.ext'
    rw [ByteArray.data_extract, ByteArray.data_extract, Array.toList_extract, Array.toList_extract, List.extract_eq_take_drop, List.extract_eq_take_drop]
    simp only [List.drop_zero, Nat.sub_zero]
    rw [List.take_of_length_le (by omega), List.take_of_length_le (by omega)]
  · rw [show (min (s.size : Int) (n : Int)).toNat = n by omega]
theorem takeP_min {α : Type} (l : List α) (n : Nat) : (l.drop (0 : Int).toNat).take (((min (l.length : Int) (n : Int)) : Int) - 0).toNat = l.take n := by
  rw [show (0 : Int).toNat = 0 from rfl, List.drop_zero, show ((min (l.length : Int) (n : Int)) - 0).toNat = min l.length n by omega]
  by_cases h : l.length ≤ n
  · rw [Nat.min_eq_left h, List.take_length, List.take_of_length_le h]
  · rw [Nat.min_eq_right (by omega)]
theorem cut_ok (m : Mg) : law17_Cut m (cutM m) := by
  unfold law17_Cut cutM
  refine ⟨by omega, by omega, by omega, by omega, by omega, by omega, by omega, by omega, ?_⟩
  have e1 := takeP_min m.2.2.1 40
  have e2 := takeP_min m.2.2.2.1 40
  have e3 := ext_min m.2.2.2.2.1 80
  have e4 := ext_min m.2.2.2.2.2 80
  simp only [Int.cast_ofNat_Int] at e1 e2 e3 e4
  rw [e1, e2, e3, e4]
end Go.Rel
/-! Plain laws: what is wrong with a message: the program's answer and the document's. -/
namespace Go.Rel
open Go Go.Eng Go.Pl

def sortN (f : Fd) : Prop := f.2.1 ≠ 3 ∧ f.2.1 ≠ 4 ∧ f.2.1 ≠ 5 ∧ f.2.1 ≠ 6
instance (f : Fd) : Decidable (sortN f) := by unfold sortN; infer_instance
def hasS (l : List Fd) (s : Int) : Bool := l.any fun f => decide (f.2.1 = s)
def hasN (l : List Fd) (p : Nat) : Bool := l.any fun f => decide (sortN f ∧ f.2.2.1.toNat = p)
def zN (l : List Fd) (N : List Int) (p : Nat) : Int := if hasN l p = true then 0 else N.getD p 0
def leftB (l : List Fd) (m : Mg) : Mg :=
  (m.1, [zN l m.2.1 0, zN l m.2.1 1, zN l m.2.1 2, zN l m.2.1 3, zN l m.2.1 4, zN l m.2.1 5], if hasS l 3 = true then [] else m.2.2.1, if hasS l 4 = true then [] else m.2.2.2.1, if hasS l 5 = true then bstr [] else m.2.2.2.2.1, if hasS l 6 = true then bstr [] else m.2.2.2.2.2)
theorem hasS_snoc (l : List Fd) (f : Fd) (s : Int) : hasS (l ++ [f]) s = (hasS l s || decide (f.2.1 = s)) := by simp [hasS]
theorem hasN_snoc (l : List Fd) (f : Fd) (p : Nat) : hasN (l ++ [f]) p = (hasN l p || decide (sortN f ∧ f.2.2.1.toNat = p)) := by simp [hasN]
theorem zN_same {l : List Fd} {f : Fd} (h : ¬ sortN f) (N : List Int) (p : Nat) : zN (l ++ [f]) N p = zN l N p := by
  unfold zN; rw [hasN_snoc, decide_eq_false (fun hh => h hh.1), Bool.or_false]
theorem zN_put {l : List Fd} {f : Fd} (h : sortN f) (N : List Int) {p : Nat} (hp : p < 6) : (putN 6 0 [zN l N 0, zN l N 1, zN l N 2, zN l N 3, zN l N 4, zN l N 5] f.2.2.1.toNat 0).getD p 0 = zN (l ++ [f]) N p := by
  rw [putN_getD hp]
  have e : [zN l N 0, zN l N 1, zN l N 2, zN l N 3, zN l N 4, zN l N 5].getD p 0 = zN l N p := by
    match p, hp with
    | 0, _ => rfl
    | 1, _ => rfl
    | 2, _ => rfl
    | 3, _ => rfl
    | 4, _ => rfl
    | 5, _ => rfl
  rw [e]
  unfold zN
  rw [hasN_snoc]
  by_cases hq : p = f.2.2.1.toNat
  · rw [if_pos hq, decide_eq_true ⟨h, hq.symm⟩]; simp
  · rw [if_neg hq, decide_eq_false (fun hh => hq hh.2.symm), Bool.or_false]
theorem without_ok (l : List Fd) (m : Mg) {f : Fd} (ok : fdOk f) : msg_without (leftB l m) f (leftB (l ++ [f]) m) := by
  obtain ⟨_, _, ok⟩ := ok
  unfold msg_without
  simp only [decide_eq_true_eq]
  have no : ∀ {s : Int}, f.2.1 ≠ s → hasS (l ++ [f]) s = hasS l s := fun h => by rw [hasS_snoc, decide_eq_false h, Bool.or_false]
  have yes : ∀ {s : Int}, f.2.1 = s → hasS (l ++ [f]) s = true := fun h => by rw [hasS_snoc, decide_eq_true h, Bool.or_true]
  by_cases h3 : f.2.1 = 3
  · rw [if_pos h3]
    have hs : ¬ sortN f := fun h => h.1 h3
    unfold msg_without_j1 leftB
    simp only [zN_same hs, yes h3, no (s := 4) (by omega), no (s := 5) (by omega), no (s := 6) (by omega), List.getD_cons_zero, List.getD_cons_succ, if_true]
  rw [if_neg h3]
  by_cases h4 : f.2.1 = 4
  · rw [if_pos h4]
    have hs : ¬ sortN f := fun h => h.2.1 h4
    unfold msg_without_j1 leftB
    simp only [zN_same hs, yes h4, no h3, no (s := 5) (by omega), no (s := 6) (by omega), List.getD_cons_zero, List.getD_cons_succ, if_true]
  rw [if_neg h4]
  by_cases h5 : f.2.1 = 5
  · rw [if_pos h5]
    have hs : ¬ sortN f := fun h => h.2.2.1 h5
    unfold msg_without_j1 leftB
    simp only [zN_same hs, yes h5, no h3, no h4, no (s := 6) (by omega), List.getD_cons_zero, List.getD_cons_succ, if_true]
  rw [if_neg h5]
  by_cases h6 : f.2.1 = 6
  · rw [if_pos h6]
    have hs : ¬ sortN f := fun h => h.2.2.2 h6
    unfold msg_without_j1 leftB
    simp only [zN_same hs, yes h6, no h3, no h4, no h5, List.getD_cons_zero, List.getD_cons_succ, if_true]
  rw [if_neg h6]
  have hs : sortN f := ⟨h3, h4, h5, h6⟩
  refine ⟨by omega, by omega, ?_⟩
  unfold msg_without_j1 leftB
  simp only [no h3, no h4, no h5, no h6]
  rw [zN_put hs m.2.1 (p := 0) (by omega), zN_put hs m.2.1 (p := 1) (by omega), zN_put hs m.2.1 (p := 2) (by omega), zN_put hs m.2.1 (p := 3) (by omega), zN_put hs m.2.1 (p := 4) (by omega), zN_put hs m.2.1 (p := 5) (by omega)]
def firstW (m : Mg) : List Fd → Int
  | [] => 0
  | f :: l => if wrongB m f ≠ 0 then wrongB m f else firstW m l
abbrev Ex := Int × Int × Int × Int × Int × Int × Int × Int × List (Int × Int) × List Int × ByteArray × ByteArray
def exB (e : Int) (x : Mg) : Ex := (e, x.1, x.2.1.getD 0 0, x.2.1.getD 1 0, x.2.1.getD 2 0, x.2.1.getD 3 0, x.2.1.getD 4 0, x.2.1.getD 5 0, x.2.2.1, x.2.2.2.1, x.2.2.2.2.1, x.2.2.2.2.2)
def stB (e i : Int) (x : Mg) : Int × Ex := (e, i, x.1, x.2.1.getD 0 0, x.2.1.getD 1 0, x.2.1.getD 2 0, x.2.1.getD 3 0, x.2.1.getD 4 0, x.2.1.getD 5 0, x.2.2.1, x.2.2.2.1, x.2.2.2.2.1, x.2.2.2.2.2)
theorem check_run (m : Mg) (fs : List Fd) (hfs : fs.length < 100) (hok : ∀ f ∈ fs, fdOk f) : ∀ (l pre : List Fd) (e : Int), fs = pre ++ l → ∃ ex, Loops (msg_Check_l3 m fs) (stB e (pre.length : Int) (leftB pre m)) ex ∧ (firstW m l ≠ 0 → ex.1 = firstW m l) ∧ (firstW m l = 0 → ex = exB (if l = [] then e else 0) (leftB fs m))
  | [], pre, e, h => by
    refine ⟨exB e (leftB fs m), .done ?_, fun h => absurd rfl h, fun _ => by rw [if_pos rfl]⟩
    rw [List.append_nil] at h
    unfold msg_Check_l3
    rw [if_neg (by rw [h]; simp [stB])]
    rw [h]; rfl
  | f :: l, pre, e, h => by
    have hlen : fs.length = pre.length + l.length + 1 := by rw [h]; simp; omega
    have hat : fs[pre.length]? = some f := by rw [h]; simp
    have hw := len_wrap (n := pre.length) (by omega)
    have hf := hok f (by rw [h]; simp)
    by_cases hz : wrongB m f = 0
    · obtain ⟨ex, h1, h2, h3⟩ := check_run m fs hfs hok l (pre ++ [f]) 0 (by rw [h]; simp)
      simp only [firstW, hz, ne_eq, not_true, if_false]
      refine ⟨ex, .next ?_ h1, h2, fun hh => ?_⟩
      · unfold msg_Check_l3
        rw [if_pos (by simp [stB]; omega)]
        refine ⟨f, idx_at rfl hat, 0, by rw [← hz]; exact wrong_fd m hf, ?_⟩
        rw [if_neg (by simp)]
        refine ⟨leftB (pre ++ [f]) m, without_ok pre m hf, ?_⟩
        simp only [stB, List.length_append, List.length_cons, List.length_nil]
        rw [hw]
      · rw [h3 hh]; split <;> rfl
    · simp only [firstW, ne_eq, hz, not_false_iff, if_true]
      refine ⟨exB (wrongB m f) (leftB pre m), .done ?_, fun _ => rfl, fun hh => hh.elim⟩
      unfold msg_Check_l3
      rw [if_pos (by simp [stB]; omega)]
      refine ⟨f, idx_at rfl hat, _, wrong_fd m hf, ?_⟩
      rw [if_pos (by simpa using hz)]
      rfl
def zeroM (k : Int) : Mg := (k, List.replicate 6 0, [], [], bstr [], bstr [])
def checkB (m : Mg) : Int := if fieldsB m.1 = [] then 9 else if firstW m (fieldsB m.1) ≠ 0 then firstW m (fieldsB m.1) else if sameB (leftB (fieldsB m.1) m) (zeroM m.1) = true then 0 else 3
theorem len_if {α : Type} {c : Prop} [Decidable c] {l : List α} {n : Nat} (h : l.length < n) (hn : 0 < n) : (if c then [] else l).length < n := by split <;> simp [h, hn]
theorem mcheck_ok {m : Mg} (hp : m.2.2.1.length < 4611686018427387904) (hc : m.2.2.2.1.length < 4611686018427387904) : msg_Check m (checkB m) := by
  obtain ⟨ex, h1, h2, h3⟩ := check_run m (fieldsB m.1) (by have := fields_len m.1; omega) (fields_fd m.1) (fieldsB m.1) [] 9 rfl
  refine ⟨_, fields_ok m.1, ex, h1, ?_⟩
  unfold checkB msg_Check_j1
  by_cases hl : fieldsB m.1 = []
  · rw [if_pos hl]
    have : firstW m (fieldsB m.1) = 0 := by rw [hl]; rfl
    have hx := h3 this
    rw [if_pos hl] at hx
    rw [hx, if_neg (by simp [exB])]
    unfold msg_Check_j2
    rw [if_neg (by simp)]; rfl
  · rw [if_neg hl]
    by_cases hf : firstW m (fieldsB m.1) = 0
    · rw [if_neg (c := firstW m (fieldsB m.1) ≠ 0) (by simpa using hf)]
      have hx := h3 hf
      rw [if_neg hl] at hx
      rw [hx, if_pos (c := (decide ((exB 0 (leftB (fieldsB m.1) m)).1 = 0)) = true) (by simp [exB])]
      refine ⟨sameB (leftB (fieldsB m.1) m) (zeroM m.1), msame_ok (a := leftB (fieldsB m.1) m) (b := zeroM m.1) (len_if hp (by decide)) (len_if hc (by decide)), ?_⟩
      unfold msg_Check_j2
      cases hs : sameB (leftB (fieldsB m.1) m) (zeroM m.1) <;> rfl
    · rw [if_pos (c := firstW m (fieldsB m.1) ≠ 0) hf, if_neg (c := (decide (ex.1 = 0)) = true) (by rw [h2 hf]; simpa using hf)]
      unfold msg_Check_j2
      rw [if_neg (by simp), h2 hf]

/-! The document's check. -/
theorem rtext_ok (s : ByteArray) (most : Int) (hs : s.size < 4611686018427387904) : ref17_text s most (textB s 0 most) := by
  unfold ref17_text textB
  by_cases h : manyB s.size 0 most = 0
  · rw [if_neg (by have := manyB_zero h; simp; omega), if_pos h]
    refine ⟨_, loops_first (fun k => (k : Int)) (textBad s) () s.size (fun k hk => ?_) ?_, aft_err fun _ => rfl⟩
    · have hw := len_wrap (n := k) (by omega)
      have hk' : k < (bints s).length := by rw [len_bints]; exact hk
      have hx := idx_of hk'
      have hg : (bints s).getD k 0 = (bints s)[k] := by simp [List.getD_eq_getElem?_getD, hk']
      have st : ∀ o, (if (bints s)[k] < 32 ∨ 126 < (bints s)[k] then o = .inr (.inr 19) else o = .inl ((k + 1 : Nat) : Int)) → ref17_text_l2 s (k : Int) o := by
        intro o ho
        unfold ref17_text_l2
        rw [if_pos (by simp only [decide_eq_true_eq]; omega)]
        refine ⟨_, hx, ?_⟩
        by_cases h1 : (bints s)[k] < 32
        · rw [if_pos (.inl h1)] at ho; rw [if_pos (by simpa using h1)]; unfold ref17_text_j3; rw [if_pos rfl]; exact ho
        · rw [if_neg (by simpa using h1)]
          refine ⟨_, hx, ?_⟩
          unfold ref17_text_j3
          by_cases h2 : 126 < (bints s)[k]
          · rw [if_pos (.inr h2)] at ho; rw [if_pos (by simpa using h2)]; exact ho
          · rw [if_neg (not_or.2 ⟨h1, h2⟩)] at ho; rw [if_neg (by simpa using h2), hw]; exact ho
      unfold textBad
      rw [hg]
      by_cases hb : (bints s)[k] < 32 ∨ 126 < (bints s)[k]
      · simp only [if_pos hb]; exact ⟨fun e he => (by cases he; exact st _ (by rw [if_pos hb])), fun he => by cases he⟩
      · simp only [if_neg hb]; exact ⟨fun e he => (by cases he), fun _ => st _ (by rw [if_neg hb])⟩
    · unfold ref17_text_l2
      rw [if_neg (by simp)]
  · rw [if_neg h]
    have hn : ¬ ((s.size : Int) < 0) := by omega
    unfold manyB at h ⊢
    rw [if_neg hn] at h ⊢
    by_cases h2 : most < (s.size : Int)
    · rw [if_pos (by simpa using h2), if_pos h2]
    · rw [if_neg h2] at h; exact absurd rfl h
theorem rcells_ok (l : List Int) (hl : l.length < 4611686018427387904) : ref17_cells l (cellsB l 1 32) := by
  unfold ref17_cells cellsB manyB
  simp only [decide_eq_true_eq]
  by_cases h0 : (l.length : Int) = 0
  · rw [if_pos h0, if_neg (by rw [if_pos (by omega)]; decide), if_pos (by omega)]
  rw [if_neg h0, if_neg (c := (l.length : Int) < 1) (by omega)]
  by_cases h1 : 32 < (l.length : Int)
  · rw [if_pos h1, if_pos h1, if_neg (by decide)]
  rw [if_neg h1, if_neg h1, if_pos rfl]
  refine ⟨_, loops_first (fun k => (k : Int)) (cellsBad l) () l.length (fun k hk => ?_) ?_, aft_err fun _ => rfl⟩
  · have hw := len_wrap (n := k) (by omega)
    have hx := idx_of hk
    have hg : l.getD k 0 = l[k] := by simp [List.getD_eq_getElem?_getD, hk]
    have st : ∀ o, (if l[k] < 0 ∨ 65535 < l[k] then o = .inr (.inr 5) else if 0 < k ∧ l.getD k 0 ≤ l.getD (k - 1) 0 then o = .inr (.inr 3) else o = .inl ((k + 1 : Nat) : Int)) → ref17_cells_l2 l (k : Int) o := by
      intro o ho
      unfold ref17_cells_l2
      rw [if_pos (by simpa using hk)]
      refine ⟨_, hx, ?_⟩
      by_cases h2 : l[k] < 0
      · rw [if_pos (.inl h2)] at ho; rw [if_pos (by simpa using h2)]; unfold ref17_cells_j3; rw [if_pos rfl]; exact ho
      · rw [if_neg (by simpa using h2)]
        refine ⟨_, hx, ?_⟩
        unfold ref17_cells_j3
        by_cases h3 : 65535 < l[k]
        · rw [if_pos (.inr h3)] at ho; rw [if_pos (by simpa using h3)]; exact ho
        · rw [if_neg (not_or.2 ⟨h2, h3⟩)] at ho
          rw [if_neg (by simpa using h3)]
          by_cases hk0 : 0 < k
          · have hx2 : idx l (IntKind.i64.wrap ((k : Int) - 1)) l[k - 1] := by rw [w_small (by omega) (by omega)]; exact idx_at (k := k - 1) (by omega) (by simp [show k - 1 < l.length by omega])
            refine ⟨_, fun _ => hx, _, fun _ => hx2, ?_⟩
            have hg2 : l.getD (k - 1) 0 = l[k - 1] := by simp [List.getD_eq_getElem?_getD, show k - 1 < l.length by omega]
            rw [hg, hg2] at ho
            have hd : decide ((0 : Int) < (k : Int)) = true := by simpa using hk0
            rw [hd, Bool.true_and]
            by_cases h4 : l[k] ≤ l[k - 1]
            · rw [if_pos ⟨hk0, h4⟩] at ho; rw [if_pos (by simpa using h4)]; exact ho
            · rw [if_neg (fun h => h4 h.2)] at ho; rw [if_neg (by simpa using h4), hw]; exact ho
          · refine ⟨0, fun h => absurd h (by simpa using hk0), 0, fun h => absurd h (by simpa using hk0), ?_⟩
            rw [if_neg (fun h => hk0 h.1)] at ho
            rw [if_neg (by simp; omega), hw]; exact ho
    unfold cellsBad
    rw [hg]
    rw [hg] at st
    by_cases hb : l[k] < 0 ∨ 65535 < l[k]
    · simp only [if_pos hb]; exact ⟨fun e he => (by cases he; exact st _ (by rw [if_pos hb])), fun he => by cases he⟩
    · simp only [if_neg hb] at st ⊢
      by_cases hd : 0 < k ∧ l[k] ≤ l.getD (k - 1) 0
      · simp only [if_pos hd] at st ⊢; exact ⟨fun e he => (by cases he; exact st _ rfl), fun he => by cases he⟩
      · simp only [if_neg hd] at st ⊢; exact ⟨fun e he => (by cases he), fun _ => st _ rfl⟩
  · unfold ref17_cells_l2
    rw [if_neg (by simp)]
theorem rpath_ok (l : List (Int × Int)) (hl : l.length < 4611686018427387904) : ref17_path (l.map ofP) (pathB l 1 16) := by
  unfold ref17_path pathB manyB
  simp only [decide_eq_true_eq, List.length_map]
  by_cases h0 : (l.length : Int) = 0
  · rw [if_pos h0, if_neg (by rw [if_pos (by omega)]; decide), if_pos (by omega)]
  rw [if_neg h0, if_neg (c := (l.length : Int) < 1) (by omega)]
  by_cases h1 : 16 < (l.length : Int)
  · rw [if_pos h1, if_pos h1, if_neg (by decide)]
  rw [if_neg h1, if_neg h1, if_pos rfl]
  refine ⟨_, loops_first (fun k => (k : Int)) (pathBad l) () l.length (fun k hk => ?_) ?_, aft_err fun _ => rfl⟩
  · have hw := len_wrap (n := k) (by omega)
    have hx : idx (l.map ofP) (k : Int) (ofP l[k]) := idx_at rfl (by simp [hk])
    generalize l[k] = p at *
    have st : ∀ o, (if 1000000 < max p.1 p.2 ∨ min p.1 p.2 < -1000000 then o = .inr (.inr 5) else o = .inl ((k + 1 : Nat) : Int)) → ref17_path_l2 (l.map ofP) (k : Int) o := by
      intro o ho
      unfold ref17_path_l2
      rw [if_pos (by simpa using hk)]
      have s5 : ∀ (i : Int) (b : Bool) o', (if b = true then o' = .inr (.inr 5) else o' = .inl (i + 1)) → 0 ≤ i → i < 2 → ref17_path_j5 i b o' := by
        intro i b o' h h0 h2; unfold ref17_path_j5; rw [w_small (by omega) (by omega)]; exact h
      have sl : ∀ (i : Int) (v : Int), 0 ≤ i → i < 2 → (ofP p).getD i.toNat 0 = v → ∀ o', (if v < -1000000 ∨ 1000000 < v then o' = .inr (.inr 5) else o' = .inl (i + 1)) → ref17_path_l4 (l.map ofP) (k : Int) i o' := by
        intro i v h0 h2 hv o' ho'
        unfold ref17_path_l4
        rw [if_pos (by simpa using h2)]
        refine ⟨_, hx, h0, h2, ?_⟩
        rw [hv]
        by_cases h3 : v < -1000000
        · rw [if_pos (by simpa using h3)]; rw [if_pos (.inl h3)] at ho'; exact s5 i true o' (by rw [if_pos rfl]; exact ho') h0 h2
        · rw [if_neg (by simpa using h3)]
          refine ⟨_, hx, h0, h2, ?_⟩
          rw [hv]
          refine s5 i _ o' ?_ h0 h2
          by_cases h4 : 1000000 < v
          · rw [if_pos (.inr h4)] at ho'; rw [if_pos (by simpa using h4)]; exact ho'
          · rw [if_neg (not_or.2 ⟨h3, h4⟩)] at ho'; rw [if_neg (by simpa using h4)]; exact ho'
      by_cases ha : p.1 < -1000000 ∨ 1000000 < p.1
      · rw [if_pos (by omega)] at ho
        exact ⟨.inr 5, .done (sl 0 p.1 (by omega) (by omega) rfl _ (by rw [if_pos ha])), ho⟩
      · by_cases hb : p.2 < -1000000 ∨ 1000000 < p.2
        · rw [if_pos (by omega)] at ho
          exact ⟨.inr 5, .next (sl 0 p.1 (by omega) (by omega) rfl _ (by rw [if_neg ha]; rfl)) (.done (sl 1 p.2 (by omega) (by omega) rfl _ (by rw [if_pos hb]))), ho⟩
        · rw [if_neg (by omega)] at ho
          refine ⟨.inl (), .next (sl 0 p.1 (by omega) (by omega) rfl _ (by rw [if_neg ha]; rfl)) (.next (sl 1 p.2 (by omega) (by omega) rfl _ (by rw [if_neg hb])) (.done ?_)), ?_⟩
          · unfold ref17_path_l4; rw [if_neg (by decide)]
          · show ref17_path_j3 _ () _; unfold ref17_path_j3; rw [hw]; exact ho
    have hpb : pathBad l k = if 1000000 < max p.1 p.2 ∨ min p.1 p.2 < -1000000 then some 5 else none := by
      unfold pathBad
      have : l[k]? = some p := by
        have := hx.2
        rw [List.getElem?_map] at this
        obtain ⟨u, hu, he⟩ := Option.map_eq_some_iff.1 this
        rw [show ((k : Int).toNat) = k by omega] at hu
        rw [hu, ofP_inj he]
      rw [this]
    rw [hpb]
    by_cases hb : 1000000 < max p.1 p.2 ∨ min p.1 p.2 < -1000000
    · simp only [if_pos hb]; exact ⟨fun e he => (by cases he; exact st _ (by rw [if_pos hb])), fun he => by cases he⟩
    · simp only [if_neg hb]; exact ⟨fun e he => (by cases he), fun _ => st _ (by rw [if_neg hb])⟩
  · unfold ref17_path_l2
    rw [if_neg (by simp)]

def stR (i : Int) (l : List Fd) : Int × Bool × Bool × Bool × Bool × Bool × Bool × Bool × Bool × Bool × Bool × Bool × Bool × Bool :=
  (i, hasS l 0, hasS l 1, hasS l 2, hasS l 3, hasS l 4, hasS l 5, hasS l 6, hasN l 0, hasN l 1, hasN l 2, hasN l 3, hasN l 4, hasN l 5)
theorem putS_ok (l : List Fd) (f : Fd) (h0 : 0 ≤ f.2.1) (j : Nat) (hj : j < 7) : (putN 7 false [hasS l 0, hasS l 1, hasS l 2, hasS l 3, hasS l 4, hasS l 5, hasS l 6] f.2.1.toNat true).getD j false = hasS (l ++ [f]) (j : Int) := by
  rw [putN_getD hj]
  have e : [hasS l 0, hasS l 1, hasS l 2, hasS l 3, hasS l 4, hasS l 5, hasS l 6].getD j false = hasS l (j : Int) := by
    match j, hj with
    | 0, _ => rfl
    | 1, _ => rfl
    | 2, _ => rfl
    | 3, _ => rfl
    | 4, _ => rfl
    | 5, _ => rfl
    | 6, _ => rfl
  rw [e, hasS_snoc]
  by_cases hq : j = f.2.1.toNat
  · rw [if_pos hq, decide_eq_true (by omega)]; simp
  · rw [if_neg hq, decide_eq_false (by omega)]; simp
theorem nN_same {l : List Fd} {f : Fd} (h : ¬ sortN f) (p : Nat) : hasN (l ++ [f]) p = hasN l p := by rw [hasN_snoc, decide_eq_false (fun hh => h hh.1), Bool.or_false]
theorem nN_put {l : List Fd} {f : Fd} (h : sortN f) {p : Nat} (hp : p < 6) : (putN 6 false [hasN l 0, hasN l 1, hasN l 2, hasN l 3, hasN l 4, hasN l 5] f.2.2.1.toNat true).getD p false = hasN (l ++ [f]) p := by
  rw [putN_getD hp]
  have e : [hasN l 0, hasN l 1, hasN l 2, hasN l 3, hasN l 4, hasN l 5].getD p false = hasN l p := by
    match p, hp with
    | 0, _ => rfl
    | 1, _ => rfl
    | 2, _ => rfl
    | 3, _ => rfl
    | 4, _ => rfl
    | 5, _ => rfl
  rw [e, hasN_snoc]
  by_cases hq : p = f.2.2.1.toNat
  · rw [if_pos hq, decide_eq_true ⟨h, hq.symm⟩]; simp
  · rw [if_neg hq, decide_eq_false (fun hh => hq hh.2.symm), Bool.or_false]
abbrev SB := Bool × Bool × Bool × Bool × Bool × Bool × Bool × Bool × Bool × Bool × Bool × Bool × Bool
theorem rj7_ok (l : List Fd) (f : Fd) (hl : l.length < 100) (h0 : 0 ≤ f.2.1) (e : Int) {o : Sum (Int × SB) (Sum SB Int)} (ho : if e ≠ 0 then o = .inr (.inr e) else o = .inl (stR ((l.length + 1 : Nat) : Int) (l ++ [f]))) :
    ref17_Check_j7 (stR (l.length : Int) l) f (e, hasN (l ++ [f]) 0, hasN (l ++ [f]) 1, hasN (l ++ [f]) 2, hasN (l ++ [f]) 3, hasN (l ++ [f]) 4, hasN (l ++ [f]) 5) o := by
  unfold ref17_Check_j7
  by_cases he : e = 0
  · rw [if_neg (by simpa using he)]
    rw [if_neg (by simpa using he)] at ho
    simp only [stR]
    rw [putS_ok l f h0 0 (by omega), putS_ok l f h0 1 (by omega), putS_ok l f h0 2 (by omega), putS_ok l f h0 3 (by omega), putS_ok l f h0 4 (by omega), putS_ok l f h0 5 (by omega), putS_ok l f h0 6 (by omega), len_wrap (by omega)]
    exact ho
  · rw [if_pos (by simpa using he)]
    rw [if_pos he] at ho; exact ho
theorem rcheck_run (m : Mg) (hp : m.2.2.1.length < 4611686018427387904) (hc : m.2.2.2.1.length < 4611686018427387904) (ht : m.2.2.2.2.1.size < 4611686018427387904) (hg : m.2.2.2.2.2.size < 4611686018427387904) (fs : List Fd) (hfs : fs.length < 100) (hok : ∀ f ∈ fs, fdOk f) : ∀ (l pre : List Fd), fs = pre ++ l →
    Loops (ref17_Check_l6 (ofM m) fs) (stR (pre.length : Int) pre) (if firstW m l ≠ 0 then .inr (firstW m l) else .inl (stR 0 fs).2)
  | [], pre, h => by
    rw [List.append_nil] at h
    refine .done ?_
    unfold ref17_Check_l6
    rw [if_neg (by rw [h]; simp [stR]), h]
    rfl
  | f :: l, pre, h => by
    have hlen : fs.length = pre.length + l.length + 1 := by rw [h]; simp; omega
    have hat : fs[pre.length]? = some f := by rw [h]; simp
    have hx : idx fs (pre.length : Int) f := idx_at rfl hat
    have hf := hok f (by rw [h]; simp)
    have rest := rcheck_run m hp hc ht hg fs hfs hok l (pre ++ [f]) (by rw [h]; simp)
    have st : ∀ o, (if wrongB m f ≠ 0 then o = .inr (.inr (wrongB m f)) else o = .inl (stR ((pre.length + 1 : Nat) : Int) (pre ++ [f]))) → ref17_Check_l6 (ofM m) fs (stR (pre.length : Int) pre) o := by
      intro o ho
      obtain ⟨_, _, ok⟩ := hf
      unfold ref17_Check_l6
      rw [if_pos (by simp [stR]; omega)]
      refine ⟨f, hx, by omega, by omega, f, hx, ?_⟩
      simp only [decide_eq_true_eq]
      by_cases h3 : f.2.1 = 3
      · rw [if_pos h3]
        have hs : ¬ sortN f := fun h => h.1 h3
        have hw : wrongB m f = pathB m.2.2.1 1 16 := by unfold wrongB; rw [if_pos h3, show f.2.2.2.1 = 1 by omega, show f.2.2.2.2.1 = 16 by omega]
        refine ⟨_, rpath_ok _ hp, ?_⟩
        have := rj7_ok pre f (by omega) (by omega) (pathB m.2.2.1 1 16) (by rw [← hw]; exact ho)
        simp only [nN_same hs] at this; exact this
      rw [if_neg h3]
      by_cases h4 : f.2.1 = 4
      · rw [if_pos h4]
        have hs : ¬ sortN f := fun h => h.2.1 h4
        have hw : wrongB m f = cellsB m.2.2.2.1 1 32 := by unfold wrongB; rw [if_neg h3, if_pos h4, show f.2.2.2.1 = 1 by omega, show f.2.2.2.2.1 = 32 by omega]
        refine ⟨_, rcells_ok _ hc, ?_⟩
        have := rj7_ok pre f (by omega) (by omega) (cellsB m.2.2.2.1 1 32) (by rw [← hw]; exact ho)
        simp only [nN_same hs] at this; exact this
      rw [if_neg h4]
      by_cases h5 : f.2.1 = 5
      · rw [if_pos h5]
        have hs : ¬ sortN f := fun h => h.2.2.1 h5
        have hw : wrongB m f = textB m.2.2.2.2.1 0 64 := by unfold wrongB; rw [if_neg h3, if_neg h4, if_pos h5, show f.2.2.2.1 = 0 by omega, show f.2.2.2.2.1 = 64 by omega]
        refine ⟨_, rtext_ok _ _ ht, ?_⟩
        have := rj7_ok pre f (by omega) (by omega) (textB m.2.2.2.2.1 0 64) (by rw [← hw]; exact ho)
        simp only [nN_same hs] at this; exact this
      rw [if_neg h5]
      by_cases h6 : f.2.1 = 6
      · rw [if_pos h6]
        have hs : ¬ sortN f := fun h => h.2.2.2 h6
        have hw : wrongB m f = textB m.2.2.2.2.2 0 16 := by unfold wrongB; rw [if_neg h3, if_neg h4, if_neg h5, if_pos h6, show f.2.2.2.1 = 0 by omega, show f.2.2.2.2.1 = 16 by omega]
        refine ⟨_, rtext_ok _ _ hg, ?_⟩
        have := rj7_ok pre f (by omega) (by omega) (textB m.2.2.2.2.2 0 16) (by rw [← hw]; exact ho)
        simp only [nN_same hs] at this; exact this
      rw [if_neg h6]
      have hs : sortN f := ⟨h3, h4, h5, h6⟩
      have hw : wrongB m f = if numBad m f then 5 else 0 := by unfold wrongB; rw [if_neg h3, if_neg h4, if_neg h5, if_neg h6]
      refine ⟨f, hx, by omega, by omega, f, hx, by omega, by omega, f, hx, f, fun _ => hx, fun _ => by omega, fun _ => by omega, f, fun _ => hx, ?_⟩
      have key := fun e he => rj7_ok pre f (by omega) (by omega) e (o := o) he
      simp only [← nN_put hs (p := 0) (by omega), ← nN_put hs (p := 1) (by omega), ← nN_put hs (p := 2) (by omega), ← nN_put hs (p := 3) (by omega), ← nN_put hs (p := 4) (by omega), ← nN_put hs (p := 5) (by omega)] at key
      by_cases hb : numBad m f
      · rw [if_pos hb] at hw
        rw [if_pos (by
          rcases hb with hb | hb
          · have : (ofM m).2.1.getD f.2.2.1.toNat 0 < f.2.2.2.1 := hb
            rw [decide_eq_true this, Bool.true_or]
          · have : f.2.2.2.2.1 < (ofM m).2.1.getD f.2.2.1.toNat 0 := hb
            rw [decide_eq_true this, Bool.or_true])]
        exact key 5 (by rw [hw] at ho; exact ho)
      · rw [if_neg hb] at hw
        have hb2 := not_or.1 hb
        rw [if_neg (by
          have h1 : ¬ (ofM m).2.1.getD f.2.2.1.toNat 0 < f.2.2.2.1 := hb2.1
          have h2 : ¬ f.2.2.2.2.1 < (ofM m).2.1.getD f.2.2.1.toNat 0 := hb2.2
          rw [decide_eq_false h1, decide_eq_false h2]; decide)]
        exact key 0 (by rw [hw] at ho; exact ho)
    simp only [List.length_append, List.length_cons, List.length_nil, Nat.zero_add] at rest
    by_cases hz : wrongB m f = 0
    · simp only [firstW, hz, ne_eq, not_true, if_false]
      exact .next (st _ (by rw [if_neg (by simpa using hz)])) rest
    · simp only [firstW, ne_eq, hz, not_false_iff, if_true]
      exact .done (st _ (by rw [if_pos hz]))
theorem len_dec (n : Nat) (p : Prop) [Decidable p] (h : n = 0 ↔ p) [Decidable (0 < (n : Int))] : decide (0 < (n : Int)) = !decide p := by
  by_cases hp : p
  · rw [decide_eq_true hp, decide_eq_false (by have := h.2 hp; omega)]; rfl
  · rw [decide_eq_false hp, decide_eq_true (by have : n ≠ 0 := fun e => hp (h.1 e)
                                               omega)]; rfl
theorem j2_ok (a : Mr) (s : SB) (r : Int) (p3 p4 p5 p6 : Bool) (h3 : decide (0 < (a.2.2.1.length : Int)) = !p3) (h4 : decide (0 < (a.2.2.2.1.length : Int)) = !p4) (h5 : decide (a.2.2.2.2.1 = bstr []) = p5) (h6 : decide (a.2.2.2.2.2 = bstr []) = p6)
    (hr : r = if ((!s.2.2.2.1 && !p3) || (!s.2.2.2.2.1 && !p4) || (!s.2.2.2.2.2.1 && !p5) || (!s.2.2.2.2.2.2.1 && !p6)) = true then 3 else 0) : ref17_Check_j2 a s () r := by
  obtain ⟨b0, b1, b2, b3, b4, b5, b6, b7⟩ := s
  unfold ref17_Check_j2 ref17_Check_j3
  simp only at hr ⊢
  rw [h3, h4, h5, h6]
  subst hr
  cases b3 <;> cases b4 <;> cases b5 <;> cases b6 <;> cases p3 <;> cases p4 <;> cases p5 <;> cases p6 <;> exact rfl
theorem rcheck_ok {m : Mg} (hp : m.2.2.1.length < 4611686018427387904) (hc : m.2.2.2.1.length < 4611686018427387904) (ht : m.2.2.2.2.1.size < 4611686018427387904) (hg : m.2.2.2.2.2.size < 4611686018427387904) : ref17_Check (ofM m) (checkB m) := by
  refine ⟨_, rfields_ok m.1, ?_⟩
  unfold checkB
  by_cases hl : fieldsB m.1 = []
  · rw [hl, if_pos (by simp), if_pos rfl]
  · rw [if_neg hl, if_neg (by simp; exact hl)]
    have run := rcheck_run m hp hc ht hg (fieldsB m.1) (by have := fields_len m.1; omega) (fields_fd m.1) (fieldsB m.1) [] rfl
    by_cases hf : firstW m (fieldsB m.1) = 0
    · rw [if_neg (c := firstW m (fieldsB m.1) ≠ 0) (by simpa using hf)] at run ⊢
      refine ⟨_, run, ?_⟩
      show ref17_Check_j1 (ofM m) (stR 0 (fieldsB m.1)).2 _
      generalize fieldsB m.1 = fs at *
      let bad : Nat → Option Int := fun k => if hasN fs k = false ∧ m.2.1.getD k 0 ≠ 0 then some 3 else none
      refine ⟨_, loops_first (fun k => (k : Int)) bad () 6 (fun k hk => ?_) ?_, ?_⟩
      · have st : ∀ o, (if hasN fs k = false ∧ m.2.1.getD k 0 ≠ 0 then o = .inr (.inr 3) else o = .inl ((k + 1 : Nat) : Int)) → ref17_Check_l4 (ofM m) (stR 0 fs).2 (k : Int) o := by
          intro o ho
          unfold ref17_Check_l4
          rw [if_pos (by simp; omega)]
          refine ⟨by omega, by omega, ?_⟩
          have e : [hasN fs 0, hasN fs 1, hasN fs 2, hasN fs 3, hasN fs 4, hasN fs 5].getD (k : Int).toNat false = hasN fs k := by
            match k, hk with
            | 0, _ => rfl
            | 1, _ => rfl
            | 2, _ => rfl
            | 3, _ => rfl
            | 4, _ => rfl
            | 5, _ => rfl
          have j5 : ∀ b : Bool, (if b = true then o = .inr (.inr 3) else o = .inl ((k + 1 : Nat) : Int)) → ref17_Check_j5 (k : Int) b o := by
            intro b hb; unfold ref17_Check_j5; rw [len_wrap (by omega)]; exact hb
          split
          · rename_i hb
            have hb : (!hasN fs k) = true := by rw [← e]; exact hb
            have hn : hasN fs k = false := by simpa using hb
            refine ⟨by omega, by omega, j5 _ ?_⟩
            show if (!decide (m.2.1.getD k 0 = 0)) = true then _ else _
            by_cases hz : m.2.1.getD k 0 = 0
            · rw [if_neg (fun h => h.2 hz)] at ho; rw [if_neg (by rw [decide_eq_true hz]; simp)]; exact ho
            · rw [if_pos ⟨hn, hz⟩] at ho; rw [if_pos (by simpa using hz)]; exact ho
          · rename_i hb
            have hb : ¬ (!hasN fs k) = true := by rw [← e]; exact hb
            have hn : hasN fs k = true := by simpa using hb
            rw [if_neg (by simp [hn])] at ho; exact j5 false (by simpa using ho)
        show (∀ e, (if hasN fs k = false ∧ m.2.1.getD k 0 ≠ 0 then some 3 else none) = some e → _) ∧ ((if hasN fs k = false ∧ m.2.1.getD k 0 ≠ 0 then some 3 else none) = none → _)
        by_cases hb : hasN fs k = false ∧ m.2.1.getD k 0 ≠ 0
        · rw [if_pos hb]; exact ⟨fun e he => (by cases he; exact st _ (by rw [if_pos hb])), fun he => by cases he⟩
        · rw [if_neg hb]; exact ⟨fun e he => (by cases he), fun _ => st _ (by rw [if_neg hb])⟩
      · unfold ref17_Check_l4
        rw [if_neg (by decide)]
      · have hz : ∀ k, bad k = none ↔ zN fs m.2.1 k = 0 := by
          intro k
          show (if hasN fs k = false ∧ m.2.1.getD k 0 ≠ 0 then some 3 else none) = none ↔ (if hasN fs k = true then 0 else m.2.1.getD k 0) = 0
          cases hasN fs k with
          | true => simp
          | false => by_cases h0 : m.2.1.getD k 0 = 0 <;> simp
        have hsame : sameB (leftB fs m) (zeroM m.1) = true ↔ ((∀ k, k < 6 → zN fs m.2.1 k = 0) ∧ (hasS fs 3 = true ∨ m.2.2.1 = []) ∧ (hasS fs 4 = true ∨ m.2.2.2.1 = []) ∧ (hasS fs 5 = true ∨ m.2.2.2.2.1 = bstr []) ∧ (hasS fs 6 = true ∨ m.2.2.2.2.2 = bstr [])) := by
          unfold sameB leftB zeroM
          rw [decide_eq_true_eq]
          have h1 : ∀ {α : Type} (b : Bool) (x z : α), ((if b = true then z else x) = z) ↔ (b = true ∨ x = z) := by
            intro α b x z; cases b <;> simp
          simp only [n6, List.getD_cons_zero, List.getD_cons_succ, Prod.mk.injEq, true_and, h1, List.cons.injEq, and_true]
          constructor
          · rintro ⟨⟨a0, a1, a2, a3, a4, a5⟩, b⟩
            refine ⟨fun k hk => ?_, b⟩
            match k, hk with
            | 0, _ => exact a0
            | 1, _ => exact a1
            | 2, _ => exact a2
            | 3, _ => exact a3
            | 4, _ => exact a4
            | 5, _ => exact a5
          · rintro ⟨a, b⟩
            exact ⟨⟨a 0 (by omega), a 1 (by omega), a 2 (by omega), a 3 (by omega), a 4 (by omega), a 5 (by omega)⟩, b⟩
        cases hfe : firstE () bad 6 with
        | inl u =>
          have hall : ∀ k, k < 6 → zN fs m.2.1 k = 0 := fun k hk => (hz k).1 (firstE_some hfe k hk)
          refine j2_ok (ofM m) _ _ (decide (m.2.2.1 = [])) (decide (m.2.2.2.1 = [])) (decide (m.2.2.2.2.1 = bstr [])) (decide (m.2.2.2.2.2 = bstr [])) (len_dec _ _ (by simp [ofM])) (len_dec _ _ (by simp [ofM])) rfl rfl ?_
          simp only [stR]
          by_cases hs : sameB (leftB fs m) (zeroM m.1) = true
          · rw [if_pos hs]
            obtain ⟨_, c3, c4, c5, c6⟩ := hsame.1 hs
            refine (if_neg ?_).symm
            rcases c3 with c3 | c3 <;> rcases c4 with c4 | c4 <;> rcases c5 with c5 | c5 <;> rcases c6 with c6 | c6 <;> simp [c3, c4, c5, c6]
          · rw [if_neg hs]
            refine (if_pos ?_).symm
            by_cases c3 : hasS fs 3 = true ∨ m.2.2.1 = []
            · by_cases c4 : hasS fs 4 = true ∨ m.2.2.2.1 = []
              · by_cases c5 : hasS fs 5 = true ∨ m.2.2.2.2.1 = bstr []
                · by_cases c6 : hasS fs 6 = true ∨ m.2.2.2.2.2 = bstr []
                  · exact absurd (hsame.2 ⟨hall, c3, c4, c5, c6⟩) hs
                  · simp only [not_or, Bool.not_eq_true] at c6; simp [c6]
                · simp only [not_or, Bool.not_eq_true] at c5; simp [c5]
              · simp only [not_or, Bool.not_eq_true] at c4; simp [c4]
            · simp only [not_or, Bool.not_eq_true] at c3; simp [c3]
        | inr e =>
          have he : e = 3 := by
            unfold firstE at hfe
            cases hfs : (List.range 6).findSome? bad with
            | none => rw [hfs] at hfe; cases hfe
            | some e' =>
              rw [hfs] at hfe; cases hfe
              obtain ⟨k, _, hk⟩ := List.exists_of_findSome?_eq_some hfs
              have hk : (if hasN fs k = false ∧ m.2.1.getD k 0 ≠ 0 then some 3 else none) = some e := hk
              split at hk
              · cases hk; rfl
              · cases hk
          subst he
          show _ = _
          rw [if_neg]
          intro hd
          have hd := (hsame.1 hd).1
          rw [firstE_none (fun k hk => (hz k).2 (hd k hk))] at hfe
          cases hfe
    · rw [if_pos (c := firstW m (fieldsB m.1) ≠ 0) hf] at run ⊢
      exact ⟨_, run, rfl⟩
end Go.Rel
/-! Plain laws: functions that are ranged over, as lists. -/
namespace Go.Pl
open Go Go.Eng
inductive Run {X S : Type} (Y : X → S → Bool × S → Prop) : List X → S → S → Prop
  | nil {s : S} : Run Y [] s s
  | go {x : X} {xs : List X} {s s1 s' : S} (h : Y x s (true, s1)) (h' : Run Y xs s1 s') : Run Y (x :: xs) s s'
  | stop {x : X} {xs : List X} {s s' : S} (h : Y x s (false, s')) : Run Y (x :: xs) s s'
def Itr {X : Type} (it : (S : Type) → (X → S → Bool × S → Prop) → S → S × Unit → Prop) (xs : List X) : Prop := ∀ S Y s s', Run Y xs s s' → it S Y s (s', ())
inductive RunB {X S E : Type} (B : X → S → Sum S E → Prop) : List X → S → Sum S E → Prop
  | nil {s : S} : RunB B [] s (.inl s)
  | go {x : X} {xs : List X} {s s1 : S} {t : Sum S E} (h : B x s (.inl s1)) (h' : RunB B xs s1 t) : RunB B (x :: xs) s t
  | stop {x : X} {xs : List X} {s : S} {e : E} (h : B x s (.inr e)) : RunB B (x :: xs) s (.inr e)
theorem run_yof {X S E : Type} {B : X → S → Sum S E → Prop} {xs : List X} {s : S} {t : Sum S E} (h : RunB B xs s t) : Run (Yof B) xs (.inl s) t := by
  induction h with
  | nil => exact .nil
  | go h _ ih => exact .go ⟨_, _, rfl, h, .inl ⟨_, rfl, rfl⟩⟩ ih
  | stop h => exact .stop ⟨_, _, rfl, h, .inr ⟨_, rfl, rfl⟩⟩
theorem runB_inv {X S E : Type} {B : X → S → Sum S E → Prop} (I : Nat → S → Prop) (Q : E → Prop) (xs : List X) {s : S} (h0 : I 0 s)
    (hs : ∀ k (hk : k < xs.length) s, I k s → (∃ s', B xs[k] s (.inl s') ∧ I (k + 1) s') ∨ ∃ e, B xs[k] s (.inr e) ∧ Q e) : ∃ t, RunB B xs s t ∧ ((∃ s', t = .inl s' ∧ I xs.length s') ∨ ∃ e, t = .inr e ∧ Q e) := by
  have key : ∀ (ys : List X) (k : Nat) (s : S), k + ys.length = xs.length → (∀ j (hj : j < ys.length), xs[k + j]? = some ys[j]) → I k s → ∃ t, RunB B ys s t ∧ ((∃ s', t = .inl s' ∧ I xs.length s') ∨ ∃ e, t = .inr e ∧ Q e) := by
    intro ys
    induction ys with
    | nil => intro k s hk _ hi; exact ⟨_, .nil, .inl ⟨s, rfl, by simp at hk; rw [← hk]; exact hi⟩⟩
    | cons y ys ih =>
      intro k s hk hat hi
      have hkl : k < xs.length := by simp at hk; omega
      have hy : xs[k] = y := by
        have := hat 0 (by simp)
        rw [Nat.add_zero, List.getElem?_eq_getElem hkl] at this
        simpa using this
      rcases hs k hkl s hi with ⟨s', h1, h2⟩ | ⟨e, h1, h2⟩
      · rw [hy] at h1
        obtain ⟨t, h3, h4⟩ := ih (k + 1) s' (by simp at hk; omega) (fun j hj => by
          have := hat (j + 1) (by simp; omega)
          rw [show k + 1 + j = k + (j + 1) by omega, this]; simp) h2
        exact ⟨t, .go h1 h3, h4⟩
      · rw [hy] at h1
        exact ⟨_, .stop h1, .inr ⟨e, rfl, h2⟩⟩
  exact key xs 0 s (by omega) (fun j hj => by simp [hj]) h0
end Go.Pl
/-! Plain laws: the line of a message: the program's and the document's. -/
namespace Go.Rel
open Go Go.Eng Go.Pl

theorem bints_byt (s : ByteArray) : ∀ x ∈ bints s, 0 ≤ x ∧ x < 256 := by
  intro x hx
  unfold bints at hx
  obtain ⟨b, _, rfl⟩ := List.mem_map.1 hx
  have := b.toNat_lt
  omega
structure MgOk (m : Mg) : Prop where
  kind : IntOk .i64 m.1
  six : m.2.1.length = 6
  num : ∀ x ∈ m.2.1, IntOk .i64 x
  path : ∀ p ∈ m.2.2.1, IntOk .i64 p.1 ∧ IntOk .i64 p.2
  cells : ∀ x ∈ m.2.2.2.1, IntOk .i64 x
  lpath : m.2.2.1.length ≤ 1000
  lcells : m.2.2.2.1.length ≤ 1000
  ltext : m.2.2.2.2.1.size ≤ 1000
  ltag : m.2.2.2.2.2.size ≤ 1000
theorem MgOk.at {m : Mg} (ok : MgOk m) (p : Nat) : IntOk .i64 (m.2.1.getD p 0) := by
  rw [List.getD_eq_getElem?_getD]
  cases h : m.2.1[p]? with
  | none => exact ⟨by decide, by decide⟩
  | some x => exact ok.num x (List.mem_of_getElem? h)
theorem map_take_snoc {α β : Type} (g : α → β) (l : List α) {k : Nat} (hk : k < l.length) : (l.take (k + 1)).map g = (l.take k).map g ++ [g l[k]] := by
  rw [List.take_succ_eq_append_getElem hk, List.map_append]; rfl
end Go.Rel
/-! Plain laws: events: their lines, which are the same, the words of errors. -/
namespace Go.Rel
open Go Go.Eng Go.Pl
abbrev Ev := Int × Int × Int × Int × Mg
abbrev Er := Int × Int × Int × Int × Mr
def errWords : List (Int × List Int) := [(2, [108, 111, 110, 103]), (3, [102, 111, 114, 109]), (4, [101, 110, 100]), (5, [114, 97, 110, 103, 101]), (6, [109, 97, 110, 121]), (9, [107, 105, 110, 100]), (10, [118, 101, 114, 115, 105, 111, 110]), (11, [115, 117, 109]), (12, [115, 116, 117, 102, 102]), (13, [115, 104, 111, 114, 116]), (14, [115, 101, 101, 110]), (15, [111, 108, 100]), (16, [116, 119, 105, 99, 101]), (17, [109, 101, 101, 116]), (18, [108, 97, 116, 101]), (19, [116, 101, 120, 116])]
def wordE (e : Int) : List Int := ((errWords.find? fun p => decide (p.1 = e)).map (·.2)).getD []
theorem wordE_cases (e : Int) : (e = 2 ∨ e = 3 ∨ e = 4 ∨ e = 5 ∨ e = 6 ∨ e = 9 ∨ e = 10 ∨ e = 11 ∨ e = 12 ∨ e = 13 ∨ e = 14 ∨ e = 15 ∨ e = 16 ∨ e = 17 ∨ e = 18 ∨ e = 19) ∨ (¬ (e = 2 ∨ e = 3 ∨ e = 4 ∨ e = 5 ∨ e = 6 ∨ e = 9 ∨ e = 10 ∨ e = 11 ∨ e = 12 ∨ e = 13 ∨ e = 14 ∨ e = 15 ∨ e = 16 ∨ e = 17 ∨ e = 18 ∨ e = 19) ∧ wordE e = []) := by
  by_cases h : e = 2 ∨ e = 3 ∨ e = 4 ∨ e = 5 ∨ e = 6 ∨ e = 9 ∨ e = 10 ∨ e = 11 ∨ e = 12 ∨ e = 13 ∨ e = 14 ∨ e = 15 ∨ e = 16 ∨ e = 17 ∨ e = 18 ∨ e = 19
  · exact .inl h
  · refine .inr ⟨h, ?_⟩
    unfold wordE
    have : errWords.find? (fun p => decide (p.1 = e)) = none := by
      rw [List.find?_eq_none]
      intro p hp
      simp only [errWords, List.mem_cons, List.not_mem_nil, or_false] at hp
      simp only [decide_eq_true_eq]
      rcases hp with rfl | rfl | rfl | rfl | rfl | rfl | rfl | rfl | rfl | rfl | rfl | rfl | rfl | rfl | rfl | rfl <;> simp only <;> omega
    rw [this]; rfl
theorem eword_ok (e : Int) : event_Word e (bstr (wordE e)) := by
  unfold event_Word
  simp only [decide_eq_true_eq]
  rcases wordE_cases e with h | ⟨h, hw⟩
  · rcases h with rfl | rfl | rfl | rfl | rfl | rfl | rfl | rfl | rfl | rfl | rfl | rfl | rfl | rfl | rfl | rfl <;> exact rfl
  · rw [hw]
    simp only [not_or] at h
    obtain ⟨h1, h2, h3, h4, h5, h6, h7, h8, h9, h10, h11, h12, h13, h14, h15, h16⟩ := h
    rw [if_neg h1, if_neg h2, if_neg h3, if_neg h4, if_neg h5, if_neg h6, if_neg h7, if_neg h8, if_neg h9, if_neg h10, if_neg h11, if_neg h12, if_neg h13, if_neg h14, if_neg h15, if_neg h16]
def errN : List Int := [2, 3, 4, 5, 6, 9, 10, 11, 12, 13, 14, 15, 16, 17, 18, 19]
def errT : List ByteArray := [(bstr [108, 111, 110, 103]), (bstr [102, 111, 114, 109]), (bstr [101, 110, 100]), (bstr [114, 97, 110, 103, 101]), (bstr [109, 97, 110, 121]), (bstr [107, 105, 110, 100]), (bstr [118, 101, 114, 115, 105, 111, 110]), (bstr [115, 117, 109]), (bstr [115, 116, 117, 102, 102]), (bstr [115, 104, 111, 114, 116]), (bstr [115, 101, 101, 110]), (bstr [111, 108, 100]), (bstr [116, 119, 105, 99, 101]), (bstr [109, 101, 101, 116]), (bstr [108, 97, 116, 101]), (bstr [116, 101, 120, 116])]
theorem rword_run (e : Int) : ∀ (m k : Nat), k + m = 16 → (∀ j, j < k → errN.getD j 0 ≠ e) → ∃ x, Loops (ref23_Word_l2 e) (k : Int) x ∧ Aft (fun p23 => ref23_Word_j1 p23 (bstr (wordE e))) (fun p24 => bstr (wordE e) = p24) x
  | 0, k, hk, hn => by
    obtain rfl : k = 16 := by omega
    refine ⟨.inl (), .done ?_, ?_⟩
    · unfold ref23_Word_l2; rw [if_neg (by decide)]
    · show bstr (wordE e) = bstr []
      rcases wordE_cases e with h | ⟨h, hw⟩
      · exfalso
        have h0 := hn 0 (by omega); have h1 := hn 1 (by omega); have h2 := hn 2 (by omega); have h3 := hn 3 (by omega); have h4 := hn 4 (by omega); have h5 := hn 5 (by omega); have h6 := hn 6 (by omega); have h7 := hn 7 (by omega)
        have h8 := hn 8 (by omega); have h9 := hn 9 (by omega); have h10 := hn 10 (by omega); have h11 := hn 11 (by omega); have h12 := hn 12 (by omega); have h13 := hn 13 (by omega); have h14 := hn 14 (by omega); have h15 := hn 15 (by omega)
        simp only [errN, List.getD_cons_zero, List.getD_cons_succ] at *
        omega
      · rw [hw]
  | m + 1, k, hk, hn => by
    have hlt : k < 16 := by omega
    have hN : errN[k]? = some (errN.getD k 0) := by
      rw [List.getD_eq_getElem?_getD, List.getElem?_eq_getElem (by show k < 16; omega)]; rfl
    have hx : idx [2, 3, 4, 5, 6, 9, 10, 11, 12, 13, 14, 15, 16, 17, 18, 19] (k : Int) (errN.getD k 0) := idx_at rfl hN
    by_cases he : errN.getD k 0 = e
    · refine ⟨.inr (bstr (wordE e)), .done ?_, rfl⟩
      unfold ref23_Word_l2
      rw [if_pos (by simp; omega)]
      refine ⟨_, hx, ?_⟩
      rw [if_pos (by simpa using he)]
      refine ⟨bstr (wordE e), idx_at rfl ?_, rfl⟩
      subst he
      have : ∀ k, k < 16 → errT[k]? = some (bstr (wordE (errN.getD k 0))) := by
        intro k hk
        match k, hk with
        | 0, _ => rfl
        | 1, _ => rfl
        | 2, _ => rfl
        | 3, _ => rfl
        | 4, _ => rfl
        | 5, _ => rfl
        | 6, _ => rfl
        | 7, _ => rfl
        | 8, _ => rfl
        | 9, _ => rfl
        | 10, _ => rfl
        | 11, _ => rfl
        | 12, _ => rfl
        | 13, _ => rfl
        | 14, _ => rfl
        | 15, _ => rfl
        | n + 16, h => exact absurd h (by omega)
      exact this k hlt
    · obtain ⟨x, h1, h2⟩ := rword_run e m (k + 1) (by omega) (fun j hj => by
        by_cases hjk : j = k
        · subst hjk; exact he
        · exact hn j (by omega))
      refine ⟨x, .next ?_ h1, h2⟩
      unfold ref23_Word_l2
      rw [if_pos (by simp; omega)]
      refine ⟨_, hx, ?_⟩
      rw [if_neg (by simpa using he), len_wrap (by omega)]
theorem reword_ok (e : Int) : ref23_Word e (bstr (wordE e)) := rword_run e 16 0 (by omega) (fun j hj => by omega)
structure EvOk (e : Ev) : Prop where
  kind : IntOk .i64 e.1
  seq : IntOk .u32 e.2.1
  ver : IntOk .i64 e.2.2.1
  err : IntOk .i64 e.2.2.2.1
  msg : MgOk e.2.2.2.2
def ofE (e : Ev) : Er := (e.1, e.2.1, e.2.2.1, e.2.2.2.1, ofM e.2.2.2.2)
def sameE (a b : Ev) : Bool := decide (a.1 = b.1 ∧ a.2.1 = b.2.1 ∧ a.2.2.1 = b.2.2.1 ∧ a.2.2.2.1 = b.2.2.2.1) && sameB a.2.2.2.2 b.2.2.2.2
theorem resame_ok {a b : Ev} (hp : a.2.2.2.2.2.2.1.length < 4611686018427387904) (hc : a.2.2.2.2.2.2.2.1.length < 4611686018427387904) : ref23_Same (ofE a) (ofE b) (sameE a b) := by
  unfold ref23_Same sameE ofE
  simp only [decide_eq_true_eq, ref23_Same_j1]
  by_cases h1 : a.1 = b.1
  · by_cases h2 : a.2.1 = b.2.1
    · by_cases h3 : a.2.2.1 = b.2.2.1
      · by_cases h4 : a.2.2.2.1 = b.2.2.2.1
        · rw [if_pos h1, if_pos h2, if_pos h3, if_pos h4]; exact ⟨_, rsame_ok hp hc, by simp [h1, h2, h3, h4]⟩
        · rw [if_pos h1, if_pos h2, if_pos h3, if_neg h4]; simp [h4]
      · rw [if_pos h1, if_pos h2, if_neg h3]; simp [h3]
    · rw [if_pos h1, if_neg h2]; simp [h2]
  · rw [if_neg h1]; simp [h1]
def cutE (e : Ev) : Ev := (e.1, e.2.1, e.2.2.1, e.2.2.2.1, cutM e.2.2.2.2)
theorem ecut_ok (e : Ev) : law23_Cut e (cutE e) := ⟨_, cut_ok _, rfl⟩
theorem eof_ok {e : Ev} (h : e.2.2.2.2.2.2.1.length < 1099511627776) : law23_Of e (ofE e) := ⟨_, ofm_ok h, rfl⟩
structure MgIn (m : Mg) : Prop where
  kind : IntOk .i64 m.1
  six : m.2.1.length = 6
  num : ∀ x ∈ m.2.1, IntOk .i64 x
  path : ∀ p ∈ m.2.2.1, IntOk .i64 p.1 ∧ IntOk .i64 p.2
  cells : ∀ x ∈ m.2.2.2.1, IntOk .i64 x
theorem ext_size (s : ByteArray) (n : Nat) : (s.extract 0 n).size ≤ n := by rw [ByteArray.size_extract]; omega
theorem cut_in {m : Mg} (h : MgIn m) : MgOk (cutM m) := ⟨h.kind, h.six, h.num, fun p hp => h.path p (List.mem_of_mem_take hp), fun x hx => h.cells x (List.mem_of_mem_take hx), by simp only [cutM, List.length_take]; omega, by simp only [cutM, List.length_take]; omega, by have := ext_size m.2.2.2.2.1 80; simp only [cutM]; omega, by have := ext_size m.2.2.2.2.2 80; simp only [cutM]; omega⟩
structure EvIn (e : Ev) : Prop where
  kind : IntOk .i64 e.1
  seq : IntOk .u32 e.2.1
  ver : IntOk .i64 e.2.2.1
  err : IntOk .i64 e.2.2.2.1
  msg : MgIn e.2.2.2.2
theorem ecut_in {e : Ev} (h : EvIn e) : EvOk (cutE e) := ⟨h.kind, h.seq, h.ver, h.err, cut_in h.msg⟩
instance (k : IntKind) (n : Int) : Decidable (IntOk k n) := by unfold IntOk; infer_instance
abbrev MgRaw (m : Mg) : Prop := IntOk .i64 m.1 ∧ (m.2.1.length = 6 ∧ ∀ x ∈ m.2.1, IntOk .i64 x) ∧ ListOk (fun p : Int × Int => IntOk .i64 p.1 ∧ IntOk .i64 p.2) m.2.2.1 ∧ ListOk (IntOk .i64) m.2.2.2.1 ∧ StrOk m.2.2.2.2.1 ∧ StrOk m.2.2.2.2.2
theorem mgIn {m : Mg} (h : MgRaw m) : MgIn m := ⟨h.1, h.2.1.1, h.2.1.2, h.2.2.1.1, h.2.2.2.1.1⟩
abbrev EvRaw (e : Ev) : Prop := IntOk .i64 e.1 ∧ IntOk .u32 e.2.1 ∧ IntOk .i64 e.2.2.1 ∧ IntOk .i64 e.2.2.2.1 ∧ MgRaw e.2.2.2.2
theorem evIn {e : Ev} (h : EvRaw e) : EvIn e := ⟨h.1, h.2.1, h.2.2.1, h.2.2.2.1, mgIn h.2.2.2.2⟩
end Go.Rel
/-! Plain laws: sums over bytes. -/
namespace Go.Rel
open Go Go.Eng Go.Pl

def polyB : BitVec 32 := 3988292384#32
def st1 (w : BitVec 32) : BitVec 32 := (w >>> 1) ^^^ (polyB &&& -(w &&& 1#32))
def itS : Nat → BitVec 32 → BitVec 32
  | 0, w => w
  | k + 1, w => st1 (itS k w)
def IsTab (t : List Int) : Prop := ∀ k i, k < 4 → i < 256 → t.getD (k * 256 + i) 0 = B (itS (8 * (k + 1)) (BitVec.ofNat 32 i))
def Byt (l : List Int) : Prop := ∀ x ∈ l, 0 ≤ x ∧ x < 256
theorem Byt.drop {l : List Int} (h : Byt l) (n : Nat) : Byt (l.drop n) := fun x hx => h x (List.mem_of_mem_drop hx)
theorem Byt.take {l : List Int} (h : Byt l) (n : Nat) : Byt (l.take n) := fun x hx => h x (List.mem_of_mem_take hx)
section
variable {t : List Int} (ht : IsTab t)
include ht
end

end Go.Rel
/-! Plain laws: the document's sums. -/
namespace Go.Rel
open Go Go.Eng Go.Pl
end Go.Rel
