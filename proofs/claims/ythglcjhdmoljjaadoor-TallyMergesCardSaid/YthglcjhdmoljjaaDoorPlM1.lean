import Derived.Test.YthglcjhdmoljjaaDoorEngP
import Derived.Test.YthglcjhdmoljjaaDoorURel
/-! Plain laws: whole numbers of a kind; loops that count. -/
namespace Go.Pl
open Go Go.Eng

theorem w_i64 (n : Int) : IntKind.i64.wrap n = (n + 9223372036854775808) % 18446744073709551616 - 9223372036854775808 := by
  simp only [IntKind.wrap, IntKind.bits, IntKind.signed]
  simp only [Bool.true_and]
  split
  · rename_i h; simp at h; omega
  · rename_i h; simp at h; omega
theorem w_small {n : Int} (h0 : -9223372036854775808 ≤ n) (h1 : n ≤ 9223372036854775807) : IntKind.i64.wrap n = n := by rw [w_i64]; omega
theorem loops_count {S E : Type} {step : S → Sum S E → Prop} (f : Nat → S) (N : Nat) {e : E} (hstep : ∀ k, k < N → step (f k) (.inl (f (k + 1)))) (hend : step (f N) (.inr e)) : Loops step (f 0) e := by
  have key : ∀ m k, k + m = N → Loops step (f k) e := by
    intro m
    induction m with
    | zero => intro k hk; have : k = N := by omega
              subst this; exact .done hend
    | succ m ih => intro k hk; exact .next (hstep k (by omega)) (ih (k + 1) (by omega))
  exact key N 0 (by omega)
end Go.Pl
/-! Plain laws: loops by what holds; words of 32 bits. -/
namespace Go.Pl
open Go Go.Eng

theorem idx_of {α : Type} {xs : List α} {k : Nat} (h : k < xs.length) : idx xs (k : Int) xs[k] := ⟨by omega, by simp [h]⟩
theorem putN_getD {α : Type} {n : Nat} {z v : α} {xs : List α} {q j : Nat} (hj : j < n) : (putN n z xs q v).getD j z = if j = q then v else xs.getD j z := by
  simp only [putN, List.getD_eq_getElem?_getD, List.getElem?_map]
  rw [List.getElem?_range hj]; rfl

def B (x : BitVec 32) : Int := (x.toNat : Int)
end Go.Pl
/-! Plain laws: numbers in digits. -/
namespace Go.Rel
open Go Go.Eng Go.Pl
/-! ### Bytes as strings -/
theorem foldl_push_size (l : List Int) (s : ByteArray) : (l.foldl (fun r n => r.push (UInt8.ofNat n.toNat)) s).size = s.size + l.length := by
  induction l generalizing s with
  | nil => simp
  | cons x l ih => rw [List.foldl_cons, ih, ByteArray.size_push, List.length_cons]; omega
theorem size_bstr (l : List Int) : (bstr l).size = l.length := by
  unfold bstr
  rw [foldl_push_size]
  show ByteArray.empty.size + _ = _
  simp
theorem foldl_push_append (l : List Int) (s t : ByteArray) : l.foldl (fun r n => r.push (UInt8.ofNat n.toNat)) (s ++ t) = s ++ l.foldl (fun r n => r.push (UInt8.ofNat n.toNat)) t := by
  induction l generalizing t with
  | nil => rfl
  | cons x l ih =>
    rw [List.foldl_cons, List.foldl_cons, ← ih]
    congr 1
    apply ByteArray.ext
    simp [ByteArray.push, ByteArray.data_append]
theorem bstr_append (a b : List Int) : bstr (a ++ b) = bstr a ++ bstr b := by
  unfold bstr
  rw [List.foldl_append]
  have h := foldl_push_append b (a.foldl (fun r n => r.push (UInt8.ofNat n.toNat)) ByteArray.empty) ByteArray.empty
  rw [← h]
  congr 1
  simp
/-! ### Digits -/
/-! ### The library's -/
theorem itoa_ok {n : Int} (h : IntOk .i64 n) : strconv_Itoa n (bstr (decI n)) := ⟨h, rfl⟩
/-! ### The document's -/
end Go.Rel
/-! Plain laws: messages: fields, what is wrong with one. -/
namespace Go.Rel
open Go Go.Eng Go.Pl

theorem len_wrap {n : Nat} (h : n < 4611686018427387904) : IntKind.i64.wrap ((n : Int) + 1) = ((n + 1 : Nat) : Int) := by rw [w_small] <;> omega
abbrev Mg := Int × List Int × List (Int × Int) × List Int × ByteArray × ByteArray
abbrev Fd := ByteArray × Int × Int × Int × Int × Int × Int
/-! The reference's list. -/
/-! What is wrong with a part. -/
def numBad (m : Mg) (f : Fd) : Prop := m.2.1.getD f.2.2.1.toNat 0 < f.2.2.2.1 ∨ f.2.2.2.2.1 < m.2.1.getD f.2.2.1.toNat 0
instance (m : Mg) (f : Fd) : Decidable (numBad m f) := by unfold numBad; infer_instance
end Go.Rel
/-! Plain laws: are lists, messages the same; copies; the document's view of a message. -/
namespace Go.Rel
open Go Go.Eng Go.Pl

def n6 (l : List Int) : List Int := [l.getD 0 0, l.getD 1 0, l.getD 2 0, l.getD 3 0, l.getD 4 0, l.getD 5 0]
theorem eqN6 (a b : List Int) : eqN 6 0 a b = decide (n6 a = n6 b) := by
  unfold eqN n6
  simp [List.range_succ]
theorem mcopy_ok {m : Mg} (hp : m.2.2.1.length < 1099511627776) (hc : m.2.2.2.1.length < 1099511627776) : msg_Copy m m := by
  refine ⟨_, fun b hb => (?_ : if b = true then m.2.2.1 = [] else _), _, fun b hb => (?_ : if b = true then m.2.2.2.1 = [] else _), rfl⟩
  · cases b with
    | true => exact hb rfl
    | false => exact ⟨by simp; omega, by simp; omega, rfl⟩
  · cases b with
    | true => exact hb rfl
    | false => exact ⟨by simp; omega, by simp; omega, rfl⟩
def cutM (m : Mg) : Mg := (m.1, m.2.1, m.2.2.1.take 40, m.2.2.2.1.take 40, m.2.2.2.2.1.extract 0 80, m.2.2.2.2.2.extract 0 80)
theorem ext_min (s : ByteArray) (n : Nat) : s.extract 0 (min (s.size : Int) (n : Int)).toNat = s.extract 0 n := by
  by_cases h : s.size ≤ n
  · rw [show (min (s.size : Int) (n : Int)).toNat = s.size by omega]
    have hs : s.data.toList.length = s.size := rfl
    apply ByteArray.ext
    apply Array.ext'
    rw [ByteArray.data_extract, ByteArray.data_extract, Array.toList_extract, Array.toList_extract, List.extract_eq_take_drop, List.extract_eq_take_drop]
    simp only [List.drop_zero, Nat.sub_zero]
    rw [List.take_of_length_le (by omega), List.take_of_length_le (by omega)]
  · rw [show (min (s.size : Int) (n : Int)).toNat = n by omega]
theorem takeP_min {α : Type} (l : List α) (n : Nat) : (l.drop (0 : Int).toNat).take (((min (l.length : Int) (n : Int)) : Int) - 0).toNat = l.take n := by
  rw [show (0 : Int).toNat = 0 from rfl, List.drop_zero, show ((min (l.length : Int) (n : Int)) - 0).toNat = min l.length n by omega]
  by_cases h : l.length ≤ n
  · rw [Nat.min_eq_left h, List.take_length, List.take_of_length_le h]
  · rw [Nat.min_eq_right (by omega)]
theorem cut_ok (m : Mg) : law17_Cut m (cutM m) := by
  unfold law17_Cut cutM
  refine ⟨by omega, by omega, by omega, by omega, by omega, by omega, by omega, by omega, ?_⟩
  have e1 := takeP_min m.2.2.1 40
  have e2 := takeP_min m.2.2.2.1 40
  have e3 := ext_min m.2.2.2.2.1 80
  have e4 := ext_min m.2.2.2.2.2 80
  simp only [Int.cast_ofNat_Int] at e1 e2 e3 e4
  rw [e1, e2, e3, e4]
end Go.Rel
/-! Plain laws: what is wrong with a message: the program's answer and the document's. -/
namespace Go.Rel
open Go Go.Eng Go.Pl

def sortN (f : Fd) : Prop := f.2.1 ≠ 3 ∧ f.2.1 ≠ 4 ∧ f.2.1 ≠ 5 ∧ f.2.1 ≠ 6
instance (f : Fd) : Decidable (sortN f) := by unfold sortN; infer_instance
/-! The document's check. -/
end Go.Rel
/-! Plain laws: functions that are ranged over, as lists. -/
namespace Go.Pl
open Go Go.Eng
inductive Run {X S : Type} (Y : X → S → Bool × S → Prop) : List X → S → S → Prop
  | nil {s : S} : Run Y [] s s
  | go {x : X} {xs : List X} {s s1 s' : S} (h : Y x s (true, s1)) (h' : Run Y xs s1 s') : Run Y (x :: xs) s s'
  | stop {x : X} {xs : List X} {s s' : S} (h : Y x s (false, s')) : Run Y (x :: xs) s s'
def Itr {X : Type} (it : (S : Type) → (X → S → Bool × S → Prop) → S → S × Unit → Prop) (xs : List X) : Prop := ∀ S Y s s', Run Y xs s s' → it S Y s (s', ())
inductive RunB {X S E : Type} (B : X → S → Sum S E → Prop) : List X → S → Sum S E → Prop
  | nil {s : S} : RunB B [] s (.inl s)
  | go {x : X} {xs : List X} {s s1 : S} {t : Sum S E} (h : B x s (.inl s1)) (h' : RunB B xs s1 t) : RunB B (x :: xs) s t
  | stop {x : X} {xs : List X} {s : S} {e : E} (h : B x s (.inr e)) : RunB B (x :: xs) s (.inr e)
theorem run_yof {X S E : Type} {B : X → S → Sum S E → Prop} {xs : List X} {s : S} {t : Sum S E} (h : RunB B xs s t) : Run (Yof B) xs (.inl s) t := by
  induction h with
  | nil => exact .nil
  | go h _ ih => exact .go ⟨_, _, rfl, h, .inl ⟨_, rfl, rfl⟩⟩ ih
  | stop h => exact .stop ⟨_, _, rfl, h, .inr ⟨_, rfl, rfl⟩⟩
theorem runB_fold {X S E : Type} {B : X → S → Sum S E → Prop} (f : S → X → S) : ∀ (xs : List X) (s : S), (∀ p x q, xs = p ++ x :: q → B x (p.foldl f s) (.inl (f (p.foldl f s) x))) → RunB B xs s (.inl (xs.foldl f s))
  | [], s, _ => .nil
  | x :: xs, s, h => .go (h [] x xs rfl) (runB_fold f xs (f s x) (fun p y q e => h (x :: p) y q (by rw [e]; rfl)))
end Go.Pl
/-! Plain laws: the line of a message: the program's and the document's. -/
namespace Go.Rel
open Go Go.Eng Go.Pl

structure MgOk (m : Mg) : Prop where
  kind : IntOk .i64 m.1
  six : m.2.1.length = 6
  num : ∀ x ∈ m.2.1, IntOk .i64 x
  path : ∀ p ∈ m.2.2.1, IntOk .i64 p.1 ∧ IntOk .i64 p.2
  cells : ∀ x ∈ m.2.2.2.1, IntOk .i64 x
  lpath : m.2.2.1.length ≤ 1000
  lcells : m.2.2.2.1.length ≤ 1000
  ltext : m.2.2.2.2.1.size ≤ 1000
  ltag : m.2.2.2.2.2.size ≤ 1000
theorem MgOk.at {m : Mg} (ok : MgOk m) (p : Nat) : IntOk .i64 (m.2.1.getD p 0) := by
  rw [List.getD_eq_getElem?_getD]
  cases h : m.2.1[p]? with
  | none => exact ⟨by decide, by decide⟩
  | some x => exact ok.num x (List.mem_of_getElem? h)
theorem snum_ok {n : Int} (h : IntOk .i64 n) : say_Number n (bstr (decI n)) := ⟨_, itoa_ok h, rfl⟩
theorem map_take_snoc {α β : Type} (g : α → β) (l : List α) {k : Nat} (hk : k < l.length) : (l.take (k + 1)).map g = (l.take k).map g ++ [g l[k]] := by
  rw [List.take_succ_eq_append_getElem hk, List.map_append]; rfl
def wordL (k : Int) : List Int := if k = 1 then [109, 111, 118, 101] else if k = 2 then [104, 111, 108, 100] else if k = 3 then [103, 114, 97, 110, 116] else if k = 4 then [112, 111, 115, 101] else if k = 5 then [102, 97, 117, 108, 116] else []
theorem fword_ok (k : Int) : field_Word k (bstr (wordL k)) := by
  unfold field_Word wordL
  simp only [decide_eq_true_eq]
  repeat' (first | rfl | split)
end Go.Rel
/-! Plain laws: events: their lines, which are the same, the words of errors. -/
namespace Go.Rel
open Go Go.Eng Go.Pl
abbrev Ev := Int × Int × Int × Int × Mg
def errWords : List (Int × List Int) := [(2, [108, 111, 110, 103]), (3, [102, 111, 114, 109]), (4, [101, 110, 100]), (5, [114, 97, 110, 103, 101]), (6, [109, 97, 110, 121]), (9, [107, 105, 110, 100]), (10, [118, 101, 114, 115, 105, 111, 110]), (11, [115, 117, 109]), (12, [115, 116, 117, 102, 102]), (13, [115, 104, 111, 114, 116]), (14, [115, 101, 101, 110]), (15, [111, 108, 100]), (16, [116, 119, 105, 99, 101]), (17, [109, 101, 101, 116]), (18, [108, 97, 116, 101]), (19, [116, 101, 120, 116])]
def wordE (e : Int) : List Int := ((errWords.find? fun p => decide (p.1 = e)).map (·.2)).getD []
theorem wordE_cases (e : Int) : (e = 2 ∨ e = 3 ∨ e = 4 ∨ e = 5 ∨ e = 6 ∨ e = 9 ∨ e = 10 ∨ e = 11 ∨ e = 12 ∨ e = 13 ∨ e = 14 ∨ e = 15 ∨ e = 16 ∨ e = 17 ∨ e = 18 ∨ e = 19) ∨ (¬ (e = 2 ∨ e = 3 ∨ e = 4 ∨ e = 5 ∨ e = 6 ∨ e = 9 ∨ e = 10 ∨ e = 11 ∨ e = 12 ∨ e = 13 ∨ e = 14 ∨ e = 15 ∨ e = 16 ∨ e = 17 ∨ e = 18 ∨ e = 19) ∧ wordE e = []) := by
  by_cases h : e = 2 ∨ e = 3 ∨ e = 4 ∨ e = 5 ∨ e = 6 ∨ e = 9 ∨ e = 10 ∨ e = 11 ∨ e = 12 ∨ e = 13 ∨ e = 14 ∨ e = 15 ∨ e = 16 ∨ e = 17 ∨ e = 18 ∨ e = 19
  · exact .inl h
  · refine .inr ⟨h, ?_⟩
    unfold wordE
    have : errWords.find? (fun p => decide (p.1 = e)) = none := by
      rw [List.find?_eq_none]
      intro p hp
      simp only [errWords, List.mem_cons, List.not_mem_nil, or_false] at hp
      simp only [decide_eq_true_eq]
      rcases hp with rfl | rfl | rfl | rfl | rfl | rfl | rfl | rfl | rfl | rfl | rfl | rfl | rfl | rfl | rfl | rfl <;> simp only <;> omega
    rw [this]; rfl
theorem eword_ok (e : Int) : event_Word e (bstr (wordE e)) := by
  unfold event_Word
  simp only [decide_eq_true_eq]
  rcases wordE_cases e with h | ⟨h, hw⟩
  · rcases h with rfl | rfl | rfl | rfl | rfl | rfl | rfl | rfl | rfl | rfl | rfl | rfl | rfl | rfl | rfl | rfl <;> exact rfl
  · rw [hw]
    simp only [not_or] at h
    obtain ⟨h1, h2, h3, h4, h5, h6, h7, h8, h9, h10, h11, h12, h13, h14, h15, h16⟩ := h
    rw [if_neg h1, if_neg h2, if_neg h3, if_neg h4, if_neg h5, if_neg h6, if_neg h7, if_neg h8, if_neg h9, if_neg h10, if_neg h11, if_neg h12, if_neg h13, if_neg h14, if_neg h15, if_neg h16]
structure EvOk (e : Ev) : Prop where
  kind : IntOk .i64 e.1
  seq : IntOk .u32 e.2.1
  ver : IntOk .i64 e.2.2.1
  err : IntOk .i64 e.2.2.2.1
  msg : MgOk e.2.2.2.2
def cutE (e : Ev) : Ev := (e.1, e.2.1, e.2.2.1, e.2.2.2.1, cutM e.2.2.2.2)
theorem ecut_ok (e : Ev) : law23_Cut e (cutE e) := ⟨_, cut_ok _, rfl⟩
structure MgIn (m : Mg) : Prop where
  kind : IntOk .i64 m.1
  six : m.2.1.length = 6
  num : ∀ x ∈ m.2.1, IntOk .i64 x
  path : ∀ p ∈ m.2.2.1, IntOk .i64 p.1 ∧ IntOk .i64 p.2
  cells : ∀ x ∈ m.2.2.2.1, IntOk .i64 x
structure EvIn (e : Ev) : Prop where
  kind : IntOk .i64 e.1
  seq : IntOk .u32 e.2.1
  ver : IntOk .i64 e.2.2.1
  err : IntOk .i64 e.2.2.2.1
  msg : MgIn e.2.2.2.2
theorem ok_lit (n : Int) (h0 : -9223372036854775808 ≤ n) (h1 : n ≤ 9223372036854775807) : IntOk .i64 n := ⟨h0, h1⟩
theorem deliv_ok (seq ver : Int) {m : Mg} (hp : m.2.2.1.length < 1099511627776) (hc : m.2.2.2.1.length < 1099511627776) : event_Delivery seq ver m (1, seq, ver, 0, m) := ⟨_, mcopy_ok hp hc, rfl⟩
instance (k : IntKind) (n : Int) : Decidable (IntOk k n) := by unfold IntOk; infer_instance
def zM : Mg := (0, [0, 0, 0, 0, 0, 0], [], [], bstr [], bstr [])
abbrev MgRaw (m : Mg) : Prop := IntOk .i64 m.1 ∧ (m.2.1.length = 6 ∧ ∀ x ∈ m.2.1, IntOk .i64 x) ∧ ListOk (fun p : Int × Int => IntOk .i64 p.1 ∧ IntOk .i64 p.2) m.2.2.1 ∧ ListOk (IntOk .i64) m.2.2.2.1 ∧ StrOk m.2.2.2.2.1 ∧ StrOk m.2.2.2.2.2
theorem mgIn {m : Mg} (h : MgRaw m) : MgIn m := ⟨h.1, h.2.1.1, h.2.1.2, h.2.2.1.1, h.2.2.2.1.1⟩
abbrev EvRaw (e : Ev) : Prop := IntOk .i64 e.1 ∧ IntOk .u32 e.2.1 ∧ IntOk .i64 e.2.2.1 ∧ IntOk .i64 e.2.2.2.1 ∧ MgRaw e.2.2.2.2
theorem evIn {e : Ev} (h : EvRaw e) : EvIn e := ⟨h.1, h.2.1, h.2.2.1, h.2.2.2.1, mgIn h.2.2.2.2⟩
end Go.Rel
/-! Plain laws: what a line tells is told back: digits, signs between, hexadecimal digits; two messages with one line. -/
namespace Go.Rel
open Go Go.Eng Go.Pl

/-! Lines are bytes. -/
abbrev Oct (l : List Int) : Prop := ∀ x ∈ l, 0 ≤ x ∧ x < 256
end Go.Rel
/-! Plain laws: strings cut at a byte. -/
namespace Go.Rel
open Go Go.Eng Go.Pl
end Go.Rel
