import Derived.Test.YtnlghjmngfgmcabGreatDoorEngP
import Derived.Test.YtnlghjmngfgmcabGreatDoorURel
/-! Plain laws: whole numbers of a kind; loops that count. -/
namespace Go.Pl
open Go Go.Eng

theorem w_u8 (n : Int) : IntKind.u8.wrap n = n % 256 := by simp [IntKind.wrap, IntKind.bits, IntKind.signed]
theorem w_u32 (n : Int) : IntKind.u32.wrap n = n % 4294967296 := by simp [IntKind.wrap, IntKind.bits, IntKind.signed]
theorem w_u64 (n : Int) : IntKind.u64.wrap n = n % 18446744073709551616 := by simp [IntKind.wrap, IntKind.bits, IntKind.signed]
theorem w_i64 (n : Int) : IntKind.i64.wrap n = (n + 9223372036854775808) % 18446744073709551616 - 9223372036854775808 := by
  simp only [IntKind.wrap, IntKind.bits, IntKind.signed]
  simp only [Bool.true_and]
  split
  · rename_i h; simp at h; omega
  · rename_i h; simp at h; omega
theorem w_small {n : Int} (h0 : -9223372036854775808 ≤ n) (h1 : n ≤ 9223372036854775807) : IntKind.i64.wrap n = n := by rw [w_i64]; omega
theorem w32_small {n : Int} (h0 : 0 ≤ n) (h1 : n < 4294967296) : IntKind.u32.wrap n = n := by rw [w_u32]; omega
theorem w64_small {n : Int} (h0 : 0 ≤ n) (h1 : n < 18446744073709551616) : IntKind.u64.wrap n = n := by rw [w_u64]; omega

/-- A loop that counts. -/
theorem loops_count {S E : Type} {step : S → Sum S E → Prop} (f : Nat → S) (N : Nat) {e : E} (hstep : ∀ k, k < N → step (f k) (.inl (f (k + 1)))) (hend : step (f N) (.inr e)) : Loops step (f 0) e := by
  have key : ∀ m k, k + m = N → Loops step (f k) e := by
    intro m
    induction m with
    | zero => intro k hk; have : k = N := by omega
              subst this; exact .done hend
    | succ m ih => intro k hk; exact .next (hstep k (by omega)) (ih (k + 1) (by omega))
  exact key N 0 (by omega)
end Go.Pl
/-! Plain laws: loops by what holds; words of 32 bits. -/
namespace Go.Pl
open Go Go.Eng

/-- A loop, by what holds ahead of each round. -/
theorem loops_inv {S E : Type} {step : S → Sum S E → Prop} (I : Nat → S → Prop) (Q : E → Prop) (N : Nat) {s : S} (h0 : I 0 s)
    (hs : ∀ k s, k < N → I k s → (∃ s', step s (.inl s') ∧ I (k + 1) s') ∨ ∃ e, step s (.inr e) ∧ Q e) (he : ∀ s, I N s → ∃ e, step s (.inr e) ∧ Q e) : ∃ e, Loops step s e ∧ Q e := by
  have key : ∀ m k s, k + m = N → I k s → ∃ e, Loops step s e ∧ Q e := by
    intro m
    induction m with
    | zero =>
      intro k s hk hi
      have : k = N := by omega
      subst this
      obtain ⟨e, h1, h2⟩ := he s hi
      exact ⟨e, .done h1, h2⟩
    | succ m ih =>
      intro k s hk hi
      rcases hs k s (by omega) hi with ⟨s', h1, h2⟩ | ⟨e, h1, h2⟩
      · obtain ⟨e, h3, h4⟩ := ih (k + 1) s' (by omega) h2
        exact ⟨e, .next h1 h3, h4⟩
      · exact ⟨e, .done h1, h2⟩
  exact key N 0 s (by omega) h0
theorem ne_true {b : Bool} (h : b = false) : ¬ b = true := by rw [h]; decide

theorem idx_of {α : Type} {xs : List α} {k : Nat} (h : k < xs.length) : idx xs (k : Int) xs[k] := ⟨by omega, by simp [h]⟩
theorem idx_at {α : Type} {xs : List α} {i : Int} {k : Nat} {x : α} (hi : i = (k : Int)) (h : xs[k]? = some x) : idx xs i x := by
  subst hi; exact ⟨by omega, by simpa using h⟩
theorem putN_getD {α : Type} {n : Nat} {z v : α} {xs : List α} {q j : Nat} (hj : j < n) : (putN n z xs q v).getD j z = if j = q then v else xs.getD j z := by
  simp only [putN, List.getD_eq_getElem?_getD, List.getElem?_map]
  rw [List.getElem?_range hj]; rfl

/-- A word of 32 bits as a whole number. -/
def B (x : BitVec 32) : Int := (x.toNat : Int)
theorem B_lo (x : BitVec 32) : 0 ≤ B x := by unfold B; omega
theorem B_hi (x : BitVec 32) : B x < 4294967296 := by have := x.isLt; unfold B; omega
def bw (c : Int) : BitVec 32 := BitVec.ofInt 32 c
theorem bw_B (x : BitVec 32) : bw (B x) = x := by unfold bw B; rw [BitVec.ofInt_natCast, BitVec.ofNat_toNat]; simp
theorem B_bw {c : Int} (h0 : 0 ≤ c) (h1 : c < 4294967296) : B (bw c) = c := by
  unfold bw B
  rw [BitVec.toNat_ofInt]; omega
theorem ofI (x : BitVec 32) : BitVec.ofInt 32 (B x) = x := bw_B x
theorem wB (x : BitVec 32) : IntKind.u32.wrap ((x.toNat : Nat) : Int) = B x := by have := x.isLt; rw [w_u32]; unfold B; omega
theorem iand_B (x y : BitVec 32) : iand .u32 (B x) (B y) = B (x &&& y) := by
  show IntKind.u32.wrap (((BitVec.ofInt 32 (B x) &&& BitVec.ofInt 32 (B y)).toNat : Nat) : Int) = _
  rw [ofI, ofI, wB]
theorem ior_B (x y : BitVec 32) : ior .u32 (B x) (B y) = B (x ||| y) := by
  show IntKind.u32.wrap (((BitVec.ofInt 32 (B x) ||| BitVec.ofInt 32 (B y)).toNat : Nat) : Int) = _
  rw [ofI, ofI, wB]
theorem ixor_B (x y : BitVec 32) : ixor .u32 (B x) (B y) = B (x ^^^ y) := by
  show IntKind.u32.wrap (((BitVec.ofInt 32 (B x) ^^^ BitVec.ofInt 32 (B y)).toNat : Nat) : Int) = _
  rw [ofI, ofI, wB]
theorem icompl_B (x : BitVec 32) : icompl .u32 (B x) = B (~~~x) := by
  have : (if IntKind.u32.signed = true then (-1 : Int) else IntKind.u32.max) = B (BitVec.allOnes 32) := by decide
  unfold icompl
  rw [this, ixor_B, BitVec.allOnes_xor]
theorem ishr_B (x : BitVec 32) {s : Int} (n : Nat) (hs : s = (n : Int)) (hn : n ≤ 32) : ishr .u32 (B x) s = B (x >>> n) := by
  subst hs
  show (B x).fdiv (2 ^ min (n : Int).toNat 32) = _
  have e : min (n : Int).toNat 32 = n := by omega
  rw [e, Int.fdiv_eq_ediv_of_nonneg _ (by have : (0 : Int) < 2 ^ n := Int.pow_pos (by decide)
                                          omega)]
  unfold B
  rw [BitVec.toNat_ushiftRight, Nat.shiftRight_eq_div_pow]
  norm_cast
theorem ishl_B (x : BitVec 32) {s : Int} (n : Nat) (hs : s = (n : Int)) (hn : n ≤ 32) : ishl .u32 (B x) s = B (x <<< n) := by
  subst hs
  show IntKind.u32.wrap (B x * 2 ^ min (n : Int).toNat 32) = _
  have e : min (n : Int).toNat 32 = n := by omega
  rw [e, w_u32]
  unfold B
  rw [BitVec.toNat_shiftLeft, Nat.shiftLeft_eq]
  have e2 : (x.toNat : Int) * 2 ^ n = ((x.toNat * 2 ^ n : Nat) : Int) := by norm_cast
  rw [e2]
  generalize x.toNat * 2 ^ n = q
  omega
theorem ineg_B (x : BitVec 32) : IntKind.u32.wrap (0 - B x) = B (-x) := by
  have := x.isLt
  rw [w_u32]; unfold B
  rw [BitVec.toNat_neg]; omega
theorem take_min (l : List Int) (n : Nat) : (l.drop (0 : Int).toNat).take (((min (l.length : Int) (n : Int)) : Int) - 0).toNat = l.take n := by
  rw [show (0 : Int).toNat = 0 from rfl, List.drop_zero, show ((min (l.length : Int) (n : Int)) - 0).toNat = min l.length n by omega]
  by_cases h : l.length ≤ n
  · rw [Nat.min_eq_left h, List.take_length, List.take_of_length_le h]
  · rw [Nat.min_eq_right (by omega)]
theorem ok_u8 {n : Int} (h : IntOk .u8 n) : 0 ≤ n ∧ n < 256 := by
  obtain ⟨h1, h2⟩ := h
  simp only [IntKind.min, IntKind.max, IntKind.signed, IntKind.bits] at h1 h2
  simp at h1 h2; omega
theorem ok_u32 {n : Int} (h : IntOk .u32 n) : 0 ≤ n ∧ n < 4294967296 := by
  obtain ⟨h1, h2⟩ := h
  simp only [IntKind.min, IntKind.max, IntKind.signed, IntKind.bits] at h1 h2
  simp at h1 h2; omega
theorem ok_i64 {n : Int} (h : IntOk .i64 n) : -9223372036854775808 ≤ n ∧ n ≤ 9223372036854775807 := by
  obtain ⟨h1, h2⟩ := h
  simp only [IntKind.min, IntKind.max, IntKind.signed, IntKind.bits] at h1 h2
  simp at h1 h2; omega
end Go.Pl
/-! Plain laws: numbers in digits. -/
namespace Go.Rel
open Go Go.Eng Go.Pl
/-! ### Bytes as strings -/
theorem foldl_push_size (l : List Int) (s : ByteArray) : (l.foldl (fun r n => r.push (UInt8.ofNat n.toNat)) s).size = s.size + l.length := by
  induction l generalizing s with
  | nil => simp
  | cons x l ih => rw [List.foldl_cons, ih, ByteArray.size_push, List.length_cons]; omega
theorem size_bstr (l : List Int) : (bstr l).size = l.length := by
  unfold bstr
  rw [foldl_push_size]
  show ByteArray.empty.size + _ = _
  simp
/-! ### Digits -/
/-! ### The library's -/
/-! ### The document's -/
end Go.Rel
/-! Plain laws: messages: fields, what is wrong with one. -/
namespace Go.Rel
open Go Go.Eng Go.Pl

abbrev Mg := Int × List Int × List (Int × Int) × List Int × ByteArray × ByteArray
abbrev Fd := ByteArray × Int × Int × Int × Int × Int × Int
/-! The reference's list. -/
/-! What is wrong with a part. -/
def numBad (m : Mg) (f : Fd) : Prop := m.2.1.getD f.2.2.1.toNat 0 < f.2.2.2.1 ∨ f.2.2.2.2.1 < m.2.1.getD f.2.2.1.toNat 0
instance (m : Mg) (f : Fd) : Decidable (numBad m f) := by unfold numBad; infer_instance
end Go.Rel
/-! Plain laws: are lists, messages the same; copies; the document's view of a message. -/
namespace Go.Rel
open Go Go.Eng Go.Pl

end Go.Rel
/-! Plain laws: what is wrong with a message: the program's answer and the document's. -/
namespace Go.Rel
open Go Go.Eng Go.Pl

def sortN (f : Fd) : Prop := f.2.1 ≠ 3 ∧ f.2.1 ≠ 4 ∧ f.2.1 ≠ 5 ∧ f.2.1 ≠ 6
instance (f : Fd) : Decidable (sortN f) := by unfold sortN; infer_instance
/-! The document's check. -/
end Go.Rel
/-! Plain laws: functions that are ranged over, as lists. -/
namespace Go.Pl
open Go Go.Eng
/-- The rounds over a list, until one stops. -/
inductive Run {X S : Type} (Y : X → S → Bool × S → Prop) : List X → S → S → Prop
  | nil {s : S} : Run Y [] s s
  | go {x : X} {xs : List X} {s s1 s' : S} (h : Y x s (true, s1)) (h' : Run Y xs s1 s') : Run Y (x :: xs) s s'
  | stop {x : X} {xs : List X} {s s' : S} (h : Y x s (false, s')) : Run Y (x :: xs) s s'
/-- The function goes through just that list. -/
def Itr {X : Type} (it : (S : Type) → (X → S → Bool × S → Prop) → S → S × Unit → Prop) (xs : List X) : Prop := ∀ S Y s s', Run Y xs s s' → it S Y s (s', ())
inductive RunB {X S E : Type} (B : X → S → Sum S E → Prop) : List X → S → Sum S E → Prop
  | nil {s : S} : RunB B [] s (.inl s)
  | go {x : X} {xs : List X} {s s1 : S} {t : Sum S E} (h : B x s (.inl s1)) (h' : RunB B xs s1 t) : RunB B (x :: xs) s t
  | stop {x : X} {xs : List X} {s : S} {e : E} (h : B x s (.inr e)) : RunB B (x :: xs) s (.inr e)
theorem run_yof {X S E : Type} {B : X → S → Sum S E → Prop} {xs : List X} {s : S} {t : Sum S E} (h : RunB B xs s t) : Run (Yof B) xs (.inl s) t := by
  induction h with
  | nil => exact .nil
  | go h _ ih => exact .go ⟨_, _, rfl, h, .inl ⟨_, rfl, rfl⟩⟩ ih
  | stop h => exact .stop ⟨_, _, rfl, h, .inr ⟨_, rfl, rfl⟩⟩
/-- Rounds by what holds ahead of each. -/
theorem runB_inv {X S E : Type} {B : X → S → Sum S E → Prop} (I : Nat → S → Prop) (Q : E → Prop) (xs : List X) {s : S} (h0 : I 0 s)
    (hs : ∀ k (hk : k < xs.length) s, I k s → (∃ s', B xs[k] s (.inl s') ∧ I (k + 1) s') ∨ ∃ e, B xs[k] s (.inr e) ∧ Q e) : ∃ t, RunB B xs s t ∧ ((∃ s', t = .inl s' ∧ I xs.length s') ∨ ∃ e, t = .inr e ∧ Q e) := by
  have key : ∀ (ys : List X) (k : Nat) (s : S), k + ys.length = xs.length → (∀ j (hj : j < ys.length), xs[k + j]? = some ys[j]) → I k s → ∃ t, RunB B ys s t ∧ ((∃ s', t = .inl s' ∧ I xs.length s') ∨ ∃ e, t = .inr e ∧ Q e) := by
    intro ys
    induction ys with
    | nil => intro k s hk _ hi; exact ⟨_, .nil, .inl ⟨s, rfl, by simp at hk; rw [← hk]; exact hi⟩⟩
    | cons y ys ih =>
      intro k s hk hat hi
      have hkl : k < xs.length := by simp at hk; omega
      have hy : xs[k] = y := by
        have := hat 0 (by simp)
        rw [Nat.add_zero, List.getElem?_eq_getElem hkl] at this
        simpa using this
      rcases hs k hkl s hi with ⟨s', h1, h2⟩ | ⟨e, h1, h2⟩
      · rw [hy] at h1
        obtain ⟨t, h3, h4⟩ := ih (k + 1) s' (by simp at hk; omega) (fun j hj => by
          have := hat (j + 1) (by simp; omega)
          rw [show k + 1 + j = k + (j + 1) by omega, this]; simp) h2
        exact ⟨t, .go h1 h3, h4⟩
      · rw [hy] at h1
        exact ⟨_, .stop h1, .inr ⟨e, rfl, h2⟩⟩
  exact key xs 0 s (by omega) (fun j hj => by simp [hj]) h0
/-- Rounds that each go on, and what they make of a state. -/
theorem runB_fold {X S E : Type} {B : X → S → Sum S E → Prop} (f : S → X → S) : ∀ (xs : List X) (s : S), (∀ p x q, xs = p ++ x :: q → B x (p.foldl f s) (.inl (f (p.foldl f s) x))) → RunB B xs s (.inl (xs.foldl f s))
  | [], s, _ => .nil
  | x :: xs, s, h => .go (h [] x xs rfl) (runB_fold f xs (f s x) (fun p y q e => h (x :: p) y q (by rw [e]; rfl)))
end Go.Pl
/-! Plain laws: the line of a message: the program's and the document's. -/
namespace Go.Rel
open Go Go.Eng Go.Pl

def hexD (n : Int) : Int := if n < 10 then 48 + n else 87 + n
def digs : List Int := [48, 49, 50, 51, 52, 53, 54, 55, 56, 57, 97, 98, 99, 100, 101, 102]
theorem digs_lit : bints (bstr [48, 49, 50, 51, 52, 53, 54, 55, 56, 57, 97, 98, 99, 100, 101, 102]) = digs := rfl
structure MgOk (m : Mg) : Prop where
  kind : IntOk .i64 m.1
  six : m.2.1.length = 6
  num : ∀ x ∈ m.2.1, IntOk .i64 x
  path : ∀ p ∈ m.2.2.1, IntOk .i64 p.1 ∧ IntOk .i64 p.2
  cells : ∀ x ∈ m.2.2.2.1, IntOk .i64 x
  lpath : m.2.2.1.length ≤ 1000
  lcells : m.2.2.2.1.length ≤ 1000
  ltext : m.2.2.2.2.1.size ≤ 1000
  ltag : m.2.2.2.2.2.size ≤ 1000
theorem MgOk.at {m : Mg} (ok : MgOk m) (p : Nat) : IntOk .i64 (m.2.1.getD p 0) := by
  rw [List.getD_eq_getElem?_getD]
  cases h : m.2.1[p]? with
  | none => exact ⟨by decide, by decide⟩
  | some x => exact ok.num x (List.mem_of_getElem? h)
end Go.Rel
/-! Plain laws: what a line tells is told back: digits, signs between, hexadecimal digits; two messages with one line. -/
namespace Go.Rel
open Go Go.Eng Go.Pl

/-! Lines are bytes. -/
abbrev Oct (l : List Int) : Prop := ∀ x ∈ l, 0 ≤ x ∧ x < 256
theorem bb_of {l : List Int} (h : Oct l) : bints (bstr l) = l := by
  have key : ∀ (l : List Int) (s : ByteArray), Oct l → bints (l.foldl (fun r n => r.push (UInt8.ofNat n.toNat)) s) = bints s ++ l := by
    intro l
    induction l with
    | nil => intro s _; simp
    | cons x l ih =>
      intro s h
      rw [List.foldl_cons, ih _ (fun y hy => h y (by simp [hy]))]
      have hx := h x (by simp)
      have : bints (s.push (UInt8.ofNat x.toNat)) = bints s ++ [x] := by
        unfold bints
        simp only [ByteArray.push, Array.toList_push, List.map_append, List.map_cons, List.map_nil]
        congr 2
        rw [UInt8.toNat_ofNat', Nat.mod_eq_of_lt (by omega)]; omega
      rw [this]; simp
  have := key l ByteArray.empty h
  simpa [bstr, bints] using this
theorem bs_inj {a b : List Int} (ha : Oct a) (hb : Oct b) (h : bstr a = bstr b) : a = b := by rw [← bb_of ha, h, bb_of hb]
end Go.Rel
/-! Plain laws: strings cut at a byte. -/
namespace Go.Rel
open Go Go.Eng Go.Pl
theorem bstr_arr (ns : List Int) : bstr ns = ⟨(ns.map fun n => UInt8.ofNat n.toNat).toArray⟩ := by
  have key : ∀ (l : List Int) (s : ByteArray), l.foldl (fun r n => r.push (UInt8.ofNat n.toNat)) s = ⟨s.data ++ (l.map fun n => UInt8.ofNat n.toNat).toArray⟩ := by
    intro l
    induction l with
    | nil => intro s; simp
    | cons x l ih =>
      intro s
      rw [List.foldl_cons, ih]
      apply ByteArray.ext
      simp [ByteArray.push]
  have := key ns ByteArray.empty
  unfold bstr
  rw [this]
  apply ByteArray.ext
  simp
theorem run_lone {X S : Type} {Y : X → S → Bool × S → Prop} {x : X} {s s' : S} (h : Run Y [x] s s') : ∃ b, Y x s (b, s') := by
  cases h with
  | go h h' => cases h'; exact ⟨true, h⟩
  | stop h => exact ⟨false, h⟩
theorem ext_bstr (l : List Int) (a b : Nat) : (bstr l).extract a b = bstr ((l.take b).drop a) := by
  rw [bstr_arr, bstr_arr]
  apply ByteArray.ext
  rw [ByteArray.data_extract]
  apply Array.toList_inj.1
  rw [Array.toList_extract, List.extract_eq_take_drop, List.map_drop, List.map_take, List.take_drop]
  simp only
  by_cases h : a ≤ b
  · rw [Nat.add_sub_cancel' h]
  · rw [Nat.sub_eq_zero_of_le (by omega), Nat.add_zero, List.drop_eq_nil_of_le (by rw [List.length_take]; omega), List.drop_eq_nil_of_le (by rw [List.length_take]; omega)]
theorem place_no {l : List Int} {c : Int} (h : c ∉ l) : ((l.findIdx? (fun x => decide (x = c))).map Int.ofNat).getD (-1) = -1 := by
  rw [List.findIdx?_eq_none_iff.2 (fun x hx => decide_eq_false (fun e : x = c => h (e ▸ hx)))]; rfl
theorem place_at {p q : List Int} {c : Int} (h : c ∉ p) : (((p ++ c :: q).findIdx? (fun x => decide (x = c))).map Int.ofNat).getD (-1) = (p.length : Int) := by
  have : (p ++ c :: q).findIdx? (fun x => decide (x = c)) = some p.length := by
    rw [List.findIdx?_append, List.findIdx?_eq_none_iff.2 (fun x hx => decide_eq_false (fun e : x = c => h (e ▸ hx)))]
    simp [List.findIdx?_cons]
  rw [this]; rfl
theorem first_at (c : Int) (l : List Int) : c ∉ l ∨ ∃ p q, l = p ++ c :: q ∧ c ∉ p := by
  by_cases h : c ∈ l
  · obtain ⟨p, q, h1, h2⟩ := List.eq_append_cons_of_mem h
    exact .inr ⟨p, q, h1, h2⟩
  · exact .inl h
def glue (a : List Int) : List (List Int) → List (List Int)
  | [] => [a]
  | p :: ps => (a ++ p) :: ps
/-- The parts between a byte. -/
def splitL (c : Int) : List Int → List (List Int)
  | [] => [[]]
  | x :: l => if x = c then [] :: splitL c l else glue [x] (splitL c l)
theorem splitL_ne (c : Int) : ∀ l, splitL c l ≠ []
  | [] => by simp [splitL]
  | x :: l => by
    unfold splitL
    split
    · simp
    · cases splitL c l <;> simp [glue]
theorem splitL_no {c : Int} : ∀ {l : List Int}, c ∉ l → splitL c l = [l]
  | [], _ => rfl
  | x :: l, h => by
    rw [splitL, if_neg (fun e : x = c => h (by rw [← e]; exact List.mem_cons_self)), splitL_no (fun hm => h (List.mem_cons_of_mem _ hm))]; rfl
theorem splitL_at {c : Int} {q : List Int} : ∀ {p : List Int}, c ∉ p → splitL c (p ++ c :: q) = p :: splitL c q
  | [], _ => by rw [List.nil_append, splitL, if_pos rfl]
  | x :: p, h => by
    rw [List.cons_append, splitL, if_neg (fun e : x = c => h (by rw [← e]; exact List.mem_cons_self)), splitL_at (fun hm => h (List.mem_cons_of_mem _ hm))]; rfl
theorem one_bints {c : Int} (h : 0 ≤ c ∧ c < 256) : bints (bstr [c]) = [c] := bb_of (fun x hx => by simp at hx; subst hx; exact h)
theorem oct_ap2 {p q : List Int} (h : Oct (p ++ q)) : Oct p ∧ Oct q := ⟨fun x hx => h x (List.mem_append_left _ hx), fun x hx => h x (List.mem_append_right _ hx)⟩
theorem oct_tl2 {x : Int} {q : List Int} (h : Oct (x :: q)) : Oct q := fun y hy => h y (List.mem_cons_of_mem _ hy)
theorem take_mid (p : List Int) (c : Int) (q : List Int) : ((p ++ c :: q).take p.length).drop 0 = p ∧ ((p ++ c :: q).take (p ++ c :: q).length).drop (p.length + 1) = q := by
  constructor
  · simp
  · rw [List.take_length, ← List.drop_drop]; simp
/-- strings.SplitSeq at one byte, as a list. -/
theorem splitSeq_itr {c : Int} (hc : 0 ≤ c ∧ c < 256) {S : Type} {Y : ByteArray → S → Bool × S → Prop} {s' : S} : ∀ (n : Nat) (l : List Int), l.length ≤ n → n < 1000000000 → Oct l → ∀ s, Run Y ((splitL c l).map bstr) s s' →
    ∃ rest e, Loops (strings_splitSeq_1_l4 S Y (bstr [c]) 0) (s, bstr l) e ∧ Aft (fun p52 => strings_splitSeq_1_j3 S Y p52 (s', rest)) (fun p53 => (s', rest) = p53) e := by
  intro n
  induction n with
  | zero =>
    intro l hl _ ho s hr
    obtain rfl := List.eq_nil_of_length_eq_zero (Nat.le_zero.1 hl)
    obtain ⟨y, hy⟩ := run_lone hr
    refine ⟨bstr [], .inl (s, bstr []), .done ⟨-1, ⟨c, one_bints hc, ?_⟩, ?_⟩, y, s', hy, rfl⟩
    · rw [bb_of ho, place_no (by simp)]
    · rw [if_pos (by decide)]
  | succ n ih =>
    intro l hl hn ho s hr
    rcases first_at c l with h | ⟨p, q, rfl, h⟩
    · rw [splitL_no h] at hr
      obtain ⟨y, hy⟩ := run_lone hr
      refine ⟨bstr l, .inl (s, bstr l), .done ⟨-1, ⟨c, one_bints hc, ?_⟩, ?_⟩, y, s', hy, rfl⟩
      · rw [bb_of ho, place_no h]
      · rw [if_pos (by decide)]
    · rw [splitL_at h] at hr
      obtain ⟨m1, m2⟩ := take_mid p c q
      have ho2 := oct_ap2 ho
      simp only [List.length_append, List.length_cons] at hl
      have w1 : IntKind.i64.wrap ((p.length : Int) + 0) = (p.length : Int) := by rw [w_small (by omega) (by omega)]; omega
      have w2 : IntKind.i64.wrap ((p.length : Int) + ((bstr [c]).size : Int)) = ((p.length + 1 : Nat) : Int) := by
        rw [size_bstr, w_small (by simp only [List.length_cons, List.length_nil]; omega) (by simp only [List.length_cons, List.length_nil]; omega)]; rfl
      have hsz : (bstr (p ++ c :: q)).size = (p ++ c :: q).length := size_bstr _
      have stp : ∀ y u, Y (bstr p) s (y, u) → strings_splitSeq_1_l4 S Y (bstr [c]) 0 (s, bstr (p ++ c :: q)) (if y = true then .inl (u, bstr q) else .inr (.inr (u, bstr (p ++ c :: q)))) := by
        intro y u hy
        refine ⟨(p.length : Int), ⟨c, one_bints hc, by rw [bb_of ho, place_at h]⟩, ?_⟩
        rw [if_neg (by simp)]
        simp only
        rw [w1, w2, hsz, ext_bstr, ext_bstr, Int.toNat_natCast, Int.toNat_natCast, m1, m2]
        simp only [List.length_append, List.length_cons]
        refine ⟨by omega, by omega, y, u, hy, ?_⟩
        cases y with
        | true => rw [if_neg (by decide)]; exact ⟨by omega, by omega, rfl⟩
        | false => rw [if_pos (by decide)]; rfl
      rw [List.map_cons] at hr
      cases hr with
      | go h1 h2 =>
        obtain ⟨rest, e, h3, h4⟩ := ih q (by omega) (by omega) (oct_tl2 ho2.2) _ h2
        exact ⟨rest, e, .next (stp true _ h1) h3, h4⟩
      | stop h1 => exact ⟨_, _, .done (stp false _ h1), rfl⟩
theorem split_itr {c : Int} (hc : 0 ≤ c ∧ c < 256) {l : List Int} (hl : l.length < 1000000000) (ho : Oct l) {S : Type} {Y : ByteArray → S → Bool × S → Prop} {s s' : S} (h : Run Y ((splitL c l).map bstr) s s') : ∃ rest, strings_splitSeq_1 (bstr [c]) 0 (bstr l) S Y s (s', rest) := by
  obtain ⟨rest, e, h1, h2⟩ := splitSeq_itr hc l.length l (Nat.le_refl _) hl ho s h
  refine ⟨rest, ?_⟩
  unfold strings_splitSeq_1
  rw [if_neg (by simp [size_bstr])]
  exact ⟨e, h1, h2⟩
theorem splitSeq_ok (l : List Int) (c : Int) : strings_SplitSeq (bstr l) (bstr [c]) (strings_splitSeq_1 (bstr [c]) 0, bstr l) := ⟨_, rfl, rfl⟩
end Go.Rel
/-! Plain laws: bytes in digits of 16, read and written. -/
namespace Go.Rel
open Go Go.Eng Go.Pl
/-- A digit's value. -/
def hv (c : Int) : Option Int := if 48 ≤ c ∧ c ≤ 57 then some (c - 48) else if 97 ≤ c ∧ c ≤ 102 then some (c - 87) else none
theorem hv_some {c n : Int} (h : hv c = some n) : 0 ≤ n ∧ n < 16 ∧ hexD n = c := by
  unfold hv at h
  split at h
  · cases h; unfold hexD; rw [if_pos (by omega)]; omega
  · split at h
    · cases h; unfold hexD; rw [if_neg (by omega)]; omega
    · cases h
set_option maxRecDepth 100000 in
theorem place_all : ∀ k : Nat, k < 256 → ((digs.findIdx? (fun x => decide (x = (k : Int)))).map Int.ofNat).getD (-1) = (hv (k : Int)).getD (-1) := by decide
theorem place_hv {c : Int} (h : 0 ≤ c ∧ c < 256) : strings_IndexByte (bstr [48, 49, 50, 51, 52, 53, 54, 55, 56, 57, 97, 98, 99, 100, 101, 102]) c ((hv c).getD (-1)) := by
  refine ⟨⟨h.1, by show c ≤ (255 : Int); omega⟩, ?_⟩
  rw [digs_lit]
  have := place_all c.toNat (by omega)
  rw [Int.toNat_of_nonneg h.1] at this
  exact this.symm
/-- Bytes of pairs of digits. -/
def unhexL : List Int → Option (List Int)
  | [] => some []
  | [_] => none
  | a :: b :: l => match hv a, hv b, unhexL l with
    | some x, some y, some r => some ((16 * x + y) :: r)
    | _, _, _ => none
set_option maxRecDepth 10000 in
def unhexR (w : List Int) : List Int × Int := if w = [45] then ([], 0) else if w = [] then ([], 3) else match unhexL w with
  | none => ([], 3)
  | some r => (r, 0)
theorem unhexL_odd : ∀ (n : Nat) (l : List Int), l.length ≤ n → l.length % 2 = 1 → unhexL l = none
  | 0, l, h, h2 => by omega
  | n + 1, [], h, h2 => by simp at h2
  | n + 1, [x], h, h2 => rfl
  | n + 1, a :: b :: l, h, h2 => by
    simp only [List.length_cons] at h h2
    have := unhexL_odd n l (by omega) (by omega)
    simp only [unhexL, this]
    cases hv a <;> cases hv b <;> rfl
theorem bstr_ne {w v : List Int} (ho : Oct w) (hv : Oct v) (h : w ≠ v) : ¬ decide (bstr w = bstr v) = true := by
  rw [decide_eq_true_eq]; exact fun e => h (bs_inj ho hv e)
end Go.Rel
