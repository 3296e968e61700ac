import Derived.Test.YtonmgcebhhdplaaGreatEngP
import Derived.Test.YtonmgcebhhdplaaGreatURel
/-! Plain laws: whole numbers of a kind; loops that count. -/
namespace Go.Pl
open Go Go.Eng

theorem w_u8 (n : Int) : IntKind.u8.wrap n = n % 256 := by simp [IntKind.wrap, IntKind.bits, IntKind.signed]
theorem w_u32 (n : Int) : IntKind.u32.wrap n = n % 4294967296 := by simp [IntKind.wrap, IntKind.bits, IntKind.signed]
theorem w_u64 (n : Int) : IntKind.u64.wrap n = n % 18446744073709551616 := by simp [IntKind.wrap, IntKind.bits, IntKind.signed]
theorem w_i64 (n : Int) : IntKind.i64.wrap n = (n + 9223372036854775808) % 18446744073709551616 - 9223372036854775808 := by
  simp only [IntKind.wrap, IntKind.bits, IntKind.signed]
  simp only [Bool.true_and]
  split
  · rename_i h; simp at h; omega
  · rename_i h; simp at h; omega
theorem w_small {n : Int} (h0 : -9223372036854775808 ≤ n) (h1 : n ≤ 9223372036854775807) : IntKind.i64.wrap n = n := by rw [w_i64]; omega
theorem w32_small {n : Int} (h0 : 0 ≤ n) (h1 : n < 4294967296) : IntKind.u32.wrap n = n := by rw [w_u32]; omega
theorem w64_small {n : Int} (h0 : 0 ≤ n) (h1 : n < 18446744073709551616) : IntKind.u64.wrap n = n := by rw [w_u64]; omega

theorem iand_one {a : Int} (h0 : 0 ≤ a) (h1 : a < 18446744073709551616) : iand .u64 a 1 = a % 2 := by
  obtain ⟨n, rfl⟩ := Int.eq_ofNat_of_zero_le h0
  have h2 : n < 2 ^ 64 := by omega
  have : (BitVec.ofInt 64 (n : Int) &&& BitVec.ofInt 64 1).toNat = n % 2 := by
    rw [BitVec.toNat_and]
    have e1 : (BitVec.ofInt 64 (n : Int)).toNat = n := by rw [BitVec.ofInt_natCast, BitVec.toNat_ofNat, Nat.mod_eq_of_lt h2]
    have e2 : (BitVec.ofInt 64 (1 : Int)).toNat = 1 := by decide
    rw [e1, e2, Nat.and_one_is_mod]
  show IntKind.u64.wrap (((BitVec.ofInt 64 (n : Int) &&& BitVec.ofInt 64 1).toNat : Nat) : Int) = _
  rw [this, w_u64]; omega
theorem ishr_u64 {a s : Int} (h0 : 0 ≤ s) (h1 : s ≤ 64) : ishr .u64 a s = a / 2 ^ s.toNat := by
  show a.fdiv (2 ^ min s.toNat 64) = _
  have e : min s.toNat 64 = s.toNat := by omega
  rw [e]
  have : (0 : Int) < 2 ^ s.toNat := Int.pow_pos (by decide)
  rw [Int.fdiv_eq_ediv_of_nonneg _ (by omega)]

theorem loops_count {S E : Type} {step : S → Sum S E → Prop} (f : Nat → S) (N : Nat) {e : E} (hstep : ∀ k, k < N → step (f k) (.inl (f (k + 1)))) (hend : step (f N) (.inr e)) : Loops step (f 0) e := by
  have key : ∀ m k, k + m = N → Loops step (f k) e := by
    intro m
    induction m with
    | zero => intro k hk; have : k = N := by omega
              subst this; exact .done hend
    | succ m ih => intro k hk; exact .next (hstep k (by omega)) (ih (k + 1) (by omega))
  exact key N 0 (by omega)
end Go.Pl
/-! Plain laws: loops by what holds; words of 32 bits. -/
namespace Go.Pl
open Go Go.Eng

theorem loops_inv {S E : Type} {step : S → Sum S E → Prop} (I : Nat → S → Prop) (Q : E → Prop) (N : Nat) {s : S} (h0 : I 0 s)
    (hs : ∀ k s, k < N → I k s → (∃ s', step s (.inl s') ∧ I (k + 1) s') ∨ ∃ e, step s (.inr e) ∧ Q e) (he : ∀ s, I N s → ∃ e, step s (.inr e) ∧ Q e) : ∃ e, Loops step s e ∧ Q e := by
  have key : ∀ m k s, k + m = N → I k s → ∃ e, Loops step s e ∧ Q e := by
    intro m
    induction m with
    | zero =>
      intro k s hk hi
      have : k = N := by omega
      subst this
      obtain ⟨e, h1, h2⟩ := he s hi
      exact ⟨e, .done h1, h2⟩
    | succ m ih =>
      intro k s hk hi
      rcases hs k s (by omega) hi with ⟨s', h1, h2⟩ | ⟨e, h1, h2⟩
      · obtain ⟨e, h3, h4⟩ := ih (k + 1) s' (by omega) h2
        exact ⟨e, .next h1 h3, h4⟩
      · exact ⟨e, .done h1, h2⟩
  exact key N 0 s (by omega) h0
theorem idx_of {α : Type} {xs : List α} {k : Nat} (h : k < xs.length) : idx xs (k : Int) xs[k] := ⟨by omega, by simp [h]⟩
theorem idx_at {α : Type} {xs : List α} {i : Int} {k : Nat} {x : α} (hi : i = (k : Int)) (h : xs[k]? = some x) : idx xs i x := by
  subst hi; exact ⟨by omega, by simpa using h⟩
theorem putN_getD {α : Type} {n : Nat} {z v : α} {xs : List α} {q j : Nat} (hj : j < n) : (putN n z xs q v).getD j z = if j = q then v else xs.getD j z := by
  simp only [putN, List.getD_eq_getElem?_getD, List.getElem?_map]
  rw [List.getElem?_range hj]; rfl

def B (x : BitVec 32) : Int := (x.toNat : Int)
end Go.Pl
/-! Plain laws: sums over bytes. -/
namespace Go.Rel
open Go Go.Eng Go.Pl

def polyB : BitVec 32 := 3988292384#32
def st1 (w : BitVec 32) : BitVec 32 := (w >>> 1) ^^^ (polyB &&& -(w &&& 1#32))
def itS : Nat → BitVec 32 → BitVec 32
  | 0, w => w
  | k + 1, w => st1 (itS k w)
def IsTab (t : List Int) : Prop := ∀ k i, k < 4 → i < 256 → t.getD (k * 256 + i) 0 = B (itS (8 * (k + 1)) (BitVec.ofNat 32 i))
def Byt (l : List Int) : Prop := ∀ x ∈ l, 0 ≤ x ∧ x < 256
theorem Byt.drop {l : List Int} (h : Byt l) (n : Nat) : Byt (l.drop n) := fun x hx => h x (List.mem_of_mem_drop hx)
theorem Byt.take {l : List Int} (h : Byt l) (n : Nat) : Byt (l.take n) := fun x hx => h x (List.mem_of_mem_take hx)
section
variable {t : List Int} (ht : IsTab t)
include ht
end

end Go.Rel
/-! Plain laws: the document's sums. -/
namespace Go.Rel
open Go Go.Eng Go.Pl
end Go.Rel
/-! Plain laws: functions that are ranged over, as lists. -/
namespace Go.Pl
open Go Go.Eng
inductive Run {X S : Type} (Y : X → S → Bool × S → Prop) : List X → S → S → Prop
  | nil {s : S} : Run Y [] s s
  | go {x : X} {xs : List X} {s s1 s' : S} (h : Y x s (true, s1)) (h' : Run Y xs s1 s') : Run Y (x :: xs) s s'
  | stop {x : X} {xs : List X} {s s' : S} (h : Y x s (false, s')) : Run Y (x :: xs) s s'
def Itr {X : Type} (it : (S : Type) → (X → S → Bool × S → Prop) → S → S × Unit → Prop) (xs : List X) : Prop := ∀ S Y s s', Run Y xs s s' → it S Y s (s', ())
inductive RunB {X S E : Type} (B : X → S → Sum S E → Prop) : List X → S → Sum S E → Prop
  | nil {s : S} : RunB B [] s (.inl s)
  | go {x : X} {xs : List X} {s s1 : S} {t : Sum S E} (h : B x s (.inl s1)) (h' : RunB B xs s1 t) : RunB B (x :: xs) s t
  | stop {x : X} {xs : List X} {s : S} {e : E} (h : B x s (.inr e)) : RunB B (x :: xs) s (.inr e)
theorem run_yof {X S E : Type} {B : X → S → Sum S E → Prop} {xs : List X} {s : S} {t : Sum S E} (h : RunB B xs s t) : Run (Yof B) xs (.inl s) t := by
  induction h with
  | nil => exact .nil
  | go h _ ih => exact .go ⟨_, _, rfl, h, .inl ⟨_, rfl, rfl⟩⟩ ih
  | stop h => exact .stop ⟨_, _, rfl, h, .inr ⟨_, rfl, rfl⟩⟩
theorem runB_inv {X S E : Type} {B : X → S → Sum S E → Prop} (I : Nat → S → Prop) (Q : E → Prop) (xs : List X) {s : S} (h0 : I 0 s)
    (hs : ∀ k (hk : k < xs.length) s, I k s → (∃ s', B xs[k] s (.inl s') ∧ I (k + 1) s') ∨ ∃ e, B xs[k] s (.inr e) ∧ Q e) : ∃ t, RunB B xs s t ∧ ((∃ s', t = .inl s' ∧ I xs.length s') ∨ ∃ e, t = .inr e ∧ Q e) := by
  have key : ∀ (ys : List X) (k : Nat) (s : S), k + ys.length = xs.length → (∀ j (hj : j < ys.length), xs[k + j]? = some ys[j]) → I k s → ∃ t, RunB B ys s t ∧ ((∃ s', t = .inl s' ∧ I xs.length s') ∨ ∃ e, t = .inr e ∧ Q e) := by
    intro ys
    induction ys with
    | nil => intro k s hk _ hi; exact ⟨_, .nil, .inl ⟨s, rfl, by simp at hk; rw [← hk]; exact hi⟩⟩
    | cons y ys ih =>
      intro k s hk hat hi
      have hkl : k < xs.length := by simp at hk; omega
      have hy : xs[k] = y := by
        have := hat 0 (by simp)
        rw [Nat.add_zero, List.getElem?_eq_getElem hkl] at this
        simpa using this
      rcases hs k hkl s hi with ⟨s', h1, h2⟩ | ⟨e, h1, h2⟩
      · rw [hy] at h1
        obtain ⟨t, h3, h4⟩ := ih (k + 1) s' (by simp at hk; omega) (fun j hj => by
          have := hat (j + 1) (by simp; omega)
          rw [show k + 1 + j = k + (j + 1) by omega, this]; simp) h2
        exact ⟨t, .go h1 h3, h4⟩
      · rw [hy] at h1
        exact ⟨_, .stop h1, .inr ⟨e, rfl, h2⟩⟩
  exact key xs 0 s (by omega) (fun j hj => by simp [hj]) h0
end Go.Pl
/-! Plain laws: bytes read from the left, bytes written. -/
namespace Go.Rel
open Go Go.Eng Go.Pl
def leV : List Int → Int
  | [] => 0
  | c :: l => leV l * 256 + c
theorem leV_bound : ∀ (l : List Int), Byt l → 0 ≤ leV l ∧ leV l < ((256 ^ l.length : Nat) : Int)
  | [], _ => by simp [leV]
  | c :: l, h => by
    have h1 := leV_bound l (fun x hx => h x (List.mem_cons_of_mem _ hx))
    have h2 := h c List.mem_cons_self
    simp only [leV, List.length_cons, Nat.pow_succ]
    omega
theorem leV_drop {l : List Int} {k : Nat} (h : k < l.length) : leV (l.drop k) = leV (l.drop (k + 1)) * 256 + l[k] := by
  rw [List.drop_eq_getElem_cons h]; rfl
theorem ior_32 {s c : Int} (hs : 0 ≤ s ∧ s < 16777216) (hc : 0 ≤ c ∧ c < 256) : ior .u32 (ishl .u32 s 8) c = s * 256 + c := by
  obtain ⟨a, rfl⟩ := Int.eq_ofNat_of_zero_le hs.1
  obtain ⟨b, rfl⟩ := Int.eq_ofNat_of_zero_le hc.1
  have e1 : ishl .u32 (a : Int) 8 = ((a * 256 : Nat) : Int) := by
    show IntKind.u32.wrap ((a : Int) * 2 ^ min (8 : Int).toNat 32) = _
    rw [show min (8 : Int).toNat 32 = 8 from rfl, w_u32]; omega
  rw [e1]
  show IntKind.u32.wrap (((BitVec.ofInt 32 ((a * 256 : Nat) : Int) ||| BitVec.ofInt 32 (b : Int)).toNat : Nat) : Int) = _
  rw [BitVec.ofInt_natCast, BitVec.ofInt_natCast, BitVec.toNat_or, BitVec.toNat_ofNat, BitVec.toNat_ofNat, Nat.mod_eq_of_lt (by omega), Nat.mod_eq_of_lt (by omega)]
  have e2 : a * 256 ||| b = a * 256 + b := by
    have := Nat.shiftLeft_add_eq_or_of_lt (show b < 2 ^ 8 by omega) a
    rw [Nat.shiftLeft_eq] at this; exact this.symm
  rw [e2, w_u32]; omega
def backL (l : List Int) : List (Int × Int) := (List.range l.length).map fun k => (((l.length - 1 - k : Nat) : Int), l.getD (l.length - 1 - k) 0)
theorem backward_ok {l : List Int} (hl : l.length < 4611686018427387904) : Itr (slices_Backward_byte_byte_1 l) (backL l) := by
  intro S Y s s' hr
  refine ⟨(s', ()), ?_, rfl⟩
  have key : ∀ (m : Nat) (s : S), m ≤ l.length → Run Y ((backL l).drop (l.length - m)) s s' → Loops (slices_Backward_byte_byte_1_l1 S Y l) (s, (m : Int) - 1) (s', ()) := by
    intro m
    induction m with
    | zero =>
      intro s _ hr
      rw [List.drop_eq_nil_of_le (by simp [backL])] at hr
      cases hr
      refine .done ?_
      unfold slices_Backward_byte_byte_1_l1
      rw [if_neg (by simp)]
    | succ m ih =>
      intro s hm hr
      have hk : l.length - (m + 1) < (backL l).length := by simp [backL]; omega
      rw [List.drop_eq_getElem_cons hk] at hr
      have hx : (backL l)[l.length - (m + 1)] = ((m : Int), l[m]) := by
        simp only [backL, List.getElem_map, List.getElem_range]
        rw [show l.length - 1 - (l.length - (m + 1)) = m by omega, List.getD_eq_getElem?_getD, List.getElem?_eq_getElem (by omega)]; rfl
      rw [hx, show l.length - (m + 1) + 1 = l.length - m by omega] at hr
      have hs : ∀ b u, Y ((m : Int), l[m]) s (b, u) → slices_Backward_byte_byte_1_l1 S Y l (s, ((m + 1 : Nat) : Int) - 1) (if b = true then .inl (u, (m : Int) - 1) else .inr (u, ())) := by
        intro b u hy
        unfold slices_Backward_byte_byte_1_l1
        rw [show ((m + 1 : Nat) : Int) - 1 = (m : Int) by omega]
        simp only
        rw [if_pos (by simp)]
        refine ⟨l[m], idx_of (by omega), b, u, hy, ?_⟩
        cases b with
        | true => rw [if_neg (by decide), w_small (by omega) (by omega)]; rfl
        | false => rw [if_pos (by decide)]; rfl
      cases hr with
      | go h h' => exact .next (hs true _ h) (ih _ (by omega) h')
      | stop h => exact .done (hs false _ h)
  have := key l.length s (Nat.le_refl _) (by simpa using hr)
  rw [w_small (by omega) (by omega)]
  exact this
theorem byt_at {l : List Int} (hl : Byt l) {k : Nat} (h : k < l.length) : 0 ≤ l[k] ∧ l[k] < 256 := hl _ (List.getElem_mem h)
theorem word1_ok {l : List Int} (hl : Byt l) (_hlen : l.length < 4611686018427387904) {n : Nat} (hn : n ≤ 4) (h : n ≤ l.length) : lens_Lens_word_1 l (n : Int) 0 ((n : Int), 0, leV (l.take n)) := by
  unfold lens_Lens_word_1
  have e : (l.drop (0 : Int).toNat).take (((n : Int) : Int) - 0).toNat = l.take n := by
    rw [show (0 : Int).toNat = 0 from rfl, List.drop_zero]; congr 1
  rw [if_neg (by simp; omega), e]
  refine ⟨by omega, by omega, _, rfl, ?_⟩
  have hb : Byt (l.take n) := hl.take n
  have hln : (l.take n).length = n := by rw [List.length_take]; omega
  generalize l.take n = q at hb hln
  subst hln
  obtain ⟨t, h1, h2⟩ := runB_inv (B := lens_Lens_word_1_l1) (s := 0) (fun k (s : Int) => s = leV (q.drop (q.length - k))) (fun _ => False) (backL q) (by simp [leV]) (by
    rintro k hk s rfl
    left
    have hkl : k < q.length := by simpa [backL] using hk
    refine ⟨_, ?_, rfl⟩
    have hx : (backL q)[k] = (((q.length - 1 - k : Nat) : Int), q[q.length - 1 - k]'(by omega)) := by
      simp only [backL, List.getElem_map, List.getElem_range]
      rw [List.getD_eq_getElem?_getD, List.getElem?_eq_getElem (by omega)]; rfl
    have hc := byt_at hb (show q.length - 1 - k < q.length by omega)
    have hv := leV_bound (q.drop (q.length - k)) (hb.drop _)
    have hp : 256 ^ (q.drop (q.length - k)).length ≤ 256 ^ 3 := Nat.pow_le_pow_right (by omega) (by rw [List.length_drop]; omega)
    unfold lens_Lens_word_1_l1
    rw [hx]
    simp only
    rw [w32_small (n := q[q.length - 1 - k]'(by omega)) (by omega) (by omega), ior_32 ⟨hv.1, by omega⟩ hc, show q.length - (k + 1) = q.length - 1 - k by omega, leV_drop (show q.length - 1 - k < q.length by omega), show q.length - 1 - k + 1 = q.length - k by omega])
  rcases h2 with ⟨s', rfl, h2⟩ | ⟨e, _, hf⟩
  · refine ⟨.inl s', (), backward_ok (by omega) _ _ _ _ (run_yof h1), ?_⟩
    show _ = _
    rw [h2]; simp [backL]
  · exact hf.elim
theorem left_ok {b : List Int} {at_ : Nat} {e : Int} (h : at_ ≤ b.length) : lens_Lens_left (b, (at_ : Int), e) (b.drop at_) := by
  unfold lens_Lens_left
  refine ⟨by simp, by simp; omega, Int.le_refl _, Int.le_refl _, Int.le_refl _, ?_⟩
  simp only [Int.toNat_natCast]
  rw [List.take_of_length_le (by rw [List.length_drop]; omega)]
theorem lword_ok {b : List Int} (hb : Byt b) (hlen : b.length < 4611686018427387904) {at_ n : Nat} (hn : n ≤ 4) (h : at_ + n ≤ b.length) : lens_Lens_word (b, (at_ : Int), 0) (n : Int) (leV ((b.drop at_).take n), (b, ((at_ + n : Nat) : Int), 0)) := by
  refine ⟨(true, (b, ((at_ + n : Nat) : Int), 0), leV ((b.drop at_).take n)), ?_, rfl⟩
  unfold lens_Lens_read__lens_Lens_word_1
  rw [if_neg (by simp)]
  refine ⟨_, left_ok (by omega), _, word1_ok (hb.drop _) (by rw [List.length_drop]; omega) hn (by rw [List.length_drop]; omega), ?_⟩
  rw [if_neg (by simp)]
  simp only
  rw [w_small (by omega) (by omega)]; rfl
theorem lword_end {b : List Int} {at_ n : Nat} (h : at_ ≤ b.length) (h2 : b.length < at_ + n) : lens_Lens_word (b, (at_ : Int), 0) (n : Int) (0, (b, (at_ : Int), 4)) := by
  refine ⟨(false, (b, (at_ : Int), 4), 0), ?_, rfl⟩
  unfold lens_Lens_read__lens_Lens_word_1
  rw [if_neg (by simp)]
  refine ⟨_, left_ok h, (0, 4, 0), ?_, ?_⟩
  · unfold lens_Lens_word_1
    rw [if_pos (by simp; omega)]
  · rw [if_pos (by simp)]
theorem lnew_ok {b : List Int} (hlen : b.length < 1073741824) : lens_New b (b, 0, 0) := by
  unfold lens_New
  simp only [List.length_nil, List.nil_append]
  exact ⟨by omega, by omega, trivial⟩

def leB (n : Int) : List Int := [n % 256, n / 256 % 256, n / 65536 % 256, n / 16777216 % 256]
theorem leB_byt (n : Int) : Byt (leB n) := by
  intro x hx
  simp only [leB, List.mem_cons, List.not_mem_nil, or_false] at hx
  rcases hx with rfl | rfl | rfl | rfl <;> omega
theorem leB_leV {l : List Int} (hl : Byt l) (h : l.length = 4) : leB (leV l) = l := by
  match l, h with
  | [a, b, c, d], _ =>
    have ha := hl a (by simp)
    have hb := hl b (by simp)
    have hc := hl c (by simp)
    have hd := hl d (by simp)
    simp only [leV, leB]
    have e : ∀ a b c d a' b' c' d' : Int, a = a' → b = b' → c = c' → d = d' → [a, b, c, d] = [a', b', c', d'] := by intros; subst_vars; rfl
    apply e <;> omega
theorem raw_ok {p : List Int} {room : Nat} {l : List Int} (h : p.length + l.length ≤ room) (hr : room < 1073741824) : pen_Pen_Raw (p, (room : Int), false) l (0, (p ++ l, (room : Int), false)) := by
  unfold pen_Pen_Raw
  simp only [Bool.false_or]
  rw [w_small (by omega) (by omega), if_neg (by simp; omega)]
  exact ⟨by omega, by omega, trivial⟩
theorem shr32 {a : Int} (n : Nat) (hn : n ≤ 32) {s : Int} (hs : s = (n : Int)) : ishr .u32 a s = a / 2 ^ n := by
  subst hs
  show a.fdiv (2 ^ min (n : Int).toNat 32) = _
  have hp : (0 : Int) < 2 ^ n := Int.pow_pos (by decide)
  rw [show min (n : Int).toNat 32 = n by omega, Int.fdiv_eq_ediv_of_nonneg _ (Int.le_of_lt hp)]
theorem pu32_ok {p : List Int} {room : Nat} {v : Int} (h : p.length + 4 ≤ room) (hr : room < 1073741824) : pen_Pen_U32 (p, (room : Int), false) v (0, (p ++ leB v, (room : Int), false)) := by
  refine ⟨(0, (p ++ leB v, (room : Int), false)), ⟨by omega, by omega, by omega, (0, (p ++ leB v, (room : Int), false)), ?_, rfl⟩, rfl⟩
  have e : (([(IntKind.u8.wrap v), (IntKind.u8.wrap (ishr .u32 v 8)), (IntKind.u8.wrap (ishr .u32 v 16)), (IntKind.u8.wrap (ishr .u32 v 24))].drop (0 : Int).toNat).take ((4 : Int) - 0).toNat) = leB v := by
    show [_, _, _, _] = leB v
    rw [shr32 8 (by omega) (s := 8) rfl, shr32 16 (by omega) (s := 16) rfl, shr32 24 (by omega) (s := 24) rfl]
    simp only [w_u8, leB]
    rfl
  rw [e]
  exact raw_ok (l := leB v) h hr
theorem pbytes_ok {p : List Int} {r : Int} {f : Bool} (h : p.length < 1073741824) : pen_Pen_Bytes (p, r, f) p := by
  unfold pen_Pen_Bytes
  simp only [List.length_nil, List.nil_append]
  exact ⟨by omega, by omega, trivial⟩
theorem same_ok {a b : List Int} (hlen : a.length < 4611686018427387904) : ref01_Same a b (decide (a = b)) := by
  unfold ref01_Same
  by_cases hl : a.length = b.length
  · rw [if_neg (by simp; omega)]
    have key := loops_inv (step := ref01_Same_l2 a b) (s := 0) (fun k (s : Int) => s = (k : Int) ∧ ∀ j (h : j < a.length), j < k → a[j] = b[j]'(by omega)) (fun e => Aft (fun p18 => ref01_Same_j1 p18 (decide (a = b))) (fun p19 => decide (a = b) = p19) e) a.length ⟨rfl, fun j _ h => by omega⟩ ?_ ?_
    · exact key
    · rintro k s hk ⟨rfl, h2⟩
      by_cases he : a[k] = b[k]'(by omega)
      · left
        refine ⟨((k + 1 : Nat) : Int), ?_, rfl, fun j h hj => ?_⟩
        · unfold ref01_Same_l2
          rw [if_pos (by simp; omega)]
          refine ⟨a[k], idx_of hk, b[k]'(by omega), idx_of (by omega), ?_⟩
          rw [if_neg (by simp [he]), w_small (by omega) (by omega)]; rfl
        · by_cases e : j = k
          · subst e; exact he
          · exact h2 j h (by omega)
      · right
        refine ⟨.inr false, ?_, ?_⟩
        · unfold ref01_Same_l2
          rw [if_pos (by simp; omega)]
          refine ⟨a[k], idx_of hk, b[k]'(by omega), idx_of (by omega), ?_⟩
          rw [if_pos (by simpa using he)]
        · show decide (a = b) = false
          rw [decide_eq_false]
          intro e; subst e; exact he rfl
    · rintro s ⟨rfl, h2⟩
      refine ⟨.inl (), ?_, ?_⟩
      · unfold ref01_Same_l2
        rw [if_neg (by simp)]
      · show decide (a = b) = true
        rw [decide_eq_true]
        exact List.ext_getElem hl fun j h _ => h2 j h h
  · rw [if_pos (by simp; omega), decide_eq_false]
    intro e; exact hl (by rw [e])
end Go.Rel
/-! Plain laws: numbers cut into bytes of seven bits, and read again. -/
namespace Go.Rel
open Go Go.Eng Go.Pl

def vB (n : Nat) : List Int := if n < 128 then [(n : Int)] else ((128 + n % 128 : Nat) : Int) :: vB (n / 128)
termination_by n
decreasing_by omega
theorem vB_lt {n : Nat} (h : n < 128) : vB n = [(n : Int)] := by rw [vB, if_pos h]
theorem vB_ge {n : Nat} (h : ¬ n < 128) : vB n = ((128 + n % 128 : Nat) : Int) :: vB (n / 128) := by rw [vB, if_neg h]
theorem vB_byt (n : Nat) : Byt (vB n) := by
  induction n using Nat.strongRecOn with
  | _ n ih =>
    intro x hx
    by_cases h : n < 128
    · rw [vB_lt h, List.mem_singleton] at hx; subst hx; omega
    · rw [vB_ge h] at hx
      rcases List.mem_cons.1 hx with rfl | hx
      · omega
      · exact ih (n / 128) (by omega) x hx
theorem vB_pos (n : Nat) : 0 < (vB n).length := by
  by_cases h : n < 128
  · rw [vB_lt h]; simp
  · rw [vB_ge h]; simp
theorem vB_len {k : Nat} : ∀ {n : Nat}, n < 128 ^ (k + 1) → (vB n).length ≤ k + 1 := by
  induction k with
  | zero => intro n h; rw [vB_lt (by simpa using h)]; simp
  | succ k ih =>
    intro n h
    by_cases h1 : n < 128
    · rw [vB_lt h1]; simp
    · rw [vB_ge h1, List.length_cons]
      have : n / 128 < 128 ^ (k + 1) := by rw [Nat.div_lt_iff_lt_mul (by omega)]; rw [Nat.pow_succ] at h; exact h
      have := ih this
      omega
theorem or128 (n : Nat) : ior .u8 (IntKind.u8.wrap (n : Int)) 128 = ((128 + n % 128 : Nat) : Int) := by
  have key : ∀ a : Fin 256, ior .u8 (a.val : Int) 128 = ((128 + a.val % 128 : Nat) : Int) := by decide +kernel
  have h := key ⟨n % 256, Nat.mod_lt _ (by omega)⟩
  rw [w_u8, show ((n : Int) % 256) = ((n % 256 : Nat) : Int) by omega]
  have e : n % 256 % 128 = n % 128 := by omega
  simp only [e] at h
  exact h
theorem ior_n {n m : Nat} (hn : n < 2 ^ 64) (hm : m < 2 ^ 64) : ior .u64 (n : Int) (m : Int) = ((n ||| m : Nat) : Int) := by
  have e1 : (BitVec.ofInt 64 (n : Int)).toNat = n := by rw [BitVec.ofInt_natCast, BitVec.toNat_ofNat, Nat.mod_eq_of_lt hn]
  have e2 : (BitVec.ofInt 64 (m : Int)).toNat = m := by rw [BitVec.ofInt_natCast, BitVec.toNat_ofNat, Nat.mod_eq_of_lt hm]
  show IntKind.u64.wrap (((BitVec.ofInt 64 (n : Int) ||| BitVec.ofInt 64 (m : Int)).toNat : Nat) : Int) = _
  rw [BitVec.toNat_or, e1, e2]
  have := Nat.or_lt_two_pow hn hm
  rw [w64_small (by omega) (by omega)]
theorem put1 (n : Nat) (hn : n < 2 ^ 64) : ∀ out : List Int, out.length + (vB n).length < 1073741824 → ∃ o l, Loops varint_Put_l4 (out, (n : Int)) (o, l) ∧ o ++ [IntKind.u8.wrap l] = out ++ vB n ∧ o.length + 1 = out.length + (vB n).length := by
  induction n using Nat.strongRecOn with
  | _ n ih =>
    intro out hl
    by_cases h : n < 128
    · refine ⟨out, n, .done ?_, ?_, ?_⟩
      · unfold varint_Put_l4
        rw [if_neg (by simp; omega)]
      · rw [vB_lt h, w_u8, show ((n : Int) % 256) = (n : Int) by omega]
      · rw [vB_lt h]; simp
    · rw [vB_ge h] at hl ⊢
      simp only [List.length_cons] at hl
      obtain ⟨o, l, h1, h2, h3⟩ := ih (n / 128) (by omega) (by omega) (out ++ [((128 + n % 128 : Nat) : Int)]) (by simp; omega)
      refine ⟨o, l, .next (s' := (out ++ [((128 + n % 128 : Nat) : Int)], ((n / 128 : Nat) : Int))) ?_ h1, ?_, ?_⟩
      · unfold varint_Put_l4
        rw [if_pos (by simp; omega)]
        simp only [List.length_cons, List.length_nil]
        rw [or128, ishr_u64 (by omega) (by omega)]
        refine ⟨by omega, by omega, ?_⟩
        have : ((n : Int) / 2 ^ (7 : Int).toNat) = ((n / 128 : Nat) : Int) := by show (n : Int) / 128 = _; omega
        rw [this]
      · rw [h2]; simp
      · rw [h3]; simp; omega
theorem vput_ok (ns : List Nat) (hn : ∀ n ∈ ns, n < 2 ^ 64) (hl : (ns.flatMap vB).length < 1073741824) (hc : ns.length < 1073741824) : varint_Put (ns.map Int.ofNat) (ns.flatMap vB) := by
  have key : ∀ (r pre : List Nat), ns = pre ++ r → Loops (varint_Put_l2 (ns.map Int.ofNat)) (pre.flatMap vB, (pre.length : Int)) (ns.flatMap vB) := by
    intro r
    induction r with
    | nil =>
      intro pre h
      refine .done ?_
      unfold varint_Put_l2
      rw [if_neg (by rw [h]; simp)]
      rw [h]; simp
    | cons n r ih =>
      intro pre h
      have hx : idx (ns.map Int.ofNat) (pre.length : Int) (n : Int) := ⟨by omega, by rw [h]; simp⟩
      have hlt := hx.lt
      rw [List.length_map] at hlt
      have hlen : (pre.flatMap vB).length + (vB n).length < 1073741824 := by
        have e : (ns.flatMap vB).length = (pre.flatMap vB).length + ((vB n).length + (r.flatMap vB).length) := by rw [h]; simp
        omega
      obtain ⟨o, l, h1, h2, h3⟩ := put1 n (hn n (by rw [h]; simp)) (pre.flatMap vB) hlen
      refine .next (s' := ((pre ++ [n]).flatMap vB, ((pre ++ [n]).length : Int))) ?_ (ih (pre ++ [n]) (by simp [h]))
      unfold varint_Put_l2
      rw [if_pos (by simpa using hlt)]
      refine ⟨n, hx, (o, l), h1, ?_⟩
      unfold varint_Put_j3
      simp only [List.length_cons, List.length_nil]
      refine ⟨by omega, by omega, ?_⟩
      rw [h2, w_small (by omega) (by omega)]
      simp
  exact ⟨_, key ns [] rfl, rfl⟩
theorem or_next {acc p i : Nat} (hi : i ≤ 8) (ha : acc < 128 ^ i) (hp : p * 128 ^ i < 2 ^ 63) : ior .u64 (acc : Int) (ishl .u64 (p : Int) (7 * (i : Int))) = ((acc + p * 128 ^ i : Nat) : Int) ∧ ishl .u64 (p : Int) (7 * (i : Int)) = ((p * 128 ^ i : Nat) : Int) := by
  have hpow : (128 : Nat) ^ i = 2 ^ (7 * i) := by rw [Nat.pow_mul]
  have e1 : ishl .u64 (p : Int) (7 * (i : Int)) = ((p * 128 ^ i : Nat) : Int) := by
    show IntKind.u64.wrap ((p : Int) * 2 ^ min (7 * (i : Int)).toNat 64) = _
    have e : min (7 * (i : Int)).toNat 64 = 7 * i := by omega
    have e2 : ((p : Int) * 2 ^ (7 * i)) = ((p * 128 ^ i : Nat) : Int) := by rw [hpow]; simp
    rw [e, e2, w64_small (by omega) (by omega)]
  refine ⟨?_, e1⟩
  rw [e1, ior_n (by
    have : (128 : Nat) ^ i ≤ 128 ^ 8 := Nat.pow_le_pow_right (by decide) hi
    have h3 : (128 : Nat) ^ 8 < 2 ^ 64 := by decide
    omega) (by omega)]
  have h := Nat.shiftLeft_add_eq_or_of_lt (show acc < 2 ^ (7 * i) by rw [← hpow]; exact ha) p
  rw [Nat.shiftLeft_eq, ← hpow] at h
  rw [Nat.or_comm, ← h, Nat.add_comm]
theorem vread_ok {n : Nat} (hn : n < 2 ^ 56) (rest : List Int) (hrest : rest.length < 1073741824) : varint_Get (vB n ++ rest) ((n : Int), ((vB n).length : Int), 0) := by
  have h56 : (2 : Nat) ^ 56 = 128 ^ 8 := by decide
  have key : ∀ (m : Nat) (pre : List Int) (acc : Nat), vB n = pre ++ vB m → n = acc + m * 128 ^ pre.length → acc < 128 ^ pre.length → (pre.length ≠ 0 → m ≠ 0) → Loops (varint_Get_l2 (vB n ++ rest)) ((acc : Int), (pre.length : Int)) (.inr ((n : Int), ((vB n).length : Int), 0)) := by
    intro m
    induction m using Nat.strongRecOn with
    | _ m ih =>
      intro pre acc hv he ha hm
      have hi : pre.length ≤ 7 := by
        by_cases h : pre.length ≤ 7
        · exact h
        · have h1 : 128 ^ 8 ≤ 128 ^ pre.length := Nat.pow_le_pow_right (by decide) (by omega)
          have h2 : 1 * 128 ^ pre.length ≤ m * 128 ^ pre.length := Nat.mul_le_mul_right _ (by have := hm (by omega); omega)
          omega
      have hmn : m * 128 ^ pre.length < 2 ^ 56 := by omega
      have hw : IntKind.i64.wrap (7 * (pre.length : Int)) = 7 * (pre.length : Int) := w_small (by omega) (by omega)
      have hw1 : IntKind.i64.wrap ((pre.length : Int) + 1) = ((pre.length + 1 : Nat) : Int) := by rw [w_small (by omega) (by omega)]; omega
      have hlen : pre.length < (vB n ++ rest).length := by rw [hv]; simp; have := vB_pos m; omega
      by_cases h : m < 128
      · rw [vB_lt h] at hv
        have hx : idx (vB n ++ rest) (pre.length : Int) (m : Int) := ⟨by omega, by rw [hv]; simp⟩
        obtain ⟨o1, o2⟩ := or_next (p := m) (by omega) ha (by omega)
        have ht : IntKind.u64.wrap ((m : Int).tmod 128) = (m : Int) := by
          rw [Int.tmod_eq_emod_of_nonneg (by omega), w64_small (by omega) (by omega)]; omega
        have hs : ishr .u64 ((m * 128 ^ pre.length : Nat) : Int) (7 * (pre.length : Int)) = (m : Int) := by
          rw [ishr_u64 (by omega) (by omega), show (7 * (pre.length : Int)).toNat = 7 * pre.length by omega]
          have hp2 : ((2 : Int) ^ (7 * pre.length)) = ((128 ^ pre.length : Nat) : Int) := by
            have : (128 : Nat) ^ pre.length = 2 ^ (7 * pre.length) := by rw [Nat.pow_mul]
            rw [this]; simp
          rw [hp2, ← Int.natCast_ediv, Nat.mul_div_cancel _ (Nat.pow_pos (by decide))]
        have hfin : varint_Get_j4 ((acc : Int), (pre.length : Int)) (m : Int) false (.inr (.inr ((n : Int), ((vB n).length : Int), 0))) := by
          unfold varint_Get_j4
          rw [if_neg (by simp)]
          simp only
          rw [ht, hw, o1, hw1]
          have e1 : (vB n).length = pre.length + 1 := by rw [hv]; simp
          rw [e1, ← he]
        refine .done ?_
        unfold varint_Get_l2
        rw [if_pos (by simp; omega), if_neg (by simp at hlen ⊢; omega)]
        refine ⟨m, hx, by rw [hw]; omega, m, hx, ?_⟩
        rw [if_neg (by simp; omega)]
        simp only [hw, ht, o2, hs]
        by_cases h0 : (0 : Int) < (pre.length : Int)
        · rw [if_pos (by simpa using h0), if_neg (by have := hm (by omega); simp; omega)]
          exact ⟨by omega, by omega, by simpa using hfin⟩
        · rw [if_neg (by simpa using h0)]
          exact ⟨by omega, by omega, by simpa using hfin⟩
      · rw [vB_ge h] at hv
        have hx : idx (vB n ++ rest) (pre.length : Int) ((128 + m % 128 : Nat) : Int) := ⟨by omega, by rw [hv]; simp⟩
        have hpl : m % 128 * 128 ^ pre.length ≤ m * 128 ^ pre.length := Nat.mul_le_mul_right _ (Nat.mod_le _ _)
        obtain ⟨o1, o2⟩ := or_next (p := m % 128) (by omega) ha (by omega)
        have ht : IntKind.u64.wrap ((((128 + m % 128 : Nat) : Int)).tmod 128) = ((m % 128 : Nat) : Int) := by
          rw [Int.tmod_eq_emod_of_nonneg (by omega), w64_small (by omega) (by omega)]; omega
        refine .next (s' := (((acc + m % 128 * 128 ^ pre.length : Nat) : Int), ((pre ++ [((128 + m % 128 : Nat) : Int)]).length : Int))) ?_ (ih (m / 128) (by omega) (pre ++ [((128 + m % 128 : Nat) : Int)]) (acc + m % 128 * 128 ^ pre.length) (by rw [hv]; simp) ?_ ?_ (fun _ => by omega))
        · unfold varint_Get_l2
          rw [if_pos (by simp; omega), if_neg (by simp at hlen ⊢; omega)]
          refine ⟨_, hx, by rw [hw]; omega, _, hx, ?_⟩
          rw [if_pos (by simp; omega)]
          unfold varint_Get_j3
          simp only
          rw [hw, ht, o1, hw1]
          simp
        · rw [List.length_append, List.length_singleton, Nat.pow_succ]
          have e2 : m = m % 128 + m / 128 * 128 := by omega
          have e3 : m * 128 ^ pre.length = m % 128 * 128 ^ pre.length + m / 128 * (128 ^ pre.length * 128) := by
            conv => lhs; rw [e2]
            rw [Nat.add_mul, Nat.mul_assoc, Nat.mul_comm 128]
          omega
        · rw [List.length_append, List.length_singleton, Nat.pow_succ]
          have : m % 128 * 128 ^ pre.length ≤ 127 * 128 ^ pre.length := Nat.mul_le_mul_right _ (by omega)
          omega
  exact ⟨_, key n [] 0 rfl (by simp) (by simp) (fun h => absurd rfl h), rfl⟩
end Go.Rel
/-! Plain laws: what a lens reads: numbers, signed numbers, fields. -/
namespace Go.Rel
open Go Go.Eng Go.Pl

def zigN (a : Int) : Nat := if 0 ≤ a then (2 * a).toNat else (-2 * a - 1).toNat
theorem xor_ones {x : Int} (h0 : 0 ≤ x) (h1 : x < 2 ^ 64) : ((BitVec.ofInt 64 x ^^^ BitVec.ofInt 64 (-1)).toNat : Int) = 2 ^ 64 - 1 - x := by
  obtain ⟨n, rfl⟩ := Int.eq_ofNat_of_zero_le h0
  have hn : n < 2 ^ 64 := by omega
  have e1 : BitVec.ofInt 64 (-1) = BitVec.allOnes 64 := by decide
  rw [e1, BitVec.xor_allOnes, BitVec.toNat_not, BitVec.ofInt_natCast, BitVec.toNat_ofNat, Nat.mod_eq_of_lt hn]
  omega
theorem xor_zero {x : Int} (h0 : 0 ≤ x) (h1 : x < 2 ^ 64) : ((BitVec.ofInt 64 x ^^^ BitVec.ofInt 64 0).toNat : Int) = x := by
  obtain ⟨n, rfl⟩ := Int.eq_ofNat_of_zero_le h0
  have hn : n < 2 ^ 64 := by omega
  have e1 : BitVec.ofInt 64 0 = 0#64 := by decide
  rw [e1, BitVec.xor_zero, BitVec.ofInt_natCast, BitVec.toNat_ofNat, Nat.mod_eq_of_lt hn]
theorem zig_ok {a : Int} (h0 : -1099511627776 ≤ a) (h1 : a ≤ 1099511627776) : varint_Zig a (zigN a) := by
  unfold varint_Zig zigN
  have hs : ishr .i64 a 63 = a / 9223372036854775808 := by
    show a.fdiv (2 ^ min (63 : Int).toNat 64) = _
    rw [show min (63 : Int).toNat 64 = 63 from rfl, Int.fdiv_eq_ediv_of_nonneg _ (by decide)]; rfl
  have hl : ∀ z : Int, ishl .u64 z 1 = z * 2 % 18446744073709551616 := fun z => by
    show IntKind.u64.wrap (z * 2 ^ min (1 : Int).toNat 64) = _
    rw [show min (1 : Int).toNat 64 = 1 from rfl, w_u64]; rfl
  rw [hs, hl, w_u64, w_u64]
  by_cases h : 0 ≤ a
  · rw [if_pos h, show a / 9223372036854775808 % 18446744073709551616 = 0 by omega, show a % 18446744073709551616 * 2 % 18446744073709551616 = 2 * a by omega]
    show _ = IntKind.u64.wrap ((BitVec.ofInt 64 (2 * a) ^^^ BitVec.ofInt 64 0).toNat : Int)
    rw [xor_zero (by omega) (by omega), w_u64]; omega
  · rw [if_neg h, show a / 9223372036854775808 % 18446744073709551616 = 18446744073709551615 by omega, show a % 18446744073709551616 * 2 % 18446744073709551616 = 2 * a + 18446744073709551616 by omega]
    show _ = IntKind.u64.wrap ((BitVec.ofInt 64 (2 * a + 18446744073709551616) ^^^ BitVec.ofInt 64 18446744073709551615).toNat : Int)
    rw [show BitVec.ofInt 64 18446744073709551615 = BitVec.ofInt 64 (-1) by decide, xor_ones (by omega) (by omega), w_u64]; omega
theorem zag_ok {a : Int} (h0 : -1099511627776 ≤ a) (h1 : a ≤ 1099511627776) : varint_Zag (zigN a) a := by
  unfold varint_Zag zigN
  by_cases h : 0 ≤ a
  · rw [if_pos h, iand_one (by omega) (by omega), ishr_u64 (by decide) (by decide)]
    rw [show (((2 * a).toNat : Int)) % 2 = 0 by omega, show (((2 * a).toNat : Int)) / 2 ^ (1 : Int).toNat = a by show (((2 * a).toNat : Int)) / 2 = a; omega, w_small (n := a) (by omega) (by omega)]
    show a = IntKind.i64.wrap ((BitVec.ofInt 64 a ^^^ BitVec.ofInt 64 (IntKind.i64.wrap (0 - IntKind.i64.wrap 0))).toNat : Int)
    rw [show BitVec.ofInt 64 (IntKind.i64.wrap (0 - IntKind.i64.wrap 0)) = BitVec.ofInt 64 0 by decide, xor_zero (by omega) (by omega), w_small (by omega) (by omega)]
  · rw [if_neg h, iand_one (by omega) (by omega), ishr_u64 (by decide) (by decide)]
    rw [show (((-2 * a - 1).toNat : Int)) % 2 = 1 by omega, show (((-2 * a - 1).toNat : Int)) / 2 ^ (1 : Int).toNat = -a - 1 by show (((-2 * a - 1).toNat : Int)) / 2 = -a - 1; omega, w_small (n := -a - 1) (by omega) (by omega)]
    show a = IntKind.i64.wrap ((BitVec.ofInt 64 (-a - 1) ^^^ BitVec.ofInt 64 (IntKind.i64.wrap (0 - IntKind.i64.wrap 1))).toNat : Int)
    rw [show BitVec.ofInt 64 (IntKind.i64.wrap (0 - IntKind.i64.wrap 1)) = BitVec.ofInt 64 (-1) by decide, xor_ones (by omega) (by omega), w_i64]; omega

theorem lnumber_ok {b rest : List Int} {at_ n : Nat} {most : Int} (hb : b.length < 1073741824) (hd : b.drop at_ = vB n ++ rest) (hn : n < 2 ^ 56) (hm : (n : Int) ≤ most) :
    lens_Lens_Number (b, (at_ : Int), 0) most ((n : Int), (b, ((at_ + (vB n).length : Nat) : Int), 0)) := by
  have hle : at_ + (vB n).length + rest.length ≤ b.length := by
    have := congrArg List.length hd
    rw [List.length_drop, List.length_append] at this
    have := vB_pos n
    omega
  refine ⟨(true, (b, ((at_ + (vB n).length : Nat) : Int), 0), (n : Int)), ?_, rfl⟩
  unfold lens_Lens_read__lens_Lens_Number_1
  rw [if_neg (by simp)]
  refine ⟨_, left_ok (by omega), (((vB n).length : Int), 0, (n : Int)), ?_, ?_⟩
  · refine ⟨((n : Int), ((vB n).length : Int), 0), by rw [hd]; exact vread_ok hn rest (by omega), ?_⟩
    rw [if_pos (by simp)]
    unfold lens_Lens_Number_1_j3
    rw [if_neg (by simp; omega)]
    unfold lens_Lens_Number_1_j1
    rw [if_pos (by simp)]
    rfl
  · rw [if_neg (by simp)]
    simp only
    rw [w_small (by omega) (by omega)]; simp
theorem lsigned_ok {b rest : List Int} {at_ : Nat} {a least most : Int} (hb : b.length < 1073741824) (hd : b.drop at_ = vB (zigN a) ++ rest) (h0 : -1099511627776 ≤ a) (h1 : a ≤ 1099511627776) (hl : least ≤ a) (hm : a ≤ most) :
    lens_Lens_Signed (b, (at_ : Int), 0) least most (a, (b, ((at_ + (vB (zigN a)).length : Nat) : Int), 0)) := by
  have hn : zigN a < 2 ^ 56 := by unfold zigN; split <;> omega
  have hle : at_ + (vB (zigN a)).length + rest.length ≤ b.length := by
    have := congrArg List.length hd
    rw [List.length_drop, List.length_append] at this
    have := vB_pos (zigN a)
    omega
  refine ⟨(true, (b, ((at_ + (vB (zigN a)).length : Nat) : Int), 0), a), ?_, rfl⟩
  unfold lens_Lens_read__lens_Lens_Signed_1
  rw [if_neg (by simp)]
  refine ⟨_, left_ok (by omega), (((vB (zigN a)).length : Int), 0, a), ?_, ?_⟩
  · refine ⟨((zigN a : Int), ((vB (zigN a)).length : Int), 0), by rw [hd]; exact vread_ok hn rest (by omega), a, zag_ok h0 h1, ?_⟩
    rw [if_pos (by simp), if_neg (by simp; omega)]
    unfold lens_Lens_Signed_1_j2
    rw [if_neg (by simp; omega), if_pos (by simp)]
    rfl
  · rw [if_neg (by simp)]
    simp only
    rw [w_small (by omega) (by omega)]; simp
theorem lfield_ok {b p rest : List Int} {at_ : Nat} {most : Int} (hb : b.length < 1073741824) (hd : b.drop at_ = vB p.length ++ (p ++ rest)) (hm : (p.length : Int) ≤ most) (hm2 : most < 1099511627776) :
    lens_Lens_Field (b, (at_ : Int), 0) most (p, (b, ((at_ + (vB p.length).length + p.length : Nat) : Int), 0)) := by
  have hle : at_ + (vB p.length).length + p.length + rest.length ≤ b.length := by
    have := congrArg List.length hd
    rw [List.length_drop, List.length_append, List.length_append] at this
    have := vB_pos p.length
    omega
  refine ⟨(true, (b, ((at_ + (vB p.length).length + p.length : Nat) : Int), 0), p), ?_, rfl⟩
  unfold lens_Lens_read__lens_Lens_Field_1
  rw [if_neg (by simp)]
  refine ⟨_, left_ok (by omega), ((((vB p.length).length + p.length : Nat) : Int), 0, p), ?_, ?_⟩
  · have hl : (b.drop at_).length = b.length - at_ := List.length_drop
    refine ⟨_, by rw [hd]; exact vread_ok (n := p.length) (by omega) (p ++ rest) (by rw [List.length_append]; omega), ?_⟩
    simp only
    have e1 : IntKind.u64.wrap (max most 0) = most := by rw [w64_small (by omega) (by omega)]; omega
    have e2 : IntKind.u64.wrap (IntKind.i64.wrap (((b.drop at_).length : Int) - ((vB p.length).length : Int))) = ((p.length + rest.length : Nat) : Int) := by
      have h9 : (b.drop at_).length = (vB p.length).length + (p.length + rest.length) := by rw [hd, List.length_append, List.length_append]
      rw [h9, w_small (by omega) (by omega), w64_small (by omega) (by omega)]; omega
    have e3 : IntKind.i64.wrap (((vB p.length).length : Int) + IntKind.i64.wrap (p.length : Int)) = (((vB p.length).length + p.length : Nat) : Int) := by
      rw [w_small (n := (p.length : Int)) (by omega) (by omega), w_small (by omega) (by omega)]; omega
    rw [if_neg (by simp), e1, if_neg (by simp; omega), e2, if_neg (by simp; omega), e3]
    have h9 : (b.drop at_).length = (vB p.length).length + (p.length + rest.length) := by rw [hd, List.length_append, List.length_append]
    have e4 : ((b.drop at_).drop ((vB p.length).length : Int).toNat).take (((((vB p.length).length + p.length : Nat) : Int) : Int) - ((vB p.length).length : Int)).toNat = p := by
      rw [hd, Int.toNat_natCast, List.drop_left, show ((((vB p.length).length + p.length : Nat) : Int) - ((vB p.length).length : Int)).toNat = p.length by omega, List.take_left]
    refine ⟨by omega, by omega, by omega, by omega, by omega, ?_⟩
    rw [e4]
    exact ⟨by simp; omega, by simp; omega, rfl⟩
  · rw [if_neg (by simp)]
    simp only
    rw [w_small (by omega) (by omega)]
    have : (at_ : Int) + (((vB p.length).length + p.length : Nat) : Int) = ((at_ + (vB p.length).length + p.length : Nat) : Int) := by omega
    rw [this]
theorem lraw_ok {b : List Int} {at_ n : Nat} (hb : b.length < 1073741824) (h : at_ + n ≤ b.length) : lens_Lens_Raw (b, (at_ : Int), 0) (n : Int) ((b.drop at_).take n, (b, ((at_ + n : Nat) : Int), 0)) := by
  have hl : (b.drop at_).length = b.length - at_ := List.length_drop
  refine ⟨(true, (b, ((at_ + n : Nat) : Int), 0), (b.drop at_).take n), ?_, rfl⟩
  unfold lens_Lens_read__lens_Lens_Raw_1
  rw [if_neg (by simp)]
  refine ⟨_, left_ok (by omega), ((n : Int), 0, (b.drop at_).take n), ?_, ?_⟩
  · unfold lens_Lens_Raw_1
    rw [if_neg (by simp), if_neg (by simp; omega)]
    have e : (((b.drop at_).drop (0 : Int).toNat).take (((n : Int) : Int) - 0).toNat) = (b.drop at_).take n := by simp
    rw [e]
    exact ⟨by omega, by omega, by omega, by omega, by simp; omega, by simp; omega, rfl⟩
  · rw [if_neg (by simp)]
    simp only
    rw [w_small (by omega) (by omega)]
    have : (at_ : Int) + (n : Int) = ((at_ + n : Nat) : Int) := by omega
    rw [this]
end Go.Rel
/-! Plain laws: a number is read off any bytes, by the program and by the document. -/
namespace Go.Rel
open Go Go.Eng Go.Pl

def valL : List Int → Nat
  | [] => 0
  | x :: l => (x % 128).toNat + 128 * valL l
theorem valL_lt : ∀ l : List Int, valL l < 128 ^ l.length
  | [] => by simp [valL]
  | x :: l => by
    have := valL_lt l
    rw [List.length_cons, Nat.pow_succ]
    unfold valL
    omega
theorem valL_app : ∀ a b : List Int, valL (a ++ b) = valL a + 128 ^ a.length * valL b
  | [], b => by simp [valL]
  | x :: a, b => by
    have e : valL (x :: a ++ b) = (x % 128).toNat + 128 * valL (a ++ b) := rfl
    have e2 : valL (x :: a) = (x % 128).toNat + 128 * valL a := rfl
    have e3 : 128 ^ (x :: a).length * valL b = 128 * (128 ^ a.length * valL b) := by rw [List.length_cons, Nat.pow_succ, Nat.mul_comm _ 128, Nat.mul_assoc]
    rw [e, e2, e3, valL_app a b]
    omega
theorem valL_snoc (a : List Int) (x : Int) : valL (a ++ [x]) = valL a + (x % 128).toNat * 128 ^ a.length := by
  rw [valL_app, Nat.mul_comm]; simp [valL]
theorem vB_val : ∀ (hi : List Int) (x : Int), (∀ y ∈ hi, 128 ≤ y ∧ y < 256) → 0 ≤ x → x < 128 → (hi ≠ [] → x ≠ 0) → vB (valL (hi ++ [x])) = hi ++ [x] ∧ (hi ≠ [] ∨ x ≠ 0 → 0 < valL (hi ++ [x]))
  | [], x, _, h0, h1, _ => by
    have : valL ([] ++ [x]) = x.toNat := by simp [valL]; omega
    rw [this, vB_lt (by omega)]
    refine ⟨by simp; omega, fun h => by rcases h with h | h; exact absurd rfl h; omega⟩
  | y :: hi, x, hh, h0, h1, hx => by
    have hy := hh y List.mem_cons_self
    have hx0 := hx (by simp)
    obtain ⟨i1, i2⟩ := vB_val hi x (fun z hz => hh z (List.mem_cons_of_mem _ hz)) h0 h1 (fun _ => hx0)
    have i3 := i2 (.inr hx0)
    have e : valL (y :: hi ++ [x]) = (y % 128).toNat + 128 * valL (hi ++ [x]) := rfl
    have e2 : ((128 + valL (y :: hi ++ [x]) % 128 : Nat) : Int) = y := by rw [e]; omega
    have e3 : valL (y :: hi ++ [x]) / 128 = valL (hi ++ [x]) := by rw [e]; omega
    refine ⟨?_, fun _ => by rw [e]; omega⟩
    rw [vB_ge (by rw [e]; omega), e2, e3, i1]; rfl
theorem get_cut : ∀ (k : Nat) (r : List Int), Byt r → (∃ hi x rest, r = hi ++ x :: rest ∧ (∀ y ∈ hi, 128 ≤ y ∧ y < 256) ∧ 0 ≤ x ∧ x < 128 ∧ hi.length < k) ∨ (∃ hi rest, r = hi ++ rest ∧ (∀ y ∈ hi, 128 ≤ y ∧ y < 256) ∧ hi.length = k) ∨ ((∀ y ∈ r, 128 ≤ y ∧ y < 256) ∧ r.length < k)
  | 0, r, _ => .inr (.inl ⟨[], r, rfl, (fun _ h => nomatch h), rfl⟩)
  | k + 1, [], _ => .inr (.inr ⟨(fun _ h => nomatch h), by simp⟩)
  | k + 1, x :: r, hb => by
    have hx := hb x List.mem_cons_self
    by_cases h : x < 128
    · exact .inl ⟨[], x, r, rfl, (fun _ h => nomatch h), hx.1, h, by simp⟩
    · have hall : ∀ l : List Int, (∀ y ∈ l, 128 ≤ y ∧ y < 256) → ∀ y ∈ x :: l, 128 ≤ y ∧ y < 256 := fun l hl y hy => by
        rcases List.mem_cons.1 hy with rfl | hy
        · omega
        · exact hl y hy
      rcases get_cut k r (fun y hy => hb y (List.mem_cons_of_mem _ hy)) with ⟨hi, z, rest, rfl, h1, h2, h3, h4⟩ | ⟨hi, rest, rfl, h1, h2⟩ | ⟨h1, h2⟩
      · exact .inl ⟨x :: hi, z, rest, rfl, hall hi h1, h2, h3, by simp; omega⟩
      · exact .inr (.inl ⟨x :: hi, rest, rfl, hall hi h1, by simp; omega⟩)
      · exact .inr (.inr ⟨hall r h1, by simp; omega⟩)
theorem loops_pre {S E : Type} {step : S → Sum S E → Prop} (f : Nat → S) (N : Nat) {e : E} (hstep : ∀ k, k < N → step (f k) (.inl (f (k + 1)))) (hend : Loops step (f N) e) : Loops step (f 0) e := by
  have key : ∀ m k, k + m = N → Loops step (f k) e := by
    intro m
    induction m with
    | zero => intro k hk; have : k = N := by omega
              subst this; exact hend
    | succ m ih => intro k hk; exact .next (hstep k (by omega)) (ih (k + 1) (by omega))
  exact key N 0 (by omega)
theorem pow7 (i : Nat) : (128 : Nat) ^ i = 2 ^ (7 * i) := by rw [Nat.pow_mul]
theorem or_next9 {acc p i : Nat} (hi : i ≤ 9) (ha : acc < 128 ^ i) (hp : p * 128 ^ i < 2 ^ 64) : ior .u64 (acc : Int) (ishl .u64 (p : Int) (7 * (i : Int))) = ((acc + p * 128 ^ i : Nat) : Int) ∧ ishl .u64 (p : Int) (7 * (i : Int)) = ((p * 128 ^ i : Nat) : Int) := by
  have e1 : ishl .u64 (p : Int) (7 * (i : Int)) = ((p * 128 ^ i : Nat) : Int) := by
    show IntKind.u64.wrap ((p : Int) * 2 ^ min (7 * (i : Int)).toNat 64) = _
    have e : min (7 * (i : Int)).toNat 64 = 7 * i := by omega
    have e2 : ((p : Int) * 2 ^ (7 * i)) = ((p * 128 ^ i : Nat) : Int) := by rw [pow7]; simp
    rw [e, e2, w64_small (by omega) (by omega)]
  refine ⟨?_, e1⟩
  rw [e1, ior_n (by
    have : (128 : Nat) ^ i ≤ 128 ^ 9 := Nat.pow_le_pow_right (by decide) hi
    have h3 : (128 : Nat) ^ 9 < 2 ^ 64 := by decide
    omega) (by omega)]
  have h := Nat.shiftLeft_add_eq_or_of_lt (show acc < 2 ^ (7 * i) by rw [← pow7]; exact ha) p
  rw [Nat.shiftLeft_eq, ← pow7] at h
  rw [Nat.or_comm, ← h, Nat.add_comm]
theorem shl63 {p : Nat} (hp : p < 128) : ishr .u64 (ishl .u64 (p : Int) 63) 63 = ((p % 2 : Nat) : Int) := by
  have e1 : ishl .u64 (p : Int) 63 = ((p : Int) * 9223372036854775808) % 18446744073709551616 := by
    show IntKind.u64.wrap ((p : Int) * 2 ^ min (63 : Int).toNat 64) = _
    rw [w_u64, show min (63 : Int).toNat 64 = 63 from rfl]; rfl
  rw [e1, ishr_u64 (by decide) (by decide)]
  show ((p : Int) * 9223372036854775808) % 18446744073709551616 / 9223372036854775808 = _
  omega
theorem tm128 {x : Int} (h : 0 ≤ x) (h2 : x < 256) : IntKind.u64.wrap (x.tmod 128) = (((x % 128).toNat : Nat) : Int) := by
  rw [Int.tmod_eq_emod_of_nonneg h, w64_small (by omega) (by omega)]; omega
section
variable {r : List Int}
theorem get_go {hi : List Int} {y : Int} {rest : List Int} (hr : r = hi ++ y :: rest) (hl : hi.length ≤ 8) (h0 : 128 ≤ y) (h1 : y < 256) : varint_Get_l2 r (((valL hi : Nat) : Int), (hi.length : Int)) (.inl (((valL (hi ++ [y]) : Nat) : Int), ((hi.length + 1 : Nat) : Int))) := by
  have hx : idx r (hi.length : Int) y := ⟨by omega, by rw [hr]; simp⟩
  have hlt := hx.lt
  have hw : IntKind.i64.wrap (7 * (hi.length : Int)) = 7 * (hi.length : Int) := w_small (by omega) (by omega)
  have hw1 : IntKind.i64.wrap ((hi.length : Int) + 1) = ((hi.length + 1 : Nat) : Int) := by rw [w_small (by omega) (by omega)]; omega
  have hv := valL_lt hi
  have hp : (y % 128).toNat * 128 ^ hi.length < 2 ^ 64 := by
    have h2 : (128 : Nat) ^ hi.length ≤ 128 ^ 8 := Nat.pow_le_pow_right (by decide) hl
    have h3 : (128 : Nat) ^ 8 = 72057594037927936 := by decide
    have h4 : (y % 128).toNat * 128 ^ hi.length ≤ 127 * 128 ^ hi.length := Nat.mul_le_mul_right _ (by omega)
    omega
  obtain ⟨o1, _⟩ := or_next9 (by omega) hv hp
  unfold varint_Get_l2
  rw [if_pos (by simp; omega), if_neg (by simp; omega)]
  refine ⟨y, hx, by rw [hw]; omega, y, hx, ?_⟩
  rw [if_pos (by simpa using h0)]
  unfold varint_Get_j3
  simp only
  rw [hw, tm128 (by omega) h1, o1, hw1, valL_snoc]
theorem get_steps {hi rest : List Int} (hr : r = hi ++ rest) (hh : ∀ y ∈ hi, 128 ≤ y ∧ y < 256) {N : Nat} (hN : N ≤ hi.length) (hN9 : N ≤ 9) {e} (h : Loops (varint_Get_l2 r) (((valL (hi.take N) : Nat) : Int), (N : Int)) e) : Loops (varint_Get_l2 r) (0, 0) e := by
  refine loops_pre (fun k => (((valL (hi.take k) : Nat) : Int), (k : Int))) N (fun k hk => ?_) h
  have hkl : k < hi.length := by omega
  have e1 : r = hi.take k ++ hi[k] :: (hi.drop (k + 1) ++ rest) := by
    rw [hr, ← List.cons_append, ← List.append_assoc, ← List.drop_eq_getElem_cons hkl, List.take_append_drop]
  have e2 : (hi.take k).length = k := by rw [List.length_take]; omega
  have hy := hh hi[k] (List.getElem_mem hkl)
  have := get_go e1 (by rw [e2]; omega) hy.1 hy.2
  rw [e2, ← List.take_succ_eq_append_getElem hkl] at this
  exact this
theorem get_last {hi rest : List Int} {x : Int} (hr : r = hi ++ x :: rest) (hh : ∀ y ∈ hi, 128 ≤ y ∧ y < 256) (h0 : 0 ≤ x) (h1 : x < 128) (hl : hi.length ≤ 9) :
    varint_Get r (if hi ≠ [] ∧ x = 0 ∨ 2 ^ 64 ≤ valL (hi ++ [x]) then (0, 0, 3) else (((valL (hi ++ [x]) : Nat) : Int), ((hi.length + 1 : Nat) : Int), 0)) := by
  have hx : idx r (hi.length : Int) x := ⟨by omega, by rw [hr]; simp⟩
  have hlt := hx.lt
  have hw : IntKind.i64.wrap (7 * (hi.length : Int)) = 7 * (hi.length : Int) := w_small (by omega) (by omega)
  have hw1 : IntKind.i64.wrap ((hi.length : Int) + 1) = ((hi.length + 1 : Nat) : Int) := by rw [w_small (by omega) (by omega)]; omega
  have hv := valL_lt hi
  have hval : valL (hi ++ [x]) = valL hi + x.toNat * 128 ^ hi.length := by rw [valL_snoc, show (x % 128).toNat = x.toNat by omega]
  have ht : IntKind.u64.wrap (x.tmod 128) = ((x.toNat : Nat) : Int) := by rw [tm128 h0 (by omega), show (x % 128).toNat = x.toNat by omega]
  have htake : hi.take hi.length = hi := List.take_length
  -- the shift gives the number back, or not
  have hsh : decide (ishr .u64 (ishl .u64 ((x.toNat : Nat) : Int) (7 * (hi.length : Int))) (7 * (hi.length : Int)) = ((x.toNat : Nat) : Int)) = !decide (2 ^ 64 ≤ valL (hi ++ [x])) := by
    by_cases h9 : hi.length = 9
    · have e9 : 7 * ((hi.length : Nat) : Int) = 63 := by omega
      have p9 : (128 : Nat) ^ 9 = 9223372036854775808 := by decide
      rw [e9, shl63 (by omega), hval, h9, p9]
      rw [h9, p9] at hv
      by_cases hx1 : x ≤ 1
      · rw [decide_eq_true (by omega), decide_eq_false (by omega)]; rfl
      · rw [decide_eq_false (by omega), decide_eq_true (by omega)]; rfl
    · have h2 : (128 : Nat) ^ hi.length ≤ 128 ^ 8 := Nat.pow_le_pow_right (by decide) (by omega)
      have h3 : (128 : Nat) ^ 8 = 72057594037927936 := by decide
      have h4 : x.toNat * 128 ^ hi.length ≤ 127 * 128 ^ hi.length := Nat.mul_le_mul_right _ (by omega)
      obtain ⟨_, o2⟩ := or_next9 (acc := valL hi) (p := x.toNat) hl hv (by omega)
      have hs : ishr .u64 ((x.toNat * 128 ^ hi.length : Nat) : Int) (7 * (hi.length : Int)) = ((x.toNat : Nat) : Int) := by
        rw [ishr_u64 (by omega) (by omega), show (7 * (hi.length : Int)).toNat = 7 * hi.length by omega]
        have hp2 : ((2 : Int) ^ (7 * hi.length)) = ((128 ^ hi.length : Nat) : Int) := by rw [pow7]; simp
        rw [hp2, ← Int.natCast_ediv, Nat.mul_div_cancel _ (Nat.pow_pos (by decide))]
      rw [o2, hs, decide_eq_true rfl, decide_eq_false (by rw [hval]; omega)]; rfl
  have hfin : varint_Get_j4 (((valL hi : Nat) : Int), (hi.length : Int)) x (!decide (ishr .u64 (ishl .u64 ((x.toNat : Nat) : Int) (7 * (hi.length : Int))) (7 * (hi.length : Int)) = ((x.toNat : Nat) : Int))) (if 2 ^ 64 ≤ valL (hi ++ [x]) then .inr (.inl ()) else .inr (.inr (((valL (hi ++ [x]) : Nat) : Int), ((hi.length + 1 : Nat) : Int), 0))) := by
    rw [hsh]
    unfold varint_Get_j4
    by_cases hbig : 2 ^ 64 ≤ valL (hi ++ [x])
    · rw [decide_eq_true hbig, if_pos (by decide), if_pos hbig]
    · rw [decide_eq_false hbig, if_neg (by decide), if_neg hbig]
      simp only
      have hp : x.toNat * 128 ^ hi.length < 2 ^ 64 := by rw [hval] at hbig; omega
      rw [ht, hw, (or_next9 hl hv hp).1, hw1, hval]
  have hstep : varint_Get_l2 r (((valL hi : Nat) : Int), (hi.length : Int)) (if hi ≠ [] ∧ x = 0 ∨ 2 ^ 64 ≤ valL (hi ++ [x]) then .inr (.inl ()) else .inr (.inr (((valL (hi ++ [x]) : Nat) : Int), ((hi.length + 1 : Nat) : Int), 0))) := by
    unfold varint_Get_l2
    rw [if_pos (by simp; omega), if_neg (by simp; omega)]
    refine ⟨x, hx, by rw [hw]; omega, x, hx, ?_⟩
    rw [if_neg (by simp; omega)]
    simp only [hw, ht]
    by_cases hn : hi = []
    · have hlen : hi.length = 0 := by rw [hn]; rfl
      rw [if_neg (by simp; omega)]
      have e : (if hi ≠ [] ∧ x = 0 ∨ 2 ^ 64 ≤ valL (hi ++ [x]) then (Sum.inr (Sum.inl ()) : Sum (Int × Int) (Sum Unit (Int × Int × Int))) else .inr (.inr (((valL (hi ++ [x]) : Nat) : Int), ((hi.length + 1 : Nat) : Int), 0))) = (if 2 ^ 64 ≤ valL (hi ++ [x]) then .inr (.inl ()) else .inr (.inr (((valL (hi ++ [x]) : Nat) : Int), ((hi.length + 1 : Nat) : Int), 0))) := by
        by_cases hb : 2 ^ 64 ≤ valL (hi ++ [x])
        · rw [if_pos (.inr hb), if_pos hb]
        · rw [if_neg (by rintro (⟨h, _⟩ | h); exact h hn; exact hb h), if_neg hb]
      rw [e]
      exact ⟨by omega, by omega, hfin⟩
    · have hpos : 0 < hi.length := by cases hi with
        | nil => exact absurd rfl hn
        | cons _ _ => simp
      rw [if_pos (by simp; omega)]
      by_cases hx0 : x = 0
      · rw [if_pos (by simp [hx0]), if_pos (.inl ⟨hn, hx0⟩)]
        unfold varint_Get_j4
        rw [if_pos rfl]
      · rw [if_neg (by simp; omega)]
        have e : (if hi ≠ [] ∧ x = 0 ∨ 2 ^ 64 ≤ valL (hi ++ [x]) then (Sum.inr (Sum.inl ()) : Sum (Int × Int) (Sum Unit (Int × Int × Int))) else .inr (.inr (((valL (hi ++ [x]) : Nat) : Int), ((hi.length + 1 : Nat) : Int), 0))) = (if 2 ^ 64 ≤ valL (hi ++ [x]) then .inr (.inl ()) else .inr (.inr (((valL (hi ++ [x]) : Nat) : Int), ((hi.length + 1 : Nat) : Int), 0))) := by
          by_cases hb : 2 ^ 64 ≤ valL (hi ++ [x])
          · rw [if_pos (.inr hb), if_pos hb]
          · rw [if_neg (by rintro (⟨_, h⟩ | h); exact hx0 h; exact hb h), if_neg hb]
        rw [e]
        exact ⟨by omega, by omega, hfin⟩
  by_cases hc : hi ≠ [] ∧ x = 0 ∨ 2 ^ 64 ≤ valL (hi ++ [x])
  · rw [if_pos hc] at hstep ⊢
    refine ⟨.inl (), get_steps hr hh (Nat.le_refl _) hl (.done ?_), rfl⟩
    rw [htake]; exact hstep
  · rw [if_neg hc] at hstep ⊢
    refine ⟨.inr _, get_steps hr hh (Nat.le_refl _) hl (.done ?_), rfl⟩
    rw [htake]; exact hstep
theorem get_ten {hi rest : List Int} (hr : r = hi ++ rest) (hh : ∀ y ∈ hi, 128 ≤ y ∧ y < 256) (hl : hi.length = 10) : varint_Get r (0, 0, 3) := by
  refine ⟨.inl (), get_steps hr hh (N := 9) (by omega) (by omega) ?_, rfl⟩
  have h9 : 9 < hi.length := by omega
  have hy := hh hi[9] (List.getElem_mem h9)
  have hx : idx r 9 hi[9] := ⟨by decide, by rw [hr]; show (hi ++ rest)[9]? = _; rw [List.getElem?_append_left h9, List.getElem?_eq_getElem h9]⟩
  have hlt := hx.lt
  refine .next (s' := (ior .u64 ((valL (hi.take 9) : Nat) : Int) (ishl .u64 (IntKind.u64.wrap (hi[9].tmod 128)) 63), 10)) ?_ (.done ?_)
  · unfold varint_Get_l2
    rw [if_pos (by simp), if_neg (by simp; omega)]
    refine ⟨_, hx, by show 0 ≤ IntKind.i64.wrap (7 * 9); decide, _, hx, ?_⟩
    rw [if_pos (by simpa using hy.1)]
    rfl
  · unfold varint_Get_l2
    rw [if_neg (by simp)]
theorem get_less (hh : ∀ y ∈ r, 128 ≤ y ∧ y < 256) (hl : r.length < 10) : varint_Get r (0, 0, 4) := by
  refine ⟨.inr (0, 0, 4), get_steps (rest := []) (by simp) hh (Nat.le_refl _) (by omega) (.done ?_), rfl⟩
  unfold varint_Get_l2
  rw [if_pos (by simp; omega), if_pos (by simp)]
end
/-! ### The document's -/
section
variable {b r : List Int} {at_ : Nat}
theorem drop_idx (hd : b.drop at_ = r) {k : Nat} {x : Int} (h : r[k]? = some x) : idx b ((at_ + k : Nat) : Int) x := by
  refine ⟨by omega, ?_⟩
  rw [Int.toNat_natCast, ← h, ← hd, List.getElem?_drop]
theorem rget_up {hi rest : List Int} (hb : b.length < 1073741824) (hat : at_ ≤ b.length) (hd : b.drop at_ = r) (hr : r = hi ++ rest) (hh : ∀ y ∈ hi, 128 ≤ y ∧ y < 256) (hl : hi.length ≤ 10) (hend : hi.length = 10 ∨ rest = [] ∨ ∃ x l, rest = x :: l ∧ x < 128) :
    Loops (ref01_Get_l5 b at_) (at_ : Int) ((at_ + hi.length : Nat) : Int) := by
  have hlen : b.length = at_ + (hi.length + rest.length) := by
    have := congrArg List.length hd
    rw [List.length_drop, hr, List.length_append] at this; omega
  refine loops_count (fun k => ((at_ + k : Nat) : Int)) hi.length (fun k hk => ?_) ?_
  · have hy := hh hi[k] (List.getElem_mem hk)
    have hx : idx b ((at_ + k : Nat) : Int) hi[k] := drop_idx hd (by rw [hr, List.getElem?_append_left hk, List.getElem?_eq_getElem hk])
    unfold ref01_Get_l5
    rw [if_pos (by simp; omega), if_pos (by rw [w_small (by omega) (by omega)]; simp; omega)]
    refine ⟨_, hx, ?_⟩
    unfold ref01_Get_j6
    rw [if_pos (by simp; omega), w_small (by omega) (by omega)]
    simp; omega
  · unfold ref01_Get_l5
    rcases hend with h | h | ⟨x, l, h, hx1⟩
    · by_cases hr0 : rest = []
      · rw [if_neg (by rw [hr0] at hlen; simp at hlen ⊢; omega)]
        unfold ref01_Get_j6
        rw [if_neg (by decide)]
      · have : 0 < rest.length := by cases rest with
          | nil => exact absurd rfl hr0
          | cons _ _ => simp
        rw [if_pos (by simp; omega), if_neg (by rw [w_small (by omega) (by omega)]; simp; omega)]
        unfold ref01_Get_j6
        rw [if_neg (by decide)]
    · rw [if_neg (by rw [h] at hlen; simp at hlen ⊢; omega)]
      unfold ref01_Get_j6
      rw [if_neg (by decide)]
    · have hx : idx b ((at_ + hi.length : Nat) : Int) x := drop_idx hd (by rw [hr, h]; simp)
      have hlt := hx.lt
      by_cases h10 : hi.length = 10
      · rw [if_pos (by simp; omega), if_neg (by rw [w_small (by omega) (by omega)]; simp; omega)]
        unfold ref01_Get_j6
        rw [if_neg (by decide)]
      · rw [if_pos (by simp; omega), if_pos (by rw [w_small (by omega) (by omega)]; simp; omega)]
        refine ⟨x, hx, ?_⟩
        unfold ref01_Get_j6
        rw [if_neg (by simp; omega)]
theorem valL_div : ∀ (l : List Int) (k : Nat) (x : Int), l[k]? = some x → valL l / 128 ^ k = (x % 128).toNat + 128 * (valL l / 128 ^ (k + 1))
  | [], k, x, h => by simp at h
  | y :: l, 0, x, h => by
    simp at h; subst h
    unfold valL
    rw [Nat.pow_zero, Nat.div_one, Nat.zero_add, Nat.pow_one]
    omega
  | y :: l, k + 1, x, h => by
    have ih := valL_div l k x (by simpa using h)
    have e : ∀ j, valL (y :: l) / 128 ^ (j + 1) = valL l / 128 ^ j := fun j => by
      rw [Nat.pow_succ, Nat.mul_comm, ← Nat.div_div_eq_div_mul]
      have : valL (y :: l) = (y % 128).toNat + 128 * valL l := rfl
      rw [this]
      congr 1; omega
    rw [e, e, ih]
theorem rget_last {hi rest : List Int} {x : Int} (hb : b.length < 1073741824) (hat : at_ ≤ b.length) (hd : b.drop at_ = r) (hr : r = hi ++ x :: rest) (hh : ∀ y ∈ hi, 128 ≤ y ∧ y < 256) (h0 : 0 ≤ x) (h1 : x < 128) (hl : hi.length ≤ 9) :
    ref01_Get b at_ (if hi ≠ [] ∧ x = 0 ∨ 2 ^ 64 ≤ valL (hi ++ [x]) then (0, (at_ : Int), 3) else (((valL (hi ++ [x]) : Nat) : Int), ((at_ + (hi.length + 1) : Nat) : Int), 0)) := by
  have hlen : b.length = at_ + (hi.length + (rest.length + 1)) := by
    have := congrArg List.length hd
    rw [List.length_drop, hr, List.length_append, List.length_cons] at this; omega
  have hxi : idx b ((at_ + hi.length : Nat) : Int) x := drop_idx hd (by rw [hr]; simp)
  refine ⟨_, rget_up hb hat hd hr hh (by omega) (.inr (.inr ⟨x, rest, rfl, h1⟩)), ?_⟩
  unfold ref01_Get_j1
  rw [if_neg (by rw [w_small (by omega) (by omega)]; simp; omega), if_neg (by simp; omega)]
  generalize hV : valL (hi ++ [x]) = V
  have hlv := valL_lt (hi ++ [x])
  rw [hV, List.length_append, List.length_singleton] at hlv
  have p9 : (128 : Nat) ^ 9 = 9223372036854775808 := by decide
  have hdig : ∀ k, k ≤ hi.length → ∃ c, idx b ((at_ + k : Nat) : Int) c ∧ 0 ≤ c ∧ c < 256 ∧ V / 128 ^ k = (c % 128).toNat + 128 * (V / 128 ^ (k + 1)) := by
    intro k hk
    by_cases hk2 : k < hi.length
    · have hy := hh hi[k] (List.getElem_mem hk2)
      refine ⟨hi[k], drop_idx hd (by rw [hr, List.getElem?_append_left hk2, List.getElem?_eq_getElem hk2]), by omega, by omega, ?_⟩
      rw [← hV]
      exact valL_div _ _ _ (by rw [List.getElem?_append_left hk2, List.getElem?_eq_getElem hk2])
    · have : k = hi.length := by omega
      subst this
      refine ⟨x, hxi, h0, by omega, ?_⟩
      rw [← hV]
      exact valL_div _ _ _ (by simp)
  -- one step down
  have down : ∀ k, k < hi.length + 1 → V / 128 ^ (hi.length + 1 - k) ≤ 144115188075855871 → ref01_Get_l4 b at_ (((V / 128 ^ (hi.length + 1 - k) : Nat) : Int), (at_ : Int) + hi.length - k) (.inl (((V / 128 ^ (hi.length + 1 - (k + 1)) : Nat) : Int), (at_ : Int) + hi.length - (k + 1 : Nat))) := by
    intro k hk hsm
    obtain ⟨c, c1, c2, c3, c4⟩ := hdig (hi.length - k) (by omega)
    have e1 : hi.length + 1 - (k + 1) = hi.length - k := by omega
    have e2 : hi.length - k + 1 = hi.length + 1 - k := by omega
    rw [e2] at c4
    have e3 : ((at_ + (hi.length - k) : Nat) : Int) = (at_ : Int) + hi.length - k := by omega
    rw [e3] at c1
    unfold ref01_Get_l4
    rw [if_pos (by simp only [decide_eq_true_eq]; omega), if_neg (by simp only [decide_eq_true_eq]; omega)]
    refine ⟨c, c1, ?_⟩
    rw [e1, c4, tm128 c2 c3, w64_small (n := _ * 128) (by omega) (by omega), w64_small (by simp only; omega) (by simp only; omega), w_small (by omega) (by omega)]
    congr 2
    · simp only; omega
    · omega
  have hV0 : V / 128 ^ (hi.length + 1) = 0 := Nat.div_eq_of_lt hlv
  have start : ∀ {e}, Loops (ref01_Get_l4 b at_) (((V / 128 ^ (hi.length + 1 - 0) : Nat) : Int), (at_ : Int) + hi.length - (0 : Nat)) e → Loops (ref01_Get_l4 b at_) (0, ((at_ + hi.length : Nat) : Int)) e := by
    intro e h
    rw [Nat.sub_zero, hV0] at h
    have e2 : (at_ : Int) + hi.length - (0 : Nat) = ((at_ + hi.length : Nat) : Int) := by omega
    rw [e2] at h
    exact h
  by_cases hbig : 2 ^ 64 ≤ V
  · have h9 : hi.length = 9 := by
      by_cases h : hi.length = 9
      · exact h
      · have : (128 : Nat) ^ (hi.length + 1) ≤ 128 ^ 9 := Nat.pow_le_pow_right (by decide) (by omega)
        omega
    rw [if_pos (.inr hbig)]
    refine ⟨.inr (0, (at_ : Int), 3), start (loops_pre (fun k => (((V / 128 ^ (hi.length + 1 - k) : Nat) : Int), (at_ : Int) + hi.length - k)) 9 (fun k hk => down k (by omega) ?_) (.done ?_)), rfl⟩
    · have h2 : (128 : Nat) ^ 2 ≤ 128 ^ (hi.length + 1 - k) := Nat.pow_le_pow_right (by decide) (by omega)
      have h3 : V / 128 ^ (hi.length + 1 - k) ≤ V / 128 ^ 2 := Nat.div_le_div_left h2 (by decide)
      have p10 : (128 : Nat) ^ (hi.length + 1) = 1180591620717411303424 := by rw [h9]
      have p2 : (128 : Nat) ^ 2 = 16384 := by decide
      rw [p2] at h3
      omega
    · unfold ref01_Get_l4
      rw [h9]
      have p1 : (128 : Nat) ^ (9 + 1 - 9) = 128 := by decide
      rw [if_pos (by simp), if_pos (by rw [p1]; simp; omega)]
  · have hrun : Loops (ref01_Get_l4 b at_) (0, ((at_ + hi.length : Nat) : Int)) (.inl (V : Int)) := by
      refine start (loops_pre (fun k => (((V / 128 ^ (hi.length + 1 - k) : Nat) : Int), (at_ : Int) + hi.length - k)) (hi.length + 1) (fun k hk => down k hk ?_) (.done ?_))
      · have h2 : (128 : Nat) ^ 1 ≤ 128 ^ (hi.length + 1 - k) := Nat.pow_le_pow_right (by decide) (by omega)
        have h3 : V / 128 ^ (hi.length + 1 - k) ≤ V / 128 ^ 1 := Nat.div_le_div_left h2 (by decide)
        have p2 : (128 : Nat) ^ 1 = 128 := by decide
        rw [p2] at h3
        omega
      · unfold ref01_Get_l4
        rw [if_neg (by simp; omega), Nat.sub_self, Nat.pow_zero, Nat.div_one]
    refine ⟨.inl (V : Int), hrun, ?_⟩
    show ref01_Get_j2 b at_ ((at_ + hi.length : Nat) : Int) (V : Int) _
    have fin : ref01_Get_j3 (at_ : Int) ((at_ + hi.length : Nat) : Int) (V : Int) (decide (hi ≠ [] ∧ x = 0)) (if hi ≠ [] ∧ x = 0 ∨ 2 ^ 64 ≤ V then (0, (at_ : Int), 3) else ((V : Int), ((at_ + (hi.length + 1) : Nat) : Int), 0)) := by
      unfold ref01_Get_j3
      by_cases hz : hi ≠ [] ∧ x = 0
      · rw [decide_eq_true hz, if_pos rfl, if_pos (.inl hz)]
      · rw [decide_eq_false hz, if_neg (by decide), if_neg (by rintro (h | h); exact hz h; exact hbig h), w_small (by omega) (by omega)]
        congr 2
    unfold ref01_Get_j2
    by_cases hn : hi = []
    · have hn0 : hi.length = 0 := by rw [hn]; rfl
      rw [if_neg (by simp; omega)]
      rw [decide_eq_false (by rintro ⟨h, _⟩; exact h hn)] at fin
      exact fin
    · have hpos : 0 < hi.length := by cases hi with
        | nil => exact absurd rfl hn
        | cons _ _ => simp
      rw [if_pos (by simp; omega)]
      refine ⟨x, hxi, ?_⟩
      have e : decide (hi ≠ [] ∧ x = 0) = decide (x = 0) := by
        by_cases hx0 : x = 0
        · rw [decide_eq_true ⟨hn, hx0⟩, decide_eq_true hx0]
        · rw [decide_eq_false (by rintro ⟨_, h⟩; exact hx0 h), decide_eq_false hx0]
      rw [e] at fin
      exact fin
theorem rget_ten {hi rest : List Int} (hb : b.length < 1073741824) (hat : at_ ≤ b.length) (hd : b.drop at_ = r) (hr : r = hi ++ rest) (hh : ∀ y ∈ hi, 128 ≤ y ∧ y < 256) (hl : hi.length = 10) : ref01_Get b at_ (0, (at_ : Int), 3) := by
  refine ⟨_, rget_up hb hat hd hr hh (by omega) (.inl hl), ?_⟩
  have hlen : b.length = at_ + (hi.length + rest.length) := by
    have := congrArg List.length hd
    rw [List.length_drop, hr, List.length_append] at this; omega
  unfold ref01_Get_j1
  rw [if_pos (by rw [w_small (by omega) (by omega)]; simp; omega)]
theorem rget_less (hb : b.length < 1073741824) (hat : at_ ≤ b.length) (hd : b.drop at_ = r) (hh : ∀ y ∈ r, 128 ≤ y ∧ y < 256) (hl : r.length < 10) : ref01_Get b at_ (0, (at_ : Int), 4) := by
  refine ⟨_, rget_up (rest := []) hb hat hd (by simp) hh (by omega) (.inr (.inl rfl)), ?_⟩
  have hlen : b.length = at_ + r.length := by
    have := congrArg List.length hd
    rw [List.length_drop] at this; omega
  unfold ref01_Get_j1
  rw [if_neg (by rw [w_small (by omega) (by omega)]; simp; omega), if_pos (by simp; omega)]
end
theorem get_any (r : List Int) (hb : Byt r) :
    (∃ n rest, n < 2 ^ 64 ∧ r = vB n ++ rest ∧ varint_Get r ((n : Int), ((vB n).length : Int), 0) ∧ ∀ (b : List Int) (at_ : Nat), b.length < 1073741824 → at_ ≤ b.length → b.drop at_ = r → ref01_Get b at_ ((n : Int), ((at_ + (vB n).length : Nat) : Int), 0)) ∨
    (∃ e : Int, (e = 3 ∨ e = 4) ∧ varint_Get r (0, 0, e) ∧ ∀ (b : List Int) (at_ : Nat), b.length < 1073741824 → at_ ≤ b.length → b.drop at_ = r → ref01_Get b at_ (0, (at_ : Int), e)) := by
  rcases get_cut 10 r hb with ⟨hi, x, rest, hr, h1, h2, h3, h4⟩ | ⟨hi, rest, hr, h1, h2⟩ | ⟨h1, h2⟩
  · have g := get_last hr h1 h2 h3 (by omega)
    by_cases hc : hi ≠ [] ∧ x = 0 ∨ 2 ^ 64 ≤ valL (hi ++ [x])
    · rw [if_pos hc] at g
      refine .inr ⟨3, .inl rfl, g, fun b at_ a1 a2 a3 => ?_⟩
      have := rget_last a1 a2 a3 hr h1 h2 h3 (by omega)
      rw [if_pos hc] at this
      exact this
    · rw [if_neg hc] at g
      have hv := (vB_val hi x h1 h2 h3 (fun hn hx => hc (.inl ⟨hn, hx⟩))).1
      have hl : (vB (valL (hi ++ [x]))).length = hi.length + 1 := by rw [hv]; simp
      refine .inl ⟨valL (hi ++ [x]), rest, by omega, by rw [hv, hr]; simp, by rw [hl]; exact g, fun b at_ a1 a2 a3 => ?_⟩
      have := rget_last a1 a2 a3 hr h1 h2 h3 (by omega)
      rw [if_neg hc] at this
      rw [hl]; exact this
  · exact .inr ⟨3, .inl rfl, get_ten hr h1 h2, fun b at_ a1 a2 a3 => rget_ten a1 a2 a3 hr h1 h2⟩
  · exact .inr ⟨4, .inr rfl, get_less h1 h2, fun b at_ a1 a2 a3 => rget_less a1 a2 a3 h1 h2⟩
end Go.Rel
/-! Plain laws: numbers in digits. -/
namespace Go.Rel
open Go Go.Eng Go.Pl
/-! ### Bytes as strings -/
theorem foldl_push_size (l : List Int) (s : ByteArray) : (l.foldl (fun r n => r.push (UInt8.ofNat n.toNat)) s).size = s.size + l.length := by
  induction l generalizing s with
  | nil => simp
  | cons x l ih => rw [List.foldl_cons, ih, ByteArray.size_push, List.length_cons]; omega
theorem size_bstr (l : List Int) : (bstr l).size = l.length := by
  unfold bstr
  rw [foldl_push_size]
  show ByteArray.empty.size + _ = _
  simp
/-! ### Digits -/
/-! ### The library's -/
/-! ### The document's -/
end Go.Rel
/-! Plain laws: messages: fields, what is wrong with one. -/
namespace Go.Rel
open Go Go.Eng Go.Pl

theorem len_wrap {n : Nat} (h : n < 4611686018427387904) : IntKind.i64.wrap ((n : Int) + 1) = ((n + 1 : Nat) : Int) := by rw [w_small] <;> omega
def firstE {U E : Type} (u : U) (bad : Nat → Option E) (n : Nat) : Sum U E := match (List.range n).findSome? bad with | some e => .inr e | none => .inl u
theorem loops_first {S U E : Type} {step : S → Sum S (Sum U E) → Prop} (f : Nat → S) (bad : Nat → Option E) (u : U) (n : Nat) (hs : ∀ k, k < n → (∀ e, bad k = some e → step (f k) (.inr (.inr e))) ∧ (bad k = none → step (f k) (.inl (f (k + 1))))) (he : step (f n) (.inr (.inl u))) : Loops step (f 0) (firstE u bad n) := by
  have key : ∀ m k, k + m = n → Loops step (f k) (match (List.range' k m).findSome? bad with | some e => .inr e | none => .inl u) := by
    intro m
    induction m with
    | zero => intro k hk; obtain rfl : k = n := by omega
              exact .done he
    | succ m ih =>
      intro k hk
      have hsk := hs k (by omega)
      rw [List.range'_succ, List.findSome?_cons]
      cases hb : bad k with
      | some e => exact .done (hsk.1 e hb)
      | none => exact .next (hsk.2 hb) (ih (k + 1) (by omega))
  have := key n 0 (by omega)
  unfold firstE
  rw [List.range_eq_range']
  exact this
theorem firstE_none {U E : Type} {u : U} {bad : Nat → Option E} {n : Nat} (h : ∀ k, k < n → bad k = none) : firstE u bad n = .inl u := by
  unfold firstE
  rw [List.findSome?_eq_none_iff.2 (fun k hk => h k (List.mem_range.1 hk))]
theorem firstE_some {U E : Type} {u : U} {bad : Nat → Option E} {n : Nat} (h : firstE u bad n = .inl u) : ∀ k, k < n → bad k = none := by
  unfold firstE at h
  intro k hk
  cases hf : (List.range n).findSome? bad with
  | some e => rw [hf] at h; cases h
  | none => exact List.findSome?_eq_none_iff.1 hf k (List.mem_range.2 hk)

abbrev Mg := Int × List Int × List (Int × Int) × List Int × ByteArray × ByteArray
abbrev Mr := Int × List Int × List (List Int) × List Int × ByteArray × ByteArray
abbrev Fd := ByteArray × Int × Int × Int × Int × Int × Int
def robotF : Fd := ((bstr [114, 111, 98, 111, 116]), 1, 0, 0, 65535, 1, 0)
def fieldsB (k : Int) : List Fd :=
  if k = 1 then [robotF, ((bstr [115, 112, 101, 101, 100]), 1, 1, 1, 5000, 1, 0), ((bstr [97, 99, 99, 101, 108]), 1, 2, 1, 10000, 2, 500), ((bstr [112, 97, 116, 104]), 3, (-1), 1, 16, 1, 0), ((bstr [116, 97, 103]), 6, (-1), 0, 16, 2, 0)]
  else if k = 2 then [robotF, ((bstr [114, 101, 97, 115, 111, 110]), 1, 1, 0, 15, 1, 0), ((bstr [122, 111, 110, 101]), 1, 2, 0, 4095, 2, 0)]
  else if k = 3 then [robotF, ((bstr [122, 111, 110, 101]), 1, 1, 0, 4095, 1, 0), ((bstr [108, 101, 97, 115, 101]), 1, 2, 1, 255, 2, 1), ((bstr [99, 101, 108, 108, 115]), 4, (-1), 1, 32, 1, 0)]
  else if k = 4 then [robotF, ((bstr [120]), 2, 1, (-1000000), 1000000, 1, 0), ((bstr [121]), 2, 2, (-1000000), 1000000, 1, 0), ((bstr [104, 101, 97, 100, 105, 110, 103]), 1, 3, 0, 35999, 1, 0), ((bstr [98, 97, 116, 116, 101, 114, 121]), 1, 4, 0, 1000, 1, 0), ((bstr [115, 117, 114, 101]), 1, 5, 0, 100, 2, 100)]
  else if k = 5 then [robotF, ((bstr [99, 111, 100, 101]), 1, 1, 1, 9999, 1, 0), ((bstr [115, 101, 118, 101, 114, 105, 116, 121]), 1, 2, 0, 4, 1, 0), ((bstr [112, 97, 114, 116]), 1, 3, 0, 255, 2, 0), ((bstr [116, 105, 109, 101, 115]), 1, 4, 1, 1000000, 2, 1), ((bstr [116, 101, 120, 116]), 5, (-1), 0, 64, 1, 0)]
  else []
theorem fields_ok (k : Int) : field_Of k (fieldsB k) := by
  unfold field_Of fieldsB
  by_cases h1 : k = 1
  · rw [if_pos (by simpa using h1), if_pos h1]; exact ⟨_, rfl, rfl⟩
  rw [if_neg (by simpa using h1), if_neg h1]
  by_cases h2 : k = 2
  · rw [if_pos (by simpa using h2), if_pos h2]; exact ⟨_, rfl, rfl⟩
  rw [if_neg (by simpa using h2), if_neg h2]
  by_cases h3 : k = 3
  · rw [if_pos (by simpa using h3), if_pos h3]; exact ⟨_, rfl, rfl⟩
  rw [if_neg (by simpa using h3), if_neg h3]
  by_cases h4 : k = 4
  · rw [if_pos (by simpa using h4), if_pos h4]; exact ⟨_, rfl, rfl⟩
  rw [if_neg (by simpa using h4), if_neg h4]
  by_cases h5 : k = 5
  · rw [if_pos (by simpa using h5), if_pos h5]; exact ⟨_, rfl, rfl⟩
  rw [if_neg (by simpa using h5), if_neg h5]
def fdOk (f : Fd) : Prop := f.2.2.2.2.2.1 ≤ 2 ∧ f.1.size ≤ 10 ∧ ((f.2.1 = 3 ∧ f.2.2.2.1 = 1 ∧ f.2.2.2.2.1 = 16) ∨ (f.2.1 = 4 ∧ f.2.2.2.1 = 1 ∧ f.2.2.2.2.1 = 32) ∨ (f.2.1 = 5 ∧ f.2.2.2.1 = 0 ∧ f.2.2.2.2.1 = 64) ∨ (f.2.1 = 6 ∧ f.2.2.2.1 = 0 ∧ f.2.2.2.2.1 = 16) ∨ (1 ≤ f.2.1 ∧ f.2.1 < 3 ∧ 0 ≤ f.2.2.1 ∧ f.2.2.1 < 6 ∧ -1000000 ≤ f.2.2.2.1 ∧ f.2.2.2.2.1 ≤ 1000000))
theorem fields_all (P : Fd → Prop) (k : Int) (h0 : P robotF) (h1 : ∀ f ∈ [((bstr [115, 112, 101, 101, 100]), 1, 1, 1, 5000, 1, 0), ((bstr [97, 99, 99, 101, 108]), 1, 2, 1, 10000, 2, 500), ((bstr [112, 97, 116, 104]), 3, (-1), 1, 16, 1, 0), ((bstr [116, 97, 103]), 6, (-1), 0, 16, 2, 0), ((bstr [114, 101, 97, 115, 111, 110]), 1, 1, 0, 15, 1, 0), ((bstr [122, 111, 110, 101]), 1, 2, 0, 4095, 2, 0), ((bstr [122, 111, 110, 101]), 1, 1, 0, 4095, 1, 0), ((bstr [108, 101, 97, 115, 101]), 1, 2, 1, 255, 2, 1), ((bstr [99, 101, 108, 108, 115]), 4, (-1), 1, 32, 1, 0), ((bstr [120]), 2, 1, (-1000000), 1000000, 1, 0), ((bstr [121]), 2, 2, (-1000000), 1000000, 1, 0), ((bstr [104, 101, 97, 100, 105, 110, 103]), 1, 3, 0, 35999, 1, 0), ((bstr [98, 97, 116, 116, 101, 114, 121]), 1, 4, 0, 1000, 1, 0), ((bstr [115, 117, 114, 101]), 1, 5, 0, 100, 2, 100), ((bstr [99, 111, 100, 101]), 1, 1, 1, 9999, 1, 0), ((bstr [115, 101, 118, 101, 114, 105, 116, 121]), 1, 2, 0, 4, 1, 0), ((bstr [112, 97, 114, 116]), 1, 3, 0, 255, 2, 0), ((bstr [116, 105, 109, 101, 115]), 1, 4, 1, 1000000, 2, 1), ((bstr [116, 101, 120, 116]), 5, (-1), 0, 64, 1, 0)], P f) : ∀ f ∈ fieldsB k, P f := by
  simp only [List.forall_mem_cons] at h1
  unfold fieldsB
  by_cases e1 : k = 1
  · rw [if_pos e1]; simp only [List.forall_mem_cons]; simp [h0, h1]
  rw [if_neg e1]
  by_cases e2 : k = 2
  · rw [if_pos e2]; simp only [List.forall_mem_cons]; simp [h0, h1]
  rw [if_neg e2]
  by_cases e3 : k = 3
  · rw [if_pos e3]; simp only [List.forall_mem_cons]; simp [h0, h1]
  rw [if_neg e3]
  by_cases e4 : k = 4
  · rw [if_pos e4]; simp only [List.forall_mem_cons]; simp [h0, h1]
  rw [if_neg e4]
  by_cases e5 : k = 5
  · rw [if_pos e5]; simp only [List.forall_mem_cons]; simp [h0, h1]
  rw [if_neg e5]
  simp
theorem fields_fd (k : Int) : ∀ f ∈ fieldsB k, fdOk f := by
  refine fields_all fdOk k (by simp [fdOk, robotF, size_bstr]) ?_
  simp only [List.forall_mem_cons]
  simp [fdOk, size_bstr]
theorem fields_len (k : Int) : (fieldsB k).length ≤ 6 := by
  unfold fieldsB
  by_cases e1 : k = 1
  · rw [if_pos e1]; simp
  rw [if_neg e1]
  by_cases e2 : k = 2
  · rw [if_pos e2]; simp
  rw [if_neg e2]
  by_cases e3 : k = 3
  · rw [if_pos e3]; simp
  rw [if_neg e3]
  by_cases e4 : k = 4
  · rw [if_pos e4]; simp
  rw [if_neg e4]
  by_cases e5 : k = 5
  · rw [if_pos e5]; simp
  rw [if_neg e5]
  simp
/-! The reference's list. -/
def placed : Int → List Fd → List Fd
  | _, [] => []
  | p, f :: l => if f.2.1 < 3 then (f.1, f.2.1, p, f.2.2.2) :: placed (p + 1) l else (f.1, f.2.1, -1, f.2.2.2) :: placed p l
theorem placed_ok (fs : List Fd) (hl : fs.length < 100) : ∀ (l pre : List Fd), fs = pre ++ l → ∀ (acc : List Fd) (p : Int), acc.length ≤ pre.length → 0 ≤ p → p ≤ pre.length → Loops (ref16_All_l3 fs) (acc, p, (pre.length : Int)) (acc ++ placed p l)
  | [], pre, h, acc, p, _, _, _ => by
    have : fs.length = pre.length := by rw [h]; simp
    refine .done ?_
    unfold ref16_All_l3
    rw [if_neg (by simp; omega)]
    simp [placed]
  | f :: l, pre, h, acc, p, ha, h0, hp => by
    have hlen : fs.length = pre.length + l.length + 1 := by rw [h]; simp; omega
    have hat : fs[pre.length]? = some f := by rw [h]; simp
    have hw := len_wrap (n := pre.length) (by omega)
    have rest := fun acc p h1 h2 h3 => placed_ok fs hl l (pre ++ [f]) (by rw [h]; simp) acc p h1 h2 h3
    simp only [List.length_append, List.length_cons, List.length_nil] at rest
    by_cases hf : f.2.1 < 3
    · have r := rest (acc ++ [(f.1, f.2.1, p, f.2.2.2)]) (p + 1) (by simp; omega) (by omega) (by omega)
      refine .next (s' := (acc ++ [(f.1, f.2.1, p, f.2.2.2)], p + 1, ((pre.length + 1 : Nat) : Int))) ?_ (by simpa [placed, hf] using r)
      unfold ref16_All_l3
      rw [if_pos (by simp; omega)]
      refine ⟨f, idx_at rfl hat, ?_⟩
      rw [if_pos (by simpa using hf)]
      unfold ref16_All_j4
      refine ⟨by simp only [List.length_cons, List.length_nil]; omega, by simp only [List.length_cons, List.length_nil]; omega, ?_⟩
      simp only
      rw [hw, w_small (by omega) (by omega)]
    · have r := rest (acc ++ [(f.1, f.2.1, -1, f.2.2.2)]) p (by simp; omega) (by omega) (by omega)
      refine .next (s' := (acc ++ [(f.1, f.2.1, -1, f.2.2.2)], p, ((pre.length + 1 : Nat) : Int))) ?_ (by simpa [placed, hf] using r)
      unfold ref16_All_l3
      rw [if_pos (by simp; omega)]
      refine ⟨f, idx_at rfl hat, ?_⟩
      rw [if_neg (by simpa using hf)]
      unfold ref16_All_j4
      refine ⟨by simp only [List.length_cons, List.length_nil]; omega, by simp only [List.length_cons, List.length_nil]; omega, ?_⟩
      simp only
      rw [hw]
theorem rall_of (fs : List Fd) (hl : fs.length < 100) {r : List Fd} (h : placed 0 fs = r) : ref16_All_j1 fs r := by
  subst h
  exact ⟨_, placed_ok fs hl fs [] rfl [] 0 (by simp) (by simp) (by simp), by simp [ref16_All_j2]⟩
theorem rfields_ok (k : Int) : ref16_All k (fieldsB k) := by
  unfold ref16_All fieldsB
  by_cases h1 : k = 1
  · rw [if_pos (by simpa using h1), if_pos h1]; exact rall_of _ (by simp) rfl
  rw [if_neg (by simpa using h1), if_neg h1]
  by_cases h2 : k = 2
  · rw [if_pos (by simpa using h2), if_pos h2]; exact rall_of _ (by simp) rfl
  rw [if_neg (by simpa using h2), if_neg h2]
  by_cases h3 : k = 3
  · rw [if_pos (by simpa using h3), if_pos h3]; exact rall_of _ (by simp) rfl
  rw [if_neg (by simpa using h3), if_neg h3]
  by_cases h4 : k = 4
  · rw [if_pos (by simpa using h4), if_pos h4]; exact rall_of _ (by simp) rfl
  rw [if_neg (by simpa using h4), if_neg h4]
  by_cases h5 : k = 5
  · rw [if_pos (by simpa using h5), if_pos h5]; exact rall_of _ (by simp) rfl
  rw [if_neg (by simpa using h5), if_neg h5]
  exact rall_of _ (by simp) rfl
/-! What is wrong with a part. -/
def manyB (n least most : Int) : Int := if n < least then 13 else if most < n then 6 else 0
theorem many_ok (n : Int) (f : Fd) : msg_many n f (manyB n f.2.2.2.1 f.2.2.2.2.1) := by
  unfold msg_many manyB
  simp only [decide_eq_true_eq]
  repeat' (first | rfl | split)
def errO (o : Sum Unit Int) : Int := match o with | .inr e => e | .inl _ => 0
theorem aft_err {j : Unit → Int → Prop} {o : Sum Unit Int} (h : ∀ u, j u 0) : Aft (fun p => j p (errO o)) (fun p => errO o = p) o := by
  cases o with
  | inl u => exact h u
  | inr e => rfl
def pathBad (l : List (Int × Int)) (k : Nat) : Option Int := match l[k]? with | some p => if 1000000 < max p.1 p.2 ∨ min p.1 p.2 < -1000000 then some 5 else none | none => none
def pathL (l : List (Int × Int)) : Int := errO (firstE () (pathBad l) l.length)
def pathB (l : List (Int × Int)) (least most : Int) : Int := if manyB l.length least most = 0 then pathL l else manyB l.length least most
theorem manyB_zero {n a b : Int} (h : manyB n a b = 0) : a ≤ n ∧ n ≤ b := by
  unfold manyB at h; split at h
  · omega
  · split at h <;> omega
theorem path_ok (l : List (Int × Int)) (f : Fd) (hm : f.2.2.2.2.1 < 1000) : msg_path l f (pathB l f.2.2.2.1 f.2.2.2.2.1) := by
  refine ⟨_, many_ok _ f, ?_⟩
  unfold pathB
  by_cases h : manyB l.length f.2.2.2.1 f.2.2.2.2.1 = 0
  · rw [if_neg (by simpa using h), if_pos h]
    have hl := (manyB_zero h).2
    refine ⟨_, loops_first (fun k => (k : Int)) (pathBad l) () l.length (fun k hk => ?_) ?_, aft_err fun _ => rfl⟩
    · have hw := len_wrap (n := k) (by omega)
      have hx := idx_of hk
      have st : ∀ o, (if 1000000 < max l[k].1 l[k].2 ∨ min l[k].1 l[k].2 < -1000000 then o = .inr (.inr 5) else o = .inl ((k + 1 : Nat) : Int)) → msg_path_l2 l (k : Int) o := by
        intro o ho
        unfold msg_path_l2
        rw [if_pos (by simp; omega)]
        refine ⟨_, hx, ?_⟩
        unfold msg_path_j3
        by_cases h1 : 1000000 < max l[k].1 l[k].2
        · rw [if_pos (.inl h1)] at ho; rw [if_pos (by simpa using h1)]; simpa using ho
        · rw [if_neg (by simpa using h1)]
          by_cases h2 : min l[k].1 l[k].2 < -1000000
          · rw [if_pos (.inr h2)] at ho; rw [if_pos (by simpa using h2)]; exact ho
          · rw [if_neg (not_or.2 ⟨h1, h2⟩)] at ho; rw [if_neg (by simpa using h2), hw]; exact ho
      unfold pathBad
      rw [List.getElem?_eq_getElem hk]
      by_cases hb : 1000000 < max l[k].1 l[k].2 ∨ min l[k].1 l[k].2 < -1000000
      · simp only [if_pos hb]; exact ⟨fun e he => (by cases he; exact st _ (by rw [if_pos hb])), fun he => by cases he⟩
      · simp only [if_neg hb]; exact ⟨fun e he => (by cases he), fun _ => st _ (by rw [if_neg hb])⟩
    · unfold msg_path_l2
      rw [if_neg (by simp)]
  · rw [if_pos (by simpa using h), if_neg h]
def cellsBad (l : List Int) (k : Nat) : Option Int := if l.getD k 0 < 0 ∨ 65535 < l.getD k 0 then some 5 else if 0 < k ∧ l.getD k 0 ≤ l.getD (k - 1) 0 then some 3 else none
def cellsL (l : List Int) : Int := errO (firstE () (cellsBad l) l.length)
def cellsB (l : List Int) (least most : Int) : Int := if manyB l.length least most = 0 then cellsL l else manyB l.length least most
theorem cells_ok (l : List Int) (f : Fd) (hm : f.2.2.2.2.1 < 1000) : msg_cells l f (cellsB l f.2.2.2.1 f.2.2.2.2.1) := by
  refine ⟨_, many_ok _ f, ?_⟩
  unfold cellsB
  by_cases h : manyB l.length f.2.2.2.1 f.2.2.2.2.1 = 0
  · rw [if_neg (by simpa using h), if_pos h]
    have hl := (manyB_zero h).2
    refine ⟨_, loops_first (fun k => ((if k = 0 then -1 else l.getD (k - 1) 0), (k : Int))) (cellsBad l) () l.length (fun k hk => ?_) ?_, aft_err fun _ => rfl⟩
    · have hw := len_wrap (n := k) (by omega)
      have hx := idx_of hk
      have hg : l.getD k 0 = l[k] := by simp [List.getD_eq_getElem?_getD, hk]
      have st : ∀ o, (if l[k] < 0 ∨ 65535 < l[k] then o = .inr (.inr 5) else if l[k] ≤ (if k = 0 then -1 else l.getD (k - 1) 0) then o = .inr (.inr 3) else o = .inl (l[k], ((k + 1 : Nat) : Int))) → msg_cells_l2 l ((if k = 0 then -1 else l.getD (k - 1) 0), (k : Int)) o := by
        intro o ho
        unfold msg_cells_l2
        rw [if_pos (by simp; omega)]
        refine ⟨_, hx, ?_⟩
        unfold msg_cells_j3
        have hj : (if l[k] < 0 ∨ 65535 < l[k] then o = .inr (.inr 5) else if (decide (l[k] ≤ (if k = 0 then -1 else l.getD (k - 1) 0))) = true then o = .inr (.inr 3) else o = .inl (l[k], (IntKind.i64.wrap ((k : Int) + 1)))) := by
          rw [hw]; simpa only [decide_eq_true_eq] using ho
        by_cases h1 : l[k] < 0
        · rw [if_pos (.inl h1)] at hj; rw [if_pos (by simpa using h1)]; simpa using hj
        · rw [if_neg (by simpa using h1)]
          by_cases h2 : 65535 < l[k]
          · rw [if_pos (.inr h2)] at hj; rw [if_pos (by simpa using h2)]; exact hj
          · rw [if_neg (not_or.2 ⟨h1, h2⟩)] at hj; rw [if_neg (by simpa using h2)]; exact hj
      unfold cellsBad
      rw [hg]
      by_cases hb : l[k] < 0 ∨ 65535 < l[k]
      · simp only [if_pos hb]; exact ⟨fun e he => (by cases he; exact st _ (by rw [if_pos hb])), fun he => by cases he⟩
      · have hc : (0 < k ∧ l[k] ≤ l.getD (k - 1) 0) ↔ l[k] ≤ (if k = 0 then -1 else l.getD (k - 1) 0) := by
          by_cases h2 : k = 0
          · subst h2; simp; omega
          · rw [if_neg h2]; omega
        simp only [if_neg hb, Nat.add_eq_zero_iff, Nat.one_ne_zero, and_false, if_false, Nat.add_sub_cancel, hg]
        by_cases hd : 0 < k ∧ l[k] ≤ l.getD (k - 1) 0
        · simp only [if_pos hd]; exact ⟨fun e he => (by cases he; exact st _ (by rw [if_neg hb, if_pos (hc.1 hd)])), fun he => by cases he⟩
        · simp only [if_neg hd]; exact ⟨fun e he => (by cases he), fun _ => st _ (by rw [if_neg hb, if_neg (fun h => hd (hc.2 h))])⟩
    · unfold msg_cells_l2
      rw [if_neg (by simp)]
  · rw [if_pos (by simpa using h), if_neg h]
theorem len_bints (s : ByteArray) : (bints s).length = s.size := by unfold bints; rw [List.length_map]; rfl
def textBad (s : ByteArray) (k : Nat) : Option Int := if (bints s).getD k 0 < 32 ∨ 126 < (bints s).getD k 0 then some 19 else none
def textL (s : ByteArray) : Int := errO (firstE () (textBad s) s.size)
def textB (s : ByteArray) (least most : Int) : Int := if manyB s.size least most = 0 then textL s else manyB s.size least most
theorem text_ok (s : ByteArray) (f : Fd) (hm : f.2.2.2.2.1 < 1000) : msg_text s f (textB s f.2.2.2.1 f.2.2.2.2.1) := by
  refine ⟨_, many_ok _ f, ?_⟩
  unfold textB
  by_cases h : manyB s.size f.2.2.2.1 f.2.2.2.2.1 = 0
  · rw [if_neg (by simpa using h), if_pos h]
    have hl := (manyB_zero h).2
    refine ⟨by omega, _, loops_first (fun k => (k : Int)) (textBad s) () s.size (fun k hk => ?_) ?_, aft_err fun _ => rfl⟩
    · have hw := len_wrap (n := k) (by omega)
      have hk' : k < (bints s).length := by rw [len_bints]; exact hk
      have hx := idx_of hk'
      have hg : (bints s).getD k 0 = (bints s)[k] := by simp [List.getD_eq_getElem?_getD, hk']
      have st : ∀ o, (if (bints s)[k] < 32 ∨ 126 < (bints s)[k] then o = .inr (.inr 19) else o = .inl ((k + 1 : Nat) : Int)) → msg_text_l2 s (k : Int) o := by
        intro o ho
        unfold msg_text_l2
        rw [if_pos (by simp only [decide_eq_true_eq]; omega)]
        refine ⟨_, hx, ?_⟩
        unfold msg_text_j3
        by_cases h1 : (bints s)[k] < 32
        · rw [if_pos (.inl h1)] at ho; rw [if_pos (by simpa using h1)]; simpa using ho
        · rw [if_neg (by simpa using h1)]
          by_cases h2 : 126 < (bints s)[k]
          · rw [if_pos (.inr h2)] at ho; rw [if_pos (by simpa using h2)]; exact ho
          · rw [if_neg (not_or.2 ⟨h1, h2⟩)] at ho; rw [if_neg (by simpa using h2), hw]; exact ho
      unfold textBad
      rw [hg]
      by_cases hb : (bints s)[k] < 32 ∨ 126 < (bints s)[k]
      · simp only [if_pos hb]; exact ⟨fun e he => (by cases he; exact st _ (by rw [if_pos hb])), fun he => by cases he⟩
      · simp only [if_neg hb]; exact ⟨fun e he => (by cases he), fun _ => st _ (by rw [if_neg hb])⟩
    · unfold msg_text_l2
      rw [if_neg (by rw [len_bints]; simp)]
  · rw [if_pos (by simpa using h), if_neg h]
def numBad (m : Mg) (f : Fd) : Prop := m.2.1.getD f.2.2.1.toNat 0 < f.2.2.2.1 ∨ f.2.2.2.2.1 < m.2.1.getD f.2.2.1.toNat 0
instance (m : Mg) (f : Fd) : Decidable (numBad m f) := by unfold numBad; infer_instance
def wrongB (m : Mg) (f : Fd) : Int :=
  if f.2.1 = 3 then pathB m.2.2.1 f.2.2.2.1 f.2.2.2.2.1 else if f.2.1 = 4 then cellsB m.2.2.2.1 f.2.2.2.1 f.2.2.2.2.1
  else if f.2.1 = 5 then textB m.2.2.2.2.1 f.2.2.2.1 f.2.2.2.2.1 else if f.2.1 = 6 then textB m.2.2.2.2.2 f.2.2.2.1 f.2.2.2.2.1
  else if numBad m f then 5 else 0
theorem wrong_fd (m : Mg) {f : Fd} (ok : fdOk f) : msg_wrong m f (wrongB m f) := by
  obtain ⟨_, _, ok⟩ := ok
  unfold msg_wrong wrongB
  simp only [decide_eq_true_eq]
  split
  · exact ⟨_, path_ok _ f (by omega), rfl⟩
  split
  · exact ⟨_, cells_ok _ f (by omega), rfl⟩
  split
  · exact ⟨_, text_ok _ f (by omega), rfl⟩
  split
  · exact ⟨_, text_ok _ f (by omega), rfl⟩
  refine ⟨by omega, by omega, ?_⟩
  unfold msg_wrong_j1
  by_cases h1 : m.2.1.getD f.2.2.1.toNat 0 < f.2.2.2.1
  · have hb : numBad m f := Or.inl h1
    rw [if_pos h1, if_pos rfl, if_pos hb]
  · rw [if_neg h1]
    by_cases h2 : f.2.2.2.2.1 < m.2.1.getD f.2.2.1.toNat 0
    · have hb : numBad m f := Or.inr h2
      rw [if_pos (decide_eq_true h2), if_pos hb]
    · have hb : ¬ numBad m f := not_or.2 ⟨h1, h2⟩
      rw [if_neg (by simpa using h2), if_neg hb]
end Go.Rel
/-! Plain laws: are lists, messages the same; copies; the document's view of a message. -/
namespace Go.Rel
open Go Go.Eng Go.Pl

theorem loops_eq {α : Type} [DecidableEq α] {xs ys : List α} {step : Int → Sum Int (Sum Unit Bool) → Prop} (hlen : xs.length = ys.length) (_hx : xs.length < 4611686018427387904)
    (hst : ∀ (k : Nat) x y, xs[k]? = some x → ys[k]? = some y → (x = y → step (k : Int) (.inl ((k + 1 : Nat) : Int))) ∧ (x ≠ y → step (k : Int) (.inr (.inr false)))) (hend : step (xs.length : Int) (.inr (.inl ()))) :
    ∃ e, Loops step 0 e ∧ (∀ (j : Unit → Bool → Prop), (∀ u, j u true) → Aft (fun p => j p (decide (xs = ys))) (fun p => decide (xs = ys) = p) e) := by
  let bad : Nat → Option Bool := fun k => if xs[k]? = ys[k]? then none else some false
  refine ⟨firstE () bad xs.length, loops_first (fun k => (k : Int)) bad () xs.length (fun k hk => ?_) hend, fun j hj => ?_⟩
  · have h1 := List.getElem?_eq_getElem hk
    have h2 : ys[k]? = some (ys[k]'(by omega)) := List.getElem?_eq_getElem (by omega)
    have hs := hst k _ _ h1 h2
    show (∀ e, (if xs[k]? = ys[k]? then none else some false) = some e → _) ∧ ((if xs[k]? = ys[k]? then none else some false) = none → _)
    rw [h1, h2]
    by_cases he : xs[k] = ys[k]'(by omega)
    · rw [if_pos (by rw [he])]; exact ⟨fun e h => (by cases h), fun _ => hs.1 he⟩
    · rw [if_neg (fun h => he (Option.some.inj h))]; exact ⟨fun e h => (by cases h; exact hs.2 he), fun h => (by cases h)⟩
  · by_cases he : xs = ys
    · rw [firstE_none (fun k hk => by show (if xs[k]? = ys[k]? then none else some false) = none; rw [if_pos (by rw [he])])]
      show j () _
      rw [decide_eq_true he]; exact hj ()
    · have : firstE () bad xs.length = .inr false := by
        unfold firstE
        cases hf : (List.range xs.length).findSome? bad with
        | some e =>
          obtain ⟨k, _, hk⟩ := List.exists_of_findSome?_eq_some hf
          have hk : (if xs[k]? = ys[k]? then none else some false) = some e := hk
          split at hk
          · cases hk
          · cases hk; rfl
        | none =>
          exact absurd (List.ext_getElem? fun k => by
            by_cases h : k < xs.length
            · have h2 := List.findSome?_eq_none_iff.1 hf k (List.mem_range.2 h)
              have h2 : (if xs[k]? = ys[k]? then none else some false) = none := h2
              split at h2
              · assumption
              · cases h2
            · rw [List.getElem?_eq_none (by omega), List.getElem?_eq_none (by omega)]) he
      rw [this]; exact decide_eq_false he
theorem ints_ok {a b : List Int} (h : a.length < 4611686018427387904) : ref01_Ints a b (decide (a = b)) := by
  unfold ref01_Ints
  by_cases hl : a.length = b.length
  · rw [if_neg (by simp; omega)]
    obtain ⟨e, h1, h2⟩ := loops_eq (step := ref01_Ints_l2 a b) hl h (fun k x y hx hy => by
      have hk := (List.getElem?_eq_some_iff.1 hx).1
      have st : ∀ o, (if x = y then o = .inl ((k + 1 : Nat) : Int) else o = .inr (.inr false)) → ref01_Ints_l2 a b k o := by
        intro o ho
        unfold ref01_Ints_l2
        rw [if_pos (by simpa using hk)]
        refine ⟨x, idx_at rfl hx, y, idx_at rfl hy, ?_⟩
        by_cases e : x = y
        · rw [if_pos e] at ho; rw [if_neg (by simp [e]), len_wrap (by omega)]; exact ho
        · rw [if_neg e] at ho; rw [if_pos (by simp [e])]; exact ho
      exact ⟨fun e => st _ (by rw [if_pos e]), fun e => st _ (by rw [if_neg e])⟩) (by unfold ref01_Ints_l2; rw [if_neg (by simp)])
    exact ⟨e, h1, h2 ref01_Ints_j1 fun _ => rfl⟩
  · rw [if_pos (by simp; omega), decide_eq_false]; intro e; exact hl (by rw [e])
theorem equalI_ok {a b : List Int} (h : a.length < 4611686018427387904) : slices_Equal_int_int a b (decide (a = b)) := by
  unfold slices_Equal_int_int
  by_cases hl : a.length = b.length
  · rw [if_neg (by simp; omega)]
    obtain ⟨e, h1, h2⟩ := loops_eq (step := slices_Equal_int_int_l2 a b) hl h (fun k x y hx hy => by
      have hk := (List.getElem?_eq_some_iff.1 hx).1
      have st : ∀ o, (if x = y then o = .inl ((k + 1 : Nat) : Int) else o = .inr (.inr false)) → slices_Equal_int_int_l2 a b k o := by
        intro o ho
        unfold slices_Equal_int_int_l2
        rw [if_pos (by simpa using hk)]
        refine ⟨x, idx_at rfl hx, y, idx_at rfl hy, ?_⟩
        by_cases e : x = y
        · rw [if_pos e] at ho; rw [if_neg (by simp [e]), len_wrap (by omega)]; exact ho
        · rw [if_neg e] at ho; rw [if_pos (by simp [e])]; exact ho
      exact ⟨fun e => st _ (by rw [if_pos e]), fun e => st _ (by rw [if_neg e])⟩) (by unfold slices_Equal_int_int_l2; rw [if_neg (by simp)])
    exact ⟨e, h1, h2 slices_Equal_int_int_j1 fun _ => rfl⟩
  · rw [if_pos (by simp; omega), decide_eq_false]; intro e; exact hl (by rw [e])
theorem equalP_ok {a b : List (Int × Int)} (h : a.length < 4611686018427387904) : slices_Equal_msg_Point_msg_Point a b (decide (a = b)) := by
  unfold slices_Equal_msg_Point_msg_Point
  by_cases hl : a.length = b.length
  · rw [if_neg (by simp; omega)]
    obtain ⟨e, h1, h2⟩ := loops_eq (step := slices_Equal_msg_Point_msg_Point_l2 a b) hl h (fun k x y hx hy => by
      have hk := (List.getElem?_eq_some_iff.1 hx).1
      have st : ∀ o, (if x = y then o = .inl ((k + 1 : Nat) : Int) else o = .inr (.inr false)) → slices_Equal_msg_Point_msg_Point_l2 a b k o := by
        intro o ho
        unfold slices_Equal_msg_Point_msg_Point_l2
        rw [if_pos (by simpa using hk)]
        refine ⟨x, idx_at rfl hx, y, idx_at rfl hy, ?_⟩
        by_cases e : x = y
        · rw [if_pos e] at ho; rw [if_neg (by simp [e]), len_wrap (by omega)]; exact ho
        · rw [if_neg e] at ho; rw [if_pos (by
            obtain ⟨x1, x2⟩ := x; obtain ⟨y1, y2⟩ := y
            simp only [Prod.mk.injEq, not_and] at e
            by_cases h1 : x1 = y1
            · simp [h1, e h1]
            · simp [h1])]; exact ho
      exact ⟨fun e => st _ (by rw [if_pos e]), fun e => st _ (by rw [if_neg e])⟩) (by unfold slices_Equal_msg_Point_msg_Point_l2; rw [if_neg (by simp)])
    exact ⟨e, h1, h2 slices_Equal_msg_Point_msg_Point_j1 fun _ => rfl⟩
  · rw [if_pos (by simp; omega), decide_eq_false]; intro e; exact hl (by rw [e])

def n6 (l : List Int) : List Int := [l.getD 0 0, l.getD 1 0, l.getD 2 0, l.getD 3 0, l.getD 4 0, l.getD 5 0]
theorem eqN6 (a b : List Int) : eqN 6 0 a b = decide (n6 a = n6 b) := by
  unfold eqN n6
  simp [List.range_succ]
def sameB (a b : Mg) : Bool := decide (a.1 = b.1 ∧ n6 a.2.1 = n6 b.2.1 ∧ a.2.2 = b.2.2)
theorem msame_ok {a b : Mg} (hp : a.2.2.1.length < 4611686018427387904) (hc : a.2.2.2.1.length < 4611686018427387904) : msg_Same a b (sameB a b) := by
  obtain ⟨k, n, p, c, t, g⟩ := a
  obtain ⟨k', n', p', c', t', g'⟩ := b
  unfold msg_Same sameB
  simp only [eqN6, decide_eq_true_eq, Prod.mk.injEq]
  by_cases h1 : k = k'
  · by_cases h2 : n6 n = n6 n'
    · rw [if_pos h1, if_pos h2]
      refine ⟨_, equalP_ok hp, ?_⟩
      by_cases h3 : p = p'
      · rw [if_pos (by simpa using h3)]
        refine ⟨_, equalI_ok hc, ?_⟩
        by_cases h4 : c = c'
        · rw [if_pos (by simpa using h4)]
          by_cases h5 : t = t'
          · rw [if_pos h5]; simp only [msg_Same_j1, h1, h2, h3, h4, h5, true_and]
          · rw [if_neg h5]; simp [msg_Same_j1, h5]
        · rw [if_neg (by simpa using h4)]; simp [msg_Same_j1, h4]
      · rw [if_neg (by simpa using h3)]; simp [msg_Same_j1, h3]
    · rw [if_pos h1, if_neg h2]; simp [msg_Same_j1, h2]
  · rw [if_neg h1]; simp [msg_Same_j1, h1]
def ofP (p : Int × Int) : List Int := [p.1, p.2]
theorem ofP_inj {p q : Int × Int} (h : ofP p = ofP q) : p = q := by
  obtain ⟨a, b⟩ := p; obtain ⟨c, d⟩ := q
  simp only [ofP, List.cons.injEq, and_true] at h
  rw [h.1, h.2]
def ofM (m : Mg) : Mr := (m.1, m.2.1, m.2.2.1.map ofP, m.2.2.2.1, m.2.2.2.2.1, m.2.2.2.2.2)
theorem ofm_ok {m : Mg} (hp : m.2.2.1.length < 1099511627776) : law17_Of m (ofM m) := by
  refine ⟨m.2.2.1.map ofP, ?_, rfl⟩
  have := loops_count (step := law17_Of_l2 m) (e := m.2.2.1.map ofP) (fun k => ((k : Int), (m.2.2.1.take k).map ofP)) m.2.2.1.length (fun k hk => by
    unfold law17_Of_l2
    rw [if_pos (by simpa using hk)]
    refine ⟨_, idx_of hk, _, idx_of hk, ?_⟩
    have hw := len_wrap (n := k) (by omega)
    simp only [List.length_map, List.length_take, List.length_cons, List.length_nil]
    refine ⟨by omega, by omega, ?_⟩
    rw [hw, List.take_succ_eq_append_getElem hk, List.map_append]; rfl) (by
    unfold law17_Of_l2
    rw [if_neg (by simp)]
    simp)
  simpa using this
theorem rsame_ok {a b : Mg} (hp : a.2.2.1.length < 4611686018427387904) (hc : a.2.2.2.1.length < 4611686018427387904) : ref17_Same (ofM a) (ofM b) (sameB a b) := by
  obtain ⟨k, n, p, c, t, g⟩ := a
  obtain ⟨k', n', p', c', t', g'⟩ := b
  unfold ref17_Same sameB ofM
  simp only [eqN6, Prod.mk.injEq]
  have jt : ∀ x y, ref17_Same_j1 x y true false := fun x y => by unfold ref17_Same_j1; rw [if_pos rfl]
  by_cases h1 : k = k'
  · rw [if_neg (by simp [h1])]
    by_cases h2 : n6 n = n6 n'
    · rw [if_neg (by simp [h2])]
      by_cases h3 : p.length = p'.length
      · rw [if_neg (by simp [h3])]
        refine ⟨_, ints_ok hc, ?_⟩
        by_cases h4 : c = c'
        · rw [if_neg (by simp [h4])]
          by_cases h5 : t = t'
          · rw [if_neg (by simp [h5])]
            by_cases h6 : g = g'
            · subst h1; subst h4; subst h5; subst h6
              rw [decide_eq_true rfl]
              unfold ref17_Same_j1
              rw [if_neg (by simp)]
              simp only [true_and, and_true, h2]
              have hl : (p.map ofP).length = (p'.map ofP).length := by simp [h3]
              obtain ⟨e, he, ha⟩ := loops_eq (xs := p.map ofP) (ys := p'.map ofP) (step := ref17_Same_l3 (k, n, p.map ofP, c, t, g) (k, n', p'.map ofP, c, t, g)) hl (by simpa using hp) (fun q x y hx hy => by
                have hq := (List.getElem?_eq_some_iff.1 hx).1
                simp only [List.length_map] at hq
                simp only at hp
                have st : ∀ o, (if x = y then o = .inl ((q + 1 : Nat) : Int) else o = .inr (.inr false)) → ref17_Same_l3 (k, n, p.map ofP, c, t, g) (k, n', p'.map ofP, c, t, g) q o := by
                  intro o ho
                  unfold ref17_Same_l3
                  rw [if_pos (by simpa using hq)]
                  refine ⟨x, idx_at rfl hx, y, idx_at rfl hy, ?_⟩
                  rw [List.getElem?_map] at hx hy
                  obtain ⟨u, hu, rfl⟩ := Option.map_eq_some_iff.1 hx
                  obtain ⟨v, hv, rfl⟩ := Option.map_eq_some_iff.1 hy
                  have hh : eqN 2 0 (ofP u) (ofP v) = decide (ofP u = ofP v) := by
                    unfold eqN ofP; simp [List.range_succ]
                  rw [hh]
                  by_cases e : ofP u = ofP v
                  · rw [if_pos e] at ho; rw [if_neg (by simp [e]), len_wrap (by omega)]; exact ho
                  · rw [if_neg e] at ho; rw [if_pos (by simp [e])]; exact ho
                exact ⟨fun e => st _ (by rw [if_pos e]), fun e => st _ (by rw [if_neg e])⟩) (by unfold ref17_Same_l3; rw [if_neg (by simp)])
              refine ⟨e, he, ?_⟩
              have hd : (decide (p = p') : Bool) = decide (p.map ofP = p'.map ofP) := by
                refine decide_eq_decide.2 ⟨fun h => by rw [h], fun h => ?_⟩
                exact List.map_inj_right (fun _ _ => ofP_inj) |>.1 h
              rw [hd]
              exact ha ref17_Same_j2 fun _ => rfl
            · rw [decide_eq_false h6, decide_eq_false (by simp [h6])]; exact jt _ _
          · rw [if_pos (by simp [h5]), decide_eq_false (by simp [h5])]; exact jt _ _
        · rw [if_pos (by simp [h4]), decide_eq_false (by simp [h4])]; exact jt _ _
      · rw [if_pos (by simp; omega), decide_eq_false (by rintro ⟨_, _, h, _⟩; exact h3 (by rw [h]))]; exact jt _ _
    · rw [if_pos (by simp [h2]), decide_eq_false (by simp [h2])]; exact jt _ _
  · rw [if_pos (by simp [h1]), decide_eq_false (by simp [h1])]; exact jt _ _
theorem mcopy_ok {m : Mg} (hp : m.2.2.1.length < 1099511627776) (hc : m.2.2.2.1.length < 1099511627776) : msg_Copy m m := by
  refine ⟨_, fun b hb => (?_ : if b = true then m.2.2.1 = [] else _), _, fun b hb => (?_ : if b = true then m.2.2.2.1 = [] else _), rfl⟩
  · cases b with
    | true => exact hb rfl
    | false => exact ⟨by simp; omega, by simp; omega, rfl⟩
  · cases b with
    | true => exact hb rfl
    | false => exact ⟨by simp; omega, by simp; omega, rfl⟩
theorem takeP_min {α : Type} (l : List α) (n : Nat) : (l.drop (0 : Int).toNat).take (((min (l.length : Int) (n : Int)) : Int) - 0).toNat = l.take n := by
  rw [show (0 : Int).toNat = 0 from rfl, List.drop_zero, show ((min (l.length : Int) (n : Int)) - 0).toNat = min l.length n by omega]
  by_cases h : l.length ≤ n
  · rw [Nat.min_eq_left h, List.take_length, List.take_of_length_le h]
  · rw [Nat.min_eq_right (by omega)]
end Go.Rel
