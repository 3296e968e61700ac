import Derived.Test.YtgokdchgjpneoaaDoorPlRef04
import Derived.Test.YtgokdchgjpneoaaDoorPlI
/-! Plain laws: bytes read from the left, bytes written. -/
namespace Go.Rel
open Go Go.Eng Go.Pl
/-- The number whose bytes these are, the lowest one first. -/
def leV : List Int → Int
  | [] => 0
  | c :: l => leV l * 256 + c
theorem leV_bound : ∀ (l : List Int), Byt l → 0 ≤ leV l ∧ leV l < ((256 ^ l.length : Nat) : Int)
  | [], _ => by simp [leV]
  | c :: l, h => by
    have h1 := leV_bound l (fun x hx => h x (List.mem_cons_of_mem _ hx))
    have h2 := h c List.mem_cons_self
    simp only [leV, List.length_cons, Nat.pow_succ]
    omega
theorem leV_drop {l : List Int} {k : Nat} (h : k < l.length) : leV (l.drop k) = leV (l.drop (k + 1)) * 256 + l[k] := by
  rw [List.drop_eq_getElem_cons h]; rfl
theorem ior_32 {s c : Int} (hs : 0 ≤ s ∧ s < 16777216) (hc : 0 ≤ c ∧ c < 256) : ior .u32 (ishl .u32 s 8) c = s * 256 + c := by
  obtain ⟨a, rfl⟩ := Int.eq_ofNat_of_zero_le hs.1
  obtain ⟨b, rfl⟩ := Int.eq_ofNat_of_zero_le hc.1
  have e1 : ishl .u32 (a : Int) 8 = ((a * 256 : Nat) : Int) := by
    show IntKind.u32.wrap ((a : Int) * 2 ^ min (8 : Int).toNat 32) = _
    rw [show min (8 : Int).toNat 32 = 8 from rfl, w_u32]; omega
  rw [e1]
  show IntKind.u32.wrap (((BitVec.ofInt 32 ((a * 256 : Nat) : Int) ||| BitVec.ofInt 32 (b : Int)).toNat : Nat) : Int) = _
  rw [BitVec.ofInt_natCast, BitVec.ofInt_natCast, BitVec.toNat_or, BitVec.toNat_ofNat, BitVec.toNat_ofNat, Nat.mod_eq_of_lt (by omega), Nat.mod_eq_of_lt (by omega)]
  have e2 : a * 256 ||| b = a * 256 + b := by
    have := Nat.shiftLeft_add_eq_or_of_lt (show b < 2 ^ 8 by omega) a
    rw [Nat.shiftLeft_eq] at this; exact this.symm
  rw [e2, w_u32]; omega
theorem ior_64 {s c : Int} (hs : 0 ≤ s ∧ s < 4294967296) (hc : 0 ≤ c ∧ c < 4294967296) : ior .u64 (ishl .u64 s 32) c = s * 4294967296 + c := by
  obtain ⟨a, rfl⟩ := Int.eq_ofNat_of_zero_le hs.1
  obtain ⟨b, rfl⟩ := Int.eq_ofNat_of_zero_le hc.1
  have e1 : ishl .u64 (a : Int) 32 = ((a * 4294967296 : Nat) : Int) := by
    show IntKind.u64.wrap ((a : Int) * 2 ^ min (32 : Int).toNat 64) = _
    rw [show min (32 : Int).toNat 64 = 32 from rfl, w_u64]; omega
  rw [e1]
  show IntKind.u64.wrap (((BitVec.ofInt 64 ((a * 4294967296 : Nat) : Int) ||| BitVec.ofInt 64 (b : Int)).toNat : Nat) : Int) = _
  rw [BitVec.ofInt_natCast, BitVec.ofInt_natCast, BitVec.toNat_or, BitVec.toNat_ofNat, BitVec.toNat_ofNat, Nat.mod_eq_of_lt (by omega), Nat.mod_eq_of_lt (by omega)]
  have e2 : a * 4294967296 ||| b = a * 4294967296 + b := by
    have := Nat.shiftLeft_add_eq_or_of_lt (show b < 2 ^ 32 by omega) a
    rw [Nat.shiftLeft_eq] at this; exact this.symm
  rw [e2, w_u64]; omega

/-- A list from behind, each with its place. -/
def backL (l : List Int) : List (Int × Int) := (List.range l.length).map fun k => (((l.length - 1 - k : Nat) : Int), l.getD (l.length - 1 - k) 0)
theorem backward_ok {l : List Int} (hl : l.length < 4611686018427387904) : Itr (slices_Backward_byte_byte_1 l) (backL l) := by
  intro S Y s s' hr
  refine ⟨(s', ()), ?_, rfl⟩
  have key : ∀ (m : Nat) (s : S), m ≤ l.length → Run Y ((backL l).drop (l.length - m)) s s' → Loops (slices_Backward_byte_byte_1_l1 S Y l) (s, (m : Int) - 1) (s', ()) := by
    intro m
    induction m with
    | zero =>
      intro s _ hr
      rw [List.drop_eq_nil_of_le (by simp [backL])] at hr
      cases hr
      refine .done ?_
      unfold slices_Backward_byte_byte_1_l1
      rw [if_neg (by simp)]
    | succ m ih =>
      intro s hm hr
      have hk : l.length - (m + 1) < (backL l).length := by simp [backL]; omega
      rw [List.drop_eq_getElem_cons hk] at hr
      have hx : (backL l)[l.length - (m + 1)] = ((m : Int), l[m]) := by
        simp only [backL, List.getElem_map, List.getElem_range]
        rw [show l.length - 1 - (l.length - (m + 1)) = m by omega, List.getD_eq_getElem?_getD, List.getElem?_eq_getElem (by omega)]; rfl
      rw [hx, show l.length - (m + 1) + 1 = l.length - m by omega] at hr
      have hs : ∀ b u, Y ((m : Int), l[m]) s (b, u) → slices_Backward_byte_byte_1_l1 S Y l (s, ((m + 1 : Nat) : Int) - 1) (if b = true then .inl (u, (m : Int) - 1) else .inr (u, ())) := by
        intro b u hy
        unfold slices_Backward_byte_byte_1_l1
        rw [show ((m + 1 : Nat) : Int) - 1 = (m : Int) by omega]
        simp only
        rw [if_pos (by simp)]
        refine ⟨l[m], idx_of (by omega), b, u, hy, ?_⟩
        cases b with
        | true => rw [if_neg (by decide), w_small (by omega) (by omega)]; rfl
        | false => rw [if_pos (by decide)]; rfl
      cases hr with
      | go h h' => exact .next (hs true _ h) (ih _ (by omega) h')
      | stop h => exact .done (hs false _ h)
  have := key l.length s (Nat.le_refl _) (by simpa using hr)
  rw [w_small (by omega) (by omega)]
  exact this
theorem byt_at {l : List Int} (hl : Byt l) {k : Nat} (h : k < l.length) : 0 ≤ l[k] ∧ l[k] < 256 := hl _ (List.getElem_mem h)
/-- Several bytes as one number. -/
theorem word1_ok {l : List Int} (hl : Byt l) (_hlen : l.length < 4611686018427387904) {n : Nat} (hn : n ≤ 4) (h : n ≤ l.length) : lens_Lens_word_1 l (n : Int) 0 ((n : Int), 0, leV (l.take n)) := by
  unfold lens_Lens_word_1
  have e : (l.drop (0 : Int).toNat).take (((n : Int) : Int) - 0).toNat = l.take n := by
    rw [show (0 : Int).toNat = 0 from rfl, List.drop_zero]; congr 1
  rw [if_neg (by simp; omega), e]
  refine ⟨by omega, by omega, _, rfl, ?_⟩
  have hb : Byt (l.take n) := hl.take n
  have hln : (l.take n).length = n := by rw [List.length_take]; omega
  generalize l.take n = q at hb hln
  subst hln
  obtain ⟨t, h1, h2⟩ := runB_inv (B := lens_Lens_word_1_l1) (s := 0) (fun k (s : Int) => s = leV (q.drop (q.length - k))) (fun _ => False) (backL q) (by simp [leV]) (by
    rintro k hk s rfl
    left
    have hkl : k < q.length := by simpa [backL] using hk
    refine ⟨_, ?_, rfl⟩
    have hx : (backL q)[k] = (((q.length - 1 - k : Nat) : Int), q[q.length - 1 - k]'(by omega)) := by
      simp only [backL, List.getElem_map, List.getElem_range]
      rw [List.getD_eq_getElem?_getD, List.getElem?_eq_getElem (by omega)]; rfl
    have hc := byt_at hb (show q.length - 1 - k < q.length by omega)
    have hv := leV_bound (q.drop (q.length - k)) (hb.drop _)
    have hp : 256 ^ (q.drop (q.length - k)).length ≤ 256 ^ 3 := Nat.pow_le_pow_right (by omega) (by rw [List.length_drop]; omega)
    unfold lens_Lens_word_1_l1
    rw [hx]
    simp only
    rw [w32_small (n := q[q.length - 1 - k]'(by omega)) (by omega) (by omega), ior_32 ⟨hv.1, by omega⟩ hc, show q.length - (k + 1) = q.length - 1 - k by omega, leV_drop (show q.length - 1 - k < q.length by omega), show q.length - 1 - k + 1 = q.length - k by omega])
  rcases h2 with ⟨s', rfl, h2⟩ | ⟨e, _, hf⟩
  · refine ⟨.inl s', (), backward_ok (by omega) _ _ _ _ (run_yof h1), ?_⟩
    show _ = _
    rw [h2]; simp [backL]
  · exact hf.elim
abbrev Ln := List Int × Int × Int
theorem left_ok {b : List Int} {at_ : Nat} {e : Int} (h : at_ ≤ b.length) : lens_Lens_left (b, (at_ : Int), e) (b.drop at_) := by
  unfold lens_Lens_left
  refine ⟨by simp, by simp; omega, Int.le_refl _, Int.le_refl _, Int.le_refl _, ?_⟩
  simp only [Int.toNat_natCast]
  rw [List.take_of_length_le (by rw [List.length_drop]; omega)]
theorem lword_ok {b : List Int} (hb : Byt b) (hlen : b.length < 4611686018427387904) {at_ n : Nat} (hn : n ≤ 4) (h : at_ + n ≤ b.length) : lens_Lens_word (b, (at_ : Int), 0) (n : Int) (leV ((b.drop at_).take n), (b, ((at_ + n : Nat) : Int), 0)) := by
  refine ⟨(true, (b, ((at_ + n : Nat) : Int), 0), leV ((b.drop at_).take n)), ?_, rfl⟩
  unfold lens_Lens_read__lens_Lens_word_1
  rw [if_neg (by simp)]
  refine ⟨_, left_ok (by omega), _, word1_ok (hb.drop _) (by rw [List.length_drop]; omega) hn (by rw [List.length_drop]; omega), ?_⟩
  rw [if_neg (by simp)]
  simp only
  rw [w_small (by omega) (by omega)]; rfl
theorem lword_end {b : List Int} {at_ n : Nat} (h : at_ ≤ b.length) (h2 : b.length < at_ + n) : lens_Lens_word (b, (at_ : Int), 0) (n : Int) (0, (b, (at_ : Int), 4)) := by
  refine ⟨(false, (b, (at_ : Int), 4), 0), ?_, rfl⟩
  unfold lens_Lens_read__lens_Lens_word_1
  rw [if_neg (by simp)]
  refine ⟨_, left_ok h, (0, 4, 0), ?_, ?_⟩
  · unfold lens_Lens_word_1
    rw [if_pos (by simp; omega)]
  · rw [if_pos (by simp)]
theorem lword_bad {b : List Int} {at_ e n : Int} (h : e ≠ 0) : lens_Lens_word (b, at_, e) n (0, (b, at_, e)) := by
  refine ⟨(false, (b, at_, e), 0), ?_, rfl⟩
  unfold lens_Lens_read__lens_Lens_word_1
  rw [if_pos (by simpa using h)]
theorem lnew_ok {b : List Int} (hlen : b.length < 1073741824) : lens_New b (b, 0, 0) := by
  unfold lens_New
  simp only [List.length_nil, List.nil_append]
  exact ⟨by omega, by omega, trivial⟩

/-- A number's bytes. -/
def leB (n : Int) : List Int := [n % 256, n / 256 % 256, n / 65536 % 256, n / 16777216 % 256]
theorem leB_byt (n : Int) : Byt (leB n) := by
  intro x hx
  simp only [leB, List.mem_cons, List.not_mem_nil, or_false] at hx
  rcases hx with rfl | rfl | rfl | rfl <;> omega
theorem leB_leV {l : List Int} (hl : Byt l) (h : l.length = 4) : leB (leV l) = l := by
  match l, h with
  | [a, b, c, d], _ =>
    have ha := hl a (by simp)
    have hb := hl b (by simp)
    have hc := hl c (by simp)
    have hd := hl d (by simp)
    simp only [leV, leB]
    have e : ∀ a b c d a' b' c' d' : Int, a = a' → b = b' → c = c' → d = d' → [a, b, c, d] = [a', b', c', d'] := by intros; subst_vars; rfl
    apply e <;> omega
theorem raw_ok {p : List Int} {room : Nat} {l : List Int} (h : p.length + l.length ≤ room) (hr : room < 1073741824) : pen_Pen_Raw (p, (room : Int), false) l (0, (p ++ l, (room : Int), false)) := by
  unfold pen_Pen_Raw
  simp only [Bool.false_or]
  rw [w_small (by omega) (by omega), if_neg (by simp; omega)]
  exact ⟨by omega, by omega, trivial⟩
theorem shr32 {a : Int} (n : Nat) (hn : n ≤ 32) {s : Int} (hs : s = (n : Int)) : ishr .u32 a s = a / 2 ^ n := by
  subst hs
  show a.fdiv (2 ^ min (n : Int).toNat 32) = _
  have hp : (0 : Int) < 2 ^ n := Int.pow_pos (by decide)
  rw [show min (n : Int).toNat 32 = n by omega, Int.fdiv_eq_ediv_of_nonneg _ (Int.le_of_lt hp)]
theorem pu32_ok {p : List Int} {room : Nat} {v : Int} (h : p.length + 4 ≤ room) (hr : room < 1073741824) : pen_Pen_U32 (p, (room : Int), false) v (0, (p ++ leB v, (room : Int), false)) := by
  refine ⟨(0, (p ++ leB v, (room : Int), false)), ⟨by omega, by omega, by omega, (0, (p ++ leB v, (room : Int), false)), ?_, rfl⟩, rfl⟩
  have e : (([(IntKind.u8.wrap v), (IntKind.u8.wrap (ishr .u32 v 8)), (IntKind.u8.wrap (ishr .u32 v 16)), (IntKind.u8.wrap (ishr .u32 v 24))].drop (0 : Int).toNat).take ((4 : Int) - 0).toNat) = leB v := by
    show [_, _, _, _] = leB v
    rw [shr32 8 (by omega) (s := 8) rfl, shr32 16 (by omega) (s := 16) rfl, shr32 24 (by omega) (s := 24) rfl]
    simp only [w_u8, leB]
    rfl
  rw [e]
  exact raw_ok (l := leB v) h hr
theorem pbytes_ok {p : List Int} {r : Int} {f : Bool} (h : p.length < 1073741824) : pen_Pen_Bytes (p, r, f) p := by
  unfold pen_Pen_Bytes
  simp only [List.length_nil, List.nil_append]
  exact ⟨by omega, by omega, trivial⟩
theorem same_ok {a b : List Int} (hlen : a.length < 4611686018427387904) : ref01_Same a b (decide (a = b)) := by
  unfold ref01_Same
  by_cases hl : a.length = b.length
  · rw [if_neg (by simp; omega)]
    have key := loops_inv (step := ref01_Same_l2 a b) (s := 0) (fun k (s : Int) => s = (k : Int) ∧ ∀ j (h : j < a.length), j < k → a[j] = b[j]'(by omega)) (fun e => Aft (fun p18 => ref01_Same_j1 p18 (decide (a = b))) (fun p19 => decide (a = b) = p19) e) a.length ⟨rfl, fun j _ h => by omega⟩ ?_ ?_
    · exact key
    · rintro k s hk ⟨rfl, h2⟩
      by_cases he : a[k] = b[k]'(by omega)
      · left
        refine ⟨((k + 1 : Nat) : Int), ?_, rfl, fun j h hj => ?_⟩
        · unfold ref01_Same_l2
          rw [if_pos (by simp; omega)]
          refine ⟨a[k], idx_of hk, b[k]'(by omega), idx_of (by omega), ?_⟩
          rw [if_neg (by simp [he]), w_small (by omega) (by omega)]; rfl
        · by_cases e : j = k
          · subst e; exact he
          · exact h2 j h (by omega)
      · right
        refine ⟨.inr false, ?_, ?_⟩
        · unfold ref01_Same_l2
          rw [if_pos (by simp; omega)]
          refine ⟨a[k], idx_of hk, b[k]'(by omega), idx_of (by omega), ?_⟩
          rw [if_pos (by simpa using he)]
        · show decide (a = b) = false
          rw [decide_eq_false]
          intro e; subst e; exact he rfl
    · rintro s ⟨rfl, h2⟩
      refine ⟨.inl (), ?_, ?_⟩
      · unfold ref01_Same_l2
        rw [if_neg (by simp)]
      · show decide (a = b) = true
        rw [decide_eq_true]
        exact List.ext_getElem hl fun j h _ => h2 j h h
  · rw [if_pos (by simp; omega), decide_eq_false]
    intro e; exact hl (by rw [e])
end Go.Rel
