import Derived.Test.YtonmgcebhhdplaaGreatPlM1
/-! Plain laws: bytes read from the left, bytes written. -/
namespace Go.Rel
open Go Go.Eng Go.Pl
def leV : List Int → Int
  | [] => 0
  | c :: l => leV l * 256 + c
theorem leV_bound : ∀ (l : List Int), Byt l → 0 ≤ leV l ∧ leV l < ((256 ^ l.length : Nat) : Int)
  | [], _ => by simp [leV]
  | c :: l, h => by
    have h1 := leV_bound l (fun x hx => h x (List.mem_cons_of_mem _ hx))
    have h2 := h c List.mem_cons_self
    simp only [leV, List.length_cons, Nat.pow_succ]
    omega
theorem leV_drop {l : List Int} {k : Nat} (h : k < l.length) : leV (l.drop k) = leV (l.drop (k + 1)) * 256 + l[k] := by
  rw [List.drop_eq_getElem_cons h]; rfl
theorem ior_32 {s c : Int} (hs : 0 ≤ s ∧ s < 16777216) (hc : 0 ≤ c ∧ c < 256) : ior .u32 (ishl .u32 s 8) c = s * 256 + c := by
  obtain ⟨a, rfl⟩ := Int.eq_ofNat_of_zero_le hs.1
  obtain ⟨b, rfl⟩ := Int.eq_ofNat_of_zero_le hc.1
  have e1 : ishl .u32 (a : Int) 8 = ((a * 256 : Nat) : Int) := by
    show IntKind.u32.wrap ((a : Int) * 2 ^ min (8 : Int).toNat 32) = _
    rw [show min (8 : Int).toNat 32 = 8 from rfl, w_u32]; omega
  rw [e1]
  show IntKind.u32.wrap (((BitVec.ofInt 32 ((a * 256 : Nat) : Int) ||| BitVec.ofInt 32 (b : Int)).toNat : Nat) : Int) = _
  rw [BitVec.ofInt_natCast, BitVec.ofInt_natCast, BitVec.toNat_or, BitVec.toNat_ofNat, BitVec.toNat_ofNat, Nat.mod_eq_of_lt (by omega), Nat.mod_eq_of_lt (by omega)]
  have e2 : a * 256 ||| b = a * 256 + b := by
    have := Nat.shiftLeft_add_eq_or_of_lt (show b < 2 ^ 8 by omega) a
    rw [Nat.shiftLeft_eq] at this; exact this.symm
  rw [e2, w_u32]; omega
def backL (l : List Int) : List (Int × Int) := (List.range l.length).map fun k => (((l.length - 1 - k : Nat) : Int), l.getD (l.length - 1 - k) 0)
theorem backward_ok {l : List Int} (hl : l.length < 4611686018427387904) : Itr (slices_Backward_byte_byte_1 l) (backL l) := by
  intro S Y s s' hr
  refine ⟨(s', ()), ?_, rfl⟩
  have key : ∀ (m : Nat) (s : S), m ≤ l.length → Run Y ((backL l).drop (l.length - m)) s s' → Loops (slices_Backward_byte_byte_1_l1 S Y l) (s, (m : Int) - 1) (s', ()) := by
    intro m
    induction m with
    | zero =>
      intro s _ hr
      rw [List.drop_eq_nil_of_le (by simp [backL])] at hr
      cases hr
      refine .done ?_
      unfold slices_Backward_byte_byte_1_l1
      rw [if_neg (by simp)]
    | succ m ih =>
      intro s hm hr
      have hk : l.length - (m + 1) < (backL l).length := by simp [backL]; omega
      rw [List.drop_eq_getElem_cons hk] at hr
      have hx : (backL l)[l.length - (m + 1)] = ((m : Int), l[m]) := by
        simp only [backL, List.getElem_map, List.getElem_range]
        rw [show l.length - 1 - (l.length - (m + 1)) = m by omega, List.getD_eq_getElem?_getD, List.getElem?_eq_getElem (by omega)]; rfl
      rw [hx, show l.length - (m + 1) + 1 = l.length - m by omega] at hr
      have hs : ∀ b u, Y ((m : Int), l[m]) s (b, u) → slices_Backward_byte_byte_1_l1 S Y l (s, ((m + 1 : Nat) : Int) - 1) (if b = true then .inl (u, (m : Int) - 1) else .inr (u, ())) := by
        intro b u hy
        unfold slices_Backward_byte_byte_1_l1
        rw [show ((m + 1 : Nat) : Int) - 1 = (m : Int) by omega]
        simp only
        rw [if_pos (by simp)]
        refine ⟨l[m], idx_of (by omega), b, u, hy, ?_⟩
        cases b with
        | true => rw [if_neg (by decide), w_small (by omega) (by omega)]; rfl
        | false => rw [if_pos (by decide)]; rfl
      cases hr with
      | go h h' => exact .next (hs true _ h) (ih _ (by omega) h')
      | stop h => exact .done (hs false _ h)
  have := key l.length s (Nat.le_refl _) (by simpa using hr)
  rw [w_small (by omega) (by omega)]
  exact this
theorem byt_at {l : List Int} (hl : Byt l) {k : Nat} (h : k < l.length) : 0 ≤ l[k] ∧ l[k] < 256 := hl _ (List.getElem_mem h)
theorem word1_ok {l : List Int} (hl : Byt l) (_hlen : l.length < 4611686018427387904) {n : Nat} (hn : n ≤ 4) (h : n ≤ l.length) : lens_Lens_word_1 l (n : Int) 0 ((n : Int), 0, leV (l.take n)) := by
  unfold lens_Lens_word_1
  have e : (l.drop (0 : Int).toNat).take (((n : Int) : Int) - 0).toNat = l.take n := by
    rw [show (0 : Int).toNat = 0 from rfl, List.drop_zero]; congr 1
  rw [if_neg (by simp; omega), e]
  refine ⟨by omega, by omega, _, rfl, ?_⟩
  have hb : Byt (l.take n) := hl.take n
  have hln : (l.take n).length = n := by rw [List.length_take]; omega
  generalize l.take n = q at hb hln
  subst hln
  obtain ⟨t, h1, h2⟩ := runB_inv (B := lens_Lens_word_1_l1) (s := 0) (fun k (s : Int) => s = leV (q.drop (q.length - k))) (fun _ => False) (backL q) (by simp [leV]) (by
    rintro k hk s rfl
    left
    have hkl : k < q.length := by simpa [backL] using hk
    refine ⟨_, ?_, rfl⟩
    have hx : (backL q)[k] = (((q.length - 1 - k : Nat) : Int), q[q.length - 1 - k]'(by omega)) := by
      simp only [backL, List.getElem_map, List.getElem_range]
      rw [List.getD_eq_getElem?_getD, List.getElem?_eq_getElem (by omega)]; rfl
    have hc := byt_at hb (show q.length - 1 - k < q.length by omega)
    have hv := leV_bound (q.drop (q.length - k)) (hb.drop _)
    have hp : 256 ^ (q.drop (q.length - k)).length ≤ 256 ^ 3 := Nat.pow_le_pow_right (by omega) (by rw [List.length_drop]; omega)
    unfold lens_Lens_word_1_l1
    rw [hx]
    simp only
    rw [w32_small (n := q[q.length - 1 - k]'(by omega)) (by omega) (by omega), ior_32 ⟨hv.1, by omega⟩ hc, show q.length - (k + 1) = q.length - 1 - k by omega, leV_drop (show q.length - 1 - k < q.length by omega), show q.length - 1 - k + 1 = q.length - k by omega])
  rcases h2 with ⟨s', rfl, h2⟩ | ⟨e, _, hf⟩
  · refine ⟨.inl s', (), backward_ok (by omega) _ _ _ _ (run_yof h1), ?_⟩
    show _ = _
    rw [h2]; simp [backL]
  · exact hf.elim
theorem left_ok {b : List Int} {at_ : Nat} {e : Int} (h : at_ ≤ b.length) : lens_Lens_left (b, (at_ : Int), e) (b.drop at_) := by
  unfold lens_Lens_left
  refine ⟨by simp, by simp; omega, Int.le_refl _, Int.le_refl _, Int.le_refl _, ?_⟩
  simp only [Int.toNat_natCast]
  rw [List.take_of_length_le (by rw [List.length_drop]; omega)]
theorem lword_ok {b : List Int} (hb : Byt b) (hlen : b.length < 4611686018427387904) {at_ n : Nat} (hn : n ≤ 4) (h : at_ + n ≤ b.length) : lens_Lens_word (b, (at_ : Int), 0) (n : Int) (leV ((b.drop at_).take n), (b, ((at_ + n : Nat) : Int), 0)) := by
  refine ⟨(true, (b, ((at_ + n : Nat) : Int), 0), leV ((b.drop at_).take n)), ?_, rfl⟩
  unfold lens_Lens_read__lens_Lens_word_1
  rw [if_neg (by simp)]
  refine ⟨_, left_ok (by omega), _, word1_ok (hb.drop _) (by rw [List.length_drop]; omega) hn (by rw [List.length_drop]; omega), ?_⟩
  rw [if_neg (by simp)]
  simp only
  rw [w_small (by omega) (by omega)]; rfl
theorem lnew_ok {b : List Int} (hlen : b.length < 1073741824) : lens_New b (b, 0, 0) := by
  unfold lens_New
  simp only [List.length_nil, List.nil_append]
  exact ⟨by omega, by omega, trivial⟩

def leB (n : Int) : List Int := [n % 256, n / 256 % 256, n / 65536 % 256, n / 16777216 % 256]
theorem leB_byt (n : Int) : Byt (leB n) := by
  intro x hx
  simp only [leB, List.mem_cons, List.not_mem_nil, or_false] at hx
  rcases hx with rfl | rfl | rfl | rfl <;> omega
theorem raw_ok {p : List Int} {room : Nat} {l : List Int} (h : p.length + l.length ≤ room) (hr : room < 1073741824) : pen_Pen_Raw (p, (room : Int), false) l (0, (p ++ l, (room : Int), false)) := by
  unfold pen_Pen_Raw
  simp only [Bool.false_or]
  rw [w_small (by omega) (by omega), if_neg (by simp; omega)]
  exact ⟨by omega, by omega, trivial⟩
theorem shr32 {a : Int} (n : Nat) (hn : n ≤ 32) {s : Int} (hs : s = (n : Int)) : ishr .u32 a s = a / 2 ^ n := by
  subst hs
  show a.fdiv (2 ^ min (n : Int).toNat 32) = _
  have hp : (0 : Int) < 2 ^ n := Int.pow_pos (by decide)
  rw [show min (n : Int).toNat 32 = n by omega, Int.fdiv_eq_ediv_of_nonneg _ (Int.le_of_lt hp)]
theorem pu32_ok {p : List Int} {room : Nat} {v : Int} (h : p.length + 4 ≤ room) (hr : room < 1073741824) : pen_Pen_U32 (p, (room : Int), false) v (0, (p ++ leB v, (room : Int), false)) := by
  refine ⟨(0, (p ++ leB v, (room : Int), false)), ⟨by omega, by omega, by omega, (0, (p ++ leB v, (room : Int), false)), ?_, rfl⟩, rfl⟩
  have e : (([(IntKind.u8.wrap v), (IntKind.u8.wrap (ishr .u32 v 8)), (IntKind.u8.wrap (ishr .u32 v 16)), (IntKind.u8.wrap (ishr .u32 v 24))].drop (0 : Int).toNat).take ((4 : Int) - 0).toNat) = leB v := by
    show [_, _, _, _] = leB v
    rw [shr32 8 (by omega) (s := 8) rfl, shr32 16 (by omega) (s := 16) rfl, shr32 24 (by omega) (s := 24) rfl]
    simp only [w_u8, leB]
    rfl
  rw [e]
  exact raw_ok (l := leB v) h hr
theorem pbytes_ok {p : List Int} {r : Int} {f : Bool} (h : p.length < 1073741824) : pen_Pen_Bytes (p, r, f) p := by
  unfold pen_Pen_Bytes
  simp only [List.length_nil, List.nil_append]
  exact ⟨by omega, by omega, trivial⟩
theorem same_ok {a b : List Int} (hlen : a.length < 4611686018427387904) : ref01_Same a b (decide (a = b)) := by
  unfold ref01_Same
  by_cases hl : a.length = b.length
  · rw [if_neg (by simp; omega)]
    have key := loops_inv (step := ref01_Same_l2 a b) (s := 0) (fun k (s : Int) => s = (k : Int) ∧ ∀ j (h : j < a.length), j < k → a[j] = b[j]'(by omega)) (fun e => Aft (fun p18 => ref01_Same_j1 p18 (decide (a = b))) (fun p19 => decide (a = b) = p19) e) a.length ⟨rfl, fun j _ h => by omega⟩ ?_ ?_
    · exact key
    · rintro k s hk ⟨rfl, h2⟩
      by_cases he : a[k] = b[k]'(by omega)
      · left
        refine ⟨((k + 1 : Nat) : Int), ?_, rfl, fun j h hj => ?_⟩
        · unfold ref01_Same_l2
          rw [if_pos (by simp; omega)]
          refine ⟨a[k], idx_of hk, b[k]'(by omega), idx_of (by omega), ?_⟩
          rw [if_neg (by simp [he]), w_small (by omega) (by omega)]; rfl
        · by_cases e : j = k
          · subst e; exact he
          · exact h2 j h (by omega)
      · right
        refine ⟨.inr false, ?_, ?_⟩
        · unfold ref01_Same_l2
          rw [if_pos (by simp; omega)]
          refine ⟨a[k], idx_of hk, b[k]'(by omega), idx_of (by omega), ?_⟩
          rw [if_pos (by simpa using he)]
        · show decide (a = b) = false
          rw [decide_eq_false]
          intro e; subst e; exact he rfl
    · rintro s ⟨rfl, h2⟩
      refine ⟨.inl (), ?_, ?_⟩
      · unfold ref01_Same_l2
        rw [if_neg (by simp)]
      · show decide (a = b) = true
        rw [decide_eq_true]
        exact List.ext_getElem hl fun j h _ => h2 j h h
  · rw [if_pos (by simp; omega), decide_eq_false]
    intro e; exact hl (by rw [e])
end Go.Rel
/-! Plain laws: numbers cut into bytes of seven bits, and read again. -/
namespace Go.Rel
open Go Go.Eng Go.Pl

def vB (n : Nat) : List Int := if n < 128 then [(n : Int)] else ((128 + n % 128 : Nat) : Int) :: vB (n / 128)
termination_by n
decreasing_by omega
theorem vB_lt {n : Nat} (h : n < 128) : vB n = [(n : Int)] := by rw [vB, if_pos h]
theorem vB_ge {n : Nat} (h : ¬ n < 128) : vB n = ((128 + n % 128 : Nat) : Int) :: vB (n / 128) := by rw [vB, if_neg h]
theorem vB_byt (n : Nat) : Byt (vB n) := by
  induction n using Nat.strongRecOn with
  | _ n ih =>
    intro x hx
    by_cases h : n < 128
    · rw [vB_lt h, List.mem_singleton] at hx; subst hx; omega
    · rw [vB_ge h] at hx
      rcases List.mem_cons.1 hx with rfl | hx
      · omega
      · exact ih (n / 128) (by omega) x hx
theorem vB_pos (n : Nat) : 0 < (vB n).length := by
  by_cases h : n < 128
  · rw [vB_lt h]; simp
  · rw [vB_ge h]; simp
theorem vB_len {k : Nat} : ∀ {n : Nat}, n < 128 ^ (k + 1) → (vB n).length ≤ k + 1 := by
  induction k with
  | zero => intro n h; rw [vB_lt (by simpa using h)]; simp
  | succ k ih =>
    intro n h
    by_cases h1 : n < 128
    · rw [vB_lt h1]; simp
    · rw [vB_ge h1, List.length_cons]
      have : n / 128 < 128 ^ (k + 1) := by rw [Nat.div_lt_iff_lt_mul (by omega)]; rw [Nat.pow_succ] at h; exact h
      have := ih this
      omega
theorem or128 (n : Nat) : ior .u8 (IntKind.u8.wrap (n : Int)) 128 = ((128 + n % 128 : Nat) : Int) := by
  have key : ∀ a : Fin 256, ior .u8 (a.val : Int) 128 = ((128 + a.val % 128 : Nat) : Int) := by decide +kernel
  have h := key ⟨n % 256, Nat.mod_lt _ (by omega)⟩
  rw [w_u8, show ((n : Int) % 256) = ((n % 256 : Nat) : Int) by omega]
  have e : n % 256 % 128 = n % 128 := by omega
  simp only [e] at h
  exact h
theorem ior_n {n m : Nat} (hn : n < 2 ^ 64) (hm : m < 2 ^ 64) : ior .u64 (n : Int) (m : Int) = ((n ||| m : Nat) : Int) := by
  have e1 : (BitVec.ofInt 64 (n : Int)).toNat = n := by rw [BitVec.ofInt_natCast, BitVec.toNat_ofNat, Nat.mod_eq_of_lt hn]
  have e2 : (BitVec.ofInt 64 (m : Int)).toNat = m := by rw [BitVec.ofInt_natCast, BitVec.toNat_ofNat, Nat.mod_eq_of_lt hm]
  show IntKind.u64.wrap (((BitVec.ofInt 64 (n : Int) ||| BitVec.ofInt 64 (m : Int)).toNat : Nat) : Int) = _
  rw [BitVec.toNat_or, e1, e2]
  have := Nat.or_lt_two_pow hn hm
  rw [w64_small (by omega) (by omega)]
theorem put1 (n : Nat) (hn : n < 2 ^ 64) : ∀ out : List Int, out.length + (vB n).length < 1073741824 → ∃ o l, Loops varint_Put_l4 (out, (n : Int)) (o, l) ∧ o ++ [IntKind.u8.wrap l] = out ++ vB n ∧ o.length + 1 = out.length + (vB n).length := by
  induction n using Nat.strongRecOn with
  | _ n ih =>
    intro out hl
    by_cases h : n < 128
    · refine ⟨out, n, .done ?_, ?_, ?_⟩
      · unfold varint_Put_l4
        rw [if_neg (by simp; omega)]
      · rw [vB_lt h, w_u8, show ((n : Int) % 256) = (n : Int) by omega]
      · rw [vB_lt h]; simp
    · rw [vB_ge h] at hl ⊢
      simp only [List.length_cons] at hl
      obtain ⟨o, l, h1, h2, h3⟩ := ih (n / 128) (by omega) (by omega) (out ++ [((128 + n % 128 : Nat) : Int)]) (by simp; omega)
      refine ⟨o, l, .next (s' := (out ++ [((128 + n % 128 : Nat) : Int)], ((n / 128 : Nat) : Int))) ?_ h1, ?_, ?_⟩
      · unfold varint_Put_l4
        rw [if_pos (by simp; omega)]
        simp only [List.length_cons, List.length_nil]
        rw [or128, ishr_u64 (by omega) (by omega)]
        refine ⟨by omega, by omega, ?_⟩
        have : ((n : Int) / 2 ^ (7 : Int).toNat) = ((n / 128 : Nat) : Int) := by show (n : Int) / 128 = _; omega
        rw [this]
      · rw [h2]; simp
      · rw [h3]; simp; omega
theorem vput_ok (ns : List Nat) (hn : ∀ n ∈ ns, n < 2 ^ 64) (hl : (ns.flatMap vB).length < 1073741824) (hc : ns.length < 1073741824) : varint_Put (ns.map Int.ofNat) (ns.flatMap vB) := by
  have key : ∀ (r pre : List Nat), ns = pre ++ r → Loops (varint_Put_l2 (ns.map Int.ofNat)) (pre.flatMap vB, (pre.length : Int)) (ns.flatMap vB) := by
    intro r
    induction r with
    | nil =>
      intro pre h
      refine .done ?_
      unfold varint_Put_l2
      rw [if_neg (by rw [h]; simp)]
      rw [h]; simp
    | cons n r ih =>
      intro pre h
      have hx : idx (ns.map Int.ofNat) (pre.length : Int) (n : Int) := ⟨by omega, by rw [h]; simp⟩
      have hlt := hx.lt
      rw [List.length_map] at hlt
      have hlen : (pre.flatMap vB).length + (vB n).length < 1073741824 := by
        have e : (ns.flatMap vB).length = (pre.flatMap vB).length + ((vB n).length + (r.flatMap vB).length) := by rw [h]; simp
        omega
      obtain ⟨o, l, h1, h2, h3⟩ := put1 n (hn n (by rw [h]; simp)) (pre.flatMap vB) hlen
      refine .next (s' := ((pre ++ [n]).flatMap vB, ((pre ++ [n]).length : Int))) ?_ (ih (pre ++ [n]) (by simp [h]))
      unfold varint_Put_l2
      rw [if_pos (by simpa using hlt)]
      refine ⟨n, hx, (o, l), h1, ?_⟩
      unfold varint_Put_j3
      simp only [List.length_cons, List.length_nil]
      refine ⟨by omega, by omega, ?_⟩
      rw [h2, w_small (by omega) (by omega)]
      simp
  exact ⟨_, key ns [] rfl, rfl⟩
theorem or_next {acc p i : Nat} (hi : i ≤ 8) (ha : acc < 128 ^ i) (hp : p * 128 ^ i < 2 ^ 63) : ior .u64 (acc : Int) (ishl .u64 (p : Int) (7 * (i : Int))) = ((acc + p * 128 ^ i : Nat) : Int) ∧ ishl .u64 (p : Int) (7 * (i : Int)) = ((p * 128 ^ i : Nat) : Int) := by
  have hpow : (128 : Nat) ^ i = 2 ^ (7 * i) := by rw [Nat.pow_mul]
  have e1 : ishl .u64 (p : Int) (7 * (i : Int)) = ((p * 128 ^ i : Nat) : Int) := by
    show IntKind.u64.wrap ((p : Int) * 2 ^ min (7 * (i : Int)).toNat 64) = _
    have e : min (7 * (i : Int)).toNat 64 = 7 * i := by omega
    have e2 : ((p : Int) * 2 ^ (7 * i)) = ((p * 128 ^ i : Nat) : Int) := by rw [hpow]; simp
    rw [e, e2, w64_small (by omega) (by omega)]
  refine ⟨?_, e1⟩
  rw [e1, ior_n (by
    have : (128 : Nat) ^ i ≤ 128 ^ 8 := Nat.pow_le_pow_right (by decide) hi
    have h3 : (128 : Nat) ^ 8 < 2 ^ 64 := by decide
    omega) (by omega)]
  have h := Nat.shiftLeft_add_eq_or_of_lt (show acc < 2 ^ (7 * i) by rw [← hpow]; exact ha) p
  rw [Nat.shiftLeft_eq, ← hpow] at h
  rw [Nat.or_comm, ← h, Nat.add_comm]
theorem vread_ok {n : Nat} (hn : n < 2 ^ 56) (rest : List Int) (hrest : rest.length < 1073741824) : varint_Get (vB n ++ rest) ((n : Int), ((vB n).length : Int), 0) := by
  have h56 : (2 : Nat) ^ 56 = 128 ^ 8 := by decide
  have key : ∀ (m : Nat) (pre : List Int) (acc : Nat), vB n = pre ++ vB m → n = acc + m * 128 ^ pre.length → acc < 128 ^ pre.length → (pre.length ≠ 0 → m ≠ 0) → Loops (varint_Get_l2 (vB n ++ rest)) ((acc : Int), (pre.length : Int)) (.inr ((n : Int), ((vB n).length : Int), 0)) := by
    intro m
    induction m using Nat.strongRecOn with
    | _ m ih =>
      intro pre acc hv he ha hm
      have hi : pre.length ≤ 7 := by
        by_cases h : pre.length ≤ 7
        · exact h
        · have h1 : 128 ^ 8 ≤ 128 ^ pre.length := Nat.pow_le_pow_right (by decide) (by omega)
          have h2 : 1 * 128 ^ pre.length ≤ m * 128 ^ pre.length := Nat.mul_le_mul_right _ (by have := hm (by omega); omega)
          omega
      have hmn : m * 128 ^ pre.length < 2 ^ 56 := by omega
      have hw : IntKind.i64.wrap (7 * (pre.length : Int)) = 7 * (pre.length : Int) := w_small (by omega) (by omega)
      have hw1 : IntKind.i64.wrap ((pre.length : Int) + 1) = ((pre.length + 1 : Nat) : Int) := by rw [w_small (by omega) (by omega)]; omega
      have hlen : pre.length < (vB n ++ rest).length := by rw [hv]; simp; have := vB_pos m; omega
      by_cases h : m < 128
      · rw [vB_lt h] at hv
        have hx : idx (vB n ++ rest) (pre.length : Int) (m : Int) := ⟨by omega, by rw [hv]; simp⟩
        obtain ⟨o1, o2⟩ := or_next (p := m) (by omega) ha (by omega)
        have ht : IntKind.u64.wrap ((m : Int).tmod 128) = (m : Int) := by
          rw [Int.tmod_eq_emod_of_nonneg (by omega), w64_small (by omega) (by omega)]; omega
        have hs : ishr .u64 ((m * 128 ^ pre.length : Nat) : Int) (7 * (pre.length : Int)) = (m : Int) := by
          rw [ishr_u64 (by omega) (by omega), show (7 * (pre.length : Int)).toNat = 7 * pre.length by omega]
          have hp2 : ((2 : Int) ^ (7 * pre.length)) = ((128 ^ pre.length : Nat) : Int) := by
            have : (128 : Nat) ^ pre.length = 2 ^ (7 * pre.length) := by rw [Nat.pow_mul]
            rw [this]; simp
          rw [hp2, ← Int.natCast_ediv, Nat.mul_div_cancel _ (Nat.pow_pos (by decide))]
        have hfin : varint_Get_j4 ((acc : Int), (pre.length : Int)) (m : Int) false (.inr (.inr ((n : Int), ((vB n).length : Int), 0))) := by
          unfold varint_Get_j4
          rw [if_neg (by simp)]
          simp only
          rw [ht, hw, o1, hw1]
          have e1 : (vB n).length = pre.length + 1 := by rw [hv]; simp
          rw [e1, ← he]
        refine .done ?_
        unfold varint_Get_l2
        rw [if_pos (by simp; omega), if_neg (by simp at hlen ⊢; omega)]
        refine ⟨m, hx, by rw [hw]; omega, m, hx, ?_⟩
        rw [if_neg (by simp; omega)]
        simp only [hw, ht, o2, hs]
        by_cases h0 : (0 : Int) < (pre.length : Int)
        · rw [if_pos (by simpa using h0), if_neg (by have := hm (by omega); simp; omega)]
          exact ⟨by omega, by omega, by simpa using hfin⟩
        · rw [if_neg (by simpa using h0)]
          exact ⟨by omega, by omega, by simpa using hfin⟩
      · rw [vB_ge h] at hv
        have hx : idx (vB n ++ rest) (pre.length : Int) ((128 + m % 128 : Nat) : Int) := ⟨by omega, by rw [hv]; simp⟩
        have hpl : m % 128 * 128 ^ pre.length ≤ m * 128 ^ pre.length := Nat.mul_le_mul_right _ (Nat.mod_le _ _)
        obtain ⟨o1, o2⟩ := or_next (p := m % 128) (by omega) ha (by omega)
        have ht : IntKind.u64.wrap ((((128 + m % 128 : Nat) : Int)).tmod 128) = ((m % 128 : Nat) : Int) := by
          rw [Int.tmod_eq_emod_of_nonneg (by omega), w64_small (by omega) (by omega)]; omega
        refine .next (s' := (((acc + m % 128 * 128 ^ pre.length : Nat) : Int), ((pre ++ [((128 + m % 128 : Nat) : Int)]).length : Int))) ?_ (ih (m / 128) (by omega) (pre ++ [((128 + m % 128 : Nat) : Int)]) (acc + m % 128 * 128 ^ pre.length) (by rw [hv]; simp) ?_ ?_ (fun _ => by omega))
        · unfold varint_Get_l2
          rw [if_pos (by simp; omega), if_neg (by simp at hlen ⊢; omega)]
          refine ⟨_, hx, by rw [hw]; omega, _, hx, ?_⟩
          rw [if_pos (by simp; omega)]
          unfold varint_Get_j3
          simp only
          rw [hw, ht, o1, hw1]
          simp
        · rw [List.length_append, List.length_singleton, Nat.pow_succ]
          have e2 : m = m % 128 + m / 128 * 128 := by omega
          have e3 : m * 128 ^ pre.length = m % 128 * 128 ^ pre.length + m / 128 * (128 ^ pre.length * 128) := by
            conv => lhs; rw [e2]
            rw [Nat.add_mul, Nat.mul_assoc, Nat.mul_comm 128]
          omega
        · rw [List.length_append, List.length_singleton, Nat.pow_succ]
          have : m % 128 * 128 ^ pre.length ≤ 127 * 128 ^ pre.length := Nat.mul_le_mul_right _ (by omega)
          omega
  exact ⟨_, key n [] 0 rfl (by simp) (by simp) (fun h => absurd rfl h), rfl⟩
end Go.Rel
/-! Plain laws: what a lens reads: numbers, signed numbers, fields. -/
namespace Go.Rel
open Go Go.Eng Go.Pl

def zigN (a : Int) : Nat := if 0 ≤ a then (2 * a).toNat else (-2 * a - 1).toNat
theorem xor_ones {x : Int} (h0 : 0 ≤ x) (h1 : x < 2 ^ 64) : ((BitVec.ofInt 64 x ^^^ BitVec.ofInt 64 (-1)).toNat : Int) = 2 ^ 64 - 1 - x := by
  obtain ⟨n, rfl⟩ := Int.eq_ofNat_of_zero_le h0
  have hn : n < 2 ^ 64 := by omega
  have e1 : BitVec.ofInt 64 (-1) = BitVec.allOnes 64 := by decide
  rw [e1, BitVec.xor_allOnes, BitVec.toNat_not, BitVec.ofInt_natCast, BitVec.toNat_ofNat, Nat.mod_eq_of_lt hn]
  omega
theorem xor_zero {x : Int} (h0 : 0 ≤ x) (h1 : x < 2 ^ 64) : ((BitVec.ofInt 64 x ^^^ BitVec.ofInt 64 0).toNat : Int) = x := by
  obtain ⟨n, rfl⟩ := Int.eq_ofNat_of_zero_le h0
  have hn : n < 2 ^ 64 := by omega
  have e1 : BitVec.ofInt 64 0 = 0#64 := by decide
  rw [e1, BitVec.xor_zero, BitVec.ofInt_natCast, BitVec.toNat_ofNat, Nat.mod_eq_of_lt hn]
theorem zig_ok {a : Int} (h0 : -1099511627776 ≤ a) (h1 : a ≤ 1099511627776) : varint_Zig a (zigN a) := by
  unfold varint_Zig zigN
  have hs : ishr .i64 a 63 = a / 9223372036854775808 := by
    show a.fdiv (2 ^ min (63 : Int).toNat 64) = _
    rw [show min (63 : Int).toNat 64 = 63 from rfl, Int.fdiv_eq_ediv_of_nonneg _ (by decide)]; rfl
  have hl : ∀ z : Int, ishl .u64 z 1 = z * 2 % 18446744073709551616 := fun z => by
    show IntKind.u64.wrap (z * 2 ^ min (1 : Int).toNat 64) = _
    rw [show min (1 : Int).toNat 64 = 1 from rfl, w_u64]; rfl
  rw [hs, hl, w_u64, w_u64]
  by_cases h : 0 ≤ a
  · rw [if_pos h, show a / 9223372036854775808 % 18446744073709551616 = 0 by omega, show a % 18446744073709551616 * 2 % 18446744073709551616 = 2 * a by omega]
    show _ = IntKind.u64.wrap ((BitVec.ofInt 64 (2 * a) ^^^ BitVec.ofInt 64 0).toNat : Int)
    rw [xor_zero (by omega) (by omega), w_u64]; omega
  · rw [if_neg h, show a / 9223372036854775808 % 18446744073709551616 = 18446744073709551615 by omega, show a % 18446744073709551616 * 2 % 18446744073709551616 = 2 * a + 18446744073709551616 by omega]
    show _ = IntKind.u64.wrap ((BitVec.ofInt 64 (2 * a + 18446744073709551616) ^^^ BitVec.ofInt 64 18446744073709551615).toNat : Int)
    rw [show BitVec.ofInt 64 18446744073709551615 = BitVec.ofInt 64 (-1) by decide, xor_ones (by omega) (by omega), w_u64]; omega
theorem zag_ok {a : Int} (h0 : -1099511627776 ≤ a) (h1 : a ≤ 1099511627776) : varint_Zag (zigN a) a := by
  unfold varint_Zag zigN
  by_cases h : 0 ≤ a
  · rw [if_pos h, iand_one (by omega) (by omega), ishr_u64 (by decide) (by decide)]
    rw [show (((2 * a).toNat : Int)) % 2 = 0 by omega, show (((2 * a).toNat : Int)) / 2 ^ (1 : Int).toNat = a by show (((2 * a).toNat : Int)) / 2 = a; omega, w_small (n := a) (by omega) (by omega)]
    show a = IntKind.i64.wrap ((BitVec.ofInt 64 a ^^^ BitVec.ofInt 64 (IntKind.i64.wrap (0 - IntKind.i64.wrap 0))).toNat : Int)
    rw [show BitVec.ofInt 64 (IntKind.i64.wrap (0 - IntKind.i64.wrap 0)) = BitVec.ofInt 64 0 by decide, xor_zero (by omega) (by omega), w_small (by omega) (by omega)]
  · rw [if_neg h, iand_one (by omega) (by omega), ishr_u64 (by decide) (by decide)]
    rw [show (((-2 * a - 1).toNat : Int)) % 2 = 1 by omega, show (((-2 * a - 1).toNat : Int)) / 2 ^ (1 : Int).toNat = -a - 1 by show (((-2 * a - 1).toNat : Int)) / 2 = -a - 1; omega, w_small (n := -a - 1) (by omega) (by omega)]
    show a = IntKind.i64.wrap ((BitVec.ofInt 64 (-a - 1) ^^^ BitVec.ofInt 64 (IntKind.i64.wrap (0 - IntKind.i64.wrap 1))).toNat : Int)
    rw [show BitVec.ofInt 64 (IntKind.i64.wrap (0 - IntKind.i64.wrap 1)) = BitVec.ofInt 64 (-1) by decide, xor_ones (by omega) (by omega), w_i64]; omega

theorem lnumber_ok {b rest : List Int} {at_ n : Nat} {most : Int} (hb : b.length < 1073741824) (hd : b.drop at_ = vB n ++ rest) (hn : n < 2 ^ 56) (hm : (n : Int) ≤ most) :
    lens_Lens_Number (b, (at_ : Int), 0) most ((n : Int), (b, ((at_ + (vB n).length : Nat) : Int), 0)) := by
  have hle : at_ + (vB n).length + rest.length ≤ b.length := by
    have := congrArg List.length hd
    rw [List.length_drop, List.length_append] at this
    have := vB_pos n
    omega
  refine ⟨(true, (b, ((at_ + (vB n).length : Nat) : Int), 0), (n : Int)), ?_, rfl⟩
  unfold lens_Lens_read__lens_Lens_Number_1
  rw [if_neg (by simp)]
  refine ⟨_, left_ok (by omega), (((vB n).length : Int), 0, (n : Int)), ?_, ?_⟩
  · refine ⟨((n : Int), ((vB n).length : Int), 0), by rw [hd]; exact vread_ok hn rest (by omega), ?_⟩
    rw [if_pos (by simp)]
    unfold lens_Lens_Number_1_j3
    rw [if_neg (by simp; omega)]
    unfold lens_Lens_Number_1_j1
    rw [if_pos (by simp)]
    rfl
  · rw [if_neg (by simp)]
    simp only
    rw [w_small (by omega) (by omega)]; simp
theorem lsigned_ok {b rest : List Int} {at_ : Nat} {a least most : Int} (hb : b.length < 1073741824) (hd : b.drop at_ = vB (zigN a) ++ rest) (h0 : -1099511627776 ≤ a) (h1 : a ≤ 1099511627776) (hl : least ≤ a) (hm : a ≤ most) :
    lens_Lens_Signed (b, (at_ : Int), 0) least most (a, (b, ((at_ + (vB (zigN a)).length : Nat) : Int), 0)) := by
  have hn : zigN a < 2 ^ 56 := by unfold zigN; split <;> omega
  have hle : at_ + (vB (zigN a)).length + rest.length ≤ b.length := by
    have := congrArg List.length hd
    rw [List.length_drop, List.length_append] at this
    have := vB_pos (zigN a)
    omega
  refine ⟨(true, (b, ((at_ + (vB (zigN a)).length : Nat) : Int), 0), a), ?_, rfl⟩
  unfold lens_Lens_read__lens_Lens_Signed_1
  rw [if_neg (by simp)]
  refine ⟨_, left_ok (by omega), (((vB (zigN a)).length : Int), 0, a), ?_, ?_⟩
  · refine ⟨((zigN a : Int), ((vB (zigN a)).length : Int), 0), by rw [hd]; exact vread_ok hn rest (by omega), a, zag_ok h0 h1, ?_⟩
    rw [if_pos (by simp), if_neg (by simp; omega)]
    unfold lens_Lens_Signed_1_j2
    rw [if_neg (by simp; omega), if_pos (by simp)]
    rfl
  · rw [if_neg (by simp)]
    simp only
    rw [w_small (by omega) (by omega)]; simp
theorem lfield_ok {b p rest : List Int} {at_ : Nat} {most : Int} (hb : b.length < 1073741824) (hd : b.drop at_ = vB p.length ++ (p ++ rest)) (hm : (p.length : Int) ≤ most) (hm2 : most < 1099511627776) :
    lens_Lens_Field (b, (at_ : Int), 0) most (p, (b, ((at_ + (vB p.length).length + p.length : Nat) : Int), 0)) := by
  have hle : at_ + (vB p.length).length + p.length + rest.length ≤ b.length := by
    have := congrArg List.length hd
    rw [List.length_drop, List.length_append, List.length_append] at this
    have := vB_pos p.length
    omega
  refine ⟨(true, (b, ((at_ + (vB p.length).length + p.length : Nat) : Int), 0), p), ?_, rfl⟩
  unfold lens_Lens_read__lens_Lens_Field_1
  rw [if_neg (by simp)]
  refine ⟨_, left_ok (by omega), ((((vB p.length).length + p.length : Nat) : Int), 0, p), ?_, ?_⟩
  · have hl : (b.drop at_).length = b.length - at_ := List.length_drop
    refine ⟨_, by rw [hd]; exact vread_ok (n := p.length) (by omega) (p ++ rest) (by rw [List.length_append]; omega), ?_⟩
    simp only
    have e1 : IntKind.u64.wrap (max most 0) = most := by rw [w64_small (by omega) (by omega)]; omega
    have e2 : IntKind.u64.wrap (IntKind.i64.wrap (((b.drop at_).length : Int) - ((vB p.length).length : Int))) = ((p.length + rest.length : Nat) : Int) := by
      have h9 : (b.drop at_).length = (vB p.length).length + (p.length + rest.length) := by rw [hd, List.length_append, List.length_append]
      rw [h9, w_small (by omega) (by omega), w64_small (by omega) (by omega)]; omega
    have e3 : IntKind.i64.wrap (((vB p.length).length : Int) + IntKind.i64.wrap (p.length : Int)) = (((vB p.length).length + p.length : Nat) : Int) := by
      rw [w_small (n := (p.length : Int)) (by omega) (by omega), w_small (by omega) (by omega)]; omega
    rw [if_neg (by simp), e1, if_neg (by simp; omega), e2, if_neg (by simp; omega), e3]
    have h9 : (b.drop at_).length = (vB p.length).length + (p.length + rest.length) := by rw [hd, List.length_append, List.length_append]
    have e4 : ((b.drop at_).drop ((vB p.length).length : Int).toNat).take (((((vB p.length).length + p.length : Nat) : Int) : Int) - ((vB p.length).length : Int)).toNat = p := by
      rw [hd, Int.toNat_natCast, List.drop_left, show ((((vB p.length).length + p.length : Nat) : Int) - ((vB p.length).length : Int)).toNat = p.length by omega, List.take_left]
    refine ⟨by omega, by omega, by omega, by omega, by omega, ?_⟩
    rw [e4]
    exact ⟨by simp; omega, by simp; omega, rfl⟩
  · rw [if_neg (by simp)]
    simp only
    rw [w_small (by omega) (by omega)]
    have : (at_ : Int) + (((vB p.length).length + p.length : Nat) : Int) = ((at_ + (vB p.length).length + p.length : Nat) : Int) := by omega
    rw [this]
theorem lraw_ok {b : List Int} {at_ n : Nat} (hb : b.length < 1073741824) (h : at_ + n ≤ b.length) : lens_Lens_Raw (b, (at_ : Int), 0) (n : Int) ((b.drop at_).take n, (b, ((at_ + n : Nat) : Int), 0)) := by
  have hl : (b.drop at_).length = b.length - at_ := List.length_drop
  refine ⟨(true, (b, ((at_ + n : Nat) : Int), 0), (b.drop at_).take n), ?_, rfl⟩
  unfold lens_Lens_read__lens_Lens_Raw_1
  rw [if_neg (by simp)]
  refine ⟨_, left_ok (by omega), ((n : Int), 0, (b.drop at_).take n), ?_, ?_⟩
  · unfold lens_Lens_Raw_1
    rw [if_neg (by simp), if_neg (by simp; omega)]
    have e : (((b.drop at_).drop (0 : Int).toNat).take (((n : Int) : Int) - 0).toNat) = (b.drop at_).take n := by simp
    rw [e]
    exact ⟨by omega, by omega, by omega, by omega, by simp; omega, by simp; omega, rfl⟩
  · rw [if_neg (by simp)]
    simp only
    rw [w_small (by omega) (by omega)]
    have : (at_ : Int) + (n : Int) = ((at_ + n : Nat) : Int) := by omega
    rw [this]
end Go.Rel
/-! Plain laws: a message's body: its bytes. -/
namespace Go.Rel
open Go Go.Eng Go.Pl

theorem pnum_ok {p : List Int} {room n : Nat} (hn : n < 2 ^ 56) (h : p.length + (vB n).length ≤ room) (hr : room < 1073741824) : pen_Pen_Number (p, (room : Int), false) [(n : Int)] (0, (p ++ vB n, (room : Int), false)) := by
  have hp := vput_ok [n] (by simp; omega) (by simp; omega) (by simp)
  simp only [List.map_cons, List.map_nil, List.flatMap_cons, List.flatMap_nil, List.append_nil] at hp
  exact ⟨vB n, hp, _, raw_ok h hr, rfl⟩
theorem psig_ok {p : List Int} {room : Nat} (as : List Int) (ha : ∀ a ∈ as, -1099511627776 ≤ a ∧ a ≤ 1099511627776) (h : p.length + (as.flatMap fun a => vB (zigN a)).length ≤ room) (hr : room < 1073741824) (hl : as.length < 1000) :
    pen_Pen_Signed (p, (room : Int), false) as (0, (p ++ as.flatMap fun a => vB (zigN a), (room : Int), false)) := by
  have key : ∀ (r pre : List Int), as = pre ++ r → Loops (pen_Pen_Signed_l2 as) (pre.map fun a => (zigN a : Int), (pre.length : Int)) (as.map fun a => (zigN a : Int)) := by
    intro r
    induction r with
    | nil =>
      intro pre h
      refine .done ?_
      unfold pen_Pen_Signed_l2
      rw [if_neg (by rw [h]; simp)]
      rw [h]; simp
    | cons a r ih =>
      intro pre h
      have hx : idx as (pre.length : Int) a := ⟨by omega, by rw [h]; simp⟩
      have hlt := hx.lt
      have haa := ha a (by rw [h]; simp)
      refine .next (s' := ((pre ++ [a]).map fun a => (zigN a : Int), ((pre ++ [a]).length : Int))) ?_ (ih (pre ++ [a]) (by simp [h]))
      unfold pen_Pen_Signed_l2
      rw [if_pos (by simpa using hlt)]
      refine ⟨a, hx, _, zig_ok haa.1 haa.2, ?_⟩
      simp only [List.length_map, List.length_cons, List.length_nil]
      refine ⟨by omega, by omega, ?_⟩
      rw [w_small (by omega) (by omega)]
      simp
  have hz : ∀ n ∈ as.map zigN, n < 2 ^ 64 := by
    intro n hn
    obtain ⟨a, h1, rfl⟩ := List.mem_map.1 hn
    have := ha a h1
    unfold zigN; split <;> omega
  have e : (as.map zigN).flatMap vB = as.flatMap fun a => vB (zigN a) := by rw [List.flatMap_map]
  have hp := vput_ok (as.map zigN) hz (by rw [e]; omega) (by simp; omega)
  rw [e] at hp
  refine ⟨_, key as [] rfl, _, ⟨_, ?_, _, raw_ok h hr, rfl⟩, rfl⟩
  have : (as.map fun a => (zigN a : Int)) = (as.map zigN).map Int.ofNat := by rw [List.map_map]; rfl
  rw [this]; exact hp
theorem pfield_ok {p l : List Int} {room : Nat} (h : p.length + (vB l.length).length + l.length ≤ room) (hr : room < 1073741824) : pen_Pen_Field (p, (room : Int), false) l (0, (p ++ (vB l.length ++ l), (room : Int), false)) := by
  have hp := vput_ok [l.length] (by simp; omega) (by simp; omega) (by simp)
  simp only [List.map_cons, List.map_nil, List.flatMap_cons, List.flatMap_nil, List.append_nil] at hp
  refine ⟨vB l.length, ?_, by omega, by omega, _, raw_ok (l := vB l.length ++ l) (by rw [List.length_append]; omega) hr, rfl⟩
  rw [w64_small (by omega) (by omega)]; exact hp

/-! ### Points, cells -/
def ptsE : Int × Int → List (Int × Int) → List Int
  | _, [] => []
  | q, p :: l => vB (zigN (p.1 - q.1)) ++ vB (zigN (p.2 - q.2)) ++ ptsE p l
def clsE : Int → List Int → List Int
  | _, [] => []
  | q, c :: l => vB (c - q - 1).toNat ++ clsE c l
theorem vB_4 {n : Nat} (h : n < 268435456) : (vB n).length ≤ 4 := vB_len (k := 3) (by simpa using h)
theorem ptsE_len : ∀ (l : List (Int × Int)) (q : Int × Int), (-1000000 ≤ q.1 ∧ q.1 ≤ 1000000 ∧ -1000000 ≤ q.2 ∧ q.2 ≤ 1000000) → (∀ p ∈ l, -1000000 ≤ p.1 ∧ p.1 ≤ 1000000 ∧ -1000000 ≤ p.2 ∧ p.2 ≤ 1000000) → (ptsE q l).length ≤ 8 * l.length
  | [], _, _, _ => by simp [ptsE]
  | p :: l, q, hq, h => by
    have h1 := h p List.mem_cons_self
    have ih := ptsE_len l p h1 (fun x hx => h x (List.mem_cons_of_mem _ hx))
    have a1 := vB_4 (n := zigN (p.1 - q.1)) (by unfold zigN; split <;> omega)
    have a2 := vB_4 (n := zigN (p.2 - q.2)) (by unfold zigN; split <;> omega)
    simp only [ptsE, List.length_append, List.length_cons]
    omega
theorem points_ok {room : Nat} (hr : room < 1073741824) (l : List (Int × Int)) (hp : ∀ p ∈ l, -1000000 ≤ p.1 ∧ p.1 ≤ 1000000 ∧ -1000000 ≤ p.2 ∧ p.2 ≤ 1000000) (hl : l.length ≤ 16) (hroom : 1 + 8 * l.length ≤ room) :
    body_points ([], (room : Int), false) l (vB l.length ++ ptsE (0, 0) l, (room : Int), false) := by
  have h1 := vB_lt (n := l.length) (by omega)
  refine ⟨(0, (vB l.length, (room : Int), false)), ?_, (vB l.length ++ ptsE (0, 0) l, (room : Int), false), ?_, rfl⟩
  · rw [w64_small (by omega) (by omega)]
    exact pnum_ok (p := []) (by omega) (by rw [h1]; simp; omega) hr
  · have key : ∀ (r pre : List (Int × Int)) (q : Int × Int) (acc : List Int), l = pre ++ r → (-1000000 ≤ q.1 ∧ q.1 ≤ 1000000 ∧ -1000000 ≤ q.2 ∧ q.2 ≤ 1000000) → acc.length + 8 * r.length ≤ room → Loops (body_points_l1 l) ((pre.length : Int), acc, (room : Int), false, q.1, q.2) (acc ++ ptsE q r, (room : Int), false) := by
      intro r
      induction r with
      | nil =>
        intro pre q acc h _ _
        refine .done ?_
        unfold body_points_l1
        rw [if_neg (by rw [h]; simp)]
        simp [ptsE]
      | cons p r ih =>
        intro pre q acc h hq ha
        have hx : idx l (pre.length : Int) p := ⟨by omega, by rw [h]; simp⟩
        have hlt := hx.lt
        have h1 := hp p (by rw [h]; simp)
        have a1 := vB_4 (n := zigN (p.1 - q.1)) (by unfold zigN; split <;> omega)
        have a2 := vB_4 (n := zigN (p.2 - q.2)) (by unfold zigN; split <;> omega)
        simp only [List.length_cons] at ha
        have ih' := ih (pre ++ [p]) p (acc ++ (vB (zigN (p.1 - q.1)) ++ vB (zigN (p.2 - q.2)))) (by simp [h]) h1 (by rw [List.length_append, List.length_append]; omega)
        have e : acc ++ ptsE q (p :: r) = acc ++ (vB (zigN (p.1 - q.1)) ++ vB (zigN (p.2 - q.2))) ++ ptsE p r := by simp [ptsE]
        rw [e]
        refine .next ?_ ih'
        unfold body_points_l1
        rw [if_pos (by simpa using hlt)]
        have w1 : IntKind.i64.wrap (p.1 - q.1) = p.1 - q.1 := w_small (by omega) (by omega)
        have w2 : IntKind.i64.wrap (p.2 - q.2) = p.2 - q.2 := w_small (by omega) (by omega)
        have hs := psig_ok (p := acc) (room := room) [p.1 - q.1, p.2 - q.2] (by
          intro a ha
          simp only [List.mem_cons, List.not_mem_nil, or_false] at ha
          rcases ha with rfl | rfl <;> omega) (by simp only [List.flatMap_cons, List.flatMap_nil, List.append_nil, List.length_append]; omega) hr (by simp)
        simp only [List.flatMap_cons, List.flatMap_nil, List.append_nil] at hs
        refine ⟨p, hx, _, by simp only [w1, w2]; exact hs, ?_⟩
        simp only
        rw [w_small (n := (pre.length : Int) + 1) (by omega) (by omega)]
        simp
    exact key l [] (0, 0) _ rfl (by simp) (by rw [h1]; simp; omega)
def climbs : Int → List Int → Prop
  | _, [] => True
  | q, c :: l => q < c ∧ c ≤ 65535 ∧ climbs c l
theorem cells2_ok {room : Nat} (hr : room < 1073741824) (l : List Int) (hc : climbs (-1) l) (hl : l.length ≤ 32) (hroom : 1 + 4 * l.length ≤ room) :
    body_cells ([], (room : Int), false) l (vB l.length ++ clsE (-1) l, (room : Int), false) := by
  have h1 := vB_lt (n := l.length) (by omega)
  refine ⟨(0, (vB l.length, (room : Int), false)), ?_, (vB l.length ++ clsE (-1) l, (room : Int), false), ?_, rfl⟩
  · rw [w64_small (by omega) (by omega)]
    exact pnum_ok (p := []) (by omega) (by rw [h1]; simp; omega) hr
  · have key : ∀ (r pre : List Int) (q : Int) (acc : List Int), l = pre ++ r → -1 ≤ q → climbs q r → acc.length + 4 * r.length ≤ room → Loops (body_cells_l1 l) (q, (pre.length : Int), acc, (room : Int), false) (acc ++ clsE q r, (room : Int), false) := by
      intro r
      induction r with
      | nil =>
        intro pre q acc h _ _ _
        refine .done ?_
        unfold body_cells_l1
        rw [if_neg (by rw [h]; simp)]
        simp [clsE]
      | cons c r ih =>
        intro pre q acc h hq hcl ha
        obtain ⟨c1, c2, c3⟩ := hcl
        have hx : idx l (pre.length : Int) c := ⟨by omega, by rw [h]; simp⟩
        have hlt := hx.lt
        have a1 := vB_4 (n := (c - q - 1).toNat) (by omega)
        simp only [List.length_cons] at ha
        have ih' := ih (pre ++ [c]) c (acc ++ vB (c - q - 1).toNat) (by simp [h]) (by omega) c3 (by rw [List.length_append]; omega)
        have e : acc ++ clsE q (c :: r) = acc ++ vB (c - q - 1).toNat ++ clsE c r := by simp [clsE]
        rw [e]
        refine .next ?_ ih'
        unfold body_cells_l1
        rw [if_pos (by simpa using hlt)]
        have w1 : IntKind.u64.wrap (IntKind.i64.wrap (IntKind.i64.wrap (c - q) - 1)) = ((c - q - 1).toNat : Int) := by
          rw [w_small (n := c - q) (by omega) (by omega), w_small (by omega) (by omega), w64_small (by omega) (by omega)]; omega
        have hs := pnum_ok (p := acc) (room := room) (n := (c - q - 1).toNat) (by omega) (by omega) hr
        refine ⟨c, hx, _, by simp only [w1]; exact hs, ?_⟩
        simp only
        rw [w_small (n := (pre.length : Int) + 1) (by omega) (by omega)]
        simp
    exact key l [] (-1) _ rfl (by omega) hc (by rw [h1]; simp; omega)

/-! ### What is right of a right field -/
theorem firstE_all {bad : Nat → Option Int} {n : Nat} (h : errO (firstE () bad n) = 0) (hb : ∀ k e, bad k = some e → e ≠ 0) : ∀ k, k < n → bad k = none := by
  refine firstE_some (u := ()) ?_
  cases hf : firstE () bad n with
  | inl v => rfl
  | inr e =>
    rw [hf] at h
    exfalso
    have h : e = 0 := h
    subst h
    unfold firstE at hf
    cases hg : (List.range n).findSome? bad with
    | none => rw [hg] at hf; cases hf
    | some e =>
      rw [hg] at hf
      have : e = 0 := by cases hf; rfl
      obtain ⟨k, _, hk⟩ := List.exists_of_findSome?_eq_some hg
      exact hb k e hk this
theorem path_right {l : List (Int × Int)} (h : pathB l 1 16 = 0) : 1 ≤ l.length ∧ l.length ≤ 16 ∧ ∀ p ∈ l, -1000000 ≤ p.1 ∧ p.1 ≤ 1000000 ∧ -1000000 ≤ p.2 ∧ p.2 ≤ 1000000 := by
  unfold pathB at h
  by_cases hm : manyB l.length 1 16 = 0
  · rw [if_pos hm] at h
    obtain ⟨m1, m2⟩ := manyB_zero hm
    refine ⟨by omega, by omega, fun p hp => ?_⟩
    have hall := firstE_all h (fun k e he => by
      unfold pathBad at he
      split at he
      · split at he
        · cases he; decide
        · cases he
      · cases he)
    obtain ⟨k, hk⟩ := List.getElem?_of_mem hp
    have := hall k (List.getElem?_eq_some_iff.1 hk).1
    unfold pathBad at this
    rw [hk] at this
    simp only at this
    split at this
    · cases this
    · next hn => omega
  · rw [if_neg hm] at h; exact absurd h hm
theorem climbs_of : ∀ (l : List Int) (q : Int), (∀ k, k < l.length → q < l.getD 0 0 ∧ l.getD k 0 ≤ 65535 ∧ (0 < k → l.getD (k - 1) 0 < l.getD k 0)) → climbs q l
  | [], _, _ => trivial
  | c :: l, q, h => by
    have h0 := h 0 (by simp)
    refine ⟨by simpa using h0.1, by simpa using h0.2.1, climbs_of l c fun k hk => ?_⟩
    have h1 := h (k + 1) (by simp; omega)
    have h2 := h 1 (by simp; omega)
    refine ⟨by have := h2.2.2 (by omega); simpa using this, by simpa using h1.2.1, fun hk0 => ?_⟩
    have := h1.2.2 (by omega)
    obtain ⟨k', rfl⟩ : ∃ k', k = k' + 1 := ⟨k - 1, by omega⟩
    simpa using this
theorem cells_right {l : List Int} (h : cellsB l 1 32 = 0) : 1 ≤ l.length ∧ l.length ≤ 32 ∧ climbs (-1) l := by
  unfold cellsB at h
  by_cases hm : manyB l.length 1 32 = 0
  · rw [if_pos hm] at h
    obtain ⟨m1, m2⟩ := manyB_zero hm
    refine ⟨by omega, by omega, climbs_of l (-1) fun k hk => ?_⟩
    have hall := firstE_all h (fun k e he => by
      unfold cellsBad at he
      split at he
      · cases he; decide
      · split at he
        · cases he; decide
        · cases he)
    have a0 := hall 0 (by omega)
    have ak := hall k hk
    unfold cellsBad at a0 ak
    split at ak
    · cases ak
    · next n1 =>
      split at ak
      · cases ak
      · next n2 =>
        split at a0
        · cases a0
        · next n3 => exact ⟨by omega, by omega, fun hk0 => by omega⟩
  · rw [if_neg hm] at h; exact absurd h hm
theorem text_right {s : ByteArray} {a b : Int} (h : textB s a b = 0) : (s.size : Int) ≤ b ∧ ∀ c ∈ bints s, 32 ≤ c ∧ c ≤ 126 := by
  unfold textB at h
  by_cases hm : manyB s.size a b = 0
  · rw [if_pos hm] at h
    obtain ⟨m1, m2⟩ := manyB_zero hm
    refine ⟨m2, fun c hc => ?_⟩
    have hall := firstE_all h (fun k e he => by
      unfold textBad at he
      split at he
      · cases he; decide
      · cases he)
    obtain ⟨k, hk⟩ := List.getElem?_of_mem hc
    have hlt := (List.getElem?_eq_some_iff.1 hk).1
    have := hall k (by rw [← len_bints]; exact hlt)
    unfold textBad at this
    have e : (bints s).getD k 0 = c := by rw [List.getD_eq_getElem?_getD, hk]; rfl
    rw [e] at this
    split at this
    · cases this
    · next hn => omega
  · rw [if_neg hm] at h; exact absurd h hm

/-! ### A field's bytes; a body's -/
def txtE (s : ByteArray) : List Int := vB s.size ++ bints s
def partE (m : Mg) (f : Fd) : List Int :=
  if f.2.1 = 1 then vB (m.2.1.getD f.2.2.1.toNat 0).toNat
  else if f.2.1 = 2 then vB (zigN (m.2.1.getD f.2.2.1.toNat 0))
  else if f.2.1 = 3 then vB m.2.2.1.length ++ ptsE (0, 0) m.2.2.1
  else if f.2.1 = 4 then vB m.2.2.2.1.length ++ clsE (-1) m.2.2.2.1
  else if f.2.1 = 5 then txtE m.2.2.2.2.1
  else if f.2.1 = 6 then txtE m.2.2.2.2.2
  else []
theorem penbytes_ok {p : List Int} {r : Int} {f : Bool} (h : p.length < 1073741824) : body_part_j1 (p, r, f) p := ⟨p, pbytes_ok h, rfl⟩
def fdR (f : Fd) : Prop := fdOk f ∧ (f.2.1 = 1 → 0 ≤ f.2.2.2.1)
theorem fields_r (k : Int) : ∀ f ∈ fieldsB k, fdR f := by
  refine fields_all fdR k (by simp [fdR, fdOk, robotF, size_bstr]) ?_
  simp only [List.forall_mem_cons]
  simp [fdR, fdOk, size_bstr]
theorem part_ok {m : Mg} {f : Fd} (hf : fdR f) (hw : wrongB m f = 0) : body_part m f (partE m f) ∧ (partE m f).length ≤ 130 := by
  obtain ⟨⟨_, _, hk⟩, hp⟩ := hf
  unfold wrongB at hw
  unfold body_part partE
  rcases hk with ⟨e, e1, e2⟩ | ⟨e, e1, e2⟩ | ⟨e, e1, e2⟩ | ⟨e, e1, e2⟩ | ⟨k1, k2, k3, k4, k5, k6⟩
  · rw [if_pos e, e1, e2] at hw
    obtain ⟨h1, h2, h3⟩ := path_right hw
    have hlen := ptsE_len m.2.2.1 (0, 0) (by simp) h3
    rw [if_neg (by omega), if_neg (by omega), if_pos e]
    have hv := vB_lt (n := m.2.2.1.length) (by omega)
    refine ⟨⟨_, rfl, ?_⟩, by rw [List.length_append, hv]; simp; omega⟩
    rw [if_neg (by simp; omega), if_neg (by simp; omega), if_pos (by simpa using e)]
    refine ⟨_, points_ok (room := 192) (by decide) m.2.2.1 h3 h2 (by omega), penbytes_ok (by rw [List.length_append, hv]; simp; omega)⟩
  · rw [if_neg (by omega), if_pos e, e1, e2] at hw
    obtain ⟨h1, h2, h3⟩ := cells_right hw
    rw [if_neg (by omega), if_neg (by omega), if_neg (by omega), if_pos e]
    have hv := vB_lt (n := m.2.2.2.1.length) (by omega)
    have hlen : ∀ (l : List Int) (q : Int), -1 ≤ q → climbs q l → (clsE q l).length ≤ 4 * l.length := by
      intro l
      induction l with
      | nil => intro q _ _; simp [clsE]
      | cons c l ih =>
        intro q hq hcl
        obtain ⟨c1, c2, c3⟩ := hcl
        have := ih c (by omega) c3
        have a1 := vB_4 (n := (c - q - 1).toNat) (by omega)
        simp only [clsE, List.length_append, List.length_cons]
        omega
    have hl := hlen m.2.2.2.1 (-1) (by omega) h3
    refine ⟨⟨_, rfl, ?_⟩, by rw [List.length_append, hv]; simp; omega⟩
    rw [if_neg (by simp; omega), if_neg (by simp; omega), if_neg (by simp; omega), if_pos (by simpa using e)]
    refine ⟨_, cells2_ok (room := 192) (by decide) m.2.2.2.1 h3 h2 (by omega), penbytes_ok (by rw [List.length_append, hv]; simp; omega)⟩
  · rw [if_neg (by omega), if_neg (by omega), if_pos e, e1, e2] at hw
    obtain ⟨h1, _⟩ := text_right hw
    rw [if_neg (by omega), if_neg (by omega), if_neg (by omega), if_neg (by omega), if_pos e]
    have hv := vB_lt (n := m.2.2.2.2.1.size) (by omega)
    have hb := len_bints m.2.2.2.2.1
    refine ⟨⟨_, rfl, ?_⟩, by unfold txtE; rw [List.length_append, hv, hb]; simp; omega⟩
    rw [if_neg (by simp; omega), if_neg (by simp; omega), if_neg (by simp; omega), if_neg (by simp; omega), if_pos (by simpa using e)]
    have := pfield_ok (p := []) (l := bints m.2.2.2.2.1) (room := 192) (by rw [hb, hv]; simp; omega) (by decide)
    rw [hb] at this
    refine ⟨by omega, _, this, penbytes_ok (by rw [List.nil_append, List.length_append, hv, hb]; simp; omega)⟩
  · rw [if_neg (by omega), if_neg (by omega), if_neg (by omega), if_pos e, e1, e2] at hw
    obtain ⟨h1, _⟩ := text_right hw
    rw [if_neg (by omega), if_neg (by omega), if_neg (by omega), if_neg (by omega), if_neg (by omega), if_pos e]
    have hv := vB_lt (n := m.2.2.2.2.2.size) (by omega)
    have hb := len_bints m.2.2.2.2.2
    refine ⟨⟨_, rfl, ?_⟩, by unfold txtE; rw [List.length_append, hv, hb]; simp; omega⟩
    rw [if_neg (by simp; omega), if_neg (by simp; omega), if_neg (by simp; omega), if_neg (by simp; omega), if_neg (by simp; omega), if_pos (by simpa using e)]
    have := pfield_ok (p := []) (l := bints m.2.2.2.2.2) (room := 192) (by rw [hb, hv]; simp; omega) (by decide)
    rw [hb] at this
    refine ⟨by omega, _, this, penbytes_ok (by rw [List.nil_append, List.length_append, hv, hb]; simp; omega)⟩
  · rw [if_neg (by omega), if_neg (by omega), if_neg (by omega), if_neg (by omega)] at hw
    by_cases hb : numBad m f
    · rw [if_pos hb] at hw; cases hw
    unfold numBad at hb
    by_cases e : f.2.1 = 1
    · rw [if_pos e]
      have h0 := hp e
      have a1 := vB_4 (n := (m.2.1.getD f.2.2.1.toNat 0).toNat) (by omega)
      refine ⟨⟨_, rfl, ?_⟩, by omega⟩
      rw [if_pos (by simpa using e)]
      have := pnum_ok (p := []) (room := 192) (n := (m.2.1.getD f.2.2.1.toNat 0).toNat) (by omega) (by rw [List.length_nil]; omega) (by decide)
      have hb2 : (vB (m.2.1.getD f.2.2.1.toNat 0).toNat).length < 1073741824 := by omega
      refine ⟨k3, k4, (0, (vB (m.2.1.getD f.2.2.1.toNat 0).toNat, 192, false)), ?_, penbytes_ok hb2⟩
      rw [w64_small (by omega) (by omega), show m.2.1.getD f.2.2.1.toNat 0 = ((m.2.1.getD f.2.2.1.toNat 0).toNat : Int) by omega]
      exact this
    · rw [if_neg e, if_pos (by omega)]
      have a1 := vB_4 (n := zigN (m.2.1.getD f.2.2.1.toNat 0)) (by unfold zigN; split <;> omega)
      refine ⟨⟨_, rfl, ?_⟩, by omega⟩
      rw [if_neg (by simpa using e), if_pos (by simp; omega)]
      have := psig_ok (p := []) (room := 192) [m.2.1.getD f.2.2.1.toNat 0] (by intro a ha; rw [List.mem_singleton] at ha; subst ha; omega) (by simp only [List.flatMap_cons, List.flatMap_nil, List.append_nil, List.length_nil]; omega) (by decide) (by simp)
      simp only [List.flatMap_cons, List.flatMap_nil, List.append_nil, List.nil_append] at this
      have hb2 : (vB (zigN (m.2.1.getD f.2.2.1.toNat 0))).length < 1073741824 := by omega
      exact ⟨k3, k4, (0, (vB (zigN (m.2.1.getD f.2.2.1.toNat 0)), 192, false)), this, penbytes_ok hb2⟩
end Go.Rel
/-! Plain laws: a body's fields are read. -/
namespace Go.Rel
open Go Go.Eng Go.Pl

theorem bstr_of (s : ByteArray) : bstr (bints s) = s := by
  have h : ∀ (l : List UInt8) (t : ByteArray), (l.map fun b => (b.toNat : Int)).foldl (fun r n => r.push (UInt8.ofNat n.toNat)) t = ⟨t.data ++ l.toArray⟩ := by
    intro l
    induction l with
    | nil => intro t; simp
    | cons b l ih =>
      intro t
      rw [List.map_cons, List.foldl_cons, ih]
      apply ByteArray.ext
      apply Array.ext'
      simp [ByteArray.push]
  have := h s.data.toList ByteArray.empty
  unfold bstr bints
  rw [this]
  apply ByteArray.ext
  apply Array.ext'
  simp [ByteArray.empty, ByteArray.emptyWithCapacity]
  rfl
theorem rerr0 {b : List Int} {at_ : Int} : body_reader_err ((), 0) (b, at_, 0) 0 := by
  unfold body_reader_err
  rw [if_neg (by simp)]
  exact ⟨0, rfl, rfl⟩
theorem rnote0 {L : List Int × Int × Int} {e : Int} {c : Bool} (h : c = false) : body_reader_note ((), 0) L c e ((), 0) := by
  subst h
  unfold body_reader_note
  rw [if_neg (by simp)]
  unfold body_reader_note_j1
  rw [if_neg (by simp)]
theorem drop_len {b x rest : List Int} {at_ : Nat} (hd : b.drop at_ = x ++ rest) (hx : 0 < x.length ∨ at_ ≤ b.length) : at_ + x.length + rest.length ≤ b.length ∧ b.drop (at_ + x.length) = rest := by
  have h1 := congrArg List.length hd
  rw [List.length_drop, List.length_append] at h1
  refine ⟨by omega, ?_⟩
  rw [← List.drop_drop, hd, List.drop_left]
theorem count_ok {b rest : List Int} {at_ n most : Nat} (hb : b.length < 1073741824) (hd : b.drop at_ = vB n ++ rest) (h1 : 1 ≤ n) (hn : n ≤ most) (hm : most ≤ 1000) :
    body_reader_count ((), 0) (b, (at_ : Int), 0) (most : Int) ((n : Int), ((), 0), (b, ((at_ + (vB n).length : Nat) : Int), 0)) := by
  refine ⟨_, lnumber_ok hb hd (by omega) (by omega), ((), 0), rnote0 (decide_eq_false (by show ¬ (n : Int) = 0; omega)), ((), 0), rnote0 (decide_eq_false (by show ¬ IntKind.u64.wrap (most : Int) < (n : Int); rw [w64_small (by omega) (by omega)]; omega)), 0, rerr0, ?_⟩
  rw [if_neg (by simp)]
  simp only
  rw [w_small (by omega) (by omega)]
theorem rpoints_ok {b rest : List Int} {at_ : Nat} (hb : b.length < 1073741824) (l : List (Int × Int)) (hl : 1 ≤ l.length) (hl2 : l.length ≤ 16) (hp : ∀ p ∈ l, -1000000 ≤ p.1 ∧ p.1 ≤ 1000000 ∧ -1000000 ≤ p.2 ∧ p.2 ≤ 1000000)
    (hd : b.drop at_ = (vB l.length ++ ptsE (0, 0) l) ++ rest) : body_reader_points ((), 0) (b, (at_ : Int), 0) (l, ((), 0), (b, ((at_ + (vB l.length ++ ptsE (0, 0) l).length : Nat) : Int), 0)) := by
  rw [List.append_assoc] at hd
  obtain ⟨d1, d2⟩ := drop_len hd (.inl (vB_pos _))
  refine ⟨_, count_ok (most := 16) hb hd hl hl2 (by decide), (l, 0, b, ((at_ + (vB l.length ++ ptsE (0, 0) l).length : Nat) : Int), 0), ?_, rfl⟩
  have key : ∀ (r pre : List (Int × Int)) (q : Int × Int) (a : Nat), l = pre ++ r → (-1000000 ≤ q.1 ∧ q.1 ≤ 1000000 ∧ -1000000 ≤ q.2 ∧ q.2 ≤ 1000000) → b.drop a = ptsE q r ++ rest → Loops (body_reader_points_l2 ((l.length : Int), ((), 0), (b, ((at_ + (vB l.length).length : Nat) : Int), 0))) (pre, (pre.length : Int), b, (a : Int), 0, q.1, q.2) (l, 0, b, ((a + (ptsE q r).length : Nat) : Int), 0) := by
    intro r
    induction r with
    | nil =>
      intro pre q a h _ _
      refine .done ?_
      unfold body_reader_points_l2
      rw [if_neg (by rw [h]; simp)]
      rw [h]; simp [ptsE]
    | cons p r ih =>
      intro pre q a h hq hda
      have h1 := hp p (by rw [h]; simp)
      have hlen : pre.length < l.length := by rw [h]; simp
      simp only [ptsE, List.append_assoc] at hda
      obtain ⟨x1, x2⟩ := drop_len hda (.inl (vB_pos _))
      obtain ⟨y1, y2⟩ := drop_len x2 (.inl (vB_pos _))
      have w1 : IntKind.i64.wrap (-1000000 - q.1) = -1000000 - q.1 := w_small (by omega) (by omega)
      have w2 : IntKind.i64.wrap (1000000 - q.1) = 1000000 - q.1 := w_small (by omega) (by omega)
      have w3 : IntKind.i64.wrap (-1000000 - q.2) = -1000000 - q.2 := w_small (by omega) (by omega)
      have w4 : IntKind.i64.wrap (1000000 - q.2) = 1000000 - q.2 := w_small (by omega) (by omega)
      have s1 := lsigned_ok (least := IntKind.i64.wrap (-1000000 - q.1)) (most := IntKind.i64.wrap (1000000 - q.1)) hb hda (by omega) (by omega) (by rw [w1]; omega) (by rw [w2]; omega)
      have s2 := lsigned_ok (least := IntKind.i64.wrap (-1000000 - q.2)) (most := IntKind.i64.wrap (1000000 - q.2)) hb x2 (by omega) (by omega) (by rw [w3]; omega) (by rw [w4]; omega)
      have v1 : IntKind.i64.wrap (q.1 + (p.1 - q.1)) = p.1 := by rw [w_small (by omega) (by omega)]; omega
      have v2 : IntKind.i64.wrap (q.2 + (p.2 - q.2)) = p.2 := by rw [w_small (by omega) (by omega)]; omega
      have ih' := ih (pre ++ [p]) p (a + (vB (zigN (p.1 - q.1))).length + (vB (zigN (p.2 - q.2))).length) (by simp [h]) h1 y2
      have e : a + (ptsE q (p :: r)).length = a + (vB (zigN (p.1 - q.1))).length + (vB (zigN (p.2 - q.2))).length + (ptsE p r).length := by simp only [ptsE, List.length_append]; omega
      rw [e]
      refine .next ?_ ih'
      unfold body_reader_points_l2
      rw [if_pos (by simp; omega)]
      refine ⟨(p.1, (b, ((a + (vB (zigN (p.1 - q.1))).length : Nat) : Int), 0)), ⟨_, s1, by simp only [v1]⟩, (p.2, (b, ((a + (vB (zigN (p.1 - q.1))).length + (vB (zigN (p.2 - q.2))).length : Nat) : Int), 0)), ⟨_, s2, by simp only [v2]⟩, 0, rerr0, ?_⟩
      rw [if_neg (by simp)]
      simp only [List.length_cons, List.length_nil]
      refine ⟨by omega, by omega, ?_⟩
      rw [w_small (n := (pre.length : Int) + 1) (by omega) (by omega)]
      simp
  have := key l [] (0, 0) (at_ + (vB l.length).length) rfl (by simp) d2
  rw [show at_ + (vB l.length ++ ptsE (0, 0) l).length = at_ + (vB l.length).length + (ptsE (0, 0) l).length by rw [List.length_append]; omega]
  exact this
theorem rcells2_ok {b rest : List Int} {at_ : Nat} (hb : b.length < 1073741824) (l : List Int) (hl : 1 ≤ l.length) (hl2 : l.length ≤ 32) (hc : climbs (-1) l)
    (hd : b.drop at_ = (vB l.length ++ clsE (-1) l) ++ rest) : body_reader_cells ((), 0) (b, (at_ : Int), 0) (l, ((), 0), (b, ((at_ + (vB l.length ++ clsE (-1) l).length : Nat) : Int), 0)) := by
  rw [List.append_assoc] at hd
  obtain ⟨d1, d2⟩ := drop_len hd (.inl (vB_pos _))
  refine ⟨_, count_ok (most := 32) hb hd hl hl2 (by decide), (l, 0, b, ((at_ + (vB l.length ++ clsE (-1) l).length : Nat) : Int), 0), ?_, rfl⟩
  have key : ∀ (r pre : List Int) (q : Int) (a : Nat), l = pre ++ r → -1 ≤ q → climbs q r → b.drop a = clsE q r ++ rest → Loops (body_reader_cells_l2 ((l.length : Int), ((), 0), (b, ((at_ + (vB l.length).length : Nat) : Int), 0))) (pre, q, (pre.length : Int), 0, b, (a : Int), 0) (l, 0, b, ((a + (clsE q r).length : Nat) : Int), 0) := by
    intro r
    induction r with
    | nil =>
      intro pre q a h _ _ _
      refine .done ?_
      unfold body_reader_cells_l2
      rw [if_neg (by rw [h]; simp)]
      rw [h]; simp [clsE]
    | cons c r ih =>
      intro pre q a h hq hcl hda
      obtain ⟨c1, c2, c3⟩ := hcl
      have hlen : pre.length < l.length := by rw [h]; simp
      simp only [clsE, List.append_assoc] at hda
      obtain ⟨x1, x2⟩ := drop_len hda (.inl (vB_pos _))
      have s1 := lnumber_ok (most := 65535) hb hda (by omega) (by omega)
      have v1 : IntKind.i64.wrap (q + IntKind.i64.wrap (IntKind.i64.wrap ((c - q - 1).toNat : Int) + 1)) = c := by
        rw [w_small (n := ((c - q - 1).toNat : Int)) (by omega) (by omega), w_small (n := ((c - q - 1).toNat : Int) + 1) (by omega) (by omega), w_small (by omega) (by omega)]; omega
      have ih' := ih (pre ++ [c]) c (a + (vB (c - q - 1).toNat).length) (by simp [h]) (by omega) c3 x2
      have e : a + (clsE q (c :: r)).length = a + (vB (c - q - 1).toNat).length + (clsE c r).length := by simp only [clsE, List.length_append]; omega
      rw [e]
      refine .next ?_ ih'
      unfold body_reader_cells_l2
      rw [if_pos (by simp; omega)]
      refine ⟨_, s1, ((), 0), rnote0 (decide_eq_false (by simp only [v1]; omega)), 0, rerr0, ?_⟩
      rw [if_neg (by simp)]
      simp only [v1, List.length_cons, List.length_nil]
      refine ⟨by omega, by omega, ?_⟩
      rw [w_small (n := (pre.length : Int) + 1) (by omega) (by omega)]
      simp
  have := key l [] (-1) (at_ + (vB l.length).length) rfl (by omega) hc d2
  rw [show at_ + (vB l.length ++ clsE (-1) l).length = at_ + (vB l.length).length + (clsE (-1) l).length by rw [List.length_append]; omega]
  exact this
theorem rtext2_ok {b rest : List Int} {at_ : Nat} {most : Int} (hb : b.length < 1073741824) (s : ByteArray) (hs : (s.size : Int) ≤ most) (hm : most ≤ 1000) (hc : ∀ c ∈ bints s, 32 ≤ c ∧ c ≤ 126)
    (hd : b.drop at_ = txtE s ++ rest) : body_reader_text ((), 0) (b, (at_ : Int), 0) most (s, ((), 0), (b, ((at_ + (txtE s).length : Nat) : Int), 0)) := by
  have hbl := len_bints s
  unfold txtE at hd
  rw [← hbl, List.append_assoc] at hd
  have hf := lfield_ok hb hd (by rw [hbl]; exact hs) (by omega)
  refine ⟨_, hf, 0, ?_, ?_⟩
  · refine loops_count (fun k => ((k : Int), (0 : Int))) (bints s).length (fun k hk => ?_) ?_
    · unfold body_reader_text_l2
      have hx := idx_of hk
      have hcc := hc _ (List.getElem_mem hk)
      rw [if_pos (by simpa using hk)]
      refine ⟨_, hx, ?_⟩
      rw [if_neg (by simp; omega)]
      refine ⟨((), 0), rnote0 (decide_eq_false (by omega)), ?_⟩
      unfold body_reader_text_j3
      simp only
      rw [w_small (by omega) (by omega)]; simp
    · unfold body_reader_text_l2
      rw [if_neg (by simp)]
  · unfold body_reader_text_j1
    simp only
    have e : at_ + (txtE s).length = at_ + (vB (bints s).length).length + (bints s).length := by unfold txtE; rw [List.length_append, hbl]; omega
    rw [e, bstr_of]
end Go.Rel
/-! Plain laws: a body is read. -/
namespace Go.Rel
open Go Go.Eng Go.Pl

def setF (x m : Mg) (f : Fd) : Mg :=
  if f.2.1 = 1 then (x.1, putN 6 0 x.2.1 f.2.2.1.toNat (m.2.1.getD f.2.2.1.toNat 0), x.2.2.1, x.2.2.2.1, x.2.2.2.2.1, x.2.2.2.2.2)
  else if f.2.1 = 2 then (x.1, putN 6 0 x.2.1 f.2.2.1.toNat (m.2.1.getD f.2.2.1.toNat 0), x.2.2.1, x.2.2.2.1, x.2.2.2.2.1, x.2.2.2.2.2)
  else if f.2.1 = 3 then (x.1, x.2.1, m.2.2.1, x.2.2.2.1, x.2.2.2.2.1, x.2.2.2.2.2)
  else if f.2.1 = 4 then (x.1, x.2.1, x.2.2.1, m.2.2.2.1, x.2.2.2.2.1, x.2.2.2.2.2)
  else if f.2.1 = 5 then (x.1, x.2.1, x.2.2.1, x.2.2.2.1, m.2.2.2.2.1, x.2.2.2.2.2)
  else if f.2.1 = 6 then (x.1, x.2.1, x.2.2.1, x.2.2.2.1, x.2.2.2.2.1, m.2.2.2.2.2)
  else x
theorem rfield_ok {b rest : List Int} {at_ : Nat} (hb : b.length < 1073741824) (x : Mg) {m : Mg} {f : Fd} (hf : fdR f) (hw : wrongB m f = 0) (hd : b.drop at_ = partE m f ++ rest) :
    body_reader_field ((), 0) (b, (at_ : Int), 0) x f (((), 0), (b, ((at_ + (partE m f).length : Nat) : Int), 0), setF x m f) := by
  obtain ⟨⟨_, _, hk⟩, hp⟩ := hf
  unfold wrongB at hw
  rcases hk with ⟨e, e1, e2⟩ | ⟨e, e1, e2⟩ | ⟨e, e1, e2⟩ | ⟨e, e1, e2⟩ | ⟨k1, k2, k3, k4, k5, k6⟩
  · rw [if_pos e, e1, e2] at hw
    obtain ⟨h1, h2, h3⟩ := path_right hw
    have hE : partE m f = vB m.2.2.1.length ++ ptsE (0, 0) m.2.2.1 := by unfold partE; rw [if_neg (by omega), if_neg (by omega), if_pos e]
    have hS : setF x m f = (x.1, x.2.1, m.2.2.1, x.2.2.2.1, x.2.2.2.2.1, x.2.2.2.2.2) := by unfold setF; rw [if_neg (by omega), if_neg (by omega), if_pos e]
    rw [hE] at hd ⊢
    rw [hS]
    unfold body_reader_field
    rw [if_neg (by simp; omega), if_neg (by simp; omega), if_pos (by simpa using e)]
    exact ⟨_, rpoints_ok hb m.2.2.1 h1 h2 h3 hd, rfl⟩
  · rw [if_neg (by omega), if_pos e, e1, e2] at hw
    obtain ⟨h1, h2, h3⟩ := cells_right hw
    have hE : partE m f = vB m.2.2.2.1.length ++ clsE (-1) m.2.2.2.1 := by unfold partE; rw [if_neg (by omega), if_neg (by omega), if_neg (by omega), if_pos e]
    have hS : setF x m f = (x.1, x.2.1, x.2.2.1, m.2.2.2.1, x.2.2.2.2.1, x.2.2.2.2.2) := by unfold setF; rw [if_neg (by omega), if_neg (by omega), if_neg (by omega), if_pos e]
    rw [hE] at hd ⊢
    rw [hS]
    unfold body_reader_field
    rw [if_neg (by simp; omega), if_neg (by simp; omega), if_neg (by simp; omega), if_pos (by simpa using e)]
    exact ⟨_, rcells2_ok hb m.2.2.2.1 h1 h2 h3 hd, rfl⟩
  · rw [if_neg (by omega), if_neg (by omega), if_pos e, e1, e2] at hw
    obtain ⟨h1, h2⟩ := text_right hw
    have hE : partE m f = txtE m.2.2.2.2.1 := by unfold partE; rw [if_neg (by omega), if_neg (by omega), if_neg (by omega), if_neg (by omega), if_pos e]
    have hS : setF x m f = (x.1, x.2.1, x.2.2.1, x.2.2.2.1, m.2.2.2.2.1, x.2.2.2.2.2) := by unfold setF; rw [if_neg (by omega), if_neg (by omega), if_neg (by omega), if_neg (by omega), if_pos e]
    rw [hE] at hd ⊢
    rw [hS]
    unfold body_reader_field
    rw [if_neg (by simp; omega), if_neg (by simp; omega), if_neg (by simp; omega), if_neg (by simp; omega), if_pos (by simpa using e)]
    exact ⟨_, rtext2_ok hb m.2.2.2.2.1 (by omega) (by omega) h2 hd, rfl⟩
  · rw [if_neg (by omega), if_neg (by omega), if_neg (by omega), if_pos e, e1, e2] at hw
    obtain ⟨h1, h2⟩ := text_right hw
    have hE : partE m f = txtE m.2.2.2.2.2 := by unfold partE; rw [if_neg (by omega), if_neg (by omega), if_neg (by omega), if_neg (by omega), if_neg (by omega), if_pos e]
    have hS : setF x m f = (x.1, x.2.1, x.2.2.1, x.2.2.2.1, x.2.2.2.2.1, m.2.2.2.2.2) := by unfold setF; rw [if_neg (by omega), if_neg (by omega), if_neg (by omega), if_neg (by omega), if_neg (by omega), if_pos e]
    rw [hE] at hd ⊢
    rw [hS]
    unfold body_reader_field
    rw [if_neg (by simp; omega), if_neg (by simp; omega), if_neg (by simp; omega), if_neg (by simp; omega), if_neg (by simp; omega), if_pos (by simpa using e)]
    exact ⟨_, rtext2_ok hb m.2.2.2.2.2 (by omega) (by omega) h2 hd, rfl⟩
  · rw [if_neg (by omega), if_neg (by omega), if_neg (by omega), if_neg (by omega)] at hw
    by_cases hbad : numBad m f
    · rw [if_pos hbad] at hw; cases hw
    unfold numBad at hbad
    by_cases e : f.2.1 = 1
    · have hE : partE m f = vB (m.2.1.getD f.2.2.1.toNat 0).toNat := by unfold partE; rw [if_pos e]
      have hS : setF x m f = (x.1, putN 6 0 x.2.1 f.2.2.1.toNat (m.2.1.getD f.2.2.1.toNat 0), x.2.2.1, x.2.2.2.1, x.2.2.2.2.1, x.2.2.2.2.2) := by unfold setF; rw [if_pos e]
      rw [hE] at hd ⊢
      rw [hS]
      unfold body_reader_field
      rw [if_pos (by simpa using e)]
      have h0 := hp e
      have hmost : IntKind.u64.wrap f.2.2.2.2.1 = f.2.2.2.2.1 := w64_small (by omega) (by omega)
      have hn := lnumber_ok (most := f.2.2.2.2.1) hb hd (by omega) (by omega)
      have hval : IntKind.i64.wrap ((m.2.1.getD f.2.2.1.toNat 0).toNat : Int) = m.2.1.getD f.2.2.1.toNat 0 := by rw [w_small (by omega) (by omega)]; omega
      rw [hmost]
      refine ⟨_, hn, k3, k4, k3, k4, ((), 0), rnote0 (decide_eq_false ?_), ?_⟩
      · simp only [hval]
        rw [putN_getD (by omega), if_pos rfl]; omega
      · simp only [hval]
    · have hE : partE m f = vB (zigN (m.2.1.getD f.2.2.1.toNat 0)) := by unfold partE; rw [if_neg e, if_pos (by omega)]
      have hS : setF x m f = (x.1, putN 6 0 x.2.1 f.2.2.1.toNat (m.2.1.getD f.2.2.1.toNat 0), x.2.2.1, x.2.2.2.1, x.2.2.2.2.1, x.2.2.2.2.2) := by unfold setF; rw [if_neg e, if_pos (by omega)]
      rw [hE] at hd ⊢
      rw [hS]
      unfold body_reader_field
      rw [if_neg (by simpa using e), if_pos (by simp; omega)]
      exact ⟨_, lsigned_ok hb hd (by omega) (by omega) (by omega) (by omega), k3, k4, rfl⟩
end Go.Rel
/-! Plain laws: a body is written. -/
namespace Go.Rel
open Go Go.Eng Go.Pl

def sinceB (k v : Int) : List Fd := (fieldsB k).filter fun f => decide (f.2.2.2.2.2.1 ≤ v)
theorem fieldAll_itr (k v : Int) : Itr (field_All_1 k v) (sinceB k v) := by
  intro S Y s s' hrun
  have hl := fields_len k
  have key : ∀ (r pre : List Fd) (s : S), fieldsB k = pre ++ r → Run Y (r.filter fun f => decide (f.2.2.2.2.2.1 ≤ v)) s s' → Loops (field_All_1_l1 S Y v (fieldsB k)) (s, (pre.length : Int)) (s', ()) := by
    intro r
    induction r with
    | nil =>
      intro pre s h hr
      cases hr
      refine .done ?_
      unfold field_All_1_l1
      rw [if_neg (by rw [h]; simp)]
    | cons f r ih =>
      intro pre s h hr
      have hx : idx (fieldsB k) (pre.length : Int) f := ⟨by omega, by rw [h]; simp⟩
      have hlt := hx.lt
      have hn : IntKind.i64.wrap ((pre.length : Int) + 1) = ((pre ++ [f]).length : Int) := by rw [w_small (by omega) (by omega)]; simp
      by_cases hf : f.2.2.2.2.2.1 ≤ v
      · rw [List.filter_cons_of_pos (by simpa using hf)] at hr
        cases hr with
        | go h1 h2 =>
          refine .next (s' := (_, ((pre ++ [f]).length : Int))) ?_ (ih (pre ++ [f]) _ (by simp [h]) h2)
          unfold field_All_1_l1
          rw [if_pos (by simpa using hlt)]
          refine ⟨f, hx, ?_⟩
          rw [if_neg (by simp; omega)]
          refine ⟨true, _, h1, ?_⟩
          rw [if_neg (by simp)]
          unfold field_All_1_j2
          simp only [hn]
        | stop h1 =>
          refine .done ?_
          unfold field_All_1_l1
          rw [if_pos (by simpa using hlt)]
          refine ⟨f, hx, ?_⟩
          rw [if_neg (by simp; omega)]
          refine ⟨false, _, h1, ?_⟩
          rw [if_pos (by simp)]
      · rw [List.filter_cons_of_neg (by simpa using hf)] at hr
        refine .next (s' := (s, ((pre ++ [f]).length : Int))) ?_ (ih (pre ++ [f]) s (by simp [h]) hr)
        unfold field_All_1_l1
        rw [if_pos (by simpa using hlt)]
        refine ⟨f, hx, ?_⟩
        rw [if_pos (by simp; omega)]
        unfold field_All_1_j2
        simp only [hn]
  exact ⟨fieldsB k, fields_ok k, _, key _ [] s rfl hrun, rfl⟩
theorem firstW_each {m : Mg} : ∀ {l : List Fd}, firstW m l = 0 → ∀ f ∈ l, wrongB m f = 0
  | [], _, f, hf => nomatch hf
  | g :: l, h, f, hf => by
    simp only [firstW] at h
    by_cases e : wrongB m g = 0
    · rw [if_neg (by simpa using e)] at h
      rcases List.mem_cons.1 hf with rfl | hf
      · exact e
      · exact firstW_each h f hf
    · rw [if_pos e] at h; exact absurd h e
theorem check_each {m : Mg} (h : checkB m = 0) : ∀ f ∈ fieldsB m.1, wrongB m f = 0 := by
  unfold checkB at h
  by_cases h1 : fieldsB m.1 = []
  · rw [if_pos h1] at h; cases h
  · rw [if_neg h1] at h
    by_cases h2 : firstW m (fieldsB m.1) = 0
    · exact firstW_each h2
    · rw [if_pos h2] at h; exact absurd h h2
def partsB (m : Mg) (v : Int) : List (ByteArray × List Int) := (sinceB m.1 v).map fun f => (f.1, partE m f)
theorem parts_itr {m : Mg} {v : Int} (hv : v = 1 ∨ v = 2) (hc : checkB m = 0) (hp : m.2.2.1.length < 4611686018427387904) (hq : m.2.2.2.1.length < 4611686018427387904) : Itr (body_Parts_1 m v) (partsB m v) := by
  intro S Y s s' hrun
  have hck : body_check m v 0 := by
    unfold body_check
    rcases hv with rfl | rfl
    · rw [if_neg (by decide)]
      unfold body_check_j1
      rw [if_neg (by decide)]
      exact ⟨checkB m, mcheck_ok hp hq, hc.symm⟩
    · rw [if_pos (by decide)]
      unfold body_check_j1
      rw [if_neg (by decide)]
      exact ⟨checkB m, mcheck_ok hp hq, hc.symm⟩
  refine ⟨0, hck, ?_⟩
  rw [if_neg (by decide)]
  refine ⟨_, rfl, ?_⟩
  have hmem : ∀ f ∈ sinceB m.1 v, f ∈ fieldsB m.1 := fun f hf => (List.mem_filter.1 hf).1
  have key : ∀ (l : List Fd) (s : S), (∀ f ∈ l, f ∈ fieldsB m.1) → Run Y (l.map fun f => (f.1, partE m f)) s s' → ∃ t, RunB (body_Parts_1_l1 S Y m) l s t ∧ (t = .inl s' ∨ t = .inr s') := by
    intro l
    induction l with
    | nil => intro s _ hr; cases hr; exact ⟨_, .nil, .inl rfl⟩
    | cons f l ih =>
      intro s hm hr
      have hfm := hm f List.mem_cons_self
      have hpart := (part_ok (fields_r m.1 f hfm) (check_each hc f hfm)).1
      cases hr with
      | go h1 h2 =>
        obtain ⟨t, h3, h4⟩ := ih _ (fun g hg => hm g (List.mem_cons_of_mem _ hg)) h2
        exact ⟨t, .go ⟨_, hpart, true, _, h1, by rw [if_neg (by simp)]⟩ h3, h4⟩
      | stop h1 => exact ⟨_, .stop ⟨_, hpart, false, _, h1, by rw [if_pos (by simp)]⟩, .inr rfl⟩
  obtain ⟨t, h1, h2⟩ := key _ s hmem hrun
  refine ⟨t, (), fieldAll_itr m.1 v _ _ _ _ (run_yof h1), ?_⟩
  rcases h2 with rfl | rfl <;> exact rfl
def bodyE (m : Mg) (v : Int) : List Int := (sinceB m.1 v).flatMap (partE m)
theorem encode_ok {m : Mg} {v : Int} (hv : v = 1 ∨ v = 2) (hc : checkB m = 0) (hp : m.2.2.1.length < 4611686018427387904) (hq : m.2.2.2.1.length < 4611686018427387904) : body_Encode m v (bodyE m v, 0) := by
  have hck : body_check m v 0 := by
    unfold body_check
    rcases hv with rfl | rfl
    · rw [if_neg (by decide)]
      unfold body_check_j1
      rw [if_neg (by decide)]
      exact ⟨checkB m, mcheck_ok hp hq, hc.symm⟩
    · rw [if_pos (by decide)]
      unfold body_check_j1
      rw [if_neg (by decide)]
      exact ⟨checkB m, mcheck_ok hp hq, hc.symm⟩
  refine ⟨0, hck, ?_⟩
  rw [if_neg (by decide)]
  refine ⟨_, rfl, ?_⟩
  have hlen : ∀ p ∈ partsB m v, p.2.length ≤ 130 := by
    intro p hp'
    obtain ⟨f, hf, rfl⟩ := List.mem_map.1 hp'
    have hfm := (List.mem_filter.1 hf).1
    exact (part_ok (fields_r m.1 f hfm) (check_each hc f hfm)).2
  have hcount : (partsB m v).length ≤ 6 := by
    unfold partsB sinceB
    rw [List.length_map]
    exact Nat.le_trans (List.length_filter_le _ _) (fields_len m.1)
  have key : ∀ (l : List (ByteArray × List Int)) (acc : List Int), (∀ p ∈ l, p.2.length ≤ 130) → acc.length + 130 * l.length ≤ 100000 → RunB body_Encode_l1 l acc (.inl (acc ++ l.flatMap fun p => p.2)) := by
    intro l
    induction l with
    | nil => intro acc _ _; rw [List.flatMap_nil, List.append_nil]; exact .nil
    | cons p l ih =>
      intro acc h ha
      have h1 := h p List.mem_cons_self
      simp only [List.length_cons] at ha
      have := ih (acc ++ p.2) (fun x hx => h x (List.mem_cons_of_mem _ hx)) (by rw [List.length_append]; omega)
      rw [List.flatMap_cons, ← List.append_assoc]
      exact .go ⟨by omega, by omega, rfl⟩ this
  have h1 := key (partsB m v) [] hlen (by simp; omega)
  refine ⟨_, (), parts_itr hv hc hp hq _ _ _ _ (run_yof h1), ?_⟩
  show ((_ : List Int), (0 : Int)) = _
  rw [List.nil_append]
  unfold bodyE partsB
  rw [List.flatMap_map]
end Go.Rel
/-! Plain laws: a body that was written is read as it was. -/
namespace Go.Rel
open Go Go.Eng Go.Pl

def tN (l : List Fd) (N : List Int) (p : Nat) : Int := if hasN l p = true then N.getD p 0 else 0
def takeB (l : List Fd) (m : Mg) : Mg :=
  (m.1, [tN l m.2.1 0, tN l m.2.1 1, tN l m.2.1 2, tN l m.2.1 3, tN l m.2.1 4, tN l m.2.1 5], if hasS l 3 = true then m.2.2.1 else [], if hasS l 4 = true then m.2.2.2.1 else [], if hasS l 5 = true then m.2.2.2.2.1 else bstr [], if hasS l 6 = true then m.2.2.2.2.2 else bstr [])
theorem tN_same {l : List Fd} {f : Fd} (h : ¬ sortN f) (N : List Int) (p : Nat) : tN (l ++ [f]) N p = tN l N p := by
  unfold tN
  rw [hasN_snoc, decide_eq_false (fun hh => h hh.1), Bool.or_false]
theorem tN_put {l : List Fd} {f : Fd} (h : sortN f) (N : List Int) (p : Nat) : tN (l ++ [f]) N p = if p = f.2.2.1.toNat then N.getD f.2.2.1.toNat 0 else tN l N p := by
  unfold tN
  rw [hasN_snoc]
  by_cases e : p = f.2.2.1.toNat
  · subst e
    rw [decide_eq_true ⟨h, rfl⟩, Bool.or_true, if_pos rfl, if_pos rfl]
  · rw [decide_eq_false (fun hh => e hh.2.symm), Bool.or_false, if_neg e]
theorem hasS_same {l : List Fd} {f : Fd} {s : Int} (h : f.2.1 ≠ s) : hasS (l ++ [f]) s = hasS l s := by rw [hasS_snoc, decide_eq_false h, Bool.or_false]
theorem hasS_put {l : List Fd} {f : Fd} {s : Int} (h : f.2.1 = s) : hasS (l ++ [f]) s = true := by rw [hasS_snoc, decide_eq_true h, Bool.or_true]
theorem take_step (l : List Fd) (m : Mg) {f : Fd} (ok : fdOk f) : setF (takeB l m) m f = takeB (l ++ [f]) m := by
  obtain ⟨_, _, hk⟩ := ok
  unfold setF
  rcases hk with ⟨e, _, _⟩ | ⟨e, _, _⟩ | ⟨e, _, _⟩ | ⟨e, _, _⟩ | ⟨k1, k2, k3, k4, _, _⟩
  · have hn : ¬ sortN f := fun h => h.1 e
    rw [if_neg (by omega), if_neg (by omega), if_pos e]
    unfold takeB
    simp only [tN_same hn, hasS_same (show f.2.1 ≠ 4 by omega), hasS_same (show f.2.1 ≠ 5 by omega), hasS_same (show f.2.1 ≠ 6 by omega), hasS_put e, if_true]
  · have hn : ¬ sortN f := fun h => h.2.1 e
    rw [if_neg (by omega), if_neg (by omega), if_neg (by omega), if_pos e]
    unfold takeB
    simp only [tN_same hn, hasS_same (show f.2.1 ≠ 3 by omega), hasS_same (show f.2.1 ≠ 5 by omega), hasS_same (show f.2.1 ≠ 6 by omega), hasS_put e, if_true]
  · have hn : ¬ sortN f := fun h => h.2.2.1 e
    rw [if_neg (by omega), if_neg (by omega), if_neg (by omega), if_neg (by omega), if_pos e]
    unfold takeB
    simp only [tN_same hn, hasS_same (show f.2.1 ≠ 3 by omega), hasS_same (show f.2.1 ≠ 4 by omega), hasS_same (show f.2.1 ≠ 6 by omega), hasS_put e, if_true]
  · have hn : ¬ sortN f := fun h => h.2.2.2 e
    rw [if_neg (by omega), if_neg (by omega), if_neg (by omega), if_neg (by omega), if_neg (by omega), if_pos e]
    unfold takeB
    simp only [tN_same hn, hasS_same (show f.2.1 ≠ 3 by omega), hasS_same (show f.2.1 ≠ 4 by omega), hasS_same (show f.2.1 ≠ 5 by omega), hasS_put e, if_true]
  · have hn : sortN f := ⟨by omega, by omega, by omega, by omega⟩
    have hput : putN 6 0 (takeB l m).2.1 f.2.2.1.toNat (m.2.1.getD f.2.2.1.toNat 0) = (takeB (l ++ [f]) m).2.1 := by
      show [_, _, _, _, _, _] = [_, _, _, _, _, _]
      simp only [takeB, tN_put hn]
      rfl
    have hrest : (takeB (l ++ [f]) m).2.2 = (takeB l m).2.2 := by
      simp only [takeB, hasS_same (show f.2.1 ≠ 3 by omega), hasS_same (show f.2.1 ≠ 4 by omega), hasS_same (show f.2.1 ≠ 5 by omega), hasS_same (show f.2.1 ≠ 6 by omega)]
    have e : takeB (l ++ [f]) m = (m.1, (takeB (l ++ [f]) m).2.1, (takeB (l ++ [f]) m).2.2) := rfl
    rw [e, ← hput, hrest]
    by_cases h1 : f.2.1 = 1
    · rw [if_pos h1]; rfl
    · rw [if_neg h1, if_pos (by omega)]; rfl
theorem take_all {m : Mg} (h : checkB m = 0) : takeB (fieldsB m.1) m = (m.1, n6 m.2.1, m.2.2) := by
  unfold checkB at h
  by_cases h1 : fieldsB m.1 = []
  · rw [if_pos h1] at h; cases h
  rw [if_neg h1] at h
  by_cases h2 : firstW m (fieldsB m.1) = 0
  · rw [if_neg (by simpa using h2)] at h
    by_cases h3 : sameB (leftB (fieldsB m.1) m) (zeroM m.1) = true
    · unfold sameB at h3
      obtain ⟨_, s2, s3⟩ := of_decide_eq_true h3
      have s2 : [zN (fieldsB m.1) m.2.1 0, zN (fieldsB m.1) m.2.1 1, zN (fieldsB m.1) m.2.1 2, zN (fieldsB m.1) m.2.1 3, zN (fieldsB m.1) m.2.1 4, zN (fieldsB m.1) m.2.1 5] = [0, 0, 0, 0, 0, 0] := s2
      simp only [List.cons.injEq, and_true] at s2
      obtain ⟨z0, z1, z2, z3, z4, z5⟩ := s2
      have ht : ∀ p, zN (fieldsB m.1) m.2.1 p = 0 → tN (fieldsB m.1) m.2.1 p = m.2.1.getD p 0 := by
        intro p hz
        unfold zN at hz
        unfold tN
        split
        · rfl
        · next hn => rw [if_neg hn] at hz; exact hz.symm
      have s3 : ((if hasS (fieldsB m.1) 3 = true then [] else m.2.2.1), (if hasS (fieldsB m.1) 4 = true then [] else m.2.2.2.1), (if hasS (fieldsB m.1) 5 = true then bstr [] else m.2.2.2.2.1), (if hasS (fieldsB m.1) 6 = true then bstr [] else m.2.2.2.2.2)) = (([] : List (Int × Int)), ([] : List Int), bstr [], bstr []) := s3
      simp only [Prod.mk.injEq] at s3
      obtain ⟨t3, t4, t5, t6⟩ := s3
      have e3 : (if hasS (fieldsB m.1) 3 = true then m.2.2.1 else []) = m.2.2.1 := by
        split
        · rfl
        · next hn => rw [if_neg hn] at t3; exact t3.symm
      have e4 : (if hasS (fieldsB m.1) 4 = true then m.2.2.2.1 else []) = m.2.2.2.1 := by
        split
        · rfl
        · next hn => rw [if_neg hn] at t4; exact t4.symm
      have e5 : (if hasS (fieldsB m.1) 5 = true then m.2.2.2.2.1 else bstr []) = m.2.2.2.2.1 := by
        split
        · rfl
        · next hn => rw [if_neg hn] at t5; exact t5.symm
      have e6 : (if hasS (fieldsB m.1) 6 = true then m.2.2.2.2.2 else bstr []) = m.2.2.2.2.2 := by
        split
        · rfl
        · next hn => rw [if_neg hn] at t6; exact t6.symm
      unfold takeB
      rw [ht 0 z0, ht 1 z1, ht 2 z2, ht 3 z3, ht 4 z4, ht 5 z5, e3, e4, e5, e6]
      rfl
    · rw [if_neg h3] at h; cases h
  · rw [if_pos (by simpa using h2)] at h; exact absurd h h2
end Go.Rel
/-! Plain laws: a body that was written is decoded. -/
namespace Go.Rel
open Go Go.Eng Go.Pl

abbrev Dst := List Int × Int × Int × Int × Int × Int × Int × Int × Int × Int × Int × List (Int × Int) × List Int × ByteArray × ByteArray
def stD (b : List Int) (at_ : Nat) (x : Mg) : Dst := (b, (at_ : Int), 0, 0, x.1, x.2.1.getD 0 0, x.2.1.getD 1 0, x.2.1.getD 2 0, x.2.1.getD 3 0, x.2.1.getD 4 0, x.2.1.getD 5 0, x.2.2.1, x.2.2.2.1, x.2.2.2.2.1, x.2.2.2.2.2)
theorem decode_run {b rest : List Int} (hb : b.length < 1073741824) {m : Mg} : ∀ (r pre : List Fd) (at_ : Nat), (∀ f ∈ r, fdR f ∧ wrongB m f = 0) → b.drop at_ = r.flatMap (partE m) ++ rest →
    RunB body_Decode_l4 r (stD b at_ (takeB pre m)) (.inl (stD b (at_ + (r.flatMap (partE m)).length) (takeB (pre ++ r) m)))
  | [], pre, at_, _, _ => by rw [List.append_nil]; exact .nil
  | f :: r, pre, at_, h, hd => by
    obtain ⟨h1, h2⟩ := h f List.mem_cons_self
    rw [List.flatMap_cons, List.append_assoc] at hd
    have hf := rfield_ok hb (takeB pre m) h1 h2 hd
    rw [take_step pre m h1.1] at hf
    have hle : b.drop (at_ + (partE m f).length) = r.flatMap (partE m) ++ rest := by rw [← List.drop_drop, hd, List.drop_left]
    have ih := decode_run hb r (pre ++ [f]) (at_ + (partE m f).length) (fun g hg => h g (List.mem_cons_of_mem _ hg)) hle
    have e : pre ++ f :: r = pre ++ [f] ++ r := by simp
    rw [List.flatMap_cons, List.length_append, ← Nat.add_assoc, e]
    refine .go ?_ ih
    exact ⟨_, hf, 0, rerr0, by rw [if_neg (by simp)]; rfl⟩
theorem since2 (k : Int) : sinceB k 2 = fieldsB k := by
  unfold sinceB
  rw [List.filter_eq_self]
  intro f hf
  have := (fields_fd k f hf).1
  simpa using this
theorem project2_ok {m : Mg} (hp : m.2.2.1.length < 1099511627776) (hc : m.2.2.2.1.length < 1099511627776) : msg_Project m 2 (m.1, n6 m.2.1, m.2.2) := by
  have hl := fields_len m.1
  refine ⟨m, mcopy_ok hp hc, fieldsB m.1, fields_ok m.1, (m.1, m.2.1.getD 0 0, m.2.1.getD 1 0, m.2.1.getD 2 0, m.2.1.getD 3 0, m.2.1.getD 4 0, m.2.1.getD 5 0, m.2.2.1, m.2.2.2.1, m.2.2.2.2.1, m.2.2.2.2.2), ?_, rfl⟩
  refine loops_count (fun k => ((k : Int), m.1, m.2.1.getD 0 0, m.2.1.getD 1 0, m.2.1.getD 2 0, m.2.1.getD 3 0, m.2.1.getD 4 0, m.2.1.getD 5 0, m.2.2.1, m.2.2.2.1, m.2.2.2.2.1, m.2.2.2.2.2)) (fieldsB m.1).length (fun k hk => ?_) ?_
  · unfold msg_Project_l2
    rw [if_pos (by simpa using hk)]
    refine ⟨_, idx_of hk, ?_⟩
    rw [if_pos (by decide)]
    unfold msg_Project_j4
    rw [if_pos rfl]
    unfold msg_Project_j3
    simp only
    rw [w_small (by omega) (by omega)]; simp
  · unfold msg_Project_l2
    rw [if_neg (by simp)]
theorem word_some {m : Mg} (h : fieldsB m.1 ≠ []) : ∃ w, field_Word m.1 w ∧ w ≠ bstr [] := by
  unfold fieldsB at h
  by_cases e1 : m.1 = 1
  · exact ⟨bstr [109, 111, 118, 101], by unfold field_Word; rw [if_pos (by simpa using e1)], by decide⟩
  rw [if_neg e1] at h
  by_cases e2 : m.1 = 2
  · exact ⟨bstr [104, 111, 108, 100], by unfold field_Word; rw [if_neg (by simpa using e1), if_pos (by simpa using e2)], by decide⟩
  rw [if_neg e2] at h
  by_cases e3 : m.1 = 3
  · exact ⟨bstr [103, 114, 97, 110, 116], by unfold field_Word; rw [if_neg (by simpa using e1), if_neg (by simpa using e2), if_pos (by simpa using e3)], by decide⟩
  rw [if_neg e3] at h
  by_cases e4 : m.1 = 4
  · exact ⟨bstr [112, 111, 115, 101], by unfold field_Word; rw [if_neg (by simpa using e1), if_neg (by simpa using e2), if_neg (by simpa using e3), if_pos (by simpa using e4)], by decide⟩
  rw [if_neg e4] at h
  by_cases e5 : m.1 = 5
  · exact ⟨bstr [102, 97, 117, 108, 116], by unfold field_Word; rw [if_neg (by simpa using e1), if_neg (by simpa using e2), if_neg (by simpa using e3), if_neg (by simpa using e4), if_pos (by simpa using e5)], by decide⟩
  rw [if_neg e5] at h
  exact absurd rfl h
theorem lend_ok {b : List Int} (_hb : b.length < 1073741824) : lens_Lens_End (b, (b.length : Int), 0) 0 := by
  refine ⟨0, rfl, ?_⟩
  rw [if_neg (by decide)]
  refine ⟨0, ⟨_, left_ok (Nat.le_refl _), by simp⟩, ?_⟩
  unfold lens_Lens_End_j1
  rw [if_pos (by decide)]
theorem decode_ok {m : Mg} (hc : checkB m = 0) (hp : m.2.2.1.length < 1099511627776) (hq : m.2.2.2.1.length < 1099511627776) (hb : (bodyE m 2).length < 1073741824) : body_Decode m.1 2 (bodyE m 2) ((m.1, n6 m.2.1, m.2.2), 0) := by
  have hne : fieldsB m.1 ≠ [] := by
    intro h0
    unfold checkB at hc
    rw [if_pos h0] at hc; cases hc
  obtain ⟨w, hw, hw2⟩ := word_some hne
  unfold body_Decode
  rw [if_pos (by decide)]
  unfold body_Decode_j1
  rw [if_neg (by decide)]
  refine ⟨w, hw, ?_⟩
  rw [if_neg (by simpa using hw2)]
  refine ⟨_, lnew_ok hb, _, rfl, ?_⟩
  have hrun := decode_run (b := bodyE m 2) (rest := []) hb (m := m) (fieldsB m.1) [] 0 (fun f hf => ⟨fields_r m.1 f hf, check_each hc f hf⟩) (by unfold bodyE; rw [since2]; simp)
  rw [List.nil_append, take_all hc] at hrun
  have hlen : 0 + ((fieldsB m.1).flatMap (partE m)).length = (bodyE m 2).length := by unfold bodyE; rw [since2]; simp
  rw [hlen] at hrun
  refine ⟨_, (), fieldAll_itr m.1 2 _ _ _ _ (run_yof (by rw [since2]; exact hrun)), ?_⟩
  show body_Decode_j2 2 _ _
  refine ⟨0, rerr0, ?_⟩
  rw [if_pos (by decide)]
  refine ⟨0, lend_ok hb, ?_⟩
  unfold body_Decode_j3
  rw [if_neg (by decide)]
  exact ⟨_, project2_ok (m := (m.1, n6 m.2.1, m.2.2)) hp hq, rfl⟩
end Go.Rel
/-! Plain laws: a log's records: what is written, what is read. -/
namespace Go.Rel
open Go Go.Eng Go.Pl

theorem pu8_ok {p : List Int} {room : Nat} {v : Int} (h0 : 0 ≤ v) (h1 : v < 256) (h : p.length + 1 ≤ room) (hr : room < 1073741824) : pen_Pen_U8 (p, (room : Int), false) v (0, (p ++ [v], (room : Int), false)) := by
  refine ⟨(0, (p ++ [v], (room : Int), false)), ⟨by omega, by omega, by omega, (0, (p ++ [v], (room : Int), false)), ?_, rfl⟩, rfl⟩
  have e : (([(IntKind.u8.wrap (IntKind.u32.wrap v)), (IntKind.u8.wrap (ishr .u32 (IntKind.u32.wrap v) 8)), (IntKind.u8.wrap (ishr .u32 (IntKind.u32.wrap v) 16)), (IntKind.u8.wrap (ishr .u32 (IntKind.u32.wrap v) 24))].drop (0 : Int).toNat).take ((1 : Int) - 0).toNat) = [v] := by
    show [IntKind.u8.wrap (IntKind.u32.wrap v)] = [v]
    rw [w32_small (by omega) (by omega), w_u8]
    congr 1; omega
  rw [e]
  exact raw_ok (l := [v]) (by simpa using h) hr
theorem llu8_ok {b : List Int} {v : Int} {rest : List Int} (hb : Byt b) (hlen : b.length < 1073741824) {k : Nat} (h : b.drop k = v :: rest) : lens_Lens_U8 (b, (k : Int), 0) (v, (b, ((k + 1 : Nat) : Int), 0)) := by
  have hl : k < b.length := by
    have := congrArg List.length h
    rw [List.length_drop] at this
    simp at this; omega
  have hv : 0 ≤ v ∧ v < 256 := hb v (by have : v ∈ b.drop k := by rw [h]; exact List.mem_cons_self
                                        exact List.mem_of_mem_drop this)
  refine ⟨_, lword_ok hb (by omega) (n := 1) (by omega) (by omega), ?_⟩
  have e : leV ((b.drop k).take 1) = v := by
    rw [h]
    simp only [List.take_succ_cons, List.take_zero, leV]; omega
  rw [e, w_u8]
  congr 1; simp only; omega
theorem llu32_ok {b : List Int} {v : Int} {rest : List Int} (hb : Byt b) (hlen : b.length < 1073741824) (h0 : 0 ≤ v) (h1 : v < 4294967296) {k : Nat} (h : b.drop k = leB v ++ rest) : lens_Lens_U32 (b, (k : Int), 0) (v, (b, ((k + 4 : Nat) : Int), 0)) := by
  have hl : k + 4 ≤ b.length := by
    have := congrArg List.length h
    rw [List.length_drop] at this
    simp [leB] at this; omega
  have e : leV ((b.drop k).take 4) = v := by
    rw [h]
    simp only [leB, List.cons_append, List.nil_append, List.take_succ_cons, List.take_zero, leV]; omega
  have := lword_ok hb (by omega) (n := 4) (by omega) hl
  rw [e] at this
  exact ⟨_, this, rfl⟩

/-! ### What is wrong with an event -/
def zeroMg : Mg := (0, List.replicate 6 0, [], [], bstr [], bstr [])
def chkL (e : Ev) : Int :=
  if e.1 < 1 ∨ 3 < e.1 then 9
  else if e.1 = 1 then (if e.2.2.1 ≠ 1 ∧ e.2.2.1 ≠ 2 then 10 else if checkB e.2.2.2.2 ≠ 0 then checkB e.2.2.2.2 else if e.2.2.2.1 ≠ 0 then 3 else 0)
  else if e.2.2.1 ≠ 0 then 3 else if sameB e.2.2.2.2 zeroMg = false then 3
  else if e.1 = 2 then (if bstr (wordE e.2.2.2.1) = bstr [] then 7 else 0) else if e.2.2.2.1 ≠ 0 then 3 else 0
theorem chkL_ok {e : Ev} (hp : e.2.2.2.2.2.2.1.length < 4611686018427387904) (hq : e.2.2.2.2.2.2.2.1.length < 4611686018427387904) : log_Check e (chkL e) := by
  have j1 : e.1 ≠ 2 → log_Check_j1 e () (if e.2.2.2.1 ≠ 0 then 3 else 0) := by
    intro h
    unfold log_Check_j1
    rw [if_pos (by simpa using h)]
    unfold log_Check_j2
    by_cases h0 : e.2.2.2.1 = 0
    · rw [if_neg (by simp [h0]), if_neg (by simpa using h0)]
    · rw [if_pos (by simp [h0]), if_pos h0]
  have j1b : e.1 = 2 → log_Check_j1 e () 0 := by
    intro h
    unfold log_Check_j1
    rw [if_neg (by simp [h])]
    unfold log_Check_j2
    rw [if_neg (by simp)]
  have j4 : ¬ (e.1 < 1 ∨ 3 < e.1) → e.1 ≠ 1 → log_Check_j4 e false (chkL e) := by
    intro h h1
    unfold log_Check_j4 chkL
    rw [if_neg (by simp), if_neg (by simpa using h1), if_neg h, if_neg h1]
    by_cases hv : e.2.2.1 = 0
    · rw [if_neg (by simp [hv]), if_neg (by simpa using hv)]
      refine ⟨_, msame_ok (b := zeroMg) hp hq, ?_⟩
      unfold log_Check_j5
      by_cases hs : sameB e.2.2.2.2 zeroMg = false
      · rw [if_pos (by simp [hs]), if_pos hs]
      · rw [if_neg (by simpa using hs), if_neg hs]
        by_cases h2 : e.1 = 2
        · rw [if_pos (by simpa using h2), if_pos h2]
          refine ⟨_, eword_ok _, ?_⟩
          unfold log_Check_j6
          by_cases hw : bstr (wordE e.2.2.2.1) = bstr []
          · rw [if_pos (by simpa using hw), if_pos hw]
          · rw [if_neg (by simpa using hw), if_neg hw]; exact j1b h2
        · rw [if_neg (by simpa using h2), if_neg h2]
          unfold log_Check_j6
          rw [if_neg (by simp)]
          exact j1 h2
    · rw [if_pos (by simp [hv]), if_pos hv]
      unfold log_Check_j5
      rw [if_pos rfl]
  have j3 : ¬ (e.1 < 1 ∨ 3 < e.1) → log_Check_j3 e false (chkL e) := by
    intro h
    unfold log_Check_j3
    rw [if_neg (by simp)]
    by_cases h1 : e.1 = 1
    · rw [if_pos (by simpa using h1)]
      have core : (e.2.2.1 = 1 ∨ e.2.2.1 = 2) → log_Check_j4 e false (chkL e) := by
        intro hv
        unfold log_Check_j4 chkL
        rw [if_neg (by simp), if_pos (by simpa using h1), if_neg h, if_pos h1, if_neg (by omega)]
        refine ⟨_, mcheck_ok hp hq, ?_⟩
        by_cases hc : checkB e.2.2.2.2 = 0
        · rw [if_neg (by simp [hc]), if_neg (by simpa using hc)]; exact j1 (by omega)
        · rw [if_pos (by simp [hc]), if_pos hc]
      by_cases hv : e.2.2.1 = 1
      · rw [if_neg (by simp [hv])]; exact core (.inl hv)
      · rw [if_pos (by simp [hv])]
        by_cases hv2 : e.2.2.1 = 2
        · rw [decide_eq_true hv2]; exact core (.inr hv2)
        · rw [decide_eq_false hv2]
          unfold log_Check_j4 chkL
          rw [if_pos (by decide), if_neg h, if_pos h1, if_pos ⟨hv, hv2⟩]
    · rw [if_neg (by simpa using h1)]; exact j4 h h1
  unfold log_Check
  by_cases h1 : e.1 < 1
  · rw [if_pos (by simpa using h1)]
    unfold log_Check_j3 chkL
    rw [if_pos rfl, if_pos (.inl h1)]
  · rw [if_neg (by simpa using h1)]
    by_cases h3 : 3 < e.1
    · rw [decide_eq_true h3]
      unfold log_Check_j3 chkL
      rw [if_pos rfl, if_pos (.inr h3)]
    · rw [decide_eq_false h3]; exact j3 (by omega)
end Go.Rel
/-! Plain laws: a log's records are written. -/
namespace Go.Rel
open Go Go.Eng Go.Pl

def pmax (f : Fd) : Nat := if f.2.1 = 3 then 129 else if f.2.1 = 4 then 129 else if f.2.1 = 5 then 65 else if f.2.1 = 6 then 17 else 4
theorem clsE_len2 : ∀ (l : List Int) (q : Int), -1 ≤ q → climbs q l → (clsE q l).length ≤ 4 * l.length
  | [], _, _, _ => by simp [clsE]
  | c :: l, q, hq, hcl => by
    obtain ⟨c1, c2, c3⟩ := hcl
    have := clsE_len2 l c (by omega) c3
    have a1 := vB_4 (n := (c - q - 1).toNat) (by omega)
    simp only [clsE, List.length_append, List.length_cons]
    omega
theorem part_len {m : Mg} {f : Fd} (hf : fdR f) (hw : wrongB m f = 0) : (partE m f).length ≤ pmax f := by
  obtain ⟨⟨_, _, hk⟩, hp⟩ := hf
  unfold wrongB at hw
  unfold partE pmax
  rcases hk with ⟨e, e1, e2⟩ | ⟨e, e1, e2⟩ | ⟨e, e1, e2⟩ | ⟨e, e1, e2⟩ | ⟨k1, k2, k3, k4, k5, k6⟩
  · rw [if_pos e, e1, e2] at hw
    obtain ⟨h1, h2, h3⟩ := path_right hw
    have hlen := ptsE_len m.2.2.1 (0, 0) (by simp) h3
    have hv := vB_lt (n := m.2.2.1.length) (by omega)
    rw [if_neg (by omega), if_neg (by omega), if_pos e, if_pos e, List.length_append, hv]; simp; omega
  · rw [if_neg (by omega), if_pos e, e1, e2] at hw
    obtain ⟨h1, h2, h3⟩ := cells_right hw
    have hl := clsE_len2 m.2.2.2.1 (-1) (by omega) h3
    have hv := vB_lt (n := m.2.2.2.1.length) (by omega)
    rw [if_neg (by omega), if_neg (by omega), if_neg (by omega), if_pos e, if_neg (by omega), if_pos e, List.length_append, hv]; simp; omega
  · rw [if_neg (by omega), if_neg (by omega), if_pos e, e1, e2] at hw
    obtain ⟨h1, _⟩ := text_right hw
    have hv := vB_lt (n := m.2.2.2.2.1.size) (by omega)
    have hb := len_bints m.2.2.2.2.1
    rw [if_neg (by omega), if_neg (by omega), if_neg (by omega), if_neg (by omega), if_pos e, if_neg (by omega), if_neg (by omega), if_pos e]
    unfold txtE
    rw [List.length_append, hv, hb]; simp; omega
  · rw [if_neg (by omega), if_neg (by omega), if_neg (by omega), if_pos e, e1, e2] at hw
    obtain ⟨h1, _⟩ := text_right hw
    have hv := vB_lt (n := m.2.2.2.2.2.size) (by omega)
    have hb := len_bints m.2.2.2.2.2
    rw [if_neg (by omega), if_neg (by omega), if_neg (by omega), if_neg (by omega), if_neg (by omega), if_pos e, if_neg (by omega), if_neg (by omega), if_neg (by omega), if_pos e]
    unfold txtE
    rw [List.length_append, hv, hb]; simp; omega
  · rw [if_neg (by omega), if_neg (by omega), if_neg (by omega), if_neg (by omega)] at hw
    by_cases hb : numBad m f
    · rw [if_pos hb] at hw; cases hw
    unfold numBad at hb
    by_cases e : f.2.1 = 1
    · have h0 := hp e
      have a1 := vB_4 (n := (m.2.1.getD f.2.2.1.toNat 0).toNat) (by omega)
      rw [if_pos e, if_neg (by omega), if_neg (by omega), if_neg (by omega), if_neg (by omega)]; exact a1
    · have a1 := vB_4 (n := zigN (m.2.1.getD f.2.2.1.toNat 0)) (by unfold zigN; split <;> omega)
      rw [if_neg e, if_pos (by omega), if_neg (by omega), if_neg (by omega), if_neg (by omega), if_neg (by omega)]; exact a1
theorem pmax_sum (k : Int) : ((fieldsB k).map pmax).sum ≤ 158 := by
  unfold fieldsB
  split
  · decide
  · split
    · decide
    · split
      · decide
      · split
        · decide
        · split <;> decide
theorem body_len {m : Mg} (hc : checkB m = 0) : (bodyE m 2).length ≤ 158 := by
  have key : ∀ l : List Fd, (∀ f ∈ l, f ∈ fieldsB m.1) → (l.flatMap (partE m)).length ≤ (l.map pmax).sum := by
    intro l
    induction l with
    | nil => intro _; simp
    | cons f l ih =>
      intro h
      have hf := h f List.mem_cons_self
      have h1 := part_len (fields_r m.1 f hf) (check_each hc f hf)
      have h2 := ih (fun g hg => h g (List.mem_cons_of_mem _ hg))
      rw [List.flatMap_cons, List.length_append, List.map_cons, List.sum_cons]
      omega
  have h1 := key (fieldsB m.1) (fun f hf => hf)
  have h2 := pmax_sum m.1
  unfold bodyE
  rw [since2]
  omega
def payE (e : Ev) : List Int := [e.1] ++ leB e.2.1 ++ (if e.1 = 1 then [e.2.2.1] ++ ([e.2.2.2.2.1] ++ bodyE e.2.2.2.2 2) else if e.1 = 2 then [e.2.2.2.1] else [])
def recE (e : Ev) : List Int := vB (payE e).length ++ payE e
theorem chk_kind {e : Ev} (h : chkL e = 0) : (e.1 = 1 ∧ (e.2.2.1 = 1 ∨ e.2.2.1 = 2) ∧ checkB e.2.2.2.2 = 0) ∨ (e.1 = 2 ∧ bstr (wordE e.2.2.2.1) ≠ bstr []) ∨ e.1 = 3 := by
  unfold chkL at h
  by_cases h0 : e.1 < 1 ∨ 3 < e.1
  · rw [if_pos h0] at h; cases h
  rw [if_neg h0] at h
  by_cases h1 : e.1 = 1
  · rw [if_pos h1] at h
    by_cases hv : e.2.2.1 ≠ 1 ∧ e.2.2.1 ≠ 2
    · rw [if_pos hv] at h; cases h
    rw [if_neg hv] at h
    by_cases hc : checkB e.2.2.2.2 = 0
    · exact .inl ⟨h1, by omega, hc⟩
    · rw [if_pos hc] at h; exact absurd h hc
  rw [if_neg h1] at h
  by_cases h2 : e.1 = 2
  · refine .inr (.inl ⟨h2, ?_⟩)
    by_cases hv : e.2.2.1 ≠ 0
    · rw [if_pos hv] at h; cases h
    rw [if_neg hv] at h
    by_cases hs : sameB e.2.2.2.2 zeroMg = false
    · rw [if_pos hs] at h; cases h
    rw [if_neg hs, if_pos h2] at h
    by_cases hw : bstr (wordE e.2.2.2.1) = bstr []
    · rw [if_pos hw] at h; cases h
    · exact hw
  · exact .inr (.inr (by omega))
theorem word_byte {e : Int} (h : bstr (wordE e) ≠ bstr []) : 2 ≤ e ∧ e ≤ 19 := by
  rcases wordE_cases e with h1 | ⟨_, h1⟩
  · omega
  · rw [h1] at h; exact absurd rfl h
theorem kind_byte {m : Mg} (h : checkB m = 0) : 1 ≤ m.1 ∧ m.1 ≤ 5 := by
  have hne : fieldsB m.1 ≠ [] := by
    intro h0
    unfold checkB at h
    rw [if_pos h0] at h; cases h
  unfold fieldsB at hne
  by_cases e1 : m.1 = 1
  · omega
  by_cases e2 : m.1 = 2
  · omega
  by_cases e3 : m.1 = 3
  · omega
  by_cases e4 : m.1 = 4
  · omega
  by_cases e5 : m.1 = 5
  · omega
  rw [if_neg e1, if_neg e2, if_neg e3, if_neg e4, if_neg e5] at hne
  exact absurd rfl hne
theorem pay_len {e : Ev} (h : chkL e = 0) : (payE e).length ≤ 165 ∧ 5 ≤ (payE e).length := by
  unfold payE
  rcases chk_kind h with ⟨h1, _, hc⟩ | ⟨h2, _⟩ | h3
  · have := body_len hc
    rw [if_pos h1]; simp [leB]; omega
  · rw [if_neg (by omega), if_pos h2]; simp [leB]
  · rw [if_neg (by omega), if_neg (by omega)]; simp [leB]
theorem one_end {p : List Int} {r : Int} (h : p.length ≤ 165) : log_one_j1 (p, r, false) (vB p.length ++ p, 0) := by
  have h1 : (vB p.length).length ≤ 2 := vB_len (k := 1) (by omega)
  have hf := pfield_ok (p := []) (l := p) (room := 202) (by simp; omega) (by decide)
  rw [List.nil_append] at hf
  exact ⟨_, rfl, p, pbytes_ok (by omega), _, hf, _, pbytes_ok (by rw [List.length_append]; omega), rfl⟩
set_option maxRecDepth 8000 in
theorem one_ok {e : Ev} (h : chkL e = 0) (hp : e.2.2.2.2.2.2.1.length < 1099511627776) (hq : e.2.2.2.2.2.2.2.1.length < 1099511627776) : log_one e (recE e, 0) := by
  have hpl := pay_len h
  refine ⟨0, by have := chkL_ok (e := e) (by omega) (by omega); rw [h] at this; exact this, ?_⟩
  rw [if_neg (by decide)]
  have hk : 1 ≤ e.1 ∧ e.1 ≤ 3 := by rcases chk_kind h with ⟨h1, _⟩ | ⟨h2, _⟩ | h3 <;> omega
  have w8 : ∀ x : Int, 0 ≤ x → x < 256 → IntKind.u8.wrap x = x := fun x a b => by rw [w_u8]; omega
  refine ⟨([], 200, false), rfl, (0, ([e.1], 200, false)), ?_, (0, ([e.1] ++ leB e.2.1, 200, false)), pu32_ok (p := [e.1]) (room := 200) (by simp) (by decide), ?_⟩
  · rw [w8 _ (by omega) (by omega)]
    exact pu8_ok (p := []) (room := 200) (by omega) (by omega) (by decide) (by decide)
  · unfold recE
    rcases chk_kind h with ⟨k1, kv, kc⟩ | ⟨k2, kw⟩ | k3
    · have hbl := body_len kc
      have hkb := kind_byte kc
      have hE : payE e = [e.1] ++ leB e.2.1 ++ [e.2.2.1] ++ [e.2.2.2.2.1] ++ bodyE e.2.2.2.2 2 := by unfold payE; rw [if_pos k1]; simp
      rw [hE] at hpl ⊢
      rw [if_pos (by simpa using k1)]
      have henc := encode_ok (v := 2) (.inr rfl) kc (by omega) (by omega)
      generalize bodyE e.2.2.2.2 2 = B at henc hbl hpl ⊢
      refine ⟨_, henc, ?_⟩
      have r1 := pu8_ok (p := [e.1] ++ leB e.2.1) (room := 200) (v := e.2.2.1) (by omega) (by omega) (by simp [leB]) (by decide)
      have r2 := pu8_ok (p := [e.1] ++ leB e.2.1 ++ [e.2.2.1]) (room := 200) (v := e.2.2.2.2.1) (by omega) (by omega) (by simp [leB]) (by decide)
      have hl7 : ([e.1] ++ leB e.2.1 ++ [e.2.2.1] ++ [e.2.2.2.2.1]).length + B.length ≤ 200 := by simp [leB]; omega
      have r3 : pen_Pen_Raw ([e.1] ++ leB e.2.1 ++ [e.2.2.1] ++ [e.2.2.2.2.1], ((200 : Nat) : Int), false) B (0, ([e.1] ++ leB e.2.1 ++ [e.2.2.1] ++ [e.2.2.2.2.1] ++ B, ((200 : Nat) : Int), false)) := by
        generalize hp7 : [e.1] ++ leB e.2.1 ++ [e.2.2.1] ++ [e.2.2.2.2.1] = p7 at hl7 ⊢
        exact raw_ok hl7 (by decide)
      rw [if_neg (show ¬ (!decide ((0 : Int) = 0)) = true by decide), w8 e.2.2.1 (by omega) (by omega), w8 e.2.2.2.2.1 (by omega) (by omega)]
      exact ⟨_, r1, _, r2, _, r3, one_end hpl.1⟩
    · have hwb := word_byte kw
      have hE : payE e = [e.1] ++ leB e.2.1 ++ [e.2.2.2.1] := by unfold payE; rw [if_neg (by omega), if_pos k2]
      rw [hE] at hpl ⊢
      rw [if_neg (by simp; omega), if_pos (by simpa using k2), w8 e.2.2.2.1 (by omega) (by omega)]
      exact ⟨_, pu8_ok (room := 200) (by omega) (by omega) (by simp [leB]) (by decide), one_end hpl.1⟩
    · have hE : payE e = [e.1] ++ leB e.2.1 := by unfold payE; rw [if_neg (by omega), if_neg (by omega)]; simp
      rw [hE] at hpl ⊢
      rw [if_neg (by simp; omega), if_neg (by simp; omega)]
      exact one_end hpl.1
end Go.Rel
/-! Plain laws: a log's records are read. -/
namespace Go.Rel
open Go Go.Eng Go.Pl

def zero6 : Mg := (0, [0, 0, 0, 0, 0, 0], [], [], bstr [], bstr [])
def rdE (e : Ev) : Ev := if e.1 = 1 then (1, e.2.1, e.2.2.1, 0, (e.2.2.2.2.1, n6 e.2.2.2.2.2.1, e.2.2.2.2.2.2)) else if e.1 = 2 then (2, e.2.1, 0, e.2.2.2.1, zero6) else (3, e.2.1, 0, 0, zero6)
theorem part_byt (m : Mg) (f : Fd) : Byt (partE m f) := by
  unfold partE
  have hp : ∀ (l : List (Int × Int)) (q : Int × Int), Byt (ptsE q l) := by
    intro l
    induction l with
    | nil => intro q x hx; cases hx
    | cons p l ih =>
      intro q x hx
      simp only [ptsE, List.mem_append] at hx
      rcases hx with (hx | hx) | hx
      · exact vB_byt _ x hx
      · exact vB_byt _ x hx
      · exact ih p x hx
  have hc : ∀ (l : List Int) (q : Int), Byt (clsE q l) := by
    intro l
    induction l with
    | nil => intro q x hx; cases hx
    | cons p l ih =>
      intro q x hx
      simp only [clsE, List.mem_append] at hx
      rcases hx with hx | hx
      · exact vB_byt _ x hx
      · exact ih p x hx
  have happ : ∀ a b : List Int, Byt a → Byt b → Byt (a ++ b) := fun a b ha hb x hx => by
    rcases List.mem_append.1 hx with hx | hx
    · exact ha x hx
    · exact hb x hx
  split
  · exact vB_byt _
  · split
    · exact vB_byt _
    · split
      · exact happ _ _ (vB_byt _) (hp _ _)
      · split
        · exact happ _ _ (vB_byt _) (hc _ _)
        · split
          · exact happ _ _ (vB_byt _) (bints_byt _)
          · split
            · exact happ _ _ (vB_byt _) (bints_byt _)
            · intro x hx; cases hx
theorem body_byt (m : Mg) (v : Int) : Byt (bodyE m v) := by
  intro x hx
  obtain ⟨f, _, hx⟩ := List.mem_flatMap.1 hx
  exact part_byt m f x hx
theorem pay_byt {e : Ev} (h : chkL e = 0) : Byt (payE e) := by
  intro x hx
  unfold payE at hx
  rcases chk_kind h with ⟨k1, kv, kc⟩ | ⟨k2, kw⟩ | k3
  · have hkb := kind_byte kc
    rw [if_pos k1] at hx
    simp only [List.mem_append, List.mem_singleton] at hx
    rcases hx with (rfl | hx) | rfl | rfl | hx
    · omega
    · exact leB_byt _ x hx
    · omega
    · omega
    · exact body_byt _ _ x hx
  · have hwb := word_byte kw
    rw [if_neg (by omega), if_pos k2] at hx
    simp only [List.mem_append, List.mem_singleton] at hx
    rcases hx with (rfl | hx) | rfl
    · omega
    · exact leB_byt _ x hx
    · omega
  · rw [if_neg (by omega), if_neg (by omega), List.append_nil] at hx
    simp only [List.mem_append, List.mem_singleton] at hx
    rcases hx with rfl | hx
    · omega
    · exact leB_byt _ x hx
theorem lrest_ok {b : List Int} {at_ : Nat} (hb : b.length < 1073741824) (h : at_ ≤ b.length) : lens_Lens_Rest (b, (at_ : Int), 0) (b.drop at_, (b, (b.length : Int), 0)) := by
  have hr := lraw_ok (n := b.length - at_) hb (by omega) (at_ := at_)
  rw [List.take_of_length_le (by rw [List.length_drop]; omega), show at_ + (b.length - at_) = b.length by omega] at hr
  exact ⟨_, ⟨_, left_ok h, by rw [List.length_drop]⟩, _, hr, rfl⟩
set_option maxRecDepth 8000 in
theorem lread_ok {e : Ev} (h : chkL e = 0) (h0 : 0 ≤ e.2.1) (h1 : e.2.1 < 4294967296) (hp : e.2.2.2.2.2.2.1.length < 1099511627776) (hq : e.2.2.2.2.2.2.2.1.length < 1099511627776) : log_read (payE e) (rdE e, 0) := by
  have hpl := pay_len h
  have hby := pay_byt h
  have hE : payE e = e.1 :: (leB e.2.1 ++ (if e.1 = 1 then [e.2.2.1] ++ ([e.2.2.2.2.1] ++ bodyE e.2.2.2.2 2) else if e.1 = 2 then [e.2.2.2.1] else [])) := by unfold payE; simp
  generalize hb : payE e = b at hpl hby hE ⊢
  have hbl : b.length < 1073741824 := by omega
  have d0 := (List.drop_zero (l := b)).trans hE
  have u0 := llu8_ok hby hbl d0
  have d1 : b.drop 1 = leB e.2.1 ++ (if e.1 = 1 then [e.2.2.1] ++ ([e.2.2.2.2.1] ++ bodyE e.2.2.2.2 2) else if e.1 = 2 then [e.2.2.2.1] else []) := by rw [hE]; rfl
  have u1 := llu32_ok hby hbl h0 h1 d1
  have d5 : b.drop 5 = (if e.1 = 1 then [e.2.2.1] ++ ([e.2.2.2.2.1] ++ bodyE e.2.2.2.2 2) else if e.1 = 2 then [e.2.2.2.1] else []) := by rw [hE]; rfl
  have wk : ∀ x : Int, 0 ≤ x → x < 256 → IntKind.i64.wrap x = x := fun x a b => w_small (by omega) (by omega)
  unfold log_read
  refine ⟨_, lnew_ok hbl, _, u0, _, u1, 0, rfl, ?_⟩
  rw [if_neg (by decide)]
  simp only
  rcases chk_kind h with ⟨k1, kv, kc⟩ | ⟨k2, kw⟩ | k3
  · have hkb := kind_byte kc
    rw [if_pos k1] at d5
    have u2 := llu8_ok (v := e.2.2.1) (rest := [e.2.2.2.2.1] ++ bodyE e.2.2.2.2 2) hby hbl d5
    have d6 : b.drop 6 = e.2.2.2.2.1 :: bodyE e.2.2.2.2 2 := by
      rw [show 6 = 5 + 1 by rfl, ← List.drop_drop, d5]; rfl
    have u3 := llu8_ok hby hbl d6
    have d7 : b.drop 7 = bodyE e.2.2.2.2 2 := by
      rw [show 7 = 6 + 1 by rfl, ← List.drop_drop, d6]; rfl
    have hbb := body_len kc
    have h7 : 7 ≤ b.length := by
      have := congrArg List.length d6
      rw [List.length_drop, List.length_cons] at this; omega
    have ur := lrest_ok (at_ := 7) hbl h7
    rw [d7] at ur
    have hdec := decode_ok kc hp hq (by omega)
    rw [wk e.1 (by omega) (by omega), if_pos (by simpa using k1)]
    refine ⟨_, u2, _, u3, 0, rfl, ?_⟩
    rw [if_neg (by decide)]
    simp only
    rw [wk e.2.2.1 (by omega) (by omega)]
    have core : log_read_j3 (e.1, (b, ((0 + 1 : Nat) : Int), 0)) (e.2.1, (b, ((1 + 4 : Nat) : Int), 0)) (e.2.2.1, (b, ((5 + 1 : Nat) : Int), 0)) (e.2.2.2.2.1, (b, ((6 + 1 : Nat) : Int), 0)) false (rdE e, 0) := by
      unfold log_read_j3
      rw [if_neg (by decide)]
      refine ⟨_, ur, _, by rw [wk e.2.2.2.2.1 (by omega) (by omega)]; exact hdec, ?_⟩
      rw [if_neg (show ¬ (!decide ((0 : Int) = 0)) = true by decide)]
      unfold log_read_j2
      refine ⟨0, lend_ok hbl, ?_⟩
      rw [if_neg (by decide)]
      unfold rdE
      rw [if_pos k1]
      simp only
      rw [wk e.1 (by omega) (by omega), wk e.2.2.1 (by omega) (by omega), k1]
      rfl
    by_cases hv : e.2.2.1 = 1
    · rw [if_neg (by simp [hv])]; exact core
    · rw [if_pos (by simp [hv]), show (!decide (e.2.2.1 = 2)) = false by simp; omega]; exact core
  · have hwb := word_byte kw
    rw [if_neg (by omega), if_pos k2] at d5
    have u2 := llu8_ok (v := e.2.2.2.1) (rest := []) hby hbl d5
    have hl6 : b.length = 6 := by
      have := congrArg List.length d5
      rw [List.length_drop] at this
      simp at this; omega
    rw [wk e.1 (by omega) (by omega), if_neg (by simp; omega), if_pos (by simpa using k2)]
    refine ⟨_, u2, 0, rfl, ?_⟩
    rw [if_neg (by decide)]
    refine ⟨_, by simp only; rw [wk e.2.2.2.1 (by omega) (by omega)]; exact eword_ok _, ?_⟩
    rw [if_neg (by simpa using kw)]
    unfold log_read_j2
    refine ⟨0, by have := lend_ok hbl; rw [hl6] at this; exact this, ?_⟩
    rw [if_neg (by decide)]
    unfold rdE
    rw [if_neg (by omega), if_pos k2]
    simp only
    rw [wk e.1 (by omega) (by omega), wk e.2.2.2.1 (by omega) (by omega), k2]
    rfl
  · rw [if_neg (by omega), if_neg (by omega)] at d5
    have hl5 : b.length = 5 := by
      have := congrArg List.length d5
      rw [List.length_drop] at this
      simp at this; omega
    rw [wk e.1 (by omega) (by omega), if_neg (by simp; omega), if_neg (by simp; omega), if_pos (by simpa using k3)]
    unfold log_read_j2
    refine ⟨0, by have := lend_ok hbl; rw [hl5] at this; exact this, ?_⟩
    rw [if_neg (by decide)]
    unfold rdE
    rw [if_neg (by omega), if_neg (by omega)]
    simp only
    rw [wk e.1 (by omega) (by omega), k3]
    rfl
end Go.Rel
/-! Plain law: LogCuts. -/
namespace Go.Rel
open Go Go.Eng Go.Pl

def EvG (e : Ev) : Prop := chkL e = 0 ∧ 0 ≤ e.2.1 ∧ e.2.1 < 4294967296 ∧ e.2.2.2.2.2.2.1.length < 1099511627776 ∧ e.2.2.2.2.2.2.2.1.length < 1099511627776
theorem rec_len {e : Ev} (h : chkL e = 0) : (recE e).length ≤ 167 ∧ 6 ≤ (recE e).length := by
  have h1 := pay_len h
  have h2 : (vB (payE e).length).length ≤ 2 := vB_len (k := 1) (by omega)
  have h3 := vB_pos (payE e).length
  unfold recE
  rw [List.length_append]
  omega
theorem recs_len : ∀ l : List Ev, (∀ e ∈ l, EvG e) → (l.flatMap recE).length ≤ 167 * l.length
  | [], _ => by simp
  | e :: l, h => by
    have h1 := rec_len (h e List.mem_cons_self).1
    have h2 := recs_len l (fun x hx => h x (List.mem_cons_of_mem _ hx))
    rw [List.flatMap_cons, List.length_append, List.length_cons]; omega
theorem lbytes_ok (l : List Ev) (hl : l.length ≤ 100) (hg : ∀ e ∈ l, EvG e) : log_Bytes l (l.flatMap recE, 0) := by
  have key : ∀ (r pre : List Ev), l = pre ++ r → Loops (log_Bytes_l2 l) (pre.flatMap recE, (pre.length : Int)) (.inl (l.flatMap recE)) := by
    intro r
    induction r with
    | nil =>
      intro pre h
      refine .done ?_
      unfold log_Bytes_l2
      rw [if_neg (by rw [h]; simp)]
      rw [h]; simp
    | cons e r ih =>
      intro pre h
      have hx : idx l (pre.length : Int) e := ⟨by omega, by rw [h]; simp⟩
      have hlt := hx.lt
      obtain ⟨g1, g2, g3, g4, g5⟩ := hg e (by rw [h]; simp)
      have hpre := recs_len pre (fun x hx => hg x (by rw [h]; exact List.mem_append_left _ hx))
      have hrl := rec_len g1
      have e1 : (pre ++ [e]).flatMap recE = pre.flatMap recE ++ recE e := by simp
      refine .next (s' := ((pre ++ [e]).flatMap recE, ((pre ++ [e]).length : Int))) ?_ (ih (pre ++ [e]) (by simp [h]))
      unfold log_Bytes_l2
      rw [if_pos (by simpa using hlt)]
      refine ⟨e, hx, _, one_ok g1 g4 g5, ?_⟩
      rw [if_neg (show ¬ (!decide ((0 : Int) = 0)) = true by decide)]
      simp only
      refine ⟨by omega, by omega, ?_⟩
      rw [w_small (by omega) (by omega), e1]
      simp
  exact ⟨_, key l [] rfl, rfl⟩
theorem left2_ok {b : List Int} {at_ : Nat} (h : at_ ≤ b.length) : lens_Lens_Left (b, (at_ : Int), 0) ((b.length - at_ : Nat) : Int) := ⟨_, left_ok h, by rw [List.length_drop]⟩
theorem rec_at {b rest : List Int} {at_ : Nat} {e : Ev} (hb : b.length < 1073741824) (hg : chkL e = 0) (hd : b.drop at_ = recE e ++ rest) :
    lens_Lens_Field (b, (at_ : Int), 0) 200 (payE e, (b, ((at_ + (recE e).length : Nat) : Int), 0)) ∧ at_ + (recE e).length ≤ b.length ∧ b.drop (at_ + (recE e).length) = rest ∧ at_ < b.length := by
  have hrl := rec_len hg
  have hl := congrArg List.length hd
  rw [List.length_drop, List.length_append] at hl
  have hpl := pay_len hg
  refine ⟨?_, by omega, by rw [← List.drop_drop, hd, List.drop_left], by omega⟩
  unfold recE at hd
  rw [List.append_assoc] at hd
  have := lfield_ok (most := 200) hb hd (by omega) (by omega)
  unfold recE
  rw [List.length_append, ← Nat.add_assoc]
  exact this
end Go.Rel
/-! Plain laws: a whole log is parsed as it was. -/
namespace Go.Rel
open Go Go.Eng Go.Pl

theorem parse_all (l : List Ev) (hl : l.length ≤ 100) (hg : ∀ e ∈ l, EvG e) : log_Parse (l.flatMap recE) (l.map rdE, 0) := by
  have hrl := recs_len l hg
  have hbl : (l.flatMap recE).length < 1073741824 := by omega
  have key : ∀ (r pre : List Ev) (at_ : Nat), l = pre ++ r → at_ = (pre.flatMap recE).length → (l.flatMap recE).drop at_ = r.flatMap recE → Loops log_each__log_Parse_1_l2 (pre.map rdE, l.flatMap recE, (at_ : Int), 0) (.inl (l.map rdE)) := by
    intro r
    induction r with
    | nil =>
      intro pre at_ h ha hd
      rw [List.append_nil] at h
      subst h
      refine .done ?_
      unfold log_each__log_Parse_1_l2
      refine ⟨_, left2_ok (by omega), ?_⟩
      rw [if_neg (by simp only [decide_eq_true_eq]; omega)]
    | cons e r ih =>
      intro pre at_ h ha hd
      obtain ⟨g1, g2, g3, g4, g5⟩ := hg e (by rw [h]; simp)
      rw [List.flatMap_cons] at hd
      obtain ⟨f1, f2, f3, f4⟩ := rec_at hbl g1 hd
      have hlen : pre.length < 100 := by rw [h] at hl; simp at hl; omega
      have ih' := ih (pre ++ [e]) (at_ + (recE e).length) (by simp [h]) (by rw [ha]; simp) f3
      refine .next ?_ ih'
      unfold log_each__log_Parse_1_l2
      refine ⟨_, left2_ok (by omega), ?_⟩
      rw [if_pos (by simp only [decide_eq_true_eq]; omega)]
      refine ⟨_, rfl, _, f1, 0, rfl, ?_⟩
      rw [if_neg (by decide)]
      refine ⟨_, lread_ok g1 g2 g3 g4 g5, ?_⟩
      rw [if_neg (show ¬ (!decide ((0 : Int) = 0)) = true by decide)]
      refine ⟨_, rfl, (true, pre.map rdE ++ [rdE e]), ⟨?_, ?_, rfl⟩, ?_⟩
      · simp; omega
      · simp; omega
      · rw [if_neg (by simp)]; simp
  have hk := key l [] 0 rfl rfl rfl
  refine ⟨(0, l.map rdE), ⟨_, lnew_ok hbl, _, hk, rfl⟩, ?_⟩
  rw [if_neg (by simp)]

/-! ### The document's bytes of a number -/
theorem rput1 (n : Nat) (hn : n < 2 ^ 63) : ∀ out : List Int, out.length + (vB n).length < 1073741824 → ∃ o l, Loops ref01_Put_l4 (out, (n : Int)) (o, l) ∧ o ++ [IntKind.u8.wrap l] = out ++ vB n ∧ o.length + 1 = out.length + (vB n).length := by
  induction n using Nat.strongRecOn with
  | _ n ih =>
    intro out hl
    by_cases h : n < 128
    · refine ⟨out, n, .done ?_, ?_, ?_⟩
      · unfold ref01_Put_l4
        rw [if_neg (by simp; omega)]
      · rw [vB_lt h, w_u8, show ((n : Int) % 256) = (n : Int) by omega]
      · rw [vB_lt h]; simp
    · rw [vB_ge h] at hl ⊢
      simp only [List.length_cons] at hl
      obtain ⟨o, l, h1, h2, h3⟩ := ih (n / 128) (by omega) (by omega) (out ++ [((128 + n % 128 : Nat) : Int)]) (by simp; omega)
      have e1 : IntKind.u8.wrap (IntKind.u64.wrap (128 + (n : Int).tmod 128)) = ((128 + n % 128 : Nat) : Int) := by
        rw [Int.tmod_eq_emod_of_nonneg (by omega), w64_small (by omega) (by omega), w_u8]; omega
      have e2 : IntKind.u64.wrap ((n : Int).tdiv 128) = ((n / 128 : Nat) : Int) := by
        rw [Int.tdiv_eq_ediv_of_nonneg (by omega), w64_small (by omega) (by omega)]; omega
      refine ⟨o, l, .next (s' := (out ++ [((128 + n % 128 : Nat) : Int)], ((n / 128 : Nat) : Int))) ?_ h1, ?_, ?_⟩
      · unfold ref01_Put_l4
        rw [if_pos (by simp; omega)]
        simp only [List.length_cons, List.length_nil]
        rw [e1, e2]
        exact ⟨by omega, by omega, rfl⟩
      · rw [h2]; simp
      · rw [h3]; simp; omega
theorem rput_ok (n : Nat) (hn : n < 2 ^ 56) : ref01_Put [(n : Int)] (vB n) := by
  have hv : (vB n).length ≤ 8 := vB_len (k := 7) (by have : (2 : Nat) ^ 56 = 128 ^ 8 := by decide
                                                     omega)
  obtain ⟨o, l, h1, h2, h3⟩ := rput1 n (by omega) [] (by simp; omega)
  simp only [List.length_nil] at h3
  refine ⟨vB n, .next (s' := (vB n, 1)) ?_ (.done ?_), rfl⟩
  · unfold ref01_Put_l2
    rw [if_pos (by simp)]
    refine ⟨n, ⟨by simp, rfl⟩, (o, l), h1, ?_⟩
    unfold ref01_Put_j3
    simp only [List.length_cons, List.length_nil]
    refine ⟨by omega, by omega, ?_⟩
    rw [h2]; rfl
  · unfold ref01_Put_l2
    rw [if_neg (by simp)]
theorem rzig_ok {a : Int} (h0 : -1099511627776 ≤ a) (h1 : a ≤ 1099511627776) : ref18_zig a (vB (zigN a)) := by
  refine ⟨(zigN a : Int), ?_, vB (zigN a), rput_ok _ (by unfold zigN; split <;> omega), rfl⟩
  unfold ref01_Zig zigN
  by_cases h : a < 0
  · rw [if_pos (by simpa using h), if_neg (by omega), w_small (n := a + 1) (by omega) (by omega), w_small (by omega) (by omega), w64_small (n := 0 - (a + 1)) (by omega) (by omega), w64_small (n := 2 * (0 - (a + 1))) (by omega) (by omega), w64_small (by omega) (by omega)]
    omega
  · rw [if_neg (by simpa using h), if_pos (by omega), w64_small (n := a) (by omega) (by omega), w64_small (by omega) (by omega)]
    omega
theorem rplain_ok {n : Nat} (h : n < 2 ^ 56) : ref18_plain (n : Int) (vB n) := by
  refine ⟨_, by rw [w64_small (by omega) (by omega)]; exact rput_ok n h, rfl⟩
end Go.Rel
/-! Plain laws: the document's bytes of a path, of cells. -/
namespace Go.Rel
open Go Go.Eng Go.Pl

theorem rcls_ok {a : Mr} (l : List Int) (hl : a.2.2.2.1 = l) (hc : climbs (-1) l) (hn : l.length ≤ 32) (acc0 : List Int) (ha : acc0.length ≤ 10) : Loops (ref18_Part_l4 a) (acc0, 0) (acc0 ++ clsE (-1) l) := by
  have key : ∀ (r pre : List Int) (q : Int) (acc : List Int), l = pre ++ r → ((pre = [] ∧ q = -1) ∨ ∃ pre', pre = pre' ++ [q]) → -1 ≤ q → climbs q r → acc.length + 4 * r.length ≤ 1000 → Loops (ref18_Part_l4 a) (acc, (pre.length : Int)) (acc ++ clsE q r) := by
    intro r
    induction r with
    | nil =>
      intro pre q acc h _ _ _ _
      refine .done ?_
      unfold ref18_Part_l4
      rw [hl, if_neg (by rw [h]; simp)]
      simp [clsE]
    | cons c r ih =>
      intro pre q acc h hq hq1 hcl hal
      obtain ⟨c1, c2, c3⟩ := hcl
      have hx : idx l (pre.length : Int) c := ⟨by omega, by rw [h]; simp⟩
      have hlt := hx.lt
      have a1 := vB_4 (n := (c - q - 1).toNat) (by omega)
      simp only [List.length_cons] at hal
      have ih' := ih (pre ++ [c]) c (acc ++ vB (c - q - 1).toNat) (by simp [h]) (.inr ⟨pre, rfl⟩) (by omega) c3 (by rw [List.length_append]; omega)
      have e : acc ++ clsE q (c :: r) = acc ++ vB (c - q - 1).toNat ++ clsE c r := by simp [clsE]
      rw [e]
      refine .next ?_ ih'
      unfold ref18_Part_l4
      rw [hl, if_pos (by simpa using hlt)]
      have hw : IntKind.i64.wrap ((pre.length : Int) + 1) = ((pre ++ [c]).length : Int) := by rw [w_small (by omega) (by omega)]; simp
      rcases hq with ⟨rfl, rfl⟩ | ⟨pre', rfl⟩
      · rw [if_pos (by simp)]
        have hcc : (c - -1 - 1).toNat = c.toNat := by omega
        rw [hcc] at a1 ⊢
        refine ⟨c, by simpa using hx, vB c.toNat, ?_, by simp only; omega, by simp only; omega, ?_⟩
        · have := rplain_ok (n := c.toNat) (by omega)
          rw [show ((c.toNat : Nat) : Int) = c by omega] at this; exact this
        · unfold ref18_Part_j5
          simp only
          rw [hw]
      · rw [if_neg (by simp; omega)]
        have hx2 : idx l (IntKind.i64.wrap (((pre' ++ [q]).length : Int) - 1)) q := by
          rw [w_small (by rw [List.length_append, List.length_singleton]; omega) (by omega)]
          refine ⟨by simp, ?_⟩
          rw [h]; simp
        refine ⟨c, hx, q, hx2, vB (c - q - 1).toNat, ?_, by simp only; omega, by simp only; omega, ?_⟩
        · have := rplain_ok (n := (c - q - 1).toNat) (by omega)
          rw [w_small (n := c - q) (by omega) (by omega), w_small (by omega) (by omega)]
          rw [show (((c - q - 1).toNat : Nat) : Int) = c - q - 1 by omega] at this; exact this
        · unfold ref18_Part_j5
          simp only
          rw [hw]
  exact key l [] (-1) acc0 rfl (.inl ⟨rfl, rfl⟩) (by omega) hc (by omega)
theorem rpts_ok {a : Mr} (l : List (Int × Int)) (hl : a.2.2.1 = l.map ofP) (hp : ∀ p ∈ l, -1000000 ≤ p.1 ∧ p.1 ≤ 1000000 ∧ -1000000 ≤ p.2 ∧ p.2 ≤ 1000000) (hn : l.length ≤ 16) (acc0 : List Int) (ha : acc0.length ≤ 10) : Loops (ref18_Part_l2 a) (acc0, 0) (acc0 ++ ptsE (0, 0) l) := by
  have key : ∀ (r pre : List (Int × Int)) (q : Int × Int) (acc : List Int), l = pre ++ r → ((pre = [] ∧ q = (0, 0)) ∨ ∃ pre', pre = pre' ++ [q]) → (-1000000 ≤ q.1 ∧ q.1 ≤ 1000000 ∧ -1000000 ≤ q.2 ∧ q.2 ≤ 1000000) → acc.length + 8 * r.length ≤ 1000 → Loops (ref18_Part_l2 a) (acc, (pre.length : Int)) (acc ++ ptsE q r) := by
    intro r
    induction r with
    | nil =>
      intro pre q acc h _ _ _
      refine .done ?_
      unfold ref18_Part_l2
      rw [hl, if_neg (by rw [h]; simp)]
      simp [ptsE]
    | cons p r ih =>
      intro pre q acc h hq hqb hal
      have hpb := hp p (by rw [h]; simp)
      have hx : idx (l.map ofP) (pre.length : Int) (ofP p) := ⟨by omega, by rw [h]; simp⟩
      have hlt := hx.lt
      rw [List.length_map] at hlt
      have a1 := vB_4 (n := zigN (p.1 - q.1)) (by unfold zigN; split <;> omega)
      have a2 := vB_4 (n := zigN (p.2 - q.2)) (by unfold zigN; split <;> omega)
      simp only [List.length_cons] at hal
      have ih' := ih (pre ++ [p]) p (acc ++ vB (zigN (p.1 - q.1)) ++ vB (zigN (p.2 - q.2))) (by simp [h]) (.inr ⟨pre, rfl⟩) hpb (by rw [List.length_append, List.length_append]; omega)
      have e : acc ++ ptsE q (p :: r) = acc ++ vB (zigN (p.1 - q.1)) ++ vB (zigN (p.2 - q.2)) ++ ptsE p r := by simp [ptsE]
      rw [e]
      refine .next ?_ ih'
      have hw : IntKind.i64.wrap ((pre.length : Int) + 1) = ((pre ++ [p]).length : Int) := by rw [w_small (by omega) (by omega)]; simp
      have fin : ref18_Part_j3 (acc, (pre.length : Int)) (p.1 - q.1, p.2 - q.2) (.inl (acc ++ vB (zigN (p.1 - q.1)) ++ vB (zigN (p.2 - q.2)), ((pre ++ [p]).length : Int))) := by
        refine ⟨_, rzig_ok (by omega) (by omega), by simp only; omega, by simp only; omega, _, rzig_ok (by omega) (by omega), by rw [List.length_append]; simp only; omega, by rw [List.length_append]; simp only; omega, ?_⟩
        simp only
        rw [hw]
      unfold ref18_Part_l2
      rw [hl, if_pos (by simpa using hlt)]
      refine ⟨ofP p, hx, ofP p, hx, ?_⟩
      rcases hq with ⟨rfl, rfl⟩ | ⟨pre', rfl⟩
      · rw [if_neg (by simp)]
        have h1 : (ofP p).getD 0 0 = p.1 - (0, 0).1 := by show p.1 = p.1 - 0; omega
        have h2 : (ofP p).getD 1 0 = p.2 - (0, 0).2 := by show p.2 = p.2 - 0; omega
        rw [h1, h2]; exact fin
      · rw [if_pos (by simp)]
        have hx2 : idx (l.map ofP) (IntKind.i64.wrap (((pre' ++ [q]).length : Int) - 1)) (ofP q) := by
          rw [w_small (by rw [List.length_append, List.length_singleton]; omega) (by omega)]
          refine ⟨by simp, ?_⟩
          rw [h]; simp
        refine ⟨ofP q, hx2, ofP q, hx2, ?_⟩
        have h1 : IntKind.i64.wrap ((ofP p).getD 0 0 - (ofP q).getD 0 0) = p.1 - q.1 := by
          show IntKind.i64.wrap (p.1 - q.1) = _
          exact w_small (by omega) (by omega)
        have h2 : IntKind.i64.wrap ((ofP p).getD 1 0 - (ofP q).getD 1 0) = p.2 - q.2 := by
          show IntKind.i64.wrap (p.2 - q.2) = _
          exact w_small (by omega) (by omega)
        rw [h1, h2]; exact fin
  exact key l [] (0, 0) acc0 rfl (.inl ⟨rfl, rfl⟩) (by simp) (by omega)
end Go.Rel
/-! Plain laws: the document's bytes of a field. -/
namespace Go.Rel
open Go Go.Eng Go.Pl

theorem rpart_ok {m : Mg} {f : Fd} (hf : fdR f) (hw : wrongB m f = 0) : ref18_Part (ofM m) f (partE m f) := by
  obtain ⟨⟨_, _, hk⟩, hp⟩ := hf
  unfold wrongB at hw
  unfold ref18_Part
  rcases hk with ⟨e, e1, e2⟩ | ⟨e, e1, e2⟩ | ⟨e, e1, e2⟩ | ⟨e, e1, e2⟩ | ⟨k1, k2, k3, k4, k5, k6⟩
  · rw [if_pos e, e1, e2] at hw
    obtain ⟨h1, h2, h3⟩ := path_right hw
    have hE : partE m f = vB m.2.2.1.length ++ ptsE (0, 0) m.2.2.1 := by unfold partE; rw [if_neg (by omega), if_neg (by omega), if_pos e]
    have hv := vB_lt (n := m.2.2.1.length) (by omega)
    rw [hE, if_neg (by simp; omega), if_neg (by simp; omega), if_pos (by simpa using e)]
    refine ⟨vB m.2.2.1.length, ?_, _, rpts_ok m.2.2.1 rfl h3 h2 _ (by rw [hv]; simp), rfl⟩
    have hl : ((ofM m).2.2.1.length : Int) = (m.2.2.1.length : Int) := by show ((m.2.2.1.map ofP).length : Int) = _; rw [List.length_map]
    rw [hl]; exact rplain_ok (by omega)
  · rw [if_neg (by omega), if_pos e, e1, e2] at hw
    obtain ⟨h1, h2, h3⟩ := cells_right hw
    have hE : partE m f = vB m.2.2.2.1.length ++ clsE (-1) m.2.2.2.1 := by unfold partE; rw [if_neg (by omega), if_neg (by omega), if_neg (by omega), if_pos e]
    have hv := vB_lt (n := m.2.2.2.1.length) (by omega)
    rw [hE, if_neg (by simp; omega), if_neg (by simp; omega), if_neg (by simp; omega), if_pos (by simpa using e)]
    exact ⟨vB m.2.2.2.1.length, rplain_ok (n := m.2.2.2.1.length) (by omega), _, rcls_ok m.2.2.2.1 rfl h3 h2 _ (by rw [hv]; simp), rfl⟩
  · rw [if_neg (by omega), if_neg (by omega), if_pos e, e1, e2] at hw
    obtain ⟨h1, _⟩ := text_right hw
    have hE : partE m f = txtE m.2.2.2.2.1 := by unfold partE; rw [if_neg (by omega), if_neg (by omega), if_neg (by omega), if_neg (by omega), if_pos e]
    have hv := vB_lt (n := m.2.2.2.2.1.size) (by omega)
    have hvl : (vB m.2.2.2.2.1.size).length = 1 := by rw [hv]; rfl
    rw [hE, if_neg (by simp; omega), if_neg (by simp; omega), if_neg (by simp; omega), if_neg (by simp; omega), if_pos (by simpa using e)]
    exact ⟨vB m.2.2.2.2.1.size, rplain_ok (n := m.2.2.2.2.1.size) (by omega), by show (_ + m.2.2.2.2.1.size) * 1 ≤ _; omega, by show _ + m.2.2.2.2.1.size ≤ _; omega, rfl⟩
  · rw [if_neg (by omega), if_neg (by omega), if_neg (by omega), if_pos e, e1, e2] at hw
    obtain ⟨h1, _⟩ := text_right hw
    have hE : partE m f = txtE m.2.2.2.2.2 := by unfold partE; rw [if_neg (by omega), if_neg (by omega), if_neg (by omega), if_neg (by omega), if_neg (by omega), if_pos e]
    have hv := vB_lt (n := m.2.2.2.2.2.size) (by omega)
    have hvl : (vB m.2.2.2.2.2.size).length = 1 := by rw [hv]; rfl
    rw [hE, if_neg (by simp; omega), if_neg (by simp; omega), if_neg (by simp; omega), if_neg (by simp; omega), if_neg (by simp; omega), if_pos (by simpa using e)]
    exact ⟨vB m.2.2.2.2.2.size, rplain_ok (n := m.2.2.2.2.2.size) (by omega), by show (_ + m.2.2.2.2.2.size) * 1 ≤ _; omega, by show _ + m.2.2.2.2.2.size ≤ _; omega, rfl⟩
  · rw [if_neg (by omega), if_neg (by omega), if_neg (by omega), if_neg (by omega)] at hw
    by_cases hb : numBad m f
    · rw [if_pos hb] at hw; cases hw
    unfold numBad at hb
    by_cases e : f.2.1 = 1
    · have hE : partE m f = vB (m.2.1.getD f.2.2.1.toNat 0).toNat := by unfold partE; rw [if_pos e]
      have h0 := hp e
      rw [hE, if_pos (by simpa using e)]
      have := rplain_ok (n := (m.2.1.getD f.2.2.1.toNat 0).toNat) (by omega)
      rw [show (((m.2.1.getD f.2.2.1.toNat 0).toNat : Nat) : Int) = m.2.1.getD f.2.2.1.toNat 0 by omega] at this
      exact ⟨k3, k4, _, this, rfl⟩
    · have hE : partE m f = vB (zigN (m.2.1.getD f.2.2.1.toNat 0)) := by unfold partE; rw [if_neg e, if_pos (by omega)]
      rw [hE, if_neg (by simpa using e), if_pos (by simp; omega)]
      exact ⟨k3, k4, _, rzig_ok (a := m.2.1.getD f.2.2.1.toNat 0) (by omega) (by omega), rfl⟩
end Go.Rel
/-! Plain laws: the document's body. -/
namespace Go.Rel
open Go Go.Eng Go.Pl

theorem rencode_ok {m : Mg} (hc : checkB m = 0) (hr : ref17_Check (ofM m) 0) : ref18_Encode (ofM m) 2 (bodyE m 2, 0) := by
  have hl := fields_len m.1
  unfold ref18_Encode
  rw [if_pos (by decide)]
  unfold ref18_Encode_j1
  rw [if_neg (by decide)]
  refine ⟨0, hr, ?_⟩
  rw [if_neg (by decide)]
  refine ⟨fieldsB m.1, rfields_ok m.1, bodyE m 2, ?_, rfl⟩
  have key : ∀ (r pre : List Fd), fieldsB m.1 = pre ++ r → (pre.flatMap (partE m)).length ≤ 130 * pre.length → Loops (ref18_Encode_l3 (ofM m) 2 (fieldsB m.1)) (pre.flatMap (partE m), (pre.length : Int)) ((fieldsB m.1).flatMap (partE m)) := by
    intro r
    induction r with
    | nil =>
      intro pre h _
      refine .done ?_
      unfold ref18_Encode_l3
      rw [if_neg (by rw [h]; simp)]
      rw [h]; simp
    | cons f r ih =>
      intro pre h hlen
      have hm : f ∈ fieldsB m.1 := by rw [h]; simp
      have hx : idx (fieldsB m.1) (pre.length : Int) f := ⟨by omega, by rw [h]; simp⟩
      have hlt := hx.lt
      have hpart := part_ok (fields_r m.1 f hm) (check_each hc f hm)
      have e1 : (pre ++ [f]).flatMap (partE m) = pre.flatMap (partE m) ++ partE m f := by simp
      have ih' := ih (pre ++ [f]) (by simp [h]) (by rw [e1, List.length_append, List.length_append, List.length_singleton]; omega)
      have hs := (fields_fd m.1 f hm).1
      refine .next ?_ ih'
      unfold ref18_Encode_l3
      rw [if_pos (by simpa using hlt)]
      refine ⟨f, hx, ?_⟩
      rw [if_pos (by simpa using hs)]
      refine ⟨f, hx, _, rpart_ok (fields_r m.1 f hm) (check_each hc f hm), by simp only; omega, by simp only; omega, ?_⟩
      unfold ref18_Encode_j4
      simp only
      rw [w_small (by omega) (by omega), e1]
      simp
  have hk := key (fieldsB m.1) [] rfl (by simp)
  unfold bodyE
  rw [since2]
  exact hk
end Go.Rel
/-! Plain law: LogCuts, joined. -/
namespace Go.Rel
open Go Go.Eng Go.Pl

theorem known34_ok : law34_known true := by
  have g1 : chkL (3, 7, 0, 0, (0, [0, 0, 0, 0, 0, 0], [], [], bstr [], bstr [])) = 0 := by rfl
  have g2 : chkL (2, 0, 0, 11, (0, [0, 0, 0, 0, 0, 0], [], [], bstr [], bstr [])) = 0 := by rfl
  have e1 : recE (3, 7, 0, 0, (0, [0, 0, 0, 0, 0, 0], [], [], bstr [], bstr [])) = [5, 3, 7, 0, 0, 0] := by
    unfold recE
    have : payE (3, 7, 0, 0, (0, [0, 0, 0, 0, 0, 0], [], [], bstr [], bstr [])) = [3, 7, 0, 0, 0] := by rfl
    rw [this, vB_lt (by decide)]; rfl
  have e2 : recE (2, 0, 0, 11, (0, [0, 0, 0, 0, 0, 0], [], [], bstr [], bstr [])) = [6, 2, 0, 0, 0, 0, 11] := by
    unfold recE
    have : payE (2, 0, 0, 11, (0, [0, 0, 0, 0, 0, 0], [], [], bstr [], bstr [])) = [2, 0, 0, 0, 0, 11] := by rfl
    rw [this, vB_lt (by decide)]; rfl
  have b1 := lbytes_ok [(3, 7, 0, 0, (0, [0, 0, 0, 0, 0, 0], [], [], bstr [], bstr []))] (by decide) (by
    intro e he; rw [List.mem_singleton] at he; subst he; exact ⟨g1, by decide, by decide, by decide, by decide⟩)
  have b2 := lbytes_ok [(2, 0, 0, 11, (0, [0, 0, 0, 0, 0, 0], [], [], bstr [], bstr []))] (by decide) (by
    intro e he; rw [List.mem_singleton] at he; subst he; exact ⟨g2, by decide, by decide, by decide, by decide⟩)
  simp only [List.flatMap_cons, List.flatMap_nil, List.append_nil, e1] at b1
  simp only [List.flatMap_cons, List.flatMap_nil, List.append_nil, e2] at b2
  refine ⟨_, rfl, _, b1, _, rfl, _, b2, ?_⟩
  rw [if_pos (by decide), if_pos (by decide)]
  refine ⟨_, same_ok (by decide), ?_⟩
  rw [if_pos (by decide)]
  exact ⟨_, same_ok (by decide), by show true = _; decide⟩
theorem cut_lens (e : Ev) : (cutE e).2.2.2.2.2.2.1.length ≤ 40 ∧ (cutE e).2.2.2.2.2.2.2.1.length ≤ 40 := by
  constructor
  · show (e.2.2.2.2.2.2.1.take 40).length ≤ 40
    rw [List.length_take]; omega
  · show (e.2.2.2.2.2.2.2.1.take 40).length ≤ 40
    rw [List.length_take]; omega
theorem u32_in {n : Int} (h : IntOk .u32 n) : 0 ≤ n ∧ n < 4294967296 := by
  unfold IntOk at h
  have hmin : IntKind.u32.min = 0 := by decide
  have hmax : IntKind.u32.max = 4294967295 := by decide
  rw [hmin, hmax] at h
  omega
end Go.Rel
/-! Plain laws: what the document says is wrong with a log's event; its records. -/
namespace Go.Rel
open Go Go.Eng Go.Pl

structure EvS (e : Ev) : Prop where
  path : e.2.2.2.2.2.2.1.length ≤ 40
  cells : e.2.2.2.2.2.2.2.1.length ≤ 40
  text : e.2.2.2.2.2.2.2.2.1.size ≤ 1000
  tag : e.2.2.2.2.2.2.2.2.2.size ≤ 1000
  seq0 : 0 ≤ e.2.1
  seq1 : e.2.1 < 4294967296
theorem rchkL_ok {e : Ev} (s : EvS e) : ref34_Check (ofE e) (chkL e) := by
  have hp := s.path
  have hc := s.cells
  have ht := s.text
  have hg := s.tag
  have hR := rcheck_ok (m := e.2.2.2.2) (by omega) (by omega) (by omega) (by omega)
  have hS := rsame_ok (a := e.2.2.2.2) (b := zeroMg) (by omega) (by omega)
  obtain ⟨k, q, v, err, m⟩ := e
  simp only at hp hc ht hg hR hS
  show ref34_Check (k, q, v, err, ofM m) _
  have hS2 : ref17_Same (ofM m) (0, List.replicate 6 0, [], [], bstr [], bstr []) (sameB m zeroMg) := hS
  unfold ref34_Check
  simp only
  by_cases h1 : k < 1
  · have hk : chkL (k, q, v, err, m) = 9 := by unfold chkL; rw [if_pos (.inl h1)]
    rw [hk, if_pos (by simpa using h1)]
    unfold ref34_Check_j1
    rw [if_pos rfl]
  rw [if_neg (by simpa using h1)]
  by_cases h3 : 3 < k
  · have hk : chkL (k, q, v, err, m) = 9 := by unfold chkL; rw [if_pos (.inr h3)]
    rw [hk, decide_eq_true h3]
    unfold ref34_Check_j1
    rw [if_pos rfl]
  rw [decide_eq_false h3]
  unfold ref34_Check_j1
  simp only
  rw [if_neg (by decide)]
  have h0 : ¬ (k < 1 ∨ 3 < k) := by omega
  by_cases e1 : k = 1
  · rw [if_pos (by simpa using e1)]
    by_cases hv : v = 1 ∨ v = 2
    · have hj : (if decide (v < 1) = true then ref34_Check_j2 (k, q, v, err, ofM m) true (chkL (k, q, v, err, m)) else ref34_Check_j2 (k, q, v, err, ofM m) (decide (2 < v)) (chkL (k, q, v, err, m))) = ref34_Check_j2 (k, q, v, err, ofM m) false (chkL (k, q, v, err, m)) := by
        rw [if_neg (by simp; omega), decide_eq_false (by omega)]
      rw [hj]
      unfold ref34_Check_j2
      simp only
      rw [if_neg (by decide)]
      refine ⟨_, hR, ?_⟩
      by_cases c0 : checkB m = 0
      · rw [if_neg (by simp [c0])]
        by_cases c1 : err = 0
        · have hk : chkL (k, q, v, err, m) = 0 := by unfold chkL; simp only; rw [if_neg h0, if_pos e1, if_neg (by omega), if_neg (by omega), if_neg (by omega)]
          rw [hk, if_neg (by simp [c1])]
        · have hk : chkL (k, q, v, err, m) = 3 := by unfold chkL; simp only; rw [if_neg h0, if_pos e1, if_neg (by omega), if_neg (by omega), if_pos c1]
          rw [hk, if_pos (by simp [c1])]
      · have hk : chkL (k, q, v, err, m) = checkB m := by unfold chkL; simp only; rw [if_neg h0, if_pos e1, if_neg (by omega), if_pos c0]
        rw [hk, if_pos (by simp [c0])]
        exact ⟨_, hR, rfl⟩
    · have hk : chkL (k, q, v, err, m) = 10 := by unfold chkL; simp only; rw [if_neg h0, if_pos e1, if_pos (by omega)]
      have hj : (if decide (v < 1) = true then ref34_Check_j2 (k, q, v, err, ofM m) true (chkL (k, q, v, err, m)) else ref34_Check_j2 (k, q, v, err, ofM m) (decide (2 < v)) (chkL (k, q, v, err, m))) = ref34_Check_j2 (k, q, v, err, ofM m) true (chkL (k, q, v, err, m)) := by
        by_cases hv1 : v < 1
        · rw [if_pos (by simpa using hv1)]
        · rw [if_neg (by simpa using hv1), decide_eq_true (show 2 < v by omega)]
      rw [hj, hk]
      unfold ref34_Check_j2
      rw [if_pos rfl]
  · rw [if_neg (by simpa using e1)]
    by_cases hv : v = 0
    · rw [if_neg (by simp [hv])]
      refine ⟨_, hS2, ?_⟩
      unfold ref34_Check_j3
      simp only
      cases hs : sameB m zeroMg with
      | false =>
        have hk : chkL (k, q, v, err, m) = 3 := by unfold chkL; simp only; rw [if_neg h0, if_neg e1, if_neg (by omega), if_pos hs]
        rw [hk, if_pos (by decide)]
      | true =>
        rw [if_neg (by decide)]
        by_cases e2 : k = 2
        · rw [if_pos (by simpa using e2)]
          refine ⟨_, reword_ok _, ?_⟩
          unfold ref34_Check_j4
          by_cases hw : bstr (wordE err) = bstr []
          · have hk : chkL (k, q, v, err, m) = 7 := by unfold chkL; simp only; rw [if_neg h0, if_neg e1, if_neg (by omega), if_neg (by simp [hs]), if_pos e2, if_pos hw]
            rw [hk, if_pos (by simpa using hw)]
          · have hk : chkL (k, q, v, err, m) = 0 := by unfold chkL; simp only; rw [if_neg h0, if_neg e1, if_neg (by omega), if_neg (by simp [hs]), if_pos e2, if_neg hw]
            rw [hk, if_neg (by simpa using hw), if_neg (by simp [e2])]
            unfold ref34_Check_j5
            rw [if_neg (by decide)]
        · rw [if_neg (by simpa using e2)]
          unfold ref34_Check_j4
          rw [if_neg (by decide), if_pos (by simp; omega)]
          unfold ref34_Check_j5
          by_cases c1 : err = 0
          · have hk : chkL (k, q, v, err, m) = 0 := by unfold chkL; simp only; rw [if_neg h0, if_neg e1, if_neg (by omega), if_neg (by simp [hs]), if_neg e2, if_neg (by omega)]
            rw [hk, if_neg (by simp [c1])]
          · have hk : chkL (k, q, v, err, m) = 3 := by unfold chkL; simp only; rw [if_neg h0, if_neg e1, if_neg (by omega), if_neg (by simp [hs]), if_neg e2, if_pos c1]
            rw [hk, if_pos (by simp [c1])]
    · have hk : chkL (k, q, v, err, m) = 3 := by unfold chkL; simp only; rw [if_neg h0, if_neg e1, if_pos hv]
      rw [hk, if_pos (by simp [hv])]
      unfold ref34_Check_j3
      rw [if_pos rfl]

/-! ### All records, or the first error -/
def bytesL : List Ev → List Int × Int
  | [] => ([], 0)
  | e :: l => if chkL e ≠ 0 then ([], chkL e) else if (bytesL l).2 ≠ 0 then ([], (bytesL l).2) else (recE e ++ (bytesL l).1, 0)
theorem bytesL_good : ∀ l : List Ev, (∀ e ∈ l, chkL e = 0) → bytesL l = (l.flatMap recE, 0)
  | [], _ => rfl
  | e :: l, h => by
    have ih := bytesL_good l (fun x hx => h x (List.mem_cons_of_mem _ hx))
    unfold bytesL
    rw [if_neg (by simpa using h e List.mem_cons_self), ih, if_neg (by simp)]
    simp
theorem bytesL_bad {pre r : List Ev} {e : Ev} (hp : ∀ x ∈ pre, chkL x = 0) (h : chkL e ≠ 0) : bytesL (pre ++ e :: r) = ([], chkL e) := by
  induction pre with
  | nil => show bytesL (e :: r) = _; unfold bytesL; rw [if_pos h]
  | cons x pre ih =>
    rw [List.cons_append]; unfold bytesL
    rw [if_neg (by simpa using hp x List.mem_cons_self), ih (fun y hy => hp y (List.mem_cons_of_mem _ hy)), if_pos h]
theorem bytesL_nil {l : List Ev} : (bytesL l).2 ≠ 0 → (bytesL l).1 = [] := by
  cases l with
  | nil => intro _; rfl
  | cons e l =>
    intro h
    unfold bytesL at h ⊢
    by_cases h1 : chkL e ≠ 0
    · rw [if_pos h1]
    · rw [if_neg h1] at h ⊢
      by_cases h2 : (bytesL l).2 ≠ 0
      · rw [if_pos h2]
      · rw [if_neg h2] at h; exact absurd rfl h
theorem bytesL_zero : ∀ {l : List Ev}, (bytesL l).2 = 0 → ∀ e ∈ l, chkL e = 0
  | [], _, _, he => nomatch he
  | e :: l, h, x, hx => by
    unfold bytesL at h
    by_cases h1 : chkL e ≠ 0
    · rw [if_pos h1] at h; exact absurd h h1
    · rw [if_neg h1] at h
      by_cases h2 : (bytesL l).2 ≠ 0
      · rw [if_pos h2] at h; exact absurd h h2
      · rcases List.mem_cons.1 hx with rfl | hx
        · simpa using h1
        · exact bytesL_zero (by simpa using h2) x hx
theorem evG {e : Ev} (s : EvS e) (h : chkL e = 0) : EvG e := ⟨h, s.seq0, s.seq1, by have := s.path; omega, by have := s.cells; omega⟩
theorem lbytesL_ok (l : List Ev) (hl : l.length ≤ 100) (hg : ∀ e ∈ l, EvS e) : log_Bytes l (bytesL l) := by
  have key : ∀ (r pre : List Ev), l = pre ++ r → (∀ x ∈ pre, chkL x = 0) → ∃ x, Loops (log_Bytes_l2 l) (pre.flatMap recE, (pre.length : Int)) x ∧ Aft (fun p38 => log_Bytes_j1 p38 (bytesL l)) (fun p39 => bytesL l = p39) x := by
    intro r
    induction r with
    | nil =>
      intro pre h hp
      rw [List.append_nil] at h
      subst h
      refine ⟨.inl (l.flatMap recE), .done ?_, ?_⟩
      · unfold log_Bytes_l2
        rw [if_neg (by simp)]
      · show bytesL l = (l.flatMap recE, 0)
        exact bytesL_good l hp
    | cons e r ih =>
      intro pre h hp
      have hx : idx l (pre.length : Int) e := ⟨by omega, by rw [h]; simp⟩
      have hlt := hx.lt
      have hs := hg e (by rw [h]; simp)
      by_cases g1 : chkL e = 0
      · obtain ⟨_, g2, g3, g4, g5⟩ := evG hs g1
        have hpre := recs_len pre (fun x hx => evG (hg x (by rw [h]; exact List.mem_append_left _ hx)) (hp x hx))
        have hrl := rec_len g1
        have e1 : (pre ++ [e]).flatMap recE = pre.flatMap recE ++ recE e := by simp
        obtain ⟨x, i1, i2⟩ := ih (pre ++ [e]) (by simp [h]) (fun x hx => by
          rcases List.mem_append.1 hx with hx | hx
          · exact hp x hx
          · rw [List.mem_singleton] at hx; subst hx; exact g1)
        refine ⟨x, .next (s' := ((pre ++ [e]).flatMap recE, ((pre ++ [e]).length : Int))) ?_ i1, i2⟩
        unfold log_Bytes_l2
        rw [if_pos (by simpa using hlt)]
        refine ⟨e, hx, _, one_ok g1 g4 g5, ?_⟩
        rw [if_neg (show ¬ (!decide ((0 : Int) = 0)) = true by decide)]
        simp only
        refine ⟨by omega, by omega, ?_⟩
        rw [w_small (by omega) (by omega), e1]
        simp
      · refine ⟨.inr ([], chkL e), .done ?_, ?_⟩
        · unfold log_Bytes_l2
          rw [if_pos (by simpa using hlt)]
          have ho : log_one e ([], chkL e) := ⟨_, chkL_ok (by have := hs.path; omega) (by have := hs.cells; omega), by rw [if_pos (by simpa using g1)]⟩
          refine ⟨e, hx, _, ho, ?_⟩
          rw [if_pos (by simpa using g1)]
        · show bytesL l = _
          rw [h]; exact bytesL_bad hp g1
  obtain ⟨x, h1, h2⟩ := key l [] rfl (fun x hx => nomatch hx)
  exact ⟨x, h1, h2⟩
theorem rword2_ok {v : Int} (h0 : 0 ≤ v) (h1 : v < 4294967296) : ref02_Word v 4 (leB v) := by
  have w8 : ∀ x : Int, IntKind.u8.wrap (x.tmod 256) = IntKind.u8.wrap (x.tmod 256) := fun _ => rfl
  refine ⟨leB v, ?_, rfl⟩
  have st : ∀ (x : Int) (acc : List Int) (i : Nat), 0 ≤ x → x < 4294967296 → acc.length ≤ 10 → i < 4 → ref02_Word_l2 4 (x, acc, (i : Int)) (.inl (x / 256, acc ++ [x % 256], ((i + 1 : Nat) : Int))) := by
    intro x acc i hx0 hx1 hacc hi
    unfold ref02_Word_l2
    rw [if_pos (by simp; omega)]
    simp only [List.length_cons, List.length_nil]
    refine ⟨by omega, by omega, ?_⟩
    rw [Int.tmod_eq_emod_of_nonneg hx0, Int.tdiv_eq_ediv_of_nonneg hx0, w_u8, w32_small (by omega) (by omega), w_small (by omega) (by omega)]
    congr 3
    · congr 2; omega
  refine .next (st v [] 0 h0 h1 (by simp) (by decide)) (.next (st (v / 256) _ 1 (by omega) (by omega) (by simp) (by decide)) (.next (st (v / 256 / 256) _ 2 (by omega) (by omega) (by simp) (by decide)) (.next (st (v / 256 / 256 / 256) _ 3 (by omega) (by omega) (by simp) (by decide)) (.done ?_))))
  unfold ref02_Word_l2
  rw [if_neg (by simp)]
  show Sum.inr (leB v) = Sum.inr [v % 256, v / 256 % 256, v / 256 / 256 % 256, v / 256 / 256 / 256 % 256]
  unfold leB
  rw [show v / 256 / 256 = v / 65536 by omega, show v / 65536 / 256 = v / 16777216 by omega]
theorem rfield2_ok {l : List Int} (h : l.length < 1000000) : ref02_Field l (vB l.length ++ l) := by
  have hv : (vB l.length).length ≤ 8 := vB_len (k := 7) (by omega)
  refine ⟨_, by rw [w64_small (by omega) (by omega)]; exact rput_ok _ (by omega), by omega, by omega, rfl⟩
theorem rbytesL_ok (l : List Ev) (hl : l.length ≤ 100) (hg : ∀ e ∈ l, EvS e) : ref34_Bytes (l.map ofE) (bytesL l) := by
  have key : ∀ (r pre : List Ev), l = pre ++ r → (∀ x ∈ pre, chkL x = 0) → ∃ x, Loops (ref34_Bytes_l2 (l.map ofE)) (pre.flatMap recE, (pre.length : Int)) x ∧ Aft (fun p38 => ref34_Bytes_j1 p38 (bytesL l)) (fun p39 => bytesL l = p39) x := by
    intro r
    induction r with
    | nil =>
      intro pre h hp
      rw [List.append_nil] at h
      subst h
      refine ⟨.inl (l.flatMap recE), .done ?_, ?_⟩
      · unfold ref34_Bytes_l2
        rw [if_neg (by simp)]
      · show bytesL l = (l.flatMap recE, 0)
        exact bytesL_good l hp
    | cons e r ih =>
      intro pre h hp
      have hx : idx (l.map ofE) (pre.length : Int) (ofE e) := ⟨by omega, by rw [h]; simp⟩
      have hlt := hx.lt
      have hs := hg e (by rw [h]; simp)
      by_cases g1 : chkL e = 0
      · obtain ⟨_, g2, g3, g4, g5⟩ := evG hs g1
        have hpre := recs_len pre (fun x hx => evG (hg x (by rw [h]; exact List.mem_append_left _ hx)) (hp x hx))
        have hrl := rec_len g1
        have hpl := pay_len g1
        have hlp : pre.length ≤ 100 := by rw [h] at hl; simp at hl; omega
        have e1 : (pre ++ [e]).flatMap recE = pre.flatMap recE ++ recE e := by simp
        have w8 : ∀ x : Int, 0 ≤ x → x < 256 → IntKind.u8.wrap x = x := fun x a b => by rw [w_u8]; omega
        obtain ⟨x, i1, i2⟩ := ih (pre ++ [e]) (by simp [h]) (fun x hx => by
          rcases List.mem_append.1 hx with hx | hx
          · exact hp x hx
          · rw [List.mem_singleton] at hx; subst hx; exact g1)
        refine ⟨x, .next (s' := ((pre ++ [e]).flatMap recE, ((pre ++ [e]).length : Int))) ?_ i1, i2⟩
        have fin : ref34_Bytes_j4 (pre.flatMap recE, (pre.length : Int)) (payE e) (.inl ((pre ++ [e]).flatMap recE, ((pre ++ [e]).length : Int))) := by
          refine ⟨recE e, rfield2_ok (by omega), by simp only; omega, by simp only; omega, ?_⟩
          rw [w_small (by simp only; omega) (by simp only; omega), e1]
          simp
        have hk : 1 ≤ e.1 ∧ e.1 ≤ 3 := by rcases chk_kind g1 with ⟨h1, _⟩ | ⟨h2, _⟩ | h3 <;> omega
        unfold ref34_Bytes_l2
        rw [if_pos (by simpa using hlt)]
        refine ⟨ofE e, hx, _, rchkL_ok hs, ?_⟩
        rw [if_neg (by simp [g1])]
        refine ⟨leB e.2.1, rword2_ok g2 g3, by simp [leB], by simp [leB], ?_⟩
        show if decide (e.1 = 1) = true then _ else _
        rcases chk_kind g1 with ⟨k1, kv, kc⟩ | ⟨k2, kw⟩ | k3
        · have hbl := body_len kc
          have hkb := kind_byte kc
          have hrc := rcheck_ok (m := e.2.2.2.2) (by omega) (by omega) (by have := hs.text; omega) (by have := hs.tag; omega)
          rw [kc] at hrc
          have hE : payE e = [e.1] ++ leB e.2.1 ++ [e.2.2.1, e.2.2.2.2.1] ++ bodyE e.2.2.2.2 2 := by unfold payE; rw [if_pos k1]; simp
          rw [if_pos (by simpa using k1)]
          refine ⟨_, rencode_ok kc hrc, by simp [leB], by simp [leB], by simp [leB]; omega, by simp [leB]; omega, ?_⟩
          show ref34_Bytes_j3 _ _ ([IntKind.u8.wrap e.1] ++ leB e.2.1 ++ [IntKind.u8.wrap e.2.2.1, IntKind.u8.wrap e.2.2.2.2.1] ++ bodyE e.2.2.2.2 2) _
          rw [w8 _ (by omega) (by omega), w8 _ (by omega) (by omega), w8 _ (by omega) (by omega), ← hE]
          unfold ref34_Bytes_j3
          rw [if_neg (by simp [ofE, k1])]
          exact fin
        · have hwb := word_byte kw
          have hE : payE e = [e.1] ++ leB e.2.1 ++ [e.2.2.2.1] := by unfold payE; rw [if_neg (by omega), if_pos k2]
          rw [if_neg (by simp; omega)]
          show ref34_Bytes_j3 _ _ ([IntKind.u8.wrap e.1] ++ leB e.2.1) _
          unfold ref34_Bytes_j3
          rw [if_pos (by simp [ofE, k2])]
          refine ⟨by simp [leB], by simp [leB], ?_⟩
          show ref34_Bytes_j4 _ ([IntKind.u8.wrap e.1] ++ leB e.2.1 ++ [IntKind.u8.wrap e.2.2.2.1]) _
          rw [w8 _ (by omega) (by omega), w8 _ (by omega) (by omega), ← hE]
          exact fin
        · have hE : payE e = [e.1] ++ leB e.2.1 := by unfold payE; rw [if_neg (by omega), if_neg (by omega)]; simp
          rw [if_neg (by simp; omega)]
          show ref34_Bytes_j3 _ _ ([IntKind.u8.wrap e.1] ++ leB e.2.1) _
          unfold ref34_Bytes_j3
          rw [if_neg (by simp [ofE, k3]), w8 _ (by omega) (by omega), ← hE]
          exact fin
      · refine ⟨.inr ([], chkL e), .done ?_, ?_⟩
        · unfold ref34_Bytes_l2
          rw [if_pos (by simpa using hlt)]
          refine ⟨ofE e, hx, _, rchkL_ok hs, ?_⟩
          rw [if_pos (by simpa using g1)]
          exact ⟨_, rchkL_ok hs, rfl⟩
        · show bytesL l = _
          rw [h]; exact bytesL_bad hp g1
  obtain ⟨x, h1, h2⟩ := key l [] rfl (fun x hx => nomatch hx)
  exact ⟨x, h1, h2⟩
end Go.Rel
/-! Plain law: LogTells. -/
namespace Go.Rel
open Go Go.Eng Go.Pl

theorem rd_same {e : Ev} (h : chkL e = 0) : sameE (rdE e) e = true := by
  obtain ⟨k, q, v, err, m⟩ := e
  rcases chk_kind h with ⟨k1, kv, kc⟩ | ⟨k2, kw⟩ | k3
  · simp only at k1 kv kc
    have he : err = 0 := by
      unfold chkL at h
      simp only at h
      rw [if_neg (by omega), if_pos k1, if_neg (by omega), if_neg (by omega)] at h
      by_cases c1 : err = 0
      · exact c1
      · rw [if_pos c1] at h; cases h
    unfold rdE sameE sameB
    simp only
    rw [if_pos k1]
    simp [n6, k1, he]
  · simp only at k2 kw
    have hv : v = 0 ∧ sameB m zeroMg = true := by
      unfold chkL at h
      simp only at h
      rw [if_neg (by omega), if_neg (by omega)] at h
      by_cases c1 : v = 0
      · rw [if_neg (by omega)] at h
        cases hs : sameB m zeroMg with
        | true => exact ⟨c1, rfl⟩
        | false => rw [if_pos hs] at h; cases h
      · rw [if_pos c1] at h; cases h
    have hz : sameB zero6 m = true := by
      have h2 := hv.2
      unfold sameB at h2 ⊢
      simp only [decide_eq_true_eq] at h2 ⊢
      exact ⟨h2.1.symm, h2.2.1.symm, h2.2.2.symm⟩
    unfold rdE sameE
    simp only
    rw [if_neg (by omega), if_pos k2, hz]
    simp [k2, hv.1]
  · simp only at k3
    have hv : v = 0 ∧ sameB m zeroMg = true ∧ err = 0 := by
      unfold chkL at h
      simp only at h
      rw [if_neg (by omega), if_neg (by omega)] at h
      by_cases c1 : v = 0
      · rw [if_neg (by omega)] at h
        cases hs : sameB m zeroMg with
        | true =>
          rw [if_neg (by simp [hs]), if_neg (by omega)] at h
          by_cases c2 : err = 0
          · exact ⟨c1, rfl, c2⟩
          · rw [if_pos c2] at h; cases h
        | false => rw [if_pos hs] at h; cases h
      · rw [if_pos c1] at h; cases h
    have hz : sameB zero6 m = true := by
      have h2 := hv.2.1
      unfold sameB at h2 ⊢
      simp only [decide_eq_true_eq] at h2 ⊢
      exact ⟨h2.1.symm, h2.2.1.symm, h2.2.2.symm⟩
    unfold rdE sameE
    simp only
    rw [if_neg (by omega), if_neg (by omega), hz]
    simp [k3, hv.1, hv.2.2]
theorem rd_lens {e : Ev} (s : EvS e) : (rdE e).2.2.2.2.2.2.1.length ≤ 40 ∧ (rdE e).2.2.2.2.2.2.2.1.length ≤ 40 := by
  unfold rdE
  split
  · exact ⟨s.path, s.cells⟩
  · split <;> exact ⟨by simp [zero6], by simp [zero6]⟩
theorem same24_ok {a b : List Ev} (hl : a.length = b.length) (h : a.length ≤ 1000000) (hs : ∀ (k : Nat) (x y : Ev), a[k]? = some x → b[k]? = some y → sameE x y = true ∧ x.2.2.2.2.2.2.1.length < 1099511627776 ∧ x.2.2.2.2.2.2.2.1.length < 1099511627776) : law24_Same a (b.map ofE) 0 true := by
  unfold law24_Same
  have hlm : (b.map ofE).length = b.length := List.length_map ..
  rw [if_neg (by rw [hlm, w_small (by omega) (by omega)]; simp [hl])]
  refine ⟨.inl (), ?_, rfl⟩
  refine loops_count (fun k => (k : Int)) a.length (fun k hk => ?_) ?_
  · unfold law24_Same_l2
    rw [if_pos (by simpa using hk)]
    have hk2 : k < b.length := by omega
    obtain ⟨s1, s2, s3⟩ := hs k a[k] b[k] (List.getElem?_eq_getElem hk) (List.getElem?_eq_getElem hk2)
    refine ⟨a[k], idx_of hk, _, eof_ok s2, ofE b[k], ?_, true, ?_, ?_⟩
    · have e : IntKind.i64.wrap (0 + (k : Int)) = (k : Int) := by rw [w_small (by omega) (by omega)]; omega
      rw [e]
      exact ⟨by omega, by simp [hk2]⟩
    · rw [← s1]; exact resame_ok (by omega) (by omega)
    · rw [if_neg (by simp), w_small (by omega) (by omega)]; simp
  · unfold law24_Same_l2
    rw [if_neg (by simp)]
theorem tells_run (l : List Ev) (hs : ∀ e ∈ l, EvS (cutE e)) : Loops (law34_LogTells_l5 l) ([], [], 0) (.inl ((l.take 20).map cutE, ((l.take 20).map cutE).map ofE)) := by
  refine loops_count (fun k => ((l.take k).map cutE, ((l.take k).map cutE).map ofE, (k : Int))) (min l.length 20) (fun k hk => ?_) ?_
  · have hkl : k < l.length := by omega
    have hsk := hs l[k] (List.getElem_mem hkl)
    have e1 : (l.take (k + 1)).map cutE = (l.take k).map cutE ++ [cutE l[k]] := map_take_snoc cutE l hkl
    have hlen : ((l.take k).map cutE).length = k := by rw [List.length_map, List.length_take]; omega
    have h1 := hsk.path
    have h2 := hsk.cells
    unfold law34_LogTells_l5
    rw [if_pos (by simpa using hkl), decide_eq_true (show (k : Int) < 20 by omega)]
    unfold law34_LogTells_j6
    rw [if_pos rfl]
    refine ⟨l[k], idx_of hkl, _, ecut_ok _, by simp only [hlen, List.length_singleton]; omega, by simp only [hlen, List.length_singleton]; omega, _, eof_ok (by omega), by simp only [List.length_map, List.length_take, List.length_singleton]; omega, by simp only [List.length_map, List.length_take, List.length_singleton]; omega, _, chkL_ok (by omega) (by omega), _, eof_ok (by omega), _, rchkL_ok hsk, ?_⟩
    rw [if_neg (by simp)]
    simp only
    rw [w_small (by omega) (by omega), e1, List.map_append]
    simp
  · have e : (l.take (min l.length 20)).map cutE = (l.take 20).map cutE := by
      by_cases h : l.length ≤ 20
      · rw [Nat.min_eq_left h, List.take_of_length_le (Nat.le_refl _), List.take_of_length_le h]
      · rw [Nat.min_eq_right (by omega)]
    unfold law34_LogTells_l5
    by_cases h : ((min l.length 20 : Nat) : Int) < (l.length : Int)
    · rw [if_pos (by simpa using h), decide_eq_false (show ¬ ((min l.length 20 : Nat) : Int) < 20 by omega)]
      unfold law34_LogTells_j6
      rw [if_neg (by simp)]
      show Sum.inr _ = Sum.inr _
      rw [e]
    · rw [if_neg (by simpa using h)]
      unfold law34_LogTells_j6
      rw [if_neg (by simp)]
      show Sum.inr _ = Sum.inr _
      rw [e]
theorem logTells_true (l : List Ev) (hs : ∀ e ∈ l, EvS (cutE e)) : law34_LogTells l true := by
  refine ⟨_, tells_run l hs, ?_⟩
  show law34_LogTells_j1 _ true
  have hx : ∀ e ∈ (l.take 20).map cutE, EvS e := by
    intro e he
    obtain ⟨e0, h1, rfl⟩ := List.mem_map.1 he
    exact hs e0 (List.mem_of_mem_take h1)
  have hl : ((l.take 20).map cutE).length ≤ 20 := by rw [List.length_map, List.length_take]; omega
  generalize (l.take 20).map cutE = x at hx hl
  refine ⟨_, lbytesL_ok x (by omega) hx, _, rbytesL_ok x (by omega) hx, ?_⟩
  rw [if_neg (by simp)]
  refine ⟨true, ?_, ?_⟩
  · have hb : (bytesL x).1.length < 4611686018427387904 := by
      by_cases h0 : (bytesL x).2 = 0
      · have hz := bytesL_zero h0
        rw [bytesL_good x hz]
        have := recs_len x (fun e he => evG (hx e he) (hz e he))
        simp only; omega
      · rw [bytesL_nil h0]; simp
    have := same_ok (a := (bytesL x).1) (b := (bytesL x).1) hb
    rw [decide_eq_true rfl] at this
    exact this
  · unfold law34_LogTells_j2
    rw [if_neg (by decide)]
    by_cases h0 : (bytesL x).2 = 0
    · have hz := bytesL_zero h0
      have hg : ∀ e ∈ x, EvG e := fun e he => evG (hx e he) (hz e he)
      rw [if_neg (by simp [h0]), bytesL_good x hz]
      refine ⟨_, parse_all x (by omega) hg, true, known34_ok, ?_⟩
      rw [if_pos rfl, if_pos (by simp)]
      refine ⟨true, same24_ok (by rw [List.length_map]) (by rw [List.length_map]; omega) ?_, rfl⟩
      intro k a b ha hb
      rw [List.getElem?_map, hb] at ha
      cases ha
      have hm : b ∈ x := List.mem_of_getElem? hb
      have h3 := rd_lens (hx b hm)
      exact ⟨rd_same (hz b hm), by omega, by omega⟩
    · rw [if_pos (by simp [h0])]
      refine ⟨true, known34_ok, ?_⟩
      rw [if_pos rfl, bytesL_nil h0]
      rfl
theorem evS_cut {e : Ev} (h : EvRaw e) : EvS (cutE e) := by
  have h1 := cut_lens e
  have h2 := u32_in (evIn h).seq
  have h3 := (ecut_in (evIn h)).msg
  exact ⟨h1.1, h1.2, h3.ltext, h3.ltag, h2.1, h2.2⟩
theorem logTells_claim {a : List Ev} (h0 : ListOk (fun e : Ev => EvRaw e) a) : law34_LogTells a true :=
  logTells_true a (fun e he => evS_cut (h0.1 e he))
end Go.Rel
