import Derived.Test.YtlamkclnkbnedaaDoorPlAckParses
import Derived.Test.YtlamkclnkbnedaaDoorPlAckWindow
import Derived.Test.YtlamkclnkbnedaaDoorPlHeadTells
/-! Plain laws: what any ack has, its bytes and its line. -/
namespace Go.Rel
open Go Go.Eng Go.Pl
/-! ### Which is newer -/
theorem testBit_int (n w : Nat) : decide ((n : Int) / 2 ^ w % 2 = 1) = n.testBit w := by
  have h := bit_int n w
  by_cases ht : n.testBit w = true
  · rw [ht, decide_eq_true_eq]
    have hne : ¬ (n : Int) / 2 ^ w % 2 = 0 := fun e => by rw [h.1 e] at ht; cases ht
    omega
  · simp only [Bool.not_eq_true] at ht
    rw [ht, decide_eq_false_iff_not]
    have := h.2 ht; omega
theorem rbit_nat {b : Nat} (hb : b < 2 ^ 64) {n : Nat} (hn : n < 64) : ref32_bit b n (b.testBit n) := by
  have := rbit_ok (b := (b : Int)) ⟨by omega, by omega⟩ hn
  rw [testBit_int] at this; exact this
/-- More has come up to a place. -/
def moreB (a b : Nat) : Nat → Bool
  | 0 => false
  | k + 1 => moreB a b k || (a.testBit k && !b.testBit k)
theorem moreB_iff (a b k : Nat) : moreB a b k = true ↔ ∃ j, j < k ∧ a.testBit j = true ∧ b.testBit j = false := by
  induction k with
  | zero => simp [moreB]
  | succ k ih =>
    simp only [moreB, Bool.or_eq_true, Bool.and_eq_true, Bool.not_eq_true', ih]
    constructor
    · rintro (⟨j, h1, h2⟩ | h2)
      · exact ⟨j, by omega, h2⟩
      · exact ⟨k, by omega, h2⟩
    · rintro ⟨j, h1, h2⟩
      by_cases h : j < k
      · exact .inl ⟨j, h, h2⟩
      · rw [show j = k by omega] at h2; exact .inr h2
theorem rnewer_step {ta tb : Int} {a b : Nat} (ha : a < 2 ^ 64) (hb : b < 2 ^ 64) {k : Nat} (hk : k < 64) (hh : b.testBit k = true → a.testBit k = true) :
    ref32_Newer_l2 (ta, (a : Int)) (tb, (b : Int)) (moreB a b k, (k : Int)) (.inl (moreB a b (k + 1), ((k + 1 : Nat) : Int))) := by
  have hw : IntKind.i64.wrap ((k : Int) + 1) = ((k + 1 : Nat) : Int) := by rw [w_small (by omega) (by omega)]; omega
  have j3 : ref32_Newer_j4 (ta, (a : Int)) (tb, (b : Int)) (moreB a b k, (k : Int)) false (.inl (moreB a b (k + 1), ((k + 1 : Nat) : Int))) := by
    unfold ref32_Newer_j4 ref32_Newer_j3
    rw [if_neg (by decide)]
    simp only [hw]
    by_cases hm : moreB a b k = true
    · rw [if_pos hm]; simp [moreB, hm]
    · rw [if_neg hm]
      simp only [Bool.not_eq_true] at hm
      refine ⟨_, rbit_nat ha hk, ?_⟩
      by_cases h1 : a.testBit k = true
      · rw [if_pos h1]; exact ⟨_, rbit_nat hb hk, by simp [moreB, hm, h1]⟩
      · rw [if_neg h1]; simp only [Bool.not_eq_true] at h1; simp [moreB, hm, h1]
  unfold ref32_Newer_l2
  simp only
  rw [if_pos (by simp; omega)]
  refine ⟨_, rbit_nat hb hk, ?_⟩
  by_cases h2 : b.testBit k = true
  · rw [if_pos h2]
    refine ⟨_, rbit_nat ha hk, ?_⟩
    rw [hh h2]; exact j3
  · rw [if_neg h2]; exact j3
theorem rnewer_stop {ta tb : Int} {a b : Nat} (ha : a < 2 ^ 64) (hb : b < 2 ^ 64) {k : Nat} (hk : k < 64) (h1 : b.testBit k = true) (h2 : a.testBit k = false) :
    ref32_Newer_l2 (ta, (a : Int)) (tb, (b : Int)) (moreB a b k, (k : Int)) (.inr (.inr false)) := by
  unfold ref32_Newer_l2
  simp only
  rw [if_pos (by simp; omega)]
  refine ⟨_, rbit_nat hb hk, ?_⟩
  rw [if_pos h1]
  refine ⟨_, rbit_nat ha hk, ?_⟩
  rw [h2]
  unfold ref32_Newer_j4
  rw [if_pos (by decide)]
theorem and_eq_iff (a b : Nat) : (a &&& b = b) ↔ ∀ i, b.testBit i = true → a.testBit i = true := by
  constructor
  · intro h i hi
    have := congrArg (·.testBit i) h
    simp only [Nat.testBit_and] at this
    rw [hi, Bool.and_true] at this; exact this
  · intro h
    apply Nat.eq_of_testBit_eq
    intro i
    rw [Nat.testBit_and]
    by_cases hi : b.testBit i = true
    · rw [hi, h i hi]; rfl
    · simp only [Bool.not_eq_true] at hi; rw [hi, Bool.and_false]
theorem high_bit {a i : Nat} (h : a < 2 ^ 64) (hi : 64 ≤ i) : a.testBit i = false := Nat.testBit_lt_two_pow (Nat.lt_of_lt_of_le h (Nat.pow_le_pow_right (by decide) hi))
def newN (ta : Int) (a : Nat) (tb : Int) (b : Nat) : Bool := if ta ≠ tb then afterB ta tb else decide (a ≠ b ∧ a &&& b = b)
theorem newer_ok {ta tb : Int} {a b : Nat} (ha : a < 2 ^ 64) (hb : b < 2 ^ 64) : ack_Newer (ta, (a : Int)) (tb, (b : Int)) (newN ta a tb b) := by
  unfold ack_Newer
  by_cases ht : ta = tb
  · subst ht
    have hN : newN ta a ta b = decide (a ≠ b ∧ a &&& b = b) := by unfold newN; rw [if_neg (by simp)]
    rw [hN, if_neg (by simp)]
    by_cases h : a = b
    · subst h
      rw [if_neg (by simp)]; unfold ack_Newer_j1; simp
    · rw [if_pos (by simp only [Bool.not_eq_true', decide_eq_false_iff_not]; omega)]
      unfold ack_Newer_j1
      simp only
      rw [iand_nat ha hb, decide_eq_decide]
      constructor
      · intro h2; rw [h2.2]
      · intro h2; exact ⟨h, Int.ofNat.inj h2⟩
  · have hN : newN ta a tb b = afterB ta tb := by unfold newN; rw [if_pos ht]
    rw [hN, if_pos (by simpa using ht)]
    exact ⟨_, after_ok _ _, rfl⟩
theorem rnewer_ok {ta tb : Int} {a b : Nat} (h1 : U32 ta) (h2 : U32 tb) (ha : a < 2 ^ 64) (hb : b < 2 ^ 64) : ref32_Newer (ta, (a : Int)) (tb, (b : Int)) (newN ta a tb b) := by
  unfold ref32_Newer
  by_cases ht : ta = tb
  · subst ht
    have hN : newN ta a ta b = decide (a ≠ b ∧ a &&& b = b) := by unfold newN; rw [if_neg (by simp)]
    rw [hN, if_neg (by simp)]
    by_cases hs : ∀ i, b.testBit i = true → a.testBit i = true
    · refine ⟨.inl (moreB a b 64), loops_count (fun k => (moreB a b k, (k : Int))) 64 (fun k hk => rnewer_step ha hb hk (hs k)) (by unfold ref32_Newer_l2; simp only; rw [if_neg (show ¬ (decide (((64 : Nat) : Int) < 64) = true) by decide)]; trivial), ?_⟩
      show _ = moreB a b 64
      rw [(and_eq_iff a b).2 hs, Bool.eq_iff_iff, decide_eq_true_eq, moreB_iff]
      constructor
      · intro hne
        apply Classical.byContradiction
        intro hno
        apply hne.1
        apply Nat.eq_of_testBit_eq
        intro i
        by_cases hi : i < 64
        · cases hbi : b.testBit i with
          | true => exact hs i hbi
          | false =>
            cases hai : a.testBit i with
            | false => rfl
            | true => exact absurd ⟨i, hi, hai, hbi⟩ hno
        · rw [high_bit ha (by omega), high_bit hb (by omega)]
      · rintro ⟨j, _, h3, h4⟩
        refine ⟨fun e => ?_, rfl⟩
        rw [e, h4] at h3; cases h3
    · have hex : ∃ K, K < 64 ∧ b.testBit K = true ∧ a.testBit K = false ∧ ∀ j, j < K → b.testBit j = true → a.testBit j = true := by
        have : ∀ n, n ≤ 64 → (∀ j, j < n → b.testBit j = true → a.testBit j = true) ∨ ∃ K, K < n ∧ b.testBit K = true ∧ a.testBit K = false ∧ ∀ j, j < K → b.testBit j = true → a.testBit j = true := by
          intro n
          induction n with
          | zero => intro _; left; intro j hj; omega
          | succ n ih =>
            intro hn
            rcases ih (by omega) with h | ⟨K, hK, h⟩
            · by_cases hb1 : b.testBit n = true
              · cases ha1 : a.testBit n with
                | false => exact .inr ⟨n, by omega, hb1, ha1, h⟩
                | true => left; intro j hj hbj; by_cases hjn : j = n
                          · rw [hjn]; exact ha1
                          · exact h j (by omega) hbj
              · left; intro j hj hbj; by_cases hjn : j = n
                · rw [hjn] at hbj; exact absurd hbj hb1
                · exact h j (by omega) hbj
            · exact .inr ⟨K, by omega, h⟩
        rcases this 64 (by omega) with h | h
        · exfalso; apply hs; intro i hi
          by_cases h64 : i < 64
          · exact h i h64 hi
          · rw [high_bit hb (by omega)] at hi; cases hi
        · exact h
      obtain ⟨K, hK, hbK, haK, hlow⟩ := hex
      refine ⟨.inr false, loops_count (fun k => (moreB a b k, (k : Int))) K (fun k hk => rnewer_step ha hb (by omega) (hlow k hk)) (rnewer_stop ha hb hK hbK haK), ?_⟩
      show _ = false
      rw [decide_eq_false_iff_not]
      rintro ⟨_, h⟩
      exact hs ((and_eq_iff a b).1 h)
  · have hN : newN ta a tb b = afterB ta tb := by unfold newN; rw [if_pos ht]
    rw [hN, if_pos (by simpa using ht)]
    exact ⟨_, rafter_ok h1 h2, rfl⟩

/-! ### The line -/
def hexd (v : Int) : Int := if v < 10 then 48 + v else 87 + v
/-- The digit of 16 at a place, the least first. -/
def hexN (n k : Nat) : Int := hexd ((n / 16 ^ k % 16 : Nat) : Int)
theorem hex_at : ∀ v : Fin 16, idx (bints (bstr [48, 49, 50, 51, 52, 53, 54, 55, 56, 57, 97, 98, 99, 100, 101, 102])) ((v.val : Nat) : Int) (hexd v.val) := by
  intro v
  refine ⟨by omega, ?_⟩
  revert v
  decide +kernel
theorem aline_loop {t : Int} {n : Nat} (hn : n < 2 ^ 64) : Loops (ack_Line_l2 (t, (n : Int))) ((List.replicate (16 : Int).toNat 0), 0) ((List.range 16).map fun j => hexN n (15 - j)) := by
  have h0 : ((List.replicate (16 : Int).toNat (0 : Int)), (0 : Int)) = ((fun k : Nat => ((List.range 16).map fun j => if j < k then hexN n (15 - j) else 0, (k : Int))) 0) := by
    simp only [Nat.not_lt_zero, if_false]; rfl
  rw [h0]
  refine loops_count (fun k : Nat => ((List.range 16).map fun j => if j < k then hexN n (15 - j) else 0, (k : Int))) 16 (fun k hk => ?_) ?_
  · unfold ack_Line_l2
    simp only [List.length_replicate]
    rw [if_pos (by simp; omega)]
    have e1 : IntKind.i64.wrap (4 * IntKind.i64.wrap (15 - (k : Int))) = ((4 * (15 - k) : Nat) : Int) := by
      rw [w_small (n := 15 - (k : Int)) (by omega) (by omega), w_small (by omega) (by omega)]; omega
    rw [e1]
    have e2 : iand .u64 (ishr .u64 (n : Int) ((4 * (15 - k) : Nat) : Int)) 15 = ((n / 16 ^ (15 - k) % 16 : Nat) : Int) := by
      rw [ishr_u64 (by omega) (by omega)]
      rw [show ((n : Int) / 2 ^ (((4 * (15 - k) : Nat) : Int).toNat)) = ((n / 2 ^ (4 * (15 - k)) : Nat) : Int) by rw [Int.toNat_natCast]; push_cast; rfl]
      have := iand_nat (n := n / 2 ^ (4 * (15 - k))) (m := 15) (Nat.lt_of_le_of_lt (Nat.div_le_self _ _) hn) (by decide)
      rw [show ((15 : Nat) : Int) = 15 from rfl] at this
      rw [this]
      rw [show (15 : Nat) = 2 ^ 4 - 1 from rfl, Nat.and_two_pow_sub_one_eq_mod, Nat.pow_mul]
    rw [e2]
    refine ⟨by omega, _, hex_at ⟨n / 16 ^ (15 - k) % 16, Nat.mod_lt _ (by decide)⟩, 0, ⟨by omega, ?_⟩, ?_⟩
    · rw [Int.toNat_natCast, List.getElem?_map, List.getElem?_range hk]; simp
    · rw [w_small (by omega) (by omega)]
      congr 2
      apply List.ext_getElem?
      intro j
      rw [Int.toNat_natCast, List.getElem?_set, List.getElem?_map, List.getElem?_map, List.length_map, List.length_range]
      by_cases hj : j < 16
      · rw [List.getElem?_range hj]
        simp only [Option.map_some]
        by_cases hkj : k = j
        · subst hkj; rw [if_pos rfl, if_pos hk, if_pos (by omega)]; rfl
        · rw [if_neg hkj]
          by_cases h2 : j < k
          · rw [if_pos h2, if_pos (by omega)]
          · rw [if_neg h2, if_neg (by omega)]
      · rw [List.getElem?_eq_none (l := List.range 16) (by simp; omega)]
        rw [if_neg (by omega)]; rfl
  · unfold ack_Line_l2
    simp only [List.length_replicate]
    rw [if_neg (by decide)]
    rfl
/-- The digits of 16 up to a place, the last first. -/
def hexT (n : Nat) : Nat → List Int
  | 0 => []
  | k + 1 => hexN n k :: hexT n k
theorem hexT_len (n k : Nat) : (hexT n k).length = k := by
  induction k with
  | zero => rfl
  | succ k ih => rw [hexT, List.length_cons, ih]
theorem rline_loop {n : Nat} (hn : n < 2 ^ 64) : Loops ref32_Line_l2 ((bstr []), (n : Int), 0) (bstr (hexT n 16)) := by
  have h0 : ((bstr []), (n : Int), (0 : Int)) = (fun k : Nat => (bstr (hexT n k), ((n / 16 ^ k : Nat) : Int), (k : Int))) 0 := by simp [hexT]
  rw [h0]
  refine loops_count (fun k : Nat => (bstr (hexT n k), ((n / 16 ^ k : Nat) : Int), (k : Int))) 16 (fun k hk => ?_) ?_
  · unfold ref32_Line_l2 ref32_Line_j3
    simp only
    rw [if_pos (by simp; omega)]
    have hd : n / 16 ^ k < 2 ^ 64 := Nat.lt_of_le_of_lt (Nat.div_le_self _ _) hn
    have hs : n / 16 ^ (k + 1) = n / 16 ^ k / 16 := by rw [Nat.pow_succ, Nat.div_div_eq_div_mul]
    have hx : hexN n k = hexd ((n / 16 ^ k % 16 : Nat) : Int) := rfl
    rw [hs]
    simp only [hexT, hx]
    generalize n / 16 ^ k = m at *
    have e1 : IntKind.u8.wrap ((m : Int).tmod 16) = ((m % 16 : Nat) : Int) := by
      rw [Int.tmod_eq_emod_of_nonneg (by omega), w_u8]; omega
    have e2 : IntKind.u64.wrap ((m : Int).tdiv 16) = ((m / 16 : Nat) : Int) := by
      rw [Int.tdiv_eq_ediv_of_nonneg (by omega), w64_small (by omega) (by omega)]; omega
    have e3 : IntKind.i64.wrap ((k : Int) + 1) = ((k + 1 : Nat) : Int) := by rw [w_small (by omega) (by omega)]; omega
    rw [e1, e2, e3]
    have hm : m % 16 < 16 := Nat.mod_lt _ (by decide)
    by_cases h10 : m % 16 < 10
    · rw [if_pos (by simp only [decide_eq_true_eq]; omega)]
      have e4 : IntKind.u8.wrap (48 + ((m % 16 : Nat) : Int)) = hexd ((m % 16 : Nat) : Int) := by unfold hexd; rw [if_pos (by omega), w_u8]; omega
      rw [e4]
      refine ⟨by rw [size_bstr, size_bstr, hexT_len]; simp only [List.length_cons, List.length_nil]; omega, ?_⟩
      rw [← bstr_append]; rfl
    · rw [if_neg (by simp only [decide_eq_true_eq]; omega)]
      have e4 : IntKind.u8.wrap (87 + ((m % 16 : Nat) : Int)) = hexd ((m % 16 : Nat) : Int) := by unfold hexd; rw [if_neg (by omega), w_u8]; omega
      rw [e4]
      refine ⟨by rw [size_bstr, size_bstr, hexT_len]; simp only [List.length_cons, List.length_nil]; omega, ?_⟩
      rw [← bstr_append]; rfl
  · unfold ref32_Line_l2
    simp only
    rw [if_neg (show ¬ (decide (((16 : Nat) : Int) < 16) = true) by decide)]; trivial
theorem hexT_eq (n : Nat) : (List.range 16).map (fun j => hexN n (15 - j)) = hexT n 16 := by
  simp [hexT, List.range_succ]
def ackLn (t : Int) (n : Nat) : List Int := [97, 99, 107, 32] ++ decI t ++ [32] ++ hexT n 16
theorem aline_ok {t : Int} {n : Nat} (ht : U32 t) (hn : n < 2 ^ 64) : ack_Line (t, (n : Int)) (bstr (ackLn t n)) ∧ ref32_Line (t, (n : Int)) (bstr (ackLn t n)) := by
  obtain ⟨q0, q1⟩ := ht
  have o3i : IntOk .i64 t := ⟨by show (-9223372036854775808 : Int) ≤ t; omega, by show t ≤ 9223372036854775807; omega⟩
  have l1 := decI_len o3i
  have l2 := hexT_len n 16
  have fin : ∀ a b : List Int, a.length + b.length < 1000 → (bstr a).size + (bstr b).size < 4611686018427387904 := by
    intro a b hab; rw [size_bstr, size_bstr]; omega
  have ha := aline_loop (t := t) hn
  rw [hexT_eq] at ha
  constructor
  · refine ⟨_, ha, ?_⟩
    unfold ack_Line_j1
    simp only
    rw [w_small (by omega) (by omega)]
    refine ⟨_, ⟨_, itoa_ok o3i, rfl⟩, ?_, ?_, ?_, ?_⟩
    all_goals (try simp only [← bstr_append])
    all_goals first | (refine fin _ _ ?_; simp only [List.length_append, List.length_cons, List.length_nil]; omega) | rfl
  · refine ⟨_, rline_loop hn, ?_⟩
    unfold ref32_Line_j1
    simp only
    rw [w_small (by omega) (by omega)]
    refine ⟨_, digits_ok o3i, ?_, ?_, ?_, ?_⟩
    all_goals (try simp only [← bstr_append])
    all_goals first | (refine fin _ _ ?_; simp only [List.length_append, List.length_cons, List.length_nil]; omega) | rfl

/-! ### The bytes -/
theorem word4_leB {q : Int} (hq : 0 ≤ q ∧ q < 4294967296) : ref02_Word q 4 (leB q) := by
  have := word4_ok hq
  have e : leB q = [q % 256, q / 256 % 256, q / 65536 % 256, q / 16777216] := by
    unfold leB; congr 3; congr 1; omega
  rw [e]; exact this
theorem rabytes_ok {a : Int × Int} (ht : U32 a.1) (hb : U64 a.2) : ref32_Bytes a (ackB a ++ sumB (sumW (ackB a))) := by
  obtain ⟨t, b⟩ := a
  obtain ⟨h0, h1⟩ := hb
  simp only at h0 h1
  have e1 : IntKind.u32.wrap (b.tmod 4294967296) = b % 4294967296 := by rw [Int.tmod_eq_emod_of_nonneg h0, w_u32]; omega
  have e2 : IntKind.u32.wrap (IntKind.u64.wrap (b.tdiv 4294967296)) = b / 4294967296 % 4294967296 := by rw [Int.tdiv_eq_ediv_of_nonneg h0, w64_small (by omega) (by omega), w_u32]
  have hby : Byt (ackB (t, b)) := Byt.app (Byt.app (leB_byt _) (leB_byt _)) (leB_byt _)
  unfold ref32_Bytes
  simp only [e1, e2]
  refine ⟨_, word4_leB ht, _, word4_leB (by omega), by simp [leB], by simp [leB], _, word4_leB (by omega), by simp [leB], by simp [leB], by simp [leB], by simp [leB], _, rsum_ok hby (by simp [ackB, leB]), _, rbytes_ok _, by simp [leB, sumB], by simp [leB, sumB], ?_⟩
  simp only [List.nil_append]; rfl
theorem ackV_ackB {a : Int × Int} (ht : U32 a.1) (hb : U64 a.2) : ackV (ackB a) = a := by
  obtain ⟨t, b⟩ := a
  obtain ⟨h0, h1⟩ := hb
  obtain ⟨q0, q1⟩ := ht
  simp only at h0 h1 q0 q1
  simp only [ackV, ackB, leB, List.cons_append, List.nil_append, List.take_succ_cons, List.take_zero, List.drop_succ_cons, List.drop_zero, leV]
  congr 1 <;> omega
theorem ackP_bytes {a : Int × Int} (ht : U32 a.1) (hb : U64 a.2) : ackP (ackB a ++ sumB (sumW (ackB a))) = (a, 0) := by
  have hl : (ackB a).length = 12 := by simp [ackB, leB]
  have hs : (sumB (sumW (ackB a))).length = 4 := by simp [sumB]
  have ho : openB (ackB a ++ sumB (sumW (ackB a))) = (ackB a, 0) := by
    unfold openB
    rw [List.length_append, hl, hs, if_neg (by decide)]
    rw [show 12 + 4 - 4 = (ackB a).length by rw [hl], List.take_left, List.drop_left, if_pos rfl]
  unfold ackP
  rw [List.length_append, hl, hs, if_neg (by decide), if_neg (by decide), ho, if_neg (by simp)]
  simp only [ackV_ackB ht hb]
theorem ackTells_true {a b : Int × Int} {x : Int} (h1 : U32 a.1) (h2 : U64 a.2) (h3 : U32 b.1) (h4 : U64 b.2) (hx : U32 x) : law32_AckTells a b x true := by
  obtain ⟨ta, ia⟩ := a
  obtain ⟨tb, ib⟩ := b
  obtain ⟨na, rfl⟩ : ∃ n : Nat, ia = (n : Int) := ⟨ia.toNat, by have := h2.1; simp only at this; omega⟩
  obtain ⟨nb, rfl⟩ : ∃ n : Nat, ib = (n : Int) := ⟨ib.toNat, by have := h4.1; simp only at this; omega⟩
  have ha : na < 2 ^ 64 := by have := h2.2; simp only at this; omega
  have hb : nb < 2 ^ 64 := by have := h4.2; simp only at this; omega
  have hby : Byt (ackB (ta, (na : Int)) ++ sumB (sumW (ackB (ta, (na : Int))))) := Byt.app (Byt.app (Byt.app (leB_byt _) (leB_byt _)) (leB_byt _)) (sumB_byt _)
  have hp := aparse_ok hby (by simp [ackB, leB, sumB])
  rw [ackP_bytes h1 h2] at hp
  have hself := newer_ok (ta := ta) (tb := ta) ha ha
  have hs0 : newN ta na ta na = false := by simp [newN]
  rw [hs0] at hself
  refine ⟨_, abytes_ok _, _, hp, _, rhas_ok h1 h2 hx, _, known_ok, _, fun _ => has_ok h2 x, _, fun _ => lacks_ok h2 x, _, fun _ => newer_ok ha hb, _, fun _ => rnewer_ok h1 h3 ha hb, _, fun _ => hself, _, fun _ => rabytes_ok h1 h2, _, fun _ => same_ok (by simp [ackB, leB, sumB]), _, fun _ => (aline_ok h1 ha).1, _, fun _ => (aline_ok h1 ha).2, ?_⟩
  have hne : ∀ v : Bool, (!(decide (v = !v))) = true := by decide
  simp [hne]
theorem ackTells_claim {a b : Int × Int} {x : Int} (h0 : IntOk .u32 a.1 ∧ IntOk .u64 a.2) (h1 : IntOk .u32 b.1 ∧ IntOk .u64 b.2) (h2 : IntOk .u32 x) : law32_AckTells a b x true := by
  have u64 : ∀ {n : Int}, IntOk .u64 n → U64 n := fun {n} h => ⟨h.1, by have : n ≤ 18446744073709551615 := h.2; omega⟩
  exact ackTells_true (ok_u32 h0.1) (u64 h0.2) (ok_u32 h1.1) (u64 h1.2) (ok_u32 h2)
end Go.Rel
