import Derived.Test.YtlamkclnkbnedaaDoorPlAck
/-! Plain law: a new number is lacking. -/
namespace Go.Rel
open Go Go.Eng Go.Pl

theorem iand_nat {n m : Nat} (hn : n < 2 ^ 64) (hm : m < 2 ^ 64) : iand .u64 (n : Int) (m : Int) = ((n &&& m : Nat) : Int) := by
  have e1 : (BitVec.ofInt 64 (n : Int)).toNat = n := by rw [BitVec.ofInt_natCast, BitVec.toNat_ofNat, Nat.mod_eq_of_lt hn]
  have e2 : (BitVec.ofInt 64 (m : Int)).toNat = m := by rw [BitVec.ofInt_natCast, BitVec.toNat_ofNat, Nat.mod_eq_of_lt hm]
  show IntKind.u64.wrap (((BitVec.ofInt 64 (n : Int) &&& BitVec.ofInt 64 (m : Int)).toNat : Nat) : Int) = _
  rw [BitVec.toNat_and, e1, e2]
  have := Nat.and_lt_two_pow n hm
  rw [w64_small (by omega) (by omega)]
theorem ior_nat {n m : Nat} (hn : n < 2 ^ 64) (hm : m < 2 ^ 64) : ior .u64 (n : Int) (m : Int) = ((n ||| m : Nat) : Int) := by
  have e1 : (BitVec.ofInt 64 (n : Int)).toNat = n := by rw [BitVec.ofInt_natCast, BitVec.toNat_ofNat, Nat.mod_eq_of_lt hn]
  have e2 : (BitVec.ofInt 64 (m : Int)).toNat = m := by rw [BitVec.ofInt_natCast, BitVec.toNat_ofNat, Nat.mod_eq_of_lt hm]
  show IntKind.u64.wrap (((BitVec.ofInt 64 (n : Int) ||| BitVec.ofInt 64 (m : Int)).toNat : Nat) : Int) = _
  rw [BitVec.toNat_or, e1, e2]
  have := Nat.or_lt_two_pow hn hm
  rw [w64_small (by omega) (by omega)]
theorem bit_int (n w : Nat) : ((n : Int) / 2 ^ w % 2 = 0) ↔ n.testBit w = false := by
  rw [Nat.testBit_eq_decide_div_mod_eq, decide_eq_false_iff_not]
  have : ((n : Int) / 2 ^ w % 2) = ((n / 2 ^ w % 2 : Nat) : Int) := by
    rw [Int.natCast_emod, Int.natCast_ediv, Int.natCast_pow]; rfl
  rw [this]; omega
theorem and_pow_zero (n w : Nat) : (n &&& 2 ^ w = 0) ↔ n.testBit w = false := by
  constructor
  · intro h
    have := congrArg (·.testBit w) h
    simpa [Nat.testBit_and, Nat.testBit_two_pow_self] using this
  · intro h
    apply Nat.eq_of_testBit_eq
    intro i
    rw [Nat.testBit_and, Nat.testBit_two_pow, Nat.zero_testBit]
    by_cases e : w = i
    · subst e; simp [h]
    · simp [e]
theorem or_and_self (n m : Nat) : (n ||| m) &&& n = n := by
  apply Nat.eq_of_testBit_eq
  intro i
  rw [Nat.testBit_and, Nat.testBit_or]
  cases n.testBit i <;> simp

/-- A window: its top and its bits. -/
def lackN (t : Int) (n : Nat) (x : Int) : Bool := if (t - x) % 4294967296 < 64 then !n.testBit ((t - x) % 4294967296).toNat else afterB x t
theorem lackN_eq (t : Int) (n : Nat) (x : Int) : lackB (t, (n : Int)) x = lackN t n x := by
  unfold lackB lackN
  split
  · have := bit_int n ((t - x) % 4294967296).toNat
    cases h : n.testBit ((t - x) % 4294967296).toNat with
    | false => simp [this.2 h]
    | true => simp only [Bool.not_true, decide_eq_false_iff_not]; intro e; rw [this.1 e] at h; cases h
  · rfl
theorem bitw_ok {t : Int} {n : Nat} (x : Int) : window_state_bit (t, (n : Int)) x (if (t - x) % 4294967296 < 64 then ((2 ^ ((t - x) % 4294967296).toNat : Nat) : Int) else 0) := by
  refine ⟨_, way_ok _ _, ?_⟩
  by_cases hc : (t - x) % 4294967296 < 64
  · rw [if_pos (by simpa using hc), if_pos hc]
    refine ⟨by omega, ?_⟩
    show _ = IntKind.u64.wrap (1 * 2 ^ min ((t - x) % 4294967296).toNat 64)
    have e : min ((t - x) % 4294967296).toNat 64 = ((t - x) % 4294967296).toNat := by omega
    rw [e, Int.one_mul]
    have hp : 2 ^ ((t - x) % 4294967296).toNat < 2 ^ 64 := Nat.pow_lt_pow_right (by omega) (by omega)
    have hq : 0 < 2 ^ ((t - x) % 4294967296).toNat := Nat.pow_pos (by omega)
    have hcst : ((2 : Int) ^ ((t - x) % 4294967296).toNat) = ((2 ^ ((t - x) % 4294967296).toNat : Nat) : Int) := by simp
    rw [hcst, w64_small (by omega) (by omega)]
  · rw [if_neg (by simpa using hc), if_neg hc]
def lookN (t : Int) (n : Nat) (x : Int) : Int := if lackN t n x = true then 0 else if (t - x) % 4294967296 < 64 then 14 else 15
theorem not_after {t x : Int} (h : (t - x) % 4294967296 < 64) : afterB x t = false := by
  unfold afterB; rw [decide_eq_false_iff_not]; omega
theorem look_ok {t : Int} {n : Nat} (hn : n < 2 ^ 64) (x : Int) : window_Window_Look (t, (n : Int)) x (lookN t n x) := by
  refine ⟨_, after_ok _ _, ?_⟩
  unfold lookN lackN
  by_cases hc : (t - x) % 4294967296 < 64
  · rw [if_neg (by simp [not_after hc])]
    simp only [if_pos hc]
    refine ⟨_, bitw_ok x, ?_⟩
    rw [if_pos hc]
    have hp : 2 ^ ((t - x) % 4294967296).toNat < 2 ^ 64 := Nat.pow_lt_pow_right (by omega) (by omega)
    have hq : 0 < 2 ^ ((t - x) % 4294967296).toNat := Nat.pow_pos (by omega)
    rw [if_neg (by simp only [decide_eq_true_eq]; omega)]
    refine ⟨_, bitw_ok x, ?_⟩
    rw [if_pos hc, iand_nat hn hp]
    have key := and_pow_zero n ((t - x) % 4294967296).toNat
    cases h : n.testBit ((t - x) % 4294967296).toNat with
    | false => rw [key.2 h]; simp
    | true =>
      have : ¬ (n &&& 2 ^ ((t - x) % 4294967296).toNat = 0) := fun e => by rw [key.1 e] at h; cases h
      rw [if_pos (by simp only [Bool.not_eq_true', decide_eq_false_iff_not]; omega)]
      simp
  · simp only [if_neg hc]
    cases ha : afterB x t with
    | true => simp
    | false =>
      rw [if_neg (by simp)]
      refine ⟨_, bitw_ok x, ?_⟩
      rw [if_neg hc]; simp
/-- What a mark makes of a window. -/
theorem mark_ok {t : Int} {n : Nat} (ht : U32 t) (hn : n < 2 ^ 64) {x : Int} (hx : U32 x) : ∃ (t' : Int) (n' : Nat), U32 t' ∧ n' < 2 ^ 64 ∧ window_Window_Mark (t, (n : Int)) x (lookN t n x, (t', (n' : Int))) ∧ ack_Newer (t', (n' : Int)) (t, (n : Int)) (lackN t n x) ∧ lackN t' n' x = false := by
  have zero : lackN t n x = true → lookN t n x = 0 := fun h => by unfold lookN; rw [if_pos h]
  have two : ∀ (m : Nat) (u : Int), m < 2 ^ 64 → window_Window_Mark_j1 (t, (n : Int)) x (u, (m : Int)) (0, (u, ((m ||| (if (u - x) % 4294967296 < 64 then 2 ^ ((u - x) % 4294967296).toNat else 0) : Nat) : Int))) := by
    intro m u hm
    refine ⟨_, bitw_ok x, ?_⟩
    have hp : (if (u - x) % 4294967296 < 64 then 2 ^ ((u - x) % 4294967296).toNat else 0) < 2 ^ 64 := by
      split
      · exact Nat.pow_lt_pow_right (by omega) (by omega)
      · omega
    have e : (if (u - x) % 4294967296 < 64 then ((2 ^ ((u - x) % 4294967296).toNat : Nat) : Int) else 0) = (((if (u - x) % 4294967296 < 64 then 2 ^ ((u - x) % 4294967296).toNat else 0) : Nat) : Int) := by
      split <;> rfl
    rw [e, ior_nat hm hp]
    by_cases h : u = t ∧ ((m ||| (if (u - x) % 4294967296 < 64 then 2 ^ ((u - x) % 4294967296).toNat else 0) : Nat) : Int) = (n : Int)
    · obtain ⟨rfl, h2⟩ := h
      rw [if_neg (by simp only [h2]; simp)]
      show _ = _
      rw [h2]
    · rw [if_pos (by
        simp only [Bool.and_true, Bool.not_eq_true', Bool.and_eq_false_iff, decide_eq_false_iff_not]
        by_cases h1 : u = t
        · exact .inr fun h2 => h ⟨h1, h2⟩
        · exact .inl h1)]
      rfl
  cases hl : lackN t n x with
  | false =>
    refine ⟨t, n, ht, hn, ⟨_, look_ok hn x, ?_⟩, ?_, hl⟩
    · rw [if_pos (by unfold lookN; rw [hl]; simp; split <;> decide)]
    · unfold ack_Newer
      rw [if_neg (by simp), if_neg (by simp)]
      rfl
  | true =>
    rw [zero hl]
    cases ha : afterB x t with
    | true =>
      have hway : 1 ≤ (x - t) % 4294967296 := by unfold afterB at ha; simp only [decide_eq_true_eq] at ha; exact ha.1
      have hne : ¬ x = t := by rintro rfl; simp at hway
      obtain ⟨m, hm, hme⟩ : ∃ m : Nat, m < 2 ^ 64 ∧ ishl .u64 (n : Int) ((x - t) % 4294967296) = (m : Int) := by
        have h0 : 0 ≤ IntKind.u64.wrap ((n : Int) * 2 ^ min ((x - t) % 4294967296).toNat 64) := by rw [w_u64]; omega
        have h1 : IntKind.u64.wrap ((n : Int) * 2 ^ min ((x - t) % 4294967296).toNat 64) < 18446744073709551616 := by rw [w_u64]; omega
        obtain ⟨m, hm⟩ := Int.eq_ofNat_of_zero_le h0
        exact ⟨m, by omega, hm⟩
      have h2 := two m x hm
      have hz : (x - x) % 4294967296 = 0 := by simp
      rw [hz] at h2
      simp only [show (0 : Int) < 64 by decide, if_true, Int.toNat_zero, Nat.pow_zero] at h2
      refine ⟨x, m ||| 1, hx, Nat.or_lt_two_pow hm (by omega), ⟨0, ?_, ?_⟩, ?_, ?_⟩
      · have := look_ok hn x (t := t); rw [zero hl] at this; exact this
      · rw [if_neg (by simp)]
        refine ⟨_, after_ok _ _, ?_⟩
        show if afterB x t = true then _ else _
        rw [ha, if_pos rfl]
        refine ⟨_, way_ok t x, by omega, ?_⟩
        show window_Window_Mark_j1 _ _ (x, ishl .u64 (n : Int) ((x - t) % 4294967296)) _
        rw [hme]; exact h2
      · unfold ack_Newer
        rw [if_pos (by simp [hne])]
        exact ⟨_, after_ok x t, ha.symm⟩
      · unfold lackN
        rw [hz]
        simp
    | false =>
      have hc : (t - x) % 4294967296 < 64 := by
        unfold lackN at hl
        by_cases hc : (t - x) % 4294967296 < 64
        · exact hc
        · rw [if_neg hc] at hl; rw [hl] at ha; cases ha
      have hb : n.testBit ((t - x) % 4294967296).toNat = false := by
        unfold lackN at hl; rw [if_pos hc] at hl; simpa using hl
      have h2 := two n t hn
      rw [if_pos hc] at h2
      have hp : 2 ^ ((t - x) % 4294967296).toNat < 2 ^ 64 := Nat.pow_lt_pow_right (by omega) (by omega)
      have hset : (n ||| 2 ^ ((t - x) % 4294967296).toNat).testBit ((t - x) % 4294967296).toNat = true := by simp [Nat.testBit_or, Nat.testBit_two_pow_self]
      refine ⟨t, n ||| 2 ^ ((t - x) % 4294967296).toNat, ht, Nat.or_lt_two_pow hn hp, ⟨0, ?_, ?_⟩, ?_, ?_⟩
      · have := look_ok hn x (t := t); rw [zero hl] at this; exact this
      · rw [if_neg (by simp)]
        refine ⟨_, after_ok _ _, ?_⟩
        show if afterB x t = true then _ else _
        rw [ha, if_neg (by simp)]
        exact h2
      · unfold ack_Newer
        rw [if_neg (by simp)]
        have hne : ¬ n ||| 2 ^ ((t - x) % 4294967296).toNat = n := fun e => by rw [e, hb] at hset; cases hset
        rw [if_pos (by simp only [Bool.not_eq_true', decide_eq_false_iff_not]; omega)]
        show _ = _
        simp only
        rw [iand_nat (Nat.or_lt_two_pow hn hp) hn, or_and_self]; simp
      · unfold lackN; rw [if_pos hc, hset]; rfl
theorem lookN_zero {t : Int} {n : Nat} {x : Int} : decide (lookN t n x = 0) = lackN t n x := by
  unfold lookN
  cases h : lackN t n x with
  | true => simp
  | false => simp; split <;> decide

theorem ackWindow_true {s : Int} {l : List Int} {ask : Int} (_h0 : IntOk .u32 s) (h1 : ListOk (IntOk .u32) l) (_h2 : IntOk .u32 ask) : law32_AckWindow s l ask true := by
  have u32 : ∀ {x : Int}, IntOk .u32 x → U32 x := fun {x} h => by
    have e1 : IntKind.u32.min = 0 := by decide
    have e2 : IntKind.u32.max = 4294967295 := by decide
    obtain ⟨a, b⟩ := h
    rw [e1] at a; rw [e2] at b
    exact ⟨a, by omega⟩
  refine ⟨_, ⟨_, add_ok _ _, rfl⟩, ?_⟩
  -- the windows, one after the other
  have hwin : ∀ k : Nat, ∃ f : Nat → Int × Nat, (∀ j, U32 (f j).1 ∧ (f j).2 < 2 ^ 64) ∧ f 0 = ((s + -1) % 4294967296, 18446744073709551615) ∧
      ∀ j, j < k → ∀ x, l[j]? = some x → window_Window_Mark ((f j).1, ((f j).2 : Int)) x (lookN (f j).1 (f j).2 x, ((f (j + 1)).1, ((f (j + 1)).2 : Int))) ∧
        ack_Newer ((f (j + 1)).1, ((f (j + 1)).2 : Int)) ((f j).1, ((f j).2 : Int)) (lackN (f j).1 (f j).2 x) ∧ lackN (f (j + 1)).1 (f (j + 1)).2 x = false := by
    intro k
    induction k with
    | zero => exact ⟨fun _ => ((s + -1) % 4294967296, 18446744073709551615), fun j => ⟨⟨by simp only; omega, by simp only; omega⟩, by simp only; omega⟩, rfl, fun j hj => by omega⟩
    | succ k ih =>
      obtain ⟨f, hf, hf0, hstep⟩ := ih
      cases hx : l[k]? with
      | none => exact ⟨f, hf, hf0, fun j hj x hjx => by
          by_cases e : j = k
          · subst e; rw [hx] at hjx; cases hjx
          · exact hstep j (by omega) x hjx⟩
      | some x =>
        have hxu : U32 x := u32 (h1.1 x (List.mem_of_getElem? hx))
        obtain ⟨t', n', a1, a2, a3, a4, a5⟩ := mark_ok (hf k).1 (hf k).2 hxu
        refine ⟨fun j => if j ≤ k then f j else (t', n'), fun j => ?_, by simp [hf0], fun j hj y hjy => ?_⟩
        · by_cases hjk : j ≤ k
          · simp only [if_pos hjk]; exact hf j
          · simp only [if_neg hjk]; exact ⟨a1, a2⟩
        · by_cases e : j = k
          · subst e
            rw [hx] at hjy; cases hjy
            simp only [Nat.le_refl, if_true, show ¬ j + 1 ≤ j by omega, if_false]
            exact ⟨a3, a4, a5⟩
          · have := hstep j (by omega) y hjy
            simp only [show j ≤ k by omega, show j + 1 ≤ k by omega, if_true]
            exact this
  obtain ⟨f, hf, hf0, hstep⟩ := hwin l.length
  have hof : ∀ j, ack_Of ((f j).1, ((f j).2 : Int)) ((f j).1, ((f j).2 : Int)) := fun j => ⟨_, rfl, _, rfl, rfl⟩
  have hlk : ∀ j y, ack_Lacks ((f j).1, ((f j).2 : Int)) y (lackN (f j).1 (f j).2 y) := fun j y => by
    rw [← lackN_eq]; exact lacks_ok ⟨by simp only; omega, by have := (hf j).2; simp only; omega⟩ y
  refine ⟨.inl (), ?_, ?_⟩
  · have h9 := loops_count (step := law32_AckWindow_l3 l ask) (fun k => ((k : Int), (f k).1, ((f k).2 : Int))) (min l.length 100) (e := .inl ()) (fun k hk => ?_) ?_
    · rw [hf0] at h9; exact h9
    · unfold law32_AckWindow_l3
      rw [if_pos (by simp; omega)]
      have h100 : decide ((k : Int) < 100) = true := by simp; omega
      simp only [h100]
      unfold law32_AckWindow_j4
      rw [if_pos rfl]
      obtain ⟨x, hx⟩ : ∃ x, l[k]? = some x := ⟨_, List.getElem?_eq_getElem (by omega)⟩
      have hidx : idx l (k : Int) x := ⟨by omega, by simpa using hx⟩
      obtain ⟨m1, m2, m3⟩ := hstep k (by omega) x hx
      refine ⟨_, hof k, _, hlk k ask, _, look_ok (hf k).2 ask, x, fun _ => hidx, _, fun _ => hlk k x, x, fun _ => hidx, _, fun _ => look_ok (hf k).2 x, ?_⟩
      rw [lookN_zero, lookN_zero]
      rw [if_neg (by simp)]
      refine ⟨x, hidx, _, m1, _, hof (k + 1), _, m2, x, fun _ => hidx, _, fun _ => hlk (k + 1) x, ?_⟩
      simp only [lookN_zero, m3]
      rw [if_neg (by simp), w_small (by omega) (by omega)]
      simp
    · unfold law32_AckWindow_l3
      by_cases hc : ((min l.length 100 : Nat) : Int) < (l.length : Int)
      · rw [if_pos (by simpa using hc)]
        have h100 : decide (((min l.length 100 : Nat) : Int) < 100) = false := by simp; omega
        simp only [h100]
        unfold law32_AckWindow_j4
        rw [if_neg (by simp)]
      · rw [if_neg (by simpa using hc)]
        unfold law32_AckWindow_j4
        rw [if_neg (by simp)]
  · refine ⟨_, known_ok, ?_⟩
    rw [if_pos rfl]
    exact ⟨_, ⟨_, rfl, _, rfl, rfl⟩, rfl⟩
end Go.Rel
