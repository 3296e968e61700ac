import Derived.Test.YtgokdchgjpneoaaDoorPlCrc
/-! Plain laws: the document's sums. -/
namespace Go.Rel
open Go Go.Eng Go.Pl
/-- A word's bits. -/
def IsW (l : List Bool) (x : BitVec 32) : Prop := ∀ i, i < 32 → l.getD i false = x.getLsbD i
theorem bit_at (x : BitVec 32) (k : Nat) : x.getLsbD k = decide (x.toNat / 2 ^ k % 2 = 1) := by
  rw [BitVec.getLsbD, Nat.testBit_eq_decide_div_mod_eq]
theorem of_ok (x : BitVec 32) : ∃ l, ref04_Of (B x) l ∧ IsW l x := by
  have key := loops_inv (step := ref04_Of_l2) (s := (B x, 0, List.replicate 32 false)) (fun k (s : Int × Int × List Bool) => s.1 = ((x.toNat / 2 ^ k : Nat) : Int) ∧ s.2.1 = (k : Int) ∧ ∀ j, j < k → s.2.2.getD j false = x.getLsbD j) (fun l => IsW l x) 32 ⟨by simp [B], rfl, fun j h => by omega⟩ ?_ ?_
  · obtain ⟨e, h1, h2⟩ := key; exact ⟨e, ⟨e, h1, rfl⟩, h2⟩
  · rintro k ⟨a, b, l⟩ hk ⟨h1, h2, h3⟩
    simp only at h1 h2 h3
    subst h1 h2
    left
    have hlt : x.toNat / 2 ^ k < 4294967296 := Nat.lt_of_le_of_lt (Nat.div_le_self _ _) x.isLt
    have hb := bit_at x k
    have hd : x.toNat / 2 ^ (k + 1) = x.toNat / 2 ^ k / 2 := by rw [Nat.pow_succ, ← Nat.div_div_eq_div_mul]
    rw [hd]
    generalize x.toNat / 2 ^ k = q at hlt hb ⊢
    have e1 : ((q : Nat) : Int).tdiv 2 = ((q / 2 : Nat) : Int) := by
      rw [Int.tdiv_eq_ediv_of_nonneg (by omega)]; omega
    have e2 : decide (((q : Nat) : Int).tmod 2 = 1) = x.getLsbD k := by
      rw [Int.tmod_eq_emod_of_nonneg (by omega), hb, decide_eq_decide]; omega
    refine ⟨(((q / 2 : Nat) : Int), ((k + 1 : Nat) : Int), putN 32 false l k (x.getLsbD k)), ?_, rfl, rfl, fun j hj => ?_⟩
    · unfold ref04_Of_l2
      simp only
      rw [if_pos (by simp; omega), e1, e2, w_small (by omega) (by omega), w32_small (by omega) (by omega)]
      exact ⟨by omega, by omega, rfl⟩
    · rw [putN_getD (by omega)]
      by_cases h : j = k
      · subst h; rw [if_pos rfl]
      · rw [if_neg h]; exact h3 j (by omega)
  · rintro ⟨a, b, l⟩ ⟨h1, h2, h3⟩
    simp only at h1 h2 h3
    refine ⟨l, ?_, fun i hi => h3 i hi⟩
    unfold ref04_Of_l2
    rw [if_neg (by simp [h2])]
theorem xor_ok {a b : List Bool} {x y : BitVec 32} (ha : IsW a x) (hb : IsW b y) : ∃ r, ref04_Xor a b r ∧ IsW r (x ^^^ y) := by
  have key := loops_inv (step := ref04_Xor_l2 b) (s := (0, a)) (fun k (s : Int × List Bool) => s.1 = (k : Int) ∧ (∀ j, j < k → s.2.getD j false = (x ^^^ y).getLsbD j) ∧ ∀ j, k ≤ j → j < 32 → s.2.getD j false = x.getLsbD j) (fun l => IsW l (x ^^^ y)) 32 ⟨rfl, fun j h => by omega, fun j _ h => ha j h⟩ ?_ ?_
  · obtain ⟨e, h1, h2⟩ := key; exact ⟨e, ⟨e, h1, rfl⟩, h2⟩
  · rintro k ⟨i, l⟩ hk ⟨h1, h2, h3⟩
    simp only at h1 h2 h3
    subst h1
    left
    refine ⟨(((k + 1 : Nat) : Int), putN 32 false l k (!(decide (l.getD k false = b.getD k false)))), ?_, rfl, fun j hj => ?_, fun j h4 h5 => ?_⟩
    · unfold ref04_Xor_l2
      simp only
      rw [if_pos (by simp; omega), w_small (by omega) (by omega)]
      exact ⟨by omega, by omega, by omega, by omega, by omega, by omega, rfl⟩
    · rw [putN_getD (by omega)]
      by_cases h : j = k
      · subst h
        rw [if_pos rfl, h3 j (by omega) hk, hb j hk, BitVec.getLsbD_xor]
        cases x.getLsbD j <;> cases y.getLsbD j <;> rfl
      · rw [if_neg h]; exact h2 j (by omega)
    · rw [putN_getD h5, if_neg (by omega)]; exact h3 j (by omega) h5
  · rintro ⟨i, l⟩ ⟨h1, h2, h3⟩
    simp only at h1 h2 h3
    refine ⟨l, ?_, h2⟩
    unfold ref04_Xor_l2
    rw [if_neg (by simp [h1])]
theorem shr_ok {a : List Bool} {x : BitVec 32} (ha : IsW a x) : ∃ e, Loops ref04_Shift_l5 (0, a) e ∧ IsW (putN 32 false e 31 false) (x >>> 1) := by
  refine loops_inv (step := ref04_Shift_l5) (fun k (s : Int × List Bool) => s.1 = (k : Int) ∧ (∀ j, j < k → s.2.getD j false = x.getLsbD (j + 1)) ∧ ∀ j, k ≤ j → j < 32 → s.2.getD j false = x.getLsbD j) _ 31 ⟨rfl, fun j h => by omega, fun j _ h => ha j h⟩ ?_ ?_
  · rintro k ⟨i, l⟩ hk ⟨h1, h2, h3⟩
    simp only at h1 h2 h3
    subst h1
    left
    refine ⟨(((k + 1 : Nat) : Int), putN 32 false l k (l.getD (k + 1) false)), ?_, rfl, fun j hj => ?_, fun j h4 h5 => ?_⟩
    · unfold ref04_Shift_l5
      simp only
      rw [if_pos (by simp; omega), w_small (by omega) (by omega)]
      exact ⟨by omega, by omega, by omega, by omega, rfl⟩
    · rw [putN_getD (by omega)]
      by_cases h : j = k
      · subst h; rw [if_pos rfl, h3 (j + 1) (by omega) (by omega)]
      · rw [if_neg h]; exact h2 j (by omega)
    · rw [putN_getD h5, if_neg (by omega)]; exact h3 j (by omega) h5
  · rintro ⟨i, l⟩ ⟨h1, h2, h3⟩
    simp only at h1 h2 h3
    refine ⟨l, ?_, fun i hi => ?_⟩
    · unfold ref04_Shift_l5
      rw [if_neg (by simp [h1])]
    · rw [putN_getD hi, BitVec.getLsbD_ushiftRight]
      by_cases h : i = 31
      · subst h; rw [if_pos rfl]; simp
      · rw [if_neg h, h2 i (by omega), Nat.add_comm]
theorem rshift_ok {a : List Bool} {x : BitVec 32} (ha : IsW a x) : ∃ r, ref04_Shift a r ∧ IsW r (sh8 x) := by
  obtain ⟨p, hp, hpw⟩ := of_ok polyB
  have key := loops_inv (step := ref04_Shift_l2 p) (s := (0, a)) (fun k (s : Int × List Bool) => s.1 = (k : Int) ∧ IsW s.2 (itS k x)) (fun l => IsW l (sh8 x)) 8 ⟨rfl, ha⟩ ?_ ?_
  · obtain ⟨e, h1, h2⟩ := key; exact ⟨e, ⟨p, hp, e, h1, rfl⟩, h2⟩
  · rintro k ⟨i, l⟩ hk ⟨h1, h2⟩
    simp only at h1 h2
    subst h1
    left
    obtain ⟨e, he, hw⟩ := shr_ok h2
    obtain ⟨r, hr, hrw⟩ := xor_ok hw hpw
    have h0 := h2 0 (by omega)
    refine ⟨(((k + 1 : Nat) : Int), if (itS k x).getLsbD 0 then r else putN 32 false e 31 false), ?_, rfl, ?_⟩
    · unfold ref04_Shift_l2
      simp only
      rw [if_pos (by simp; omega)]
      refine ⟨e, he, ?_⟩
      unfold ref04_Shift_j4
      simp only [h0]
      cases (itS k x).getLsbD 0 with
      | true =>
        rw [if_pos rfl]
        refine ⟨r, hr, ?_⟩
        unfold ref04_Shift_j3
        simp only
        rw [w_small (by omega) (by omega)]; rfl
      | false =>
        rw [if_neg (by decide)]
        unfold ref04_Shift_j3
        simp only
        rw [w_small (by omega) (by omega)]; rfl
    · show IsW _ (st1 (itS k x))
      rw [st1_eq]
      simp only
      cases (itS k x).getLsbD 0 with
      | true => exact hrw
      | false => exact hw
  · rintro ⟨i, l⟩ ⟨h1, h2⟩
    simp only at h1 h2
    refine ⟨l, ?_, h2⟩
    unfold ref04_Shift_l2
    rw [if_neg (by simp [h1])]
theorem word_ok {a : List Bool} {x : BitVec 32} (ha : IsW a x) : ref04_Word a (B x) := by
  have key := loops_inv (step := ref04_Word_l2 a) (s := (0, 31)) (fun k (s : Int × Int) => s.1 = ((x.toNat / 2 ^ (32 - k) : Nat) : Int) ∧ s.2 = 31 - (k : Int)) (fun e => e = B x) 32 ⟨by have := x.isLt; simp; omega, rfl⟩ ?_ ?_
  · obtain ⟨e, h1, rfl⟩ := key; exact ⟨_, h1, rfl⟩
  · rintro k ⟨n, i⟩ hk ⟨h1, h2⟩
    simp only at h1 h2
    subst h1 h2
    left
    have hi : (31 - (k : Int)).toNat = 31 - k := by omega
    have hb : a.getD (31 - k) false = decide (x.toNat / 2 ^ (31 - k) % 2 = 1) := by rw [ha _ (by omega), bit_at]
    have hd : x.toNat / 2 ^ (32 - k) = x.toNat / 2 ^ (31 - k) / 2 := by
      rw [show 32 - k = 31 - k + 1 by omega, Nat.pow_succ, Nat.div_div_eq_div_mul]
    have hlt : x.toNat / 2 ^ (31 - k) < 4294967296 := Nat.lt_of_le_of_lt (Nat.div_le_self _ _) x.isLt
    rw [show 32 - (k + 1) = 31 - k by omega, hd]
    generalize x.toNat / 2 ^ (31 - k) = q at hb hlt ⊢
    refine ⟨(((q : Nat) : Int), 31 - ((k + 1 : Nat) : Int)), ?_, rfl, rfl⟩
    unfold ref04_Word_l2
    simp only
    rw [if_pos (by simp; omega), hi, hb]
    refine ⟨by omega, by omega, ?_⟩
    by_cases hp : q % 2 = 1
    · rw [decide_eq_true hp, if_pos rfl]
      unfold ref04_Word_j3
      simp only
      rw [w32_small (n := 2 * _) (by omega) (by omega), w32_small (by omega) (by omega), w_small (by omega) (by omega)]
      congr 2 <;> omega
    · rw [decide_eq_false hp, if_neg (by decide)]
      unfold ref04_Word_j3
      simp only
      rw [w32_small (by omega) (by omega), w_small (by omega) (by omega)]
      congr 2 <;> omega
  · rintro ⟨n, i⟩ ⟨h1, h2⟩
    simp only at h1 h2
    refine ⟨n, ?_, ?_⟩
    · unfold ref04_Word_l2
      rw [if_neg (by simp [h2])]
    · rw [h1]; simp [B]
theorem rsum_ok {l : List Int} (hl : Byt l) (hlen : l.length < 4611686018427387904) : ref04_Sum l (B (sumW l)) := by
  obtain ⟨p, hp, hpw⟩ := of_ok (BitVec.allOnes 32)
  have key := loops_inv (step := ref04_Sum_l2 l) (s := (0, p)) (fun k (s : Int × List Bool) => s.1 = (k : Int) ∧ IsW s.2 (sumF (BitVec.allOnes 32) (l.take k))) (fun e => IsW e (sumF (BitVec.allOnes 32) l)) l.length ⟨rfl, by simpa [sumF] using hpw⟩ ?_ ?_
  · obtain ⟨e, h1, h2⟩ := key
    refine ⟨p, hp, e, h1, _, word_ok h2, ?_⟩
    have h3 := B_hi (sumF (BitVec.allOnes 32) l)
    have h4 := B_lo (sumF (BitVec.allOnes 32) l)
    rw [w32_small (by omega) (by omega)]
    unfold sumW B
    rw [BitVec.toNat_not]
    unfold B at h3
    omega
  · rintro k ⟨i, w⟩ hk ⟨h1, h2⟩
    simp only at h1 h2
    subst h1
    left
    have hc := lt_at hl hk
    have hw : IntKind.u32.wrap l[k] = B (bw l[k]) := by rw [w_u32, B_bw hc.1 (by omega)]; omega
    obtain ⟨o, ho, how⟩ := of_ok (bw l[k])
    obtain ⟨r, hr, hrw⟩ := xor_ok h2 how
    obtain ⟨s, hs, hsw⟩ := rshift_ok hrw
    refine ⟨(((k + 1 : Nat) : Int), s), ?_, rfl, ?_⟩
    · unfold ref04_Sum_l2
      simp only
      rw [if_pos (by simp; omega), w_small (by omega) (by omega)]
      exact ⟨l[k], idx_of hk, o, by rw [hw]; exact ho, r, hr, s, hs, rfl⟩
    · rw [List.take_succ_eq_append_getElem hk, sumF_app]; exact hsw
  · rintro ⟨i, w⟩ ⟨h1, h2⟩
    simp only at h1 h2
    rw [List.take_length] at h2
    refine ⟨w, ?_, h2⟩
    unfold ref04_Sum_l2
    rw [if_neg (by simp [h1])]
theorem rbytes_ok (w : BitVec 32) : ref04_Bytes (B w) (sumB w) := by
  have h1 := B_hi w
  have h2 := B_lo w
  unfold ref04_Bytes sumB
  rw [Int.tmod_eq_emod_of_nonneg h2, Int.tdiv_eq_ediv_of_nonneg h2, Int.tdiv_eq_ediv_of_nonneg h2, Int.tdiv_eq_ediv_of_nonneg h2, w32_small (n := B w / 256) (by omega) (by omega), w32_small (n := B w / 65536) (by omega) (by omega), w32_small (n := B w / 16777216) (by omega) (by omega), Int.tmod_eq_emod_of_nonneg (by omega), Int.tmod_eq_emod_of_nonneg (by omega)]
  simp only [w_u8]
  have e : ∀ a b c d a' b' c' d' : Int, a = a' → b = b' → c = c' → d = d' → [a, b, c, d] = [a', b', c', d'] := by intros; subst_vars; rfl
  apply e <;> omega
/-- What stands ahead of its sum. -/
def openB (l : List Int) : List Int × Int := if l.length < 4 then ([], 13) else if l.drop (l.length - 4) = sumB (sumW (l.take (l.length - 4))) then (l.take (l.length - 4), 0) else ([], 11)
theorem openB_ok' {b : List Int} (h : (openB b).2 = 0) : 4 ≤ b.length ∧ (openB b).1 = b.take (b.length - 4) ∧ b.drop (b.length - 4) = sumB (sumW (b.take (b.length - 4))) := by
  unfold openB at h ⊢
  by_cases h1 : b.length < 4
  · rw [if_pos h1] at h; cases h
  · rw [if_neg h1] at h ⊢
    by_cases h2 : b.drop (b.length - 4) = sumB (sumW (b.take (b.length - 4)))
    · rw [if_pos h2]; exact ⟨by omega, rfl, h2⟩
    · rw [if_neg h2] at h; cases h
theorem open_take {l : List Int} (h4 : 4 ≤ l.length) (hlen : l.length < 4611686018427387904) : IntKind.i64.wrap ((l.length : Int) - 4) = ((l.length - 4 : Nat) : Int) ∧ (l.drop (0 : Int).toNat).take ((((l.length - 4 : Nat) : Int) : Int) - 0).toNat = l.take (l.length - 4) ∧ (l.drop (((l.length - 4 : Nat) : Int)).toNat).take (((l.length : Int) : Int) - ((l.length - 4 : Nat) : Int)).toNat = l.drop (l.length - 4) := by
  refine ⟨by rw [w_small (by omega) (by omega)]; omega, ?_, ?_⟩
  · rw [show (0 : Int).toNat = 0 from rfl, List.drop_zero]; congr 1
  · rw [Int.toNat_natCast, List.take_of_length_le]; rw [List.length_drop]; omega
theorem eqN4 {a b : List Int} (ha : a.length = 4) (hb : b.length = 4) : eqN 4 0 a b = decide (b = a) := by
  match a, b, ha, hb with
  | [a0, a1, a2, a3], [b0, b1, b2, b3], _, _ =>
    simp only [eqN, show List.range 4 = [0, 1, 2, 3] from rfl, List.all_cons, List.all_nil, List.getD_cons_zero, List.getD_cons_succ]
    by_cases h0 : a0 = b0 <;> by_cases h1 : a1 = b1 <;> by_cases h2 : a2 = b2 <;> by_cases h3 : a3 = b3 <;> simp [h0, h1, h2, h3, Ne.symm] <;> simp [eq_comm, *]
theorem copen_ok {t : List Int} (ht : IsTab t) {l : List Int} (hl : Byt l) (hlen : l.length < 1073741824) : crc_Open t l (openB l) := by
  unfold crc_Open openB
  by_cases h : l.length < 4
  · rw [if_pos h, if_pos (by rw [w_small (by omega) (by omega)]; simp; omega)]
  · obtain ⟨e1, e2, e3⟩ := open_take (l := l) (by omega) (by omega)
    rw [if_neg h, e1, e2, e3, if_neg (by simp)]
    refine ⟨by omega, by omega, by omega, by omega, _, sum_ok ht (hl.take _) (by rw [List.length_take]; omega), _, bytes_ok _, by omega, by omega, by omega, by rw [List.length_drop]; omega, ?_⟩
    rw [eqN4 rfl (by rw [List.length_drop]; omega)]
    by_cases h2 : l.drop (l.length - 4) = sumB (sumW (l.take (l.length - 4)))
    · rw [if_pos h2, if_neg (by simp [h2])]
      simp only [List.length_nil, List.nil_append, List.length_take]
      exact ⟨by omega, by omega, trivial⟩
    · rw [if_neg h2, if_pos (by simp [h2])]
theorem ropen_ok {l : List Int} (hl : Byt l) (hlen : l.length < 1073741824) : ref04_Open l (openB l) := by
  unfold ref04_Open openB
  by_cases h : l.length < 4
  · rw [if_pos h, if_pos (by simp; omega)]
  · obtain ⟨e1, e2, e3⟩ := open_take (l := l) (by omega) (by omega)
    rw [if_neg h, e1, e2, if_neg (by simp; omega)]
    refine ⟨by omega, by omega, _, rsum_ok (hl.take _) (by rw [List.length_take]; omega), _, rbytes_ok _, ?_⟩
    generalize hs : sumB (sumW (l.take (l.length - 4))) = s
    have hs4 : s.length = 4 := by rw [← hs]; rfl
    have stp : ∀ (k : Nat) (hk : k < 4), ∃ o, ref04_Open_l2 l s (k : Int) o ∧ o = if (l[l.length - 4 + k]'(by omega)) = s[k] then .inl ((k + 1 : Nat) : Int) else .inr (.inr ([], 11)) := by
      intro k hk
      refine ⟨_, ?_, rfl⟩
      unfold ref04_Open_l2
      rw [if_pos (by simp; omega)]
      refine ⟨s[k], idx_of (by omega), l[l.length - 4 + k]'(by omega), ?_, ?_⟩
      · rw [e1, w_small (by omega) (by omega)]
        exact idx_at (k := l.length - 4 + k) (by omega) (List.getElem?_eq_getElem (by omega))
      · by_cases hq : l[l.length - 4 + k]'(by omega) = s[k]
        · rw [if_pos hq, if_neg (by simp [hq]), w_small (by omega) (by omega)]; rfl
        · rw [if_neg hq, if_pos (by simpa using fun e => hq e.symm)]
    by_cases h2 : l.drop (l.length - 4) = s
    · rw [if_pos h2]
      refine ⟨.inl (), ?_, ?_⟩
      · refine loops_count (step := ref04_Open_l2 l s) (fun k => (k : Int)) 4 (fun k hk => ?_) ?_
        · obtain ⟨o, h3, rfl⟩ := stp k hk
          have : l[l.length - 4 + k]'(by omega) = s[k] := by
            have := congrArg (fun q => q[k]?) h2
            simp only [List.getElem?_drop] at this
            rw [List.getElem?_eq_getElem (by omega), List.getElem?_eq_getElem (by omega)] at this
            simpa using this
          rw [if_pos this] at h3; exact h3
        · unfold ref04_Open_l2
          rw [if_neg (by simp)]
      · show ref04_Open_j1 l () _
        unfold ref04_Open_j1
        rw [e1, e2]
        simp only [List.length_nil, List.nil_append, List.length_take]
        exact ⟨by omega, by omega, by omega, by omega, trivial⟩
    · rw [if_neg h2]
      -- the first place where they differ
      obtain ⟨k, hk, hne, hlt⟩ : ∃ k, ∃ (hk : k < 4), l[l.length - 4 + k]'(by omega) ≠ s[k] ∧ ∀ j (hj : j < k), l[l.length - 4 + j]'(by omega) = s[j] := by
        have : ∃ k, ∃ (hk : k < 4), l[l.length - 4 + k]'(by omega) ≠ s[k] := by
          refine Classical.byContradiction fun hno => h2 ?_
          apply List.ext_getElem (by rw [List.length_drop]; omega)
          intro k h3 h4
          rw [List.getElem_drop]
          exact Classical.byContradiction fun h5 => hno ⟨k, by omega, h5⟩
        obtain ⟨k, hk, hne⟩ := this
        induction k using Nat.strongRecOn with
        | _ k ih =>
          by_cases e : ∃ j, ∃ (hj : j < k), l[l.length - 4 + j]'(by omega) ≠ s[j]'(by omega)
          · obtain ⟨j, hj, hjn⟩ := e; exact ih j hj (by omega) hjn
          · exact ⟨k, hk, hne, fun j hj => Classical.byContradiction fun h5 => e ⟨j, hj, h5⟩⟩
      refine ⟨.inr ([], 11), ?_, rfl⟩
      refine loops_count (step := ref04_Open_l2 l s) (fun k => (k : Int)) k (fun j hj => ?_) ?_
      · obtain ⟨o, h3, rfl⟩ := stp j (by omega)
        rw [if_pos (hlt j hj)] at h3; exact h3
      · obtain ⟨o, h3, rfl⟩ := stp k hk
        rw [if_neg hne] at h3; exact h3
end Go.Rel
