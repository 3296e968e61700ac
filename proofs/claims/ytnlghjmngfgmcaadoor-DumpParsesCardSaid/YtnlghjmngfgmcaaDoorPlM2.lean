import Derived.Test.YtnlghjmngfgmcaaDoorURel
import Derived.Test.YtnlghjmngfgmcaaDoorPlM1
/-! Plain laws: stuffing. -/
namespace Go.Rel
open Go Go.Eng Go.Pl
/-- The blocks of bytes: what a block has so far, what is left; did a full block end just now? -/
def cb : List Int → List Int → Bool → List (List Int)
  | now, [], e => if e then [] else [now]
  | now, c :: l, _ => if c = 0 then now :: cb [] l false else if now.length + 1 = 254 then (now ++ [c]) :: cb [] l true else cb (now ++ [c]) l false
def enc1 (x : List Int) : List Int := ((x.length : Int) + 1) :: x
def encB (l : List Int) : List Int := ((cb [] l false).map enc1).flatten
theorem cb_len : ∀ (l now : List Int), now.length < 254 → now.length + l.length ≤ 254 → ((cb now l false).map enc1).flatten.length = now.length + l.length + 1
  | [], now, _, _ => by simp [cb, enc1]
  | c :: l, now, h1, h2 => by
    unfold cb
    simp only [List.length_cons] at h2 ⊢
    by_cases h0 : c = 0
    · rw [if_pos h0, List.map_cons, List.flatten_cons, List.length_append, cb_len l [] (by simp) (by simp; omega)]
      simp [enc1]; omega
    · rw [if_neg h0]
      by_cases h3 : now.length + 1 = 254
      · rw [if_pos h3]
        have : l = [] := List.eq_nil_of_length_eq_zero (by omega)
        subst this
        simp [cb, enc1]
      · rw [if_neg h3, cb_len l (now ++ [c]) (by simp; omega) (by simp; omega)]
        simp; omega
theorem cb_all : ∀ (l now : List Int) (e : Bool), now.length < 254 → ∀ x ∈ cb now l e, x.length ≤ 254
  | [], now, e, h, x, hx => by
    unfold cb at hx
    split at hx
    · cases hx
    · simp at hx; subst hx; omega
  | c :: l, now, e, h, x, hx => by
    unfold cb at hx
    split at hx
    · rcases List.mem_cons.1 hx with rfl | hx
      · omega
      · exact cb_all l [] _ (by simp) x hx
    · split at hx
      · rcases List.mem_cons.1 hx with rfl | hx
        · simp; omega
        · exact cb_all l [] _ (by simp) x hx
      · exact cb_all l _ _ (by simp; omega) x hx
theorem cb_sum : ∀ (l now : List Int) (e : Bool), ((cb now l e).map List.length).sum ≤ now.length + l.length ∧ (cb now l e).length ≤ l.length + 1
  | [], now, e => by unfold cb; split <;> simp
  | c :: l, now, e => by
    unfold cb
    split
    · have := cb_sum l [] false; simp at this ⊢; omega
    · split
      · have := cb_sum l [] true; simp at this ⊢; omega
      · have := cb_sum l (now ++ [c]) false; simp at this ⊢; omega

/-- A run of bytes that aren't 0. -/
theorem cb_run : ∀ (p l now : List Int) (e : Bool), (∀ x ∈ p, x ≠ 0) → now.length + p.length < 254 → p ≠ [] → cb now (p ++ l) e = cb (now ++ p) l false
  | [], _, _, _, _, _, h => absurd rfl h
  | c :: p, l, now, e, h0, h1, _ => by
    simp only [List.length_cons] at h1
    rw [List.cons_append]; unfold cb
    rw [if_neg (h0 c List.mem_cons_self), if_neg (by omega)]
    by_cases hp : p = []
    · subst hp
      simp only [List.nil_append]
      rw [cb.eq_def]
    · rw [cb_run p l (now ++ [c]) false (fun x hx => h0 x (List.mem_cons_of_mem _ hx)) (by simp; omega) hp]
      simp only [List.append_assoc, List.singleton_append]
      rw [cb.eq_def]
theorem cb_e (l : List Int) (h : l ≠ []) (e e' : Bool) : cb [] l e = cb [] l e' := by
  cases l with
  | nil => exact absurd rfl h
  | cons c l => simp only [cb]
theorem cb_zero (p l : List Int) (h0 : ∀ x ∈ p, x ≠ 0) (h1 : p.length < 254) (e : Bool) : cb [] (p ++ 0 :: l) e = p :: cb [] l false := by
  by_cases hp : p = []
  · subst hp; simp [cb]
  · rw [cb_run p (0 :: l) [] e h0 (by simpa using h1) hp]; simp [cb]
theorem cb_end (p : List Int) (h0 : ∀ x ∈ p, x ≠ 0) (h1 : p.length < 254) : cb [] p false = [p] := by
  by_cases hp : p = []
  · subst hp; simp [cb]
  · have := cb_run p [] [] false h0 (by simpa using h1) hp
    rw [List.append_nil] at this
    rw [this]; simp [cb]
theorem cb_full (p l : List Int) (h0 : ∀ x ∈ p, x ≠ 0) (h1 : p.length = 254) (e : Bool) : cb [] (p ++ l) e = p :: cb [] l true := by
  obtain ⟨q, c, rfl⟩ : ∃ q c, p = q ++ [c] := ⟨p.dropLast, p.getLast (by intro h; subst h; simp at h1), (List.dropLast_concat_getLast _).symm⟩
  simp only [List.length_append, List.length_cons, List.length_nil] at h1
  rw [List.append_assoc, cb_run q ([c] ++ l) [] e (fun x hx => h0 x (List.mem_append.2 (.inl hx))) (by simp; omega) (by intro h; subst h; simp at h1)]
  simp only [List.singleton_append, List.nil_append]
  rw [cb.eq_def]
  simp only
  rw [if_neg (h0 c (by simp)), if_pos (by omega)]

/-- Where the first 0 stands. -/
def fz (l : List Int) : Nat := l.findIdx (fun c => decide (c = 0))
theorem fz_before {l : List Int} {k : Nat} (h : k < fz l) (hk : k < l.length) : l[k] ≠ 0 := by
  have := List.not_of_lt_findIdx h
  simpa using this
theorem fz_at {l : List Int} (h : fz l < l.length) : l[fz l] = 0 := by
  have := List.findIdx_getElem (p := fun c : Int => decide (c = 0)) (xs := l) (w := h)
  unfold fz
  simpa using this
theorem fz_le (l : List Int) : fz l ≤ l.length := List.findIdx_le_length
theorem take_all (l : List Int) (b : Int) (h : b = (l.length : Int)) : (l.drop (0 : Int).toNat).take ((b : Int) - 0).toNat = l := by subst h; simp

theorem block_ok {l : List Int} (hlen : l.length < 4611686018427387904) : cobs_block l (if fz l < min l.length 254 then ((fz l : Int), (fz l : Int) + 1, true) else if 254 ≤ l.length then (254, 254, decide (254 < l.length)) else ((l.length : Int), (l.length : Int), false)) := by
  have hd : (l.drop (0 : Int).toNat).take (((min (l.length : Int) 254) : Int) - 0).toNat = l.take (min l.length 254) := by
    rw [show (0 : Int).toNat = 0 from rfl, List.drop_zero]; congr 1; omega
  refine ⟨by omega, by omega, ?_⟩
  have step : ∀ k, k < min l.length 254 → k < fz l → cobs_block_l2 l (k : Int) (.inl ((k + 1 : Nat) : Int)) := by
    intro k hk hf
    unfold cobs_block_l2
    rw [hd, if_pos (by simp; omega)]
    refine ⟨l[k]'(by omega), idx_at rfl (by rw [List.getElem?_take, if_pos hk]; exact List.getElem?_eq_getElem (by omega)), ?_⟩
    rw [if_neg (by simpa using fz_before hf (by omega)), w_small (by omega) (by omega)]
    rfl
  by_cases hz : fz l < min l.length 254
  · rw [if_pos hz]
    refine ⟨.inr ((fz l : Int), (fz l : Int) + 1, true), ?_, rfl⟩
    refine loops_count (fun k => (k : Int)) (fz l) (fun k hk => step k (by omega) hk) ?_
    unfold cobs_block_l2
    rw [hd, if_pos (by simp; omega)]
    refine ⟨l[fz l]'(by omega), idx_at rfl (by rw [List.getElem?_take, if_pos hz]; exact List.getElem?_eq_getElem (by omega)), ?_⟩
    rw [if_pos (by simpa using fz_at (by omega)), w_small (by omega) (by omega)]
  · rw [if_neg hz]
    refine ⟨.inl (), ?_, ?_⟩
    · refine loops_count (fun k => (k : Int)) (min l.length 254) (fun k hk => step k hk (by omega)) ?_
      unfold cobs_block_l2
      rw [hd, if_neg (by simp)]
    · show cobs_block_j1 l () _
      unfold cobs_block_j1
      by_cases h2 : 254 ≤ l.length
      · rw [if_pos h2, if_pos (by simp; omega)]
        congr 2
        rw [decide_eq_decide]; omega
      · rw [if_neg h2, if_neg (by simp; omega)]
theorem blocks_ok {l : List Int} (hlen : l.length < 1073741824) : Itr (cobs_Blocks_1 l) (cb [] l false) := by
  intro S Y s s' hr
  refine ⟨(s', ()), ?_, rfl⟩
  have key : ∀ (m : Nat) (l : List Int) (s : S), l.length < m → l.length < 1073741824 → Run Y (cb [] l false) s s' → Loops (cobs_Blocks_1_l1 S Y) (s, l, true) (s', ()) := by
    intro m
    induction m with
    | zero => intro l s h; omega
    | succ m ih =>
      intro l s hm hlen hr
      -- one block
      have one : ∀ (n all : Nat) (next : Bool), cobs_block l ((n : Int), (all : Int), next) → n ≤ l.length → all ≤ l.length → ∀ rest, cb [] l false = l.take n :: rest → (next = true → rest = cb [] (l.drop all) false ∧ 0 < all) → (next = false → rest = []) → Loops (cobs_Blocks_1_l1 S Y) (s, l, true) (s', ()) := by
        intro n all next hb hn ha rest hcb hnx hend
        rw [hcb] at hr
        have e1 : (l.drop (0 : Int).toNat).take (((n : Int) : Int) - 0).toNat = l.take n := by
          rw [show (0 : Int).toNat = 0 from rfl, List.drop_zero]; congr 1
        have e2 : (l.drop (all : Int).toNat).take (((l.length : Int) : Int) - (all : Int)).toNat = l.drop all := by
          rw [Int.toNat_natCast, List.take_of_length_le (by rw [List.length_drop]; omega)]
        have hlt : (l.take n).length ≤ l.length := by rw [List.length_take]; omega
        obtain ⟨b, s1, hy, h1⟩ : ∃ b s1, Y (l.take n) s (b, s1) ∧ ((b = true ∧ Run Y rest s1 s') ∨ (b = false ∧ s1 = s')) := by
          cases hr with
          | go h h' => exact ⟨true, _, h, .inl ⟨rfl, h'⟩⟩
          | stop h => exact ⟨false, _, h, .inr ⟨rfl, rfl⟩⟩
        rcases h1 with ⟨rfl, h1⟩ | ⟨rfl, rfl⟩
        · refine .next (s' := (s1, l.drop all, next)) ?_ ?_
          · unfold cobs_Blocks_1_l1
            simp only
            rw [if_pos trivial]
            refine ⟨_, hb, ?_⟩
            simp only
            rw [e1, e2]
            refine ⟨by omega, by omega, by omega, by omega, by simp only [List.length_nil]; omega, by simp only [List.length_nil]; omega, true, s1, by simpa using hy, ?_⟩
            rw [if_neg (by decide)]
            exact ⟨by omega, by omega, by omega, rfl⟩
          · cases hnext : next with
            | true =>
              obtain ⟨hr1, hpos⟩ := hnx hnext
              subst hr1
              exact ih (l.drop all) s1 (by rw [List.length_drop]; omega) (by rw [List.length_drop]; omega) h1
            | false =>
              rw [hend hnext] at h1
              cases h1
              refine .done ?_
              unfold cobs_Blocks_1_l1
              rw [if_neg (ne_true rfl)]
        · refine .done ?_
          unfold cobs_Blocks_1_l1
          simp only
          rw [if_pos trivial]
          refine ⟨_, hb, ?_⟩
          simp only
          rw [e1, e2]
          refine ⟨by omega, by omega, by omega, by omega, by simp only [List.length_nil]; omega, by simp only [List.length_nil]; omega, false, s1, by simpa using hy, ?_⟩
          rw [if_pos (by decide)]
      have hb := block_ok (l := l) (by omega)
      by_cases hz : fz l < min l.length 254
      · rw [if_pos hz] at hb
        refine one (fz l) (fz l + 1) true (by simpa using hb) (by omega) (by omega) (cb [] (l.drop (fz l + 1)) false) ?_ (fun _ => ⟨rfl, by omega⟩) (fun h => nomatch h)
        have e : l = l.take (fz l) ++ 0 :: l.drop (fz l + 1) := by
          have h3 : l.drop (fz l) = 0 :: l.drop (fz l + 1) := by
            rw [List.drop_eq_getElem_cons (show fz l < l.length by omega), fz_at (by omega)]
          rw [← h3, List.take_append_drop]
        conv => lhs; rw [e]
        refine cb_zero _ _ (fun x hx => ?_) (by rw [List.length_take]; omega) false
        obtain ⟨k, hk, rfl⟩ := List.getElem_of_mem hx
        rw [List.length_take] at hk
        rw [List.getElem_take]
        exact fz_before (by omega) (by omega)
      · rw [if_neg hz] at hb
        have h0 : ∀ x ∈ l.take 254, x ≠ 0 := by
          intro x hx
          obtain ⟨k, hk, rfl⟩ := List.getElem_of_mem hx
          rw [List.length_take] at hk
          rw [List.getElem_take]
          exact fz_before (by omega) (by omega)
        by_cases h2 : 254 ≤ l.length
        · rw [if_pos h2] at hb
          have e : l = l.take 254 ++ l.drop 254 := (List.take_append_drop _ _).symm
          refine one 254 254 (decide (254 < l.length)) (by simpa using hb) h2 h2 (cb [] (l.drop 254) true) ?_ (fun h => ⟨?_, by omega⟩) (fun h => ?_)
          · conv => lhs; rw [e]
            exact cb_full _ _ h0 (by rw [List.length_take]; omega) false
          · refine cb_e _ (fun h3 => ?_) _ _
            have := congrArg List.length h3
            rw [List.length_drop] at this
            simp at h this; omega
          · have : l.drop 254 = [] := List.drop_eq_nil_of_le (by simpa using h)
            rw [this]; rfl
        · rw [if_neg h2] at hb
          rw [List.take_of_length_le (by omega)] at h0
          refine one l.length l.length false (by simpa using hb) (Nat.le_refl _) (Nat.le_refl _) [] ?_ (fun h => nomatch h) (fun _ => rfl)
          rw [List.take_length]
          exact cb_end l h0 (by omega)
  exact key _ l s (Nat.lt_succ_self _) hlen hr
theorem flat_len : ∀ (xs : List (List Int)), (xs.map enc1).flatten.length = (xs.map List.length).sum + xs.length
  | [] => rfl
  | x :: xs => by
    have := flat_len xs
    simp only [List.map_cons, List.flatten_cons, List.length_append, List.sum_cons, List.length_cons, this, enc1]; omega
theorem encode_ok {l : List Int} (hlen : l.length < 1073741824) : cobs_Encode l (encB l) := by
  refine ⟨_, rfl, .inl (encB l), (), ?_, rfl⟩
  refine blocks_ok hlen _ _ _ _ (run_yof ?_)
  have h2 := runB_fold (B := cobs_Encode_l1) (fun s x => s ++ enc1 x) (cb [] l false) [] ?_
  · have e : ∀ (xs : List (List Int)) (s : List Int), xs.foldl (fun s x => s ++ enc1 x) s = s ++ (xs.map enc1).flatten := by
      intro xs
      induction xs with
      | nil => intro s; simp
      | cons x xs ih => intro s; rw [List.foldl_cons, ih]; simp
    rw [e] at h2
    simpa [encB] using h2
  · intro p x q hpq
    have e : ∀ (xs : List (List Int)) (s : List Int), xs.foldl (fun s x => s ++ enc1 x) s = s ++ (xs.map enc1).flatten := by
      intro xs
      induction xs with
      | nil => intro s; simp
      | cons x xs ih => intro s; rw [List.foldl_cons, ih]; simp
    have hx : x.length ≤ 254 := cb_all l [] false (by simp) x (by rw [hpq]; simp)
    have hs := cb_sum l [] false
    rw [hpq] at hs
    simp only [List.map_append, List.map_cons, List.sum_append, List.sum_cons, List.length_append, List.length_cons, List.length_nil] at hs
    have hp : ((p.map enc1).flatten).length ≤ 2147483648 := by rw [flat_len]; omega
    rw [e]
    simp only [List.nil_append]
    unfold cobs_Encode_l1
    have e1 : IntKind.u8.wrap (IntKind.i64.wrap ((x.length : Int) + 1)) = (x.length : Int) + 1 := by rw [w_small (by omega) (by omega), w_u8]; omega
    rw [e1]
    simp only [List.length_append, List.length_cons, List.length_nil]
    refine ⟨by omega, by omega, by omega, by omega, ?_⟩
    simp [enc1]
end Go.Rel
/-! Plain laws: the document's sums. -/
namespace Go.Rel
open Go Go.Eng Go.Pl
/-- A word's bits. -/
def IsW (l : List Bool) (x : BitVec 32) : Prop := ∀ i, i < 32 → l.getD i false = x.getLsbD i
theorem bit_at (x : BitVec 32) (k : Nat) : x.getLsbD k = decide (x.toNat / 2 ^ k % 2 = 1) := by
  rw [BitVec.getLsbD, Nat.testBit_eq_decide_div_mod_eq]
theorem of_ok (x : BitVec 32) : ∃ l, ref04_Of (B x) l ∧ IsW l x := by
  have key := loops_inv (step := ref04_Of_l2) (s := (B x, 0, List.replicate 32 false)) (fun k (s : Int × Int × List Bool) => s.1 = ((x.toNat / 2 ^ k : Nat) : Int) ∧ s.2.1 = (k : Int) ∧ ∀ j, j < k → s.2.2.getD j false = x.getLsbD j) (fun l => IsW l x) 32 ⟨by simp [B], rfl, fun j h => by omega⟩ ?_ ?_
  · obtain ⟨e, h1, h2⟩ := key; exact ⟨e, ⟨e, h1, rfl⟩, h2⟩
  · rintro k ⟨a, b, l⟩ hk ⟨h1, h2, h3⟩
    simp only at h1 h2 h3
    subst h1 h2
    left
    have hlt : x.toNat / 2 ^ k < 4294967296 := Nat.lt_of_le_of_lt (Nat.div_le_self _ _) x.isLt
    have hb := bit_at x k
    have hd : x.toNat / 2 ^ (k + 1) = x.toNat / 2 ^ k / 2 := by rw [Nat.pow_succ, ← Nat.div_div_eq_div_mul]
    rw [hd]
    generalize x.toNat / 2 ^ k = q at hlt hb ⊢
    have e1 : ((q : Nat) : Int).tdiv 2 = ((q / 2 : Nat) : Int) := by
      rw [Int.tdiv_eq_ediv_of_nonneg (by omega)]; omega
    have e2 : decide (((q : Nat) : Int).tmod 2 = 1) = x.getLsbD k := by
      rw [Int.tmod_eq_emod_of_nonneg (by omega), hb, decide_eq_decide]; omega
    refine ⟨(((q / 2 : Nat) : Int), ((k + 1 : Nat) : Int), putN 32 false l k (x.getLsbD k)), ?_, rfl, rfl, fun j hj => ?_⟩
    · unfold ref04_Of_l2
      simp only
      rw [if_pos (by simp; omega), e1, e2, w_small (by omega) (by omega), w32_small (by omega) (by omega)]
      exact ⟨by omega, by omega, rfl⟩
    · rw [putN_getD (by omega)]
      by_cases h : j = k
      · subst h; rw [if_pos rfl]
      · rw [if_neg h]; exact h3 j (by omega)
  · rintro ⟨a, b, l⟩ ⟨h1, h2, h3⟩
    simp only at h1 h2 h3
    refine ⟨l, ?_, fun i hi => h3 i hi⟩
    unfold ref04_Of_l2
    rw [if_neg (by simp [h2])]
theorem xor_ok {a b : List Bool} {x y : BitVec 32} (ha : IsW a x) (hb : IsW b y) : ∃ r, ref04_Xor a b r ∧ IsW r (x ^^^ y) := by
  have key := loops_inv (step := ref04_Xor_l2 b) (s := (0, a)) (fun k (s : Int × List Bool) => s.1 = (k : Int) ∧ (∀ j, j < k → s.2.getD j false = (x ^^^ y).getLsbD j) ∧ ∀ j, k ≤ j → j < 32 → s.2.getD j false = x.getLsbD j) (fun l => IsW l (x ^^^ y)) 32 ⟨rfl, fun j h => by omega, fun j _ h => ha j h⟩ ?_ ?_
  · obtain ⟨e, h1, h2⟩ := key; exact ⟨e, ⟨e, h1, rfl⟩, h2⟩
  · rintro k ⟨i, l⟩ hk ⟨h1, h2, h3⟩
    simp only at h1 h2 h3
    subst h1
    left
    refine ⟨(((k + 1 : Nat) : Int), putN 32 false l k (!(decide (l.getD k false = b.getD k false)))), ?_, rfl, fun j hj => ?_, fun j h4 h5 => ?_⟩
    · unfold ref04_Xor_l2
      simp only
      rw [if_pos (by simp; omega), w_small (by omega) (by omega)]
      exact ⟨by omega, by omega, by omega, by omega, by omega, by omega, rfl⟩
    · rw [putN_getD (by omega)]
      by_cases h : j = k
      · subst h
        rw [if_pos rfl, h3 j (by omega) hk, hb j hk, BitVec.getLsbD_xor]
        cases x.getLsbD j <;> cases y.getLsbD j <;> rfl
      · rw [if_neg h]; exact h2 j (by omega)
    · rw [putN_getD h5, if_neg (by omega)]; exact h3 j (by omega) h5
  · rintro ⟨i, l⟩ ⟨h1, h2, h3⟩
    simp only at h1 h2 h3
    refine ⟨l, ?_, h2⟩
    unfold ref04_Xor_l2
    rw [if_neg (by simp [h1])]
theorem shr_ok {a : List Bool} {x : BitVec 32} (ha : IsW a x) : ∃ e, Loops ref04_Shift_l5 (0, a) e ∧ IsW (putN 32 false e 31 false) (x >>> 1) := by
  refine loops_inv (step := ref04_Shift_l5) (fun k (s : Int × List Bool) => s.1 = (k : Int) ∧ (∀ j, j < k → s.2.getD j false = x.getLsbD (j + 1)) ∧ ∀ j, k ≤ j → j < 32 → s.2.getD j false = x.getLsbD j) _ 31 ⟨rfl, fun j h => by omega, fun j _ h => ha j h⟩ ?_ ?_
  · rintro k ⟨i, l⟩ hk ⟨h1, h2, h3⟩
    simp only at h1 h2 h3
    subst h1
    left
    refine ⟨(((k + 1 : Nat) : Int), putN 32 false l k (l.getD (k + 1) false)), ?_, rfl, fun j hj => ?_, fun j h4 h5 => ?_⟩
    · unfold ref04_Shift_l5
      simp only
      rw [if_pos (by simp; omega), w_small (by omega) (by omega)]
      exact ⟨by omega, by omega, by omega, by omega, rfl⟩
    · rw [putN_getD (by omega)]
      by_cases h : j = k
      · subst h; rw [if_pos rfl, h3 (j + 1) (by omega) (by omega)]
      · rw [if_neg h]; exact h2 j (by omega)
    · rw [putN_getD h5, if_neg (by omega)]; exact h3 j (by omega) h5
  · rintro ⟨i, l⟩ ⟨h1, h2, h3⟩
    simp only at h1 h2 h3
    refine ⟨l, ?_, fun i hi => ?_⟩
    · unfold ref04_Shift_l5
      rw [if_neg (by simp [h1])]
    · rw [putN_getD hi, BitVec.getLsbD_ushiftRight]
      by_cases h : i = 31
      · subst h; rw [if_pos rfl]; simp
      · rw [if_neg h, h2 i (by omega), Nat.add_comm]
theorem rshift_ok {a : List Bool} {x : BitVec 32} (ha : IsW a x) : ∃ r, ref04_Shift a r ∧ IsW r (sh8 x) := by
  obtain ⟨p, hp, hpw⟩ := of_ok polyB
  have key := loops_inv (step := ref04_Shift_l2 p) (s := (0, a)) (fun k (s : Int × List Bool) => s.1 = (k : Int) ∧ IsW s.2 (itS k x)) (fun l => IsW l (sh8 x)) 8 ⟨rfl, ha⟩ ?_ ?_
  · obtain ⟨e, h1, h2⟩ := key; exact ⟨e, ⟨p, hp, e, h1, rfl⟩, h2⟩
  · rintro k ⟨i, l⟩ hk ⟨h1, h2⟩
    simp only at h1 h2
    subst h1
    left
    obtain ⟨e, he, hw⟩ := shr_ok h2
    obtain ⟨r, hr, hrw⟩ := xor_ok hw hpw
    have h0 := h2 0 (by omega)
    refine ⟨(((k + 1 : Nat) : Int), if (itS k x).getLsbD 0 then r else putN 32 false e 31 false), ?_, rfl, ?_⟩
    · unfold ref04_Shift_l2
      simp only
      rw [if_pos (by simp; omega)]
      refine ⟨e, he, ?_⟩
      unfold ref04_Shift_j4
      simp only [h0]
      cases (itS k x).getLsbD 0 with
      | true =>
        rw [if_pos rfl]
        refine ⟨r, hr, ?_⟩
        unfold ref04_Shift_j3
        simp only
        rw [w_small (by omega) (by omega)]; rfl
      | false =>
        rw [if_neg (by decide)]
        unfold ref04_Shift_j3
        simp only
        rw [w_small (by omega) (by omega)]; rfl
    · show IsW _ (st1 (itS k x))
      rw [st1_eq]
      simp only
      cases (itS k x).getLsbD 0 with
      | true => exact hrw
      | false => exact hw
  · rintro ⟨i, l⟩ ⟨h1, h2⟩
    simp only at h1 h2
    refine ⟨l, ?_, h2⟩
    unfold ref04_Shift_l2
    rw [if_neg (by simp [h1])]
theorem word_ok {a : List Bool} {x : BitVec 32} (ha : IsW a x) : ref04_Word a (B x) := by
  have key := loops_inv (step := ref04_Word_l2 a) (s := (0, 31)) (fun k (s : Int × Int) => s.1 = ((x.toNat / 2 ^ (32 - k) : Nat) : Int) ∧ s.2 = 31 - (k : Int)) (fun e => e = B x) 32 ⟨by have := x.isLt; simp; omega, rfl⟩ ?_ ?_
  · obtain ⟨e, h1, rfl⟩ := key; exact ⟨_, h1, rfl⟩
  · rintro k ⟨n, i⟩ hk ⟨h1, h2⟩
    simp only at h1 h2
    subst h1 h2
    left
    have hi : (31 - (k : Int)).toNat = 31 - k := by omega
    have hb : a.getD (31 - k) false = decide (x.toNat / 2 ^ (31 - k) % 2 = 1) := by rw [ha _ (by omega), bit_at]
    have hd : x.toNat / 2 ^ (32 - k) = x.toNat / 2 ^ (31 - k) / 2 := by
      rw [show 32 - k = 31 - k + 1 by omega, Nat.pow_succ, Nat.div_div_eq_div_mul]
    have hlt : x.toNat / 2 ^ (31 - k) < 4294967296 := Nat.lt_of_le_of_lt (Nat.div_le_self _ _) x.isLt
    rw [show 32 - (k + 1) = 31 - k by omega, hd]
    generalize x.toNat / 2 ^ (31 - k) = q at hb hlt ⊢
    refine ⟨(((q : Nat) : Int), 31 - ((k + 1 : Nat) : Int)), ?_, rfl, rfl⟩
    unfold ref04_Word_l2
    simp only
    rw [if_pos (by simp; omega), hi, hb]
    refine ⟨by omega, by omega, ?_⟩
    by_cases hp : q % 2 = 1
    · rw [decide_eq_true hp, if_pos rfl]
      unfold ref04_Word_j3
      simp only
      rw [w32_small (n := 2 * _) (by omega) (by omega), w32_small (by omega) (by omega), w_small (by omega) (by omega)]
      congr 2 <;> omega
    · rw [decide_eq_false hp, if_neg (by decide)]
      unfold ref04_Word_j3
      simp only
      rw [w32_small (by omega) (by omega), w_small (by omega) (by omega)]
      congr 2 <;> omega
  · rintro ⟨n, i⟩ ⟨h1, h2⟩
    simp only at h1 h2
    refine ⟨n, ?_, ?_⟩
    · unfold ref04_Word_l2
      rw [if_neg (by simp [h2])]
    · rw [h1]; simp [B]
theorem rsum_ok {l : List Int} (hl : Byt l) (hlen : l.length < 4611686018427387904) : ref04_Sum l (B (sumW l)) := by
  obtain ⟨p, hp, hpw⟩ := of_ok (BitVec.allOnes 32)
  have key := loops_inv (step := ref04_Sum_l2 l) (s := (0, p)) (fun k (s : Int × List Bool) => s.1 = (k : Int) ∧ IsW s.2 (sumF (BitVec.allOnes 32) (l.take k))) (fun e => IsW e (sumF (BitVec.allOnes 32) l)) l.length ⟨rfl, by simpa [sumF] using hpw⟩ ?_ ?_
  · obtain ⟨e, h1, h2⟩ := key
    refine ⟨p, hp, e, h1, _, word_ok h2, ?_⟩
    have h3 := B_hi (sumF (BitVec.allOnes 32) l)
    have h4 := B_lo (sumF (BitVec.allOnes 32) l)
    rw [w32_small (by omega) (by omega)]
    unfold sumW B
    rw [BitVec.toNat_not]
    unfold B at h3
    omega
  · rintro k ⟨i, w⟩ hk ⟨h1, h2⟩
    simp only at h1 h2
    subst h1
    left
    have hc := lt_at hl hk
    have hw : IntKind.u32.wrap l[k] = B (bw l[k]) := by rw [w_u32, B_bw hc.1 (by omega)]; omega
    obtain ⟨o, ho, how⟩ := of_ok (bw l[k])
    obtain ⟨r, hr, hrw⟩ := xor_ok h2 how
    obtain ⟨s, hs, hsw⟩ := rshift_ok hrw
    refine ⟨(((k + 1 : Nat) : Int), s), ?_, rfl, ?_⟩
    · unfold ref04_Sum_l2
      simp only
      rw [if_pos (by simp; omega), w_small (by omega) (by omega)]
      exact ⟨l[k], idx_of hk, o, by rw [hw]; exact ho, r, hr, s, hs, rfl⟩
    · rw [List.take_succ_eq_append_getElem hk, sumF_app]; exact hsw
  · rintro ⟨i, w⟩ ⟨h1, h2⟩
    simp only at h1 h2
    rw [List.take_length] at h2
    refine ⟨w, ?_, h2⟩
    unfold ref04_Sum_l2
    rw [if_neg (by simp [h1])]
theorem rbytes_ok (w : BitVec 32) : ref04_Bytes (B w) (sumB w) := by
  have h1 := B_hi w
  have h2 := B_lo w
  unfold ref04_Bytes sumB
  rw [Int.tmod_eq_emod_of_nonneg h2, Int.tdiv_eq_ediv_of_nonneg h2, Int.tdiv_eq_ediv_of_nonneg h2, Int.tdiv_eq_ediv_of_nonneg h2, w32_small (n := B w / 256) (by omega) (by omega), w32_small (n := B w / 65536) (by omega) (by omega), w32_small (n := B w / 16777216) (by omega) (by omega), Int.tmod_eq_emod_of_nonneg (by omega), Int.tmod_eq_emod_of_nonneg (by omega)]
  simp only [w_u8]
  have e : ∀ a b c d a' b' c' d' : Int, a = a' → b = b' → c = c' → d = d' → [a, b, c, d] = [a', b', c', d'] := by intros; subst_vars; rfl
  apply e <;> omega
/-- What stands ahead of its sum. -/
def openB (l : List Int) : List Int × Int := if l.length < 4 then ([], 13) else if l.drop (l.length - 4) = sumB (sumW (l.take (l.length - 4))) then (l.take (l.length - 4), 0) else ([], 11)
theorem openB_ok' {b : List Int} (h : (openB b).2 = 0) : 4 ≤ b.length ∧ (openB b).1 = b.take (b.length - 4) ∧ b.drop (b.length - 4) = sumB (sumW (b.take (b.length - 4))) := by
  unfold openB at h ⊢
  by_cases h1 : b.length < 4
  · rw [if_pos h1] at h; cases h
  · rw [if_neg h1] at h ⊢
    by_cases h2 : b.drop (b.length - 4) = sumB (sumW (b.take (b.length - 4)))
    · rw [if_pos h2]; exact ⟨by omega, rfl, h2⟩
    · rw [if_neg h2] at h; cases h
theorem open_take {l : List Int} (h4 : 4 ≤ l.length) (hlen : l.length < 4611686018427387904) : IntKind.i64.wrap ((l.length : Int) - 4) = ((l.length - 4 : Nat) : Int) ∧ (l.drop (0 : Int).toNat).take ((((l.length - 4 : Nat) : Int) : Int) - 0).toNat = l.take (l.length - 4) ∧ (l.drop (((l.length - 4 : Nat) : Int)).toNat).take (((l.length : Int) : Int) - ((l.length - 4 : Nat) : Int)).toNat = l.drop (l.length - 4) := by
  refine ⟨by rw [w_small (by omega) (by omega)]; omega, ?_, ?_⟩
  · rw [show (0 : Int).toNat = 0 from rfl, List.drop_zero]; congr 1
  · rw [Int.toNat_natCast, List.take_of_length_le]; rw [List.length_drop]; omega
theorem eqN4 {a b : List Int} (ha : a.length = 4) (hb : b.length = 4) : eqN 4 0 a b = decide (b = a) := by
  match a, b, ha, hb with
  | [a0, a1, a2, a3], [b0, b1, b2, b3], _, _ =>
    simp only [eqN, show List.range 4 = [0, 1, 2, 3] from rfl, List.all_cons, List.all_nil, List.getD_cons_zero, List.getD_cons_succ]
    by_cases h0 : a0 = b0 <;> by_cases h1 : a1 = b1 <;> by_cases h2 : a2 = b2 <;> by_cases h3 : a3 = b3 <;> simp [h0, h1, h2, h3, Ne.symm] <;> simp [eq_comm, *]
theorem copen_ok {t : List Int} (ht : IsTab t) {l : List Int} (hl : Byt l) (hlen : l.length < 1073741824) : crc_Open t l (openB l) := by
  unfold crc_Open openB
  by_cases h : l.length < 4
  · rw [if_pos h, if_pos (by rw [w_small (by omega) (by omega)]; simp; omega)]
  · obtain ⟨e1, e2, e3⟩ := open_take (l := l) (by omega) (by omega)
    rw [if_neg h, e1, e2, e3, if_neg (by simp)]
    refine ⟨by omega, by omega, by omega, by omega, _, sum_ok ht (hl.take _) (by rw [List.length_take]; omega), _, bytes_ok _, by omega, by omega, by omega, by rw [List.length_drop]; omega, ?_⟩
    rw [eqN4 rfl (by rw [List.length_drop]; omega)]
    by_cases h2 : l.drop (l.length - 4) = sumB (sumW (l.take (l.length - 4)))
    · rw [if_pos h2, if_neg (by simp [h2])]
      simp only [List.length_nil, List.nil_append, List.length_take]
      exact ⟨by omega, by omega, trivial⟩
    · rw [if_neg h2, if_pos (by simp [h2])]
theorem ropen_ok {l : List Int} (hl : Byt l) (hlen : l.length < 1073741824) : ref04_Open l (openB l) := by
  unfold ref04_Open openB
  by_cases h : l.length < 4
  · rw [if_pos h, if_pos (by simp; omega)]
  · obtain ⟨e1, e2, e3⟩ := open_take (l := l) (by omega) (by omega)
    rw [if_neg h, e1, e2, if_neg (by simp; omega)]
    refine ⟨by omega, by omega, _, rsum_ok (hl.take _) (by rw [List.length_take]; omega), _, rbytes_ok _, ?_⟩
    generalize hs : sumB (sumW (l.take (l.length - 4))) = s
    have hs4 : s.length = 4 := by rw [← hs]; rfl
    have stp : ∀ (k : Nat) (hk : k < 4), ∃ o, ref04_Open_l2 l s (k : Int) o ∧ o = if (l[l.length - 4 + k]'(by omega)) = s[k] then .inl ((k + 1 : Nat) : Int) else .inr (.inr ([], 11)) := by
      intro k hk
      refine ⟨_, ?_, rfl⟩
      unfold ref04_Open_l2
      rw [if_pos (by simp; omega)]
      refine ⟨s[k], idx_of (by omega), l[l.length - 4 + k]'(by omega), ?_, ?_⟩
      · rw [e1, w_small (by omega) (by omega)]
        exact idx_at (k := l.length - 4 + k) (by omega) (List.getElem?_eq_getElem (by omega))
      · by_cases hq : l[l.length - 4 + k]'(by omega) = s[k]
        · rw [if_pos hq, if_neg (by simp [hq]), w_small (by omega) (by omega)]; rfl
        · rw [if_neg hq, if_pos (by simpa using fun e => hq e.symm)]
    by_cases h2 : l.drop (l.length - 4) = s
    · rw [if_pos h2]
      refine ⟨.inl (), ?_, ?_⟩
      · refine loops_count (step := ref04_Open_l2 l s) (fun k => (k : Int)) 4 (fun k hk => ?_) ?_
        · obtain ⟨o, h3, rfl⟩ := stp k hk
          have : l[l.length - 4 + k]'(by omega) = s[k] := by
            have := congrArg (fun q => q[k]?) h2
            simp only [List.getElem?_drop] at this
            rw [List.getElem?_eq_getElem (by omega), List.getElem?_eq_getElem (by omega)] at this
            simpa using this
          rw [if_pos this] at h3; exact h3
        · unfold ref04_Open_l2
          rw [if_neg (by simp)]
      · show ref04_Open_j1 l () _
        unfold ref04_Open_j1
        rw [e1, e2]
        simp only [List.length_nil, List.nil_append, List.length_take]
        exact ⟨by omega, by omega, by omega, by omega, trivial⟩
    · rw [if_neg h2]
      -- the first place where they differ
      obtain ⟨k, hk, hne, hlt⟩ : ∃ k, ∃ (hk : k < 4), l[l.length - 4 + k]'(by omega) ≠ s[k] ∧ ∀ j (hj : j < k), l[l.length - 4 + j]'(by omega) = s[j] := by
        have : ∃ k, ∃ (hk : k < 4), l[l.length - 4 + k]'(by omega) ≠ s[k] := by
          refine Classical.byContradiction fun hno => h2 ?_
          apply List.ext_getElem (by rw [List.length_drop]; omega)
          intro k h3 h4
          rw [List.getElem_drop]
          exact Classical.byContradiction fun h5 => hno ⟨k, by omega, h5⟩
        obtain ⟨k, hk, hne⟩ := this
        induction k using Nat.strongRecOn with
        | _ k ih =>
          by_cases e : ∃ j, ∃ (hj : j < k), l[l.length - 4 + j]'(by omega) ≠ s[j]'(by omega)
          · obtain ⟨j, hj, hjn⟩ := e; exact ih j hj (by omega) hjn
          · exact ⟨k, hk, hne, fun j hj => Classical.byContradiction fun h5 => e ⟨j, hj, h5⟩⟩
      refine ⟨.inr ([], 11), ?_, rfl⟩
      refine loops_count (step := ref04_Open_l2 l s) (fun k => (k : Int)) k (fun j hj => ?_) ?_
      · obtain ⟨o, h3, rfl⟩ := stp j (by omega)
        rw [if_pos (hlt j hj)] at h3; exact h3
      · obtain ⟨o, h3, rfl⟩ := stp k hk
        rw [if_neg hne] at h3; exact h3
end Go.Rel
/-! Plain laws: bytes read from the left, bytes written. -/
namespace Go.Rel
open Go Go.Eng Go.Pl
/-- The number whose bytes these are, the lowest one first. -/
def leV : List Int → Int
  | [] => 0
  | c :: l => leV l * 256 + c
theorem leV_bound : ∀ (l : List Int), Byt l → 0 ≤ leV l ∧ leV l < ((256 ^ l.length : Nat) : Int)
  | [], _ => by simp [leV]
  | c :: l, h => by
    have h1 := leV_bound l (fun x hx => h x (List.mem_cons_of_mem _ hx))
    have h2 := h c List.mem_cons_self
    simp only [leV, List.length_cons, Nat.pow_succ]
    omega
theorem leV_drop {l : List Int} {k : Nat} (h : k < l.length) : leV (l.drop k) = leV (l.drop (k + 1)) * 256 + l[k] := by
  rw [List.drop_eq_getElem_cons h]; rfl
theorem ior_32 {s c : Int} (hs : 0 ≤ s ∧ s < 16777216) (hc : 0 ≤ c ∧ c < 256) : ior .u32 (ishl .u32 s 8) c = s * 256 + c := by
  obtain ⟨a, rfl⟩ := Int.eq_ofNat_of_zero_le hs.1
  obtain ⟨b, rfl⟩ := Int.eq_ofNat_of_zero_le hc.1
  have e1 : ishl .u32 (a : Int) 8 = ((a * 256 : Nat) : Int) := by
    show IntKind.u32.wrap ((a : Int) * 2 ^ min (8 : Int).toNat 32) = _
    rw [show min (8 : Int).toNat 32 = 8 from rfl, w_u32]; omega
  rw [e1]
  show IntKind.u32.wrap (((BitVec.ofInt 32 ((a * 256 : Nat) : Int) ||| BitVec.ofInt 32 (b : Int)).toNat : Nat) : Int) = _
  rw [BitVec.ofInt_natCast, BitVec.ofInt_natCast, BitVec.toNat_or, BitVec.toNat_ofNat, BitVec.toNat_ofNat, Nat.mod_eq_of_lt (by omega), Nat.mod_eq_of_lt (by omega)]
  have e2 : a * 256 ||| b = a * 256 + b := by
    have := Nat.shiftLeft_add_eq_or_of_lt (show b < 2 ^ 8 by omega) a
    rw [Nat.shiftLeft_eq] at this; exact this.symm
  rw [e2, w_u32]; omega
theorem ior_64 {s c : Int} (hs : 0 ≤ s ∧ s < 4294967296) (hc : 0 ≤ c ∧ c < 4294967296) : ior .u64 (ishl .u64 s 32) c = s * 4294967296 + c := by
  obtain ⟨a, rfl⟩ := Int.eq_ofNat_of_zero_le hs.1
  obtain ⟨b, rfl⟩ := Int.eq_ofNat_of_zero_le hc.1
  have e1 : ishl .u64 (a : Int) 32 = ((a * 4294967296 : Nat) : Int) := by
    show IntKind.u64.wrap ((a : Int) * 2 ^ min (32 : Int).toNat 64) = _
    rw [show min (32 : Int).toNat 64 = 32 from rfl, w_u64]; omega
  rw [e1]
  show IntKind.u64.wrap (((BitVec.ofInt 64 ((a * 4294967296 : Nat) : Int) ||| BitVec.ofInt 64 (b : Int)).toNat : Nat) : Int) = _
  rw [BitVec.ofInt_natCast, BitVec.ofInt_natCast, BitVec.toNat_or, BitVec.toNat_ofNat, BitVec.toNat_ofNat, Nat.mod_eq_of_lt (by omega), Nat.mod_eq_of_lt (by omega)]
  have e2 : a * 4294967296 ||| b = a * 4294967296 + b := by
    have := Nat.shiftLeft_add_eq_or_of_lt (show b < 2 ^ 32 by omega) a
    rw [Nat.shiftLeft_eq] at this; exact this.symm
  rw [e2, w_u64]; omega

/-- A list from behind, each with its place. -/
def backL (l : List Int) : List (Int × Int) := (List.range l.length).map fun k => (((l.length - 1 - k : Nat) : Int), l.getD (l.length - 1 - k) 0)
theorem backward_ok {l : List Int} (hl : l.length < 4611686018427387904) : Itr (slices_Backward_byte_byte_1 l) (backL l) := by
  intro S Y s s' hr
  refine ⟨(s', ()), ?_, rfl⟩
  have key : ∀ (m : Nat) (s : S), m ≤ l.length → Run Y ((backL l).drop (l.length - m)) s s' → Loops (slices_Backward_byte_byte_1_l1 S Y l) (s, (m : Int) - 1) (s', ()) := by
    intro m
    induction m with
    | zero =>
      intro s _ hr
      rw [List.drop_eq_nil_of_le (by simp [backL])] at hr
      cases hr
      refine .done ?_
      unfold slices_Backward_byte_byte_1_l1
      rw [if_neg (by simp)]
    | succ m ih =>
      intro s hm hr
      have hk : l.length - (m + 1) < (backL l).length := by simp [backL]; omega
      rw [List.drop_eq_getElem_cons hk] at hr
      have hx : (backL l)[l.length - (m + 1)] = ((m : Int), l[m]) := by
        simp only [backL, List.getElem_map, List.getElem_range]
        rw [show l.length - 1 - (l.length - (m + 1)) = m by omega, List.getD_eq_getElem?_getD, List.getElem?_eq_getElem (by omega)]; rfl
      rw [hx, show l.length - (m + 1) + 1 = l.length - m by omega] at hr
      have hs : ∀ b u, Y ((m : Int), l[m]) s (b, u) → slices_Backward_byte_byte_1_l1 S Y l (s, ((m + 1 : Nat) : Int) - 1) (if b = true then .inl (u, (m : Int) - 1) else .inr (u, ())) := by
        intro b u hy
        unfold slices_Backward_byte_byte_1_l1
        rw [show ((m + 1 : Nat) : Int) - 1 = (m : Int) by omega]
        simp only
        rw [if_pos (by simp)]
        refine ⟨l[m], idx_of (by omega), b, u, hy, ?_⟩
        cases b with
        | true => rw [if_neg (by decide), w_small (by omega) (by omega)]; rfl
        | false => rw [if_pos (by decide)]; rfl
      cases hr with
      | go h h' => exact .next (hs true _ h) (ih _ (by omega) h')
      | stop h => exact .done (hs false _ h)
  have := key l.length s (Nat.le_refl _) (by simpa using hr)
  rw [w_small (by omega) (by omega)]
  exact this
theorem byt_at {l : List Int} (hl : Byt l) {k : Nat} (h : k < l.length) : 0 ≤ l[k] ∧ l[k] < 256 := hl _ (List.getElem_mem h)
/-- Several bytes as one number. -/
theorem word1_ok {l : List Int} (hl : Byt l) (_hlen : l.length < 4611686018427387904) {n : Nat} (hn : n ≤ 4) (h : n ≤ l.length) : lens_Lens_word_1 l (n : Int) 0 ((n : Int), 0, leV (l.take n)) := by
  unfold lens_Lens_word_1
  have e : (l.drop (0 : Int).toNat).take (((n : Int) : Int) - 0).toNat = l.take n := by
    rw [show (0 : Int).toNat = 0 from rfl, List.drop_zero]; congr 1
  rw [if_neg (by simp; omega), e]
  refine ⟨by omega, by omega, _, rfl, ?_⟩
  have hb : Byt (l.take n) := hl.take n
  have hln : (l.take n).length = n := by rw [List.length_take]; omega
  generalize l.take n = q at hb hln
  subst hln
  obtain ⟨t, h1, h2⟩ := runB_inv (B := lens_Lens_word_1_l1) (s := 0) (fun k (s : Int) => s = leV (q.drop (q.length - k))) (fun _ => False) (backL q) (by simp [leV]) (by
    rintro k hk s rfl
    left
    have hkl : k < q.length := by simpa [backL] using hk
    refine ⟨_, ?_, rfl⟩
    have hx : (backL q)[k] = (((q.length - 1 - k : Nat) : Int), q[q.length - 1 - k]'(by omega)) := by
      simp only [backL, List.getElem_map, List.getElem_range]
      rw [List.getD_eq_getElem?_getD, List.getElem?_eq_getElem (by omega)]; rfl
    have hc := byt_at hb (show q.length - 1 - k < q.length by omega)
    have hv := leV_bound (q.drop (q.length - k)) (hb.drop _)
    have hp : 256 ^ (q.drop (q.length - k)).length ≤ 256 ^ 3 := Nat.pow_le_pow_right (by omega) (by rw [List.length_drop]; omega)
    unfold lens_Lens_word_1_l1
    rw [hx]
    simp only
    rw [w32_small (n := q[q.length - 1 - k]'(by omega)) (by omega) (by omega), ior_32 ⟨hv.1, by omega⟩ hc, show q.length - (k + 1) = q.length - 1 - k by omega, leV_drop (show q.length - 1 - k < q.length by omega), show q.length - 1 - k + 1 = q.length - k by omega])
  rcases h2 with ⟨s', rfl, h2⟩ | ⟨e, _, hf⟩
  · refine ⟨.inl s', (), backward_ok (by omega) _ _ _ _ (run_yof h1), ?_⟩
    show _ = _
    rw [h2]; simp [backL]
  · exact hf.elim
abbrev Ln := List Int × Int × Int
theorem left_ok {b : List Int} {at_ : Nat} {e : Int} (h : at_ ≤ b.length) : lens_Lens_left (b, (at_ : Int), e) (b.drop at_) := by
  unfold lens_Lens_left
  refine ⟨by simp, by simp; omega, Int.le_refl _, Int.le_refl _, Int.le_refl _, ?_⟩
  simp only [Int.toNat_natCast]
  rw [List.take_of_length_le (by rw [List.length_drop]; omega)]
theorem lword_ok {b : List Int} (hb : Byt b) (hlen : b.length < 4611686018427387904) {at_ n : Nat} (hn : n ≤ 4) (h : at_ + n ≤ b.length) : lens_Lens_word (b, (at_ : Int), 0) (n : Int) (leV ((b.drop at_).take n), (b, ((at_ + n : Nat) : Int), 0)) := by
  refine ⟨(true, (b, ((at_ + n : Nat) : Int), 0), leV ((b.drop at_).take n)), ?_, rfl⟩
  unfold lens_Lens_read__lens_Lens_word_1
  rw [if_neg (by simp)]
  refine ⟨_, left_ok (by omega), _, word1_ok (hb.drop _) (by rw [List.length_drop]; omega) hn (by rw [List.length_drop]; omega), ?_⟩
  rw [if_neg (by simp)]
  simp only
  rw [w_small (by omega) (by omega)]; rfl
theorem lword_end {b : List Int} {at_ n : Nat} (h : at_ ≤ b.length) (h2 : b.length < at_ + n) : lens_Lens_word (b, (at_ : Int), 0) (n : Int) (0, (b, (at_ : Int), 4)) := by
  refine ⟨(false, (b, (at_ : Int), 4), 0), ?_, rfl⟩
  unfold lens_Lens_read__lens_Lens_word_1
  rw [if_neg (by simp)]
  refine ⟨_, left_ok h, (0, 4, 0), ?_, ?_⟩
  · unfold lens_Lens_word_1
    rw [if_pos (by simp; omega)]
  · rw [if_pos (by simp)]
theorem lword_bad {b : List Int} {at_ e n : Int} (h : e ≠ 0) : lens_Lens_word (b, at_, e) n (0, (b, at_, e)) := by
  refine ⟨(false, (b, at_, e), 0), ?_, rfl⟩
  unfold lens_Lens_read__lens_Lens_word_1
  rw [if_pos (by simpa using h)]
theorem lnew_ok {b : List Int} (hlen : b.length < 1073741824) : lens_New b (b, 0, 0) := by
  unfold lens_New
  simp only [List.length_nil, List.nil_append]
  exact ⟨by omega, by omega, trivial⟩

/-- A number's bytes. -/
def leB (n : Int) : List Int := [n % 256, n / 256 % 256, n / 65536 % 256, n / 16777216 % 256]
theorem leB_byt (n : Int) : Byt (leB n) := by
  intro x hx
  simp only [leB, List.mem_cons, List.not_mem_nil, or_false] at hx
  rcases hx with rfl | rfl | rfl | rfl <;> omega
theorem leB_leV {l : List Int} (hl : Byt l) (h : l.length = 4) : leB (leV l) = l := by
  match l, h with
  | [a, b, c, d], _ =>
    have ha := hl a (by simp)
    have hb := hl b (by simp)
    have hc := hl c (by simp)
    have hd := hl d (by simp)
    simp only [leV, leB]
    have e : ∀ a b c d a' b' c' d' : Int, a = a' → b = b' → c = c' → d = d' → [a, b, c, d] = [a', b', c', d'] := by intros; subst_vars; rfl
    apply e <;> omega
theorem raw_ok {p : List Int} {room : Nat} {l : List Int} (h : p.length + l.length ≤ room) (hr : room < 1073741824) : pen_Pen_Raw (p, (room : Int), false) l (0, (p ++ l, (room : Int), false)) := by
  unfold pen_Pen_Raw
  simp only [Bool.false_or]
  rw [w_small (by omega) (by omega), if_neg (by simp; omega)]
  exact ⟨by omega, by omega, trivial⟩
theorem shr32 {a : Int} (n : Nat) (hn : n ≤ 32) {s : Int} (hs : s = (n : Int)) : ishr .u32 a s = a / 2 ^ n := by
  subst hs
  show a.fdiv (2 ^ min (n : Int).toNat 32) = _
  have hp : (0 : Int) < 2 ^ n := Int.pow_pos (by decide)
  rw [show min (n : Int).toNat 32 = n by omega, Int.fdiv_eq_ediv_of_nonneg _ (Int.le_of_lt hp)]
theorem pu32_ok {p : List Int} {room : Nat} {v : Int} (h : p.length + 4 ≤ room) (hr : room < 1073741824) : pen_Pen_U32 (p, (room : Int), false) v (0, (p ++ leB v, (room : Int), false)) := by
  refine ⟨(0, (p ++ leB v, (room : Int), false)), ⟨by omega, by omega, by omega, (0, (p ++ leB v, (room : Int), false)), ?_, rfl⟩, rfl⟩
  have e : (([(IntKind.u8.wrap v), (IntKind.u8.wrap (ishr .u32 v 8)), (IntKind.u8.wrap (ishr .u32 v 16)), (IntKind.u8.wrap (ishr .u32 v 24))].drop (0 : Int).toNat).take ((4 : Int) - 0).toNat) = leB v := by
    show [_, _, _, _] = leB v
    rw [shr32 8 (by omega) (s := 8) rfl, shr32 16 (by omega) (s := 16) rfl, shr32 24 (by omega) (s := 24) rfl]
    simp only [w_u8, leB]
    rfl
  rw [e]
  exact raw_ok (l := leB v) h hr
theorem pbytes_ok {p : List Int} {r : Int} {f : Bool} (h : p.length < 1073741824) : pen_Pen_Bytes (p, r, f) p := by
  unfold pen_Pen_Bytes
  simp only [List.length_nil, List.nil_append]
  exact ⟨by omega, by omega, trivial⟩
theorem same_ok {a b : List Int} (hlen : a.length < 4611686018427387904) : ref01_Same a b (decide (a = b)) := by
  unfold ref01_Same
  by_cases hl : a.length = b.length
  · rw [if_neg (by simp; omega)]
    have key := loops_inv (step := ref01_Same_l2 a b) (s := 0) (fun k (s : Int) => s = (k : Int) ∧ ∀ j (h : j < a.length), j < k → a[j] = b[j]'(by omega)) (fun e => Aft (fun p18 => ref01_Same_j1 p18 (decide (a = b))) (fun p19 => decide (a = b) = p19) e) a.length ⟨rfl, fun j _ h => by omega⟩ ?_ ?_
    · exact key
    · rintro k s hk ⟨rfl, h2⟩
      by_cases he : a[k] = b[k]'(by omega)
      · left
        refine ⟨((k + 1 : Nat) : Int), ?_, rfl, fun j h hj => ?_⟩
        · unfold ref01_Same_l2
          rw [if_pos (by simp; omega)]
          refine ⟨a[k], idx_of hk, b[k]'(by omega), idx_of (by omega), ?_⟩
          rw [if_neg (by simp [he]), w_small (by omega) (by omega)]; rfl
        · by_cases e : j = k
          · subst e; exact he
          · exact h2 j h (by omega)
      · right
        refine ⟨.inr false, ?_, ?_⟩
        · unfold ref01_Same_l2
          rw [if_pos (by simp; omega)]
          refine ⟨a[k], idx_of hk, b[k]'(by omega), idx_of (by omega), ?_⟩
          rw [if_pos (by simpa using he)]
        · show decide (a = b) = false
          rw [decide_eq_false]
          intro e; subst e; exact he rfl
    · rintro s ⟨rfl, h2⟩
      refine ⟨.inl (), ?_, ?_⟩
      · unfold ref01_Same_l2
        rw [if_neg (by simp)]
      · show decide (a = b) = true
        rw [decide_eq_true]
        exact List.ext_getElem hl fun j h _ => h2 j h h
  · rw [if_pos (by simp; omega), decide_eq_false]
    intro e; exact hl (by rw [e])
end Go.Rel
/-! Plain laws: what is stuffed is taken apart. -/
namespace Go.Rel
open Go Go.Eng Go.Pl
/-- Blocks as bytes: a 0 behind each that isn't a full one, nor the last. -/
def joinB : List (List Int) → List Int
  | [] => []
  | [p] => p
  | p :: q :: L => p ++ (if p.length = 254 then [] else [0]) ++ joinB (q :: L)
/-- Does an empty block stand last behind a full one? -/
def endBad : Bool → List (List Int) → Bool
  | _, [] => false
  | f, [p] => f && decide (p = [])
  | _, p :: q :: L => endBad (decide (p.length = 254)) (q :: L)
/-- Blocks that may be: no 0 in one, none too long. -/
def OkB (L : List (List Int)) : Prop := ∀ p ∈ L, (∀ x ∈ p, x ≠ 0) ∧ p.length ≤ 254
theorem cb_ne : ∀ (l now : List Int), cb now l false ≠ []
  | [], now => by simp [cb]
  | c :: l, now => by
    unfold cb
    split
    · simp
    · split
      · simp
      · exact cb_ne l _
theorem before_fz {l : List Int} {m : Nat} (h : m ≤ fz l) : ∀ x ∈ l.take m, x ≠ 0 := by
  intro x hx
  obtain ⟨k, hk, rfl⟩ := List.getElem_of_mem hx
  rw [List.length_take] at hk
  rw [List.getElem_take]
  exact fz_before (by omega) (by omega)
/-- The first block of bytes. -/
theorem cb_cases (x : List Int) : (∃ p l, x = p ++ 0 :: l ∧ (∀ c ∈ p, c ≠ 0) ∧ p.length < 254 ∧ cb [] x false = p :: cb [] l false) ∨
    (∃ p l, x = p ++ l ∧ (∀ c ∈ p, c ≠ 0) ∧ p.length = 254 ∧ cb [] x false = p :: cb [] l true) ∨ ((∀ c ∈ x, c ≠ 0) ∧ x.length < 254 ∧ cb [] x false = [x]) := by
  by_cases hz : fz x < min x.length 254
  · left
    refine ⟨x.take (fz x), x.drop (fz x + 1), ?_, before_fz (Nat.le_refl _), by rw [List.length_take]; omega, ?_⟩
    · have h3 : x.drop (fz x) = 0 :: x.drop (fz x + 1) := by rw [List.drop_eq_getElem_cons (show fz x < x.length by omega), fz_at (by omega)]
      rw [← h3, List.take_append_drop]
    · have h3 : x.drop (fz x) = 0 :: x.drop (fz x + 1) := by rw [List.drop_eq_getElem_cons (show fz x < x.length by omega), fz_at (by omega)]
      have e : x = x.take (fz x) ++ 0 :: x.drop (fz x + 1) := by rw [← h3, List.take_append_drop]
      conv => lhs; rw [e]
      exact cb_zero _ _ (before_fz (Nat.le_refl _)) (by rw [List.length_take]; omega) false
  · right
    by_cases h2 : 254 ≤ x.length
    · left
      refine ⟨x.take 254, x.drop 254, (List.take_append_drop _ _).symm, before_fz (by omega), by rw [List.length_take]; omega, ?_⟩
      conv => lhs; rw [(List.take_append_drop 254 x).symm]
      exact cb_full _ _ (before_fz (by omega)) (by rw [List.length_take]; omega) false
    · right
      have h0 : ∀ c ∈ x, c ≠ 0 := by
        have h9 := fz_le x
        have := before_fz (l := x) (m := x.length) (by omega)
        rwa [List.take_length] at this
      exact ⟨h0, by omega, cb_end x h0 (by omega)⟩
theorem cb_ok : ∀ (m : Nat) (x : List Int), x.length < m → OkB (cb [] x false) ∧ joinB (cb [] x false) = x ∧ ∀ f, (f = true → x ≠ []) → endBad f (cb [] x false) = false := by
  intro m
  induction m with
  | zero => intro x h; omega
  | succ m ih =>
    intro x hm
    have more : ∀ (p l : List Int), (∀ c ∈ p, c ≠ 0) → p.length ≤ 254 → l.length < m → x = p ++ (if p.length = 254 then [] else [0]) ++ l → (p.length = 254 → l ≠ []) → OkB (p :: cb [] l false) ∧ joinB (p :: cb [] l false) = x ∧ ∀ f, endBad f (p :: cb [] l false) = false := by
      intro p l hp hpl hl hx hn
      obtain ⟨h1, h2, h3⟩ := ih l hl
      obtain ⟨q, L, hq⟩ := List.exists_cons_of_ne_nil (cb_ne l [])
      refine ⟨fun r hr => ?_, ?_, fun f => ?_⟩
      · rcases List.mem_cons.1 hr with rfl | hr
        · exact ⟨hp, hpl⟩
        · exact h1 r hr
      · rw [hq]
        simp only [joinB]
        rw [← hq, h2]; exact hx.symm
      · rw [hq]
        simp only [endBad]
        rw [← hq]
        exact h3 _ (fun h => hn (by simpa using h))
    rcases cb_cases x with ⟨p, l, hx, h0, hp, hc⟩ | ⟨p, l, hx, h0, hp, hc⟩ | ⟨h0, hp, hc⟩
    · have := more p l h0 (by omega) (by have := congrArg List.length hx; simp at this; omega) (by rw [if_neg (by omega)]; simpa using hx) (fun h => by omega)
      rw [hc]; exact ⟨this.1, this.2.1, fun f _ => this.2.2 f⟩
    · by_cases hl : l = []
      · subst hl
        have e : cb [] x false = [p] := by rw [hc]; simp [cb]
        rw [e]
        refine ⟨fun r hr => by simp at hr; subst hr; exact ⟨h0, by omega⟩, by simp [joinB, hx], fun f _ => ?_⟩
        have : p ≠ [] := by intro h; subst h; simp at hp
        simp [endBad, this]
      · have := more p l h0 (by omega) (by have := congrArg List.length hx; simp at this; omega) (by rw [if_pos hp]; simpa using hx) (fun _ => hl)
        rw [hc, cb_e l hl true false]; exact ⟨this.1, this.2.1, fun f _ => this.2.2 f⟩
    · rw [hc]
      refine ⟨fun r hr => by simp at hr; subst hr; exact ⟨h0, by omega⟩, rfl, fun f hf => ?_⟩
      cases f with
      | false => rfl
      | true => simp [endBad, hf rfl]
theorem join_ne : ∀ (L : List (List Int)) (q : List Int), endBad true (q :: L) = false → joinB (q :: L) ≠ []
  | [], q, h => by simp [endBad] at h; simpa [joinB] using h
  | r :: L, q, _ => by
    simp only [joinB]
    by_cases h : q.length = 254
    · intro e
      have := congrArg List.length e
      simp [h] at this
    · rw [if_neg h]; simp
theorem cb_join : ∀ (L : List (List Int)) (f : Bool), L ≠ [] → OkB L → endBad f L = false → cb [] (joinB L) false = L
  | [], _, h, _, _ => absurd rfl h
  | [p], _, _, ho, _ => by
    obtain ⟨h0, h1⟩ := ho p List.mem_cons_self
    by_cases h2 : p.length = 254
    · have := cb_full p [] h0 h2 false
      simp only [List.append_nil] at this
      simp only [joinB, this, cb, if_true]
    · exact cb_end p h0 (by omega)
  | p :: q :: L, f, _, ho, he => by
    obtain ⟨h0, h1⟩ := ho p List.mem_cons_self
    have ho2 : OkB (q :: L) := fun r hr => ho r (List.mem_cons_of_mem _ hr)
    simp only [endBad] at he
    have ih := cb_join (q :: L) _ (by simp) ho2 he
    simp only [joinB]
    by_cases h2 : p.length = 254
    · rw [if_pos h2]
      rw [decide_eq_true h2] at he
      simp only [List.append_nil]
      rw [cb_full p _ h0 h2 false, cb_e _ (join_ne L q he) true false, ih]
    · rw [if_neg h2]
      simp only [List.append_assoc, List.singleton_append]
      rw [cb_zero p _ h0 (by omega) false, ih]
def flatB (L : List (List Int)) : List Int := (L.map enc1).flatten
theorem join_len : ∀ (L : List (List Int)), L ≠ [] → (joinB L).length + 1 ≤ (flatB L).length
  | [], h => absurd rfl h
  | [p], _ => by simp [joinB, flatB, enc1]
  | p :: q :: L, _ => by
    have ih := join_len (q :: L) (by simp)
    have e : (flatB (p :: q :: L)).length = p.length + 1 + (flatB (q :: L)).length := by simp [flatB, enc1]; omega
    rw [e]
    simp only [joinB, List.length_append]
    split <;> simp <;> omega
/-- Bytes as blocks, each behind its code. -/
def pb : Nat → List Int → Option (List (List Int))
  | 0, _ => none
  | _ + 1, [] => some []
  | n + 1, c :: r => if 1 ≤ c ∧ (c - 1).toNat ≤ r.length ∧ ∀ x ∈ r.take (c - 1).toNat, x ≠ 0 then (pb n (r.drop (c - 1).toNat)).map (r.take (c - 1).toNat :: ·) else none
theorem pb_flat : ∀ (L : List (List Int)) (n : Nat), OkB L → (flatB L).length < n → pb n (flatB L) = some L
  | [], n, _, h => by cases n with
    | zero => omega
    | succ n => rfl
  | p :: L, n, ho, h => by
    cases n with
    | zero => omega
    | succ n =>
      obtain ⟨h0, _⟩ := ho p List.mem_cons_self
      have e : flatB (p :: L) = ((p.length : Int) + 1) :: (p ++ flatB L) := by simp [flatB, enc1]
      rw [e] at h ⊢
      have hn : ((p.length : Int) + 1 - 1).toNat = p.length := by omega
      unfold pb
      rw [hn]
      have ht : (p ++ flatB L).take p.length = p := List.take_left
      have hd : (p ++ flatB L).drop p.length = flatB L := List.drop_left
      rw [ht, hd, if_pos ⟨by omega, by simp, h0⟩, pb_flat L n (fun r hr => ho r (List.mem_cons_of_mem _ hr)) (by simp at h; omega)]
      rfl
theorem pb_some : ∀ (n : Nat) (b : List Int) (L : List (List Int)), Byt b → pb n b = some L → flatB L = b ∧ OkB L
  | 0, _, _, _, h => by simp [pb] at h
  | n + 1, [], L, _, h => by simp [pb] at h; subst h; exact ⟨rfl, fun p hp => nomatch hp⟩
  | n + 1, c :: r, L, hb, h => by
    unfold pb at h
    split at h
    · rename_i hc
      obtain ⟨L', h1, rfl⟩ := Option.map_eq_some_iff.1 h
      obtain ⟨h2, h3⟩ := pb_some n _ L' (fun x hx => hb x (List.mem_cons_of_mem _ (List.mem_of_mem_drop hx))) h1
      have hcb := hb c List.mem_cons_self
      have hlen : (r.take (c - 1).toNat).length = (c - 1).toNat := by rw [List.length_take]; omega
      refine ⟨?_, fun p hp => ?_⟩
      · have e : flatB (r.take (c - 1).toNat :: L') = (((r.take (c - 1).toNat).length : Int) + 1) :: (r.take (c - 1).toNat ++ flatB L') := by simp [flatB, enc1]
        rw [e, h2, List.take_append_drop, hlen]
        congr 1; omega
      · rcases List.mem_cons.1 hp with rfl | hp
        · exact ⟨hc.2.2, by omega⟩
        · exact h3 p hp
    · cases h
/-- What bytes are, unstuffed. -/
def decB (b : List Int) : Option (List Int) := if b = [] then none else match pb (b.length + 1) b with
  | none => none
  | some L => if endBad false L = true then none else some (joinB L)
theorem dec_enc (x : List Int) : decB (encB x) = some x := by
  obtain ⟨h1, h2, h3⟩ := cb_ok (x.length + 1) x (by omega)
  have hne : encB x ≠ [] := by
    intro h
    have := join_len (cb [] x false) (cb_ne x [])
    have h4 : flatB (cb [] x false) = [] := h
    rw [h4] at this; simp at this
  unfold decB
  rw [if_neg hne]
  have : pb ((encB x).length + 1) (encB x) = some (cb [] x false) := pb_flat _ _ h1 (by show (encB x).length < _; omega)
  rw [this]
  simp only
  rw [h3 false (fun h => nomatch h), if_neg (by decide), h2]
theorem dec_some {b x : List Int} (hb : Byt b) (h : decB b = some x) : encB x = b := by
  unfold decB at h
  split at h
  · cases h
  · rename_i hne
    split at h
    · cases h
    · rename_i L hL
      split at h
      · cases h
      · rename_i he
        cases h
        obtain ⟨h1, h2⟩ := pb_some _ b L hb hL
        have hn : L ≠ [] := by rintro rfl; exact hne h1.symm
        unfold encB
        rw [cb_join L false hn h2 (by simpa using he)]; exact h1
/-- What the program makes of the rest, a full block having just ended or not. -/
def resB (f : Bool) (rest : List Int) : Sum Unit (List Int) := match pb (rest.length + 1) rest with
  | none => .inl ()
  | some L => if endBad f L = true then .inl () else .inr (joinB L)
theorem pb_fuel : ∀ (n m : Nat) (b : List Int), b.length < n → b.length < m → pb n b = pb m b
  | 0, _, b, h, _ => by omega
  | n + 1, 0, b, _, h => by omega
  | n + 1, m + 1, [], _, _ => rfl
  | n + 1, m + 1, c :: r, h, h' => by
    unfold pb
    rw [pb_fuel n m (r.drop (c - 1).toNat) (by simp at h ⊢; omega) (by simp at h' ⊢; omega)]
theorem decode_run : ∀ (m : Nat) (rest out : List Int) (f : Bool), rest.length < m → rest ≠ [] → Byt rest → out.length + 2 * rest.length < 1073741824 →
    Loops cobs_Decode_l3 (out, rest, f) (match resB f rest with | .inl u => .inl u | .inr x => .inr (out ++ x)) := by
  intro m
  induction m with
  | zero => intro rest out f h; omega
  | succ m ih =>
    intro rest out f hm hne hb hlen
    obtain ⟨c, r, rfl⟩ := List.exists_cons_of_ne_nil hne
    have hc := hb c List.mem_cons_self
    have hbr : Byt r := fun x hx => hb x (List.mem_cons_of_mem _ hx)
    simp only [List.length_cons] at hm hlen
    have e1 : IntKind.i64.wrap ((IntKind.i64.wrap c) - 1) = c - 1 := by rw [w_small (n := c) (by omega) (by omega), w_small (by omega) (by omega)]
    have e2 : IntKind.i64.wrap ((c - 1) + 1) = c := by rw [w_small (by omega) (by omega)]; omega
    have bad : (c < 1 ∨ (r.length : Int) + 1 ≤ c - 1) → Loops cobs_Decode_l3 (out, c :: r, f) (.inl ()) := by
      intro h
      refine .done ⟨c, ⟨by decide, rfl⟩, ?_⟩
      simp only [e1]
      by_cases h1 : c - 1 < 0
      · rw [if_pos (by simpa using h1)]
        unfold cobs_Decode_j4
        rw [if_pos rfl]
      · rw [if_neg (by simpa using h1)]
        unfold cobs_Decode_j4
        rw [decide_eq_true (by simp; omega), if_pos rfl]
    unfold resB
    simp only [List.length_cons]
    unfold pb
    by_cases hin : 1 ≤ c ∧ (c - 1).toNat ≤ r.length
    · obtain ⟨k, hk⟩ : ∃ k : Nat, c = (k : Int) + 1 := ⟨(c - 1).toNat, by omega⟩
      have hkn : (c - 1).toNat = k := by omega
      rw [hkn] at hin ⊢
      have ed : (((c :: r).drop (1 : Int).toNat).take ((c : Int) - 1).toNat) = r.take k := by
        rw [show (1 : Int).toNat = 1 from rfl, List.drop_succ_cons, List.drop_zero, hkn]
      have er : (((c :: r).drop c.toNat).take ((((c :: r).length : Int) : Int) - c).toNat) = r.drop k := by
        rw [show c.toNat = k + 1 by omega, List.drop_succ_cons, List.take_of_length_le]
        simp only [List.length_drop, List.length_cons]; omega
      have htk : (r.take k).length = k := by rw [List.length_take]; omega
      -- the zeros
      have zs : ∃ e, Loops (cobs_Decode_l7 (out, c :: r, f) c) 0 e ∧ e = if ∀ x ∈ r.take k, x ≠ 0 then .inl () else .inr () := by
        have key := loops_inv (step := cobs_Decode_l7 (out, c :: r, f) c) (s := 0) (fun j (s : Int) => s = (j : Int) ∧ ∀ q (h : q < (r.take k).length), q < j → (r.take k)[q] ≠ 0) (fun e => e = if ∀ x ∈ r.take k, x ≠ 0 then .inl () else .inr ()) k ⟨rfl, fun q _ h => by omega⟩ ?_ ?_
        · exact key
        · rintro j s hj ⟨rfl, h2⟩
          have hj2 : j < (r.take k).length := by omega
          by_cases h0 : (r.take k)[j] = 0
          · right
            refine ⟨.inr (), ?_, ?_⟩
            · unfold cobs_Decode_l7
              simp only [e1, e2, ed]
              rw [if_pos (by simp; omega)]
              refine ⟨(r.take k)[j], idx_of hj2, ?_⟩
              rw [if_pos (by simpa using h0)]
              trivial
            · rw [if_neg]
              intro h; exact h _ (List.getElem_mem hj2) h0
          · left
            refine ⟨((j + 1 : Nat) : Int), ?_, rfl, fun q h3 h4 => ?_⟩
            · unfold cobs_Decode_l7
              simp only [e1, e2, ed]
              rw [if_pos (by simp; omega)]
              refine ⟨(r.take k)[j], idx_of hj2, ?_⟩
              rw [if_neg (by simpa using h0), w_small (by omega) (by omega)]; rfl
            · by_cases e : q = j
              · subst e; exact h0
              · exact h2 q h3 (by omega)
        · rintro s ⟨rfl, h2⟩
          refine ⟨.inl (), ?_, ?_⟩
          · unfold cobs_Decode_l7
            simp only [e1, e2, ed]
            rw [if_neg (by rw [htk]; simp)]
            trivial
          · rw [if_pos]
            intro x hx
            obtain ⟨q, hq, rfl⟩ := List.getElem_of_mem hx
            exact h2 q hq (by omega)
      obtain ⟨e, hl, he⟩ := zs
      have stp : ∀ o, Aft (fun p60 => cobs_Decode_j5 (out, c :: r, f) c p60 o) (fun p61 => o = .inr (.inl p61)) e → cobs_Decode_l3 (out, c :: r, f) o := by
        intro o ha
        refine ⟨c, ⟨by decide, rfl⟩, ?_⟩
        simp only [e1]
        rw [if_neg (by simp; omega)]
        unfold cobs_Decode_j4
        simp only [e1, e2]
        rw [decide_eq_false (by simp; omega), if_neg (by decide)]
        exact ⟨by omega, by simp; omega, e, hl, ha⟩
      by_cases hz : ∀ x ∈ r.take k, x ≠ 0
      · rw [if_pos ⟨hin.1, hin.2, hz⟩]
        rw [if_pos hz] at he
        subst he
        rw [pb_fuel (r.length + 1) ((r.drop k).length + 1) (r.drop k) (by simp; omega) (by omega)]
        have j5 : ∀ o, (if r.drop k = [] then (if (f && decide (k = 0)) = true then o = .inr (.inl ()) else o = .inr (.inr (out ++ r.take k))) else o = .inl ((out ++ r.take k) ++ (if k = 254 then [] else [0]), r.drop k, decide (k = 254))) → cobs_Decode_j5 (out, c :: r, f) c () o := by
          intro o ho
          unfold cobs_Decode_j5
          simp only [e1, e2, ed, er]
          refine ⟨by omega, by simp; omega, by rw [htk]; omega, by rw [htk]; omega, by omega, by simp; omega, Int.le_refl _, ?_⟩
          have hnd : (decide (((r.drop k).length : Int) = 0)) = decide (r.drop k = []) := by
            rw [decide_eq_decide]; constructor
            · intro h; exact List.eq_nil_of_length_eq_zero (by omega)
            · intro h; rw [h]; rfl
          have hk0 : decide (c - 1 = 0) = decide (k = 0) := by rw [decide_eq_decide]; omega
          have hk254 : decide (c - 1 = 254) = decide (k = 254) := by rw [decide_eq_decide]; omega
          have j6 : ∀ b : Bool, b = (decide (r.drop k = []) && (f && decide (k = 0))) → cobs_Decode_j6 (out, c :: r, f) c b o := by
            intro b hbb
            unfold cobs_Decode_j6
            simp only [e1, e2, ed, er, hnd, hk254]
            by_cases hd : r.drop k = []
            · rw [if_pos hd] at ho
              rw [decide_eq_true hd] at hbb ⊢
              by_cases hq : (f && decide (k = 0)) = true
              · rw [if_pos hq] at ho
                rw [hbb, hq, if_pos rfl]; exact ho
              · rw [if_neg hq] at ho
                rw [hbb, show (f && decide (k = 0)) = false by simpa using hq, if_neg (by decide), if_pos rfl]; exact ho
            · rw [if_neg hd] at ho
              rw [decide_eq_false hd] at hbb ⊢
              rw [hbb, if_neg (by simp), if_neg (by decide)]
              by_cases h4 : k = 254
              · rw [if_pos h4] at ho
                rw [if_neg (by simp [h4])]
                rw [ho]; simp
              · rw [if_neg h4] at ho
                rw [if_pos (by simp [h4])]
                simp only [List.length_append, htk, List.length_cons, List.length_nil]
                exact ⟨by omega, by omega, ho⟩
          rw [hnd]
          by_cases hd : r.drop k = []
          · rw [if_pos (by simpa using hd), hk0]
            cases f with
            | true => rw [if_pos rfl]; exact j6 _ (by simp [hd])
            | false => rw [if_neg (by decide)]; exact j6 _ (by simp)
          · rw [if_neg (by simpa using hd)]; exact j6 _ (by simp [hd])
        by_cases hd : r.drop k = []
        · have hp : pb ((r.drop k).length + 1) (r.drop k) = some [] := by rw [hd]; rfl
          rw [hp]
          simp only [Option.map_some]
          have hE : endBad f [r.take k] = (f && decide (k = 0)) := by
            simp only [endBad]
            congr 1
            rw [decide_eq_decide]
            constructor
            · intro h; have := congrArg List.length h; rw [htk] at this; simpa using this
            · intro h; subst h; simp
          by_cases hq : endBad f [r.take k] = true
          · rw [if_pos hq]
            exact .done (stp _ (j5 _ (by rw [if_pos hd, if_pos (by rw [← hE]; exact hq)])))
          · rw [if_neg hq]
            exact .done (stp _ (j5 _ (by rw [if_pos hd, if_neg (by rw [← hE]; exact hq)]; rfl)))
        · have i2 := ih (r.drop k) ((out ++ r.take k) ++ (if k = 254 then [] else [0])) (decide (k = 254)) (by rw [List.length_drop]; omega) hd (hbr.drop _) (by
            have : (if k = 254 then ([] : List Int) else [0]).length ≤ 1 := by split <;> simp
            simp only [List.length_append, htk, List.length_drop]; omega)
          refine .next (stp _ (j5 _ (by rw [if_neg hd]))) ?_
          unfold resB at i2
          cases hpb : pb ((r.drop k).length + 1) (r.drop k) with
          | none => rw [hpb] at i2; exact i2
          | some L =>
            rw [hpb] at i2
            have hL : L ≠ [] := by
              rintro rfl
              have := (pb_some _ _ [] (hbr.drop _) hpb).1
              exact hd this.symm
            obtain ⟨q, L', rfl⟩ := List.exists_cons_of_ne_nil hL
            simp only [Option.map_some, endBad, joinB, htk] at i2 ⊢
            by_cases hq : endBad (decide (k = 254)) (q :: L') = true
            · rw [if_pos hq] at i2 ⊢; exact i2
            · rw [if_neg hq] at i2 ⊢
              simp only [List.append_assoc] at i2 ⊢; exact i2
      · rw [if_neg (fun h => hz h.2.2)]
        rw [if_neg hz] at he
        subst he
        exact .done (stp _ rfl)
    · rw [if_neg (fun h => hin ⟨h.1, h.2.1⟩)]
      exact bad (by omega)
def decR (b : List Int) : List Int × Int := match decB b with
  | none => ([], 12)
  | some x => (x, 0)
theorem decode_ok {b : List Int} (hb : Byt b) (hl : b.length < 268435456) : cobs_Decode b (decR b) := by
  unfold cobs_Decode decR decB
  by_cases h : b = []
  · subst h; rw [if_pos (by simp), if_pos rfl]; rfl
  · rw [if_neg (by simp; exact h), if_neg h]
    have := decode_run (b.length + 1) b [] false (by omega) h hb (by simp; omega)
    refine ⟨_, this, ?_⟩
    unfold resB
    cases pb (b.length + 1) b with
    | none => rfl
    | some L =>
      simp only
      by_cases hq : endBad false L = true
      · rw [if_pos hq, if_pos hq]; rfl
      · rw [if_neg hq, if_neg hq]; simp only [List.nil_append]; rfl
end Go.Rel
/-! Plain laws: heads. -/
namespace Go.Rel
open Go Go.Eng Go.Pl
abbrev Hd := Int × Int × Int × Int × Int
def headE (h : Hd) : Int := if ¬ (1 ≤ h.1 ∧ h.1 ≤ 2) then 10 else if ¬ (1 ≤ h.2.1 ∧ h.2.1 ≤ 5) then 9 else if ¬ (1 ≤ h.2.2.2.2 ∧ h.2.2.2.2 ≤ 255 ∧ 0 ≤ h.2.2.2.1 ∧ h.2.2.2.1 < h.2.2.2.2) then 3 else 0
/-- The errors that a head may have, and whether it has them, in their order. -/
def headL (h : Hd) : List (Int × Bool) := [(10, decide (¬ (1 ≤ h.1 ∧ h.1 ≤ 2))), (9, decide (¬ (1 ≤ h.2.1 ∧ h.2.1 ≤ 5))), (3, decide (¬ (1 ≤ h.2.2.2.2 ∧ h.2.2.2.2 ≤ 255 ∧ 0 ≤ h.2.2.2.1 ∧ h.2.2.2.1 < h.2.2.2.2)))]
theorem run_cons {X S : Type} {Y : X → S → Bool × S → Prop} {x : X} {xs : List X} {s s' : S} (h : Run Y (x :: xs) s s') : ∃ b s1, Y x s (b, s1) ∧ ((b = true ∧ Run Y xs s1 s') ∨ (b = false ∧ s1 = s')) := by
  cases h with
  | go h h' => exact ⟨true, _, h, .inl ⟨rfl, h'⟩⟩
  | stop h => exact ⟨false, _, h, .inr ⟨rfl, rfl⟩⟩
theorem run_one {X S : Type} {Y : X → S → Bool × S → Prop} {x : X} {s s' : S} (h : Run Y [x] s s') : ∃ b, Y x s (b, s') := by
  obtain ⟨b, s1, h1, h2⟩ := run_cons h
  rcases h2 with ⟨_, h2⟩ | ⟨_, rfl⟩
  · cases h2; exact ⟨b, h1⟩
  · exact ⟨b, h1⟩
theorem wrong_ok (h : Hd) : Itr (head_wrong_1 h) (headL h) := by
  intro S Y s s' hr
  obtain ⟨v, k, q, i, n⟩ := h
  obtain ⟨b1, u1, y1, r1⟩ := run_cons hr
  have last : ∀ u, Run Y [((3 : Int), decide (¬ (1 ≤ n ∧ n ≤ 255 ∧ 0 ≤ i ∧ i < n)))] u s' → if (decide (n < 1)) = true then (∃ y15 : Bool, ∃ u16 : S, Y (3, true) u (y15, u16) ∧ (s', ()) = (u16, ())) else (if (decide (255 < n)) = true then (∃ y22 : Bool, ∃ u23 : S, Y (3, true) u (y22, u23) ∧ (s', ()) = (u23, ())) else (if (decide (i < 0)) = true then (∃ y29 : Bool, ∃ u30 : S, Y (3, true) u (y29, u30) ∧ (s', ()) = (u30, ())) else (∃ y36 : Bool, ∃ u37 : S, Y (3, (decide (n ≤ i))) u (y36, u37) ∧ (s', ()) = (u37, ())))) := by
    intro u hu
    obtain ⟨b, hb⟩ := run_one hu
    by_cases h1 : n < 1
    · rw [if_pos (by simpa using h1)]
      exact ⟨b, s', by rw [decide_eq_true (by omega)] at hb; exact hb, rfl⟩
    · rw [if_neg (by simpa using h1)]
      by_cases h2 : 255 < n
      · rw [if_pos (by simpa using h2)]
        exact ⟨b, s', by rw [decide_eq_true (by omega)] at hb; exact hb, rfl⟩
      · rw [if_neg (by simpa using h2)]
        by_cases h3 : i < 0
        · rw [if_pos (by simpa using h3)]
          exact ⟨b, s', by rw [decide_eq_true (by omega)] at hb; exact hb, rfl⟩
        · rw [if_neg (by simpa using h3)]
          refine ⟨b, s', ?_, rfl⟩
          rw [show decide (n ≤ i) = decide (¬ (1 ≤ n ∧ n ≤ 255 ∧ 0 ≤ i ∧ i < n)) by rw [decide_eq_decide]; omega]; exact hb
  unfold head_wrong_1
  simp only at y1 ⊢
  by_cases c1 : v < 1
  · rw [if_pos (by simpa using c1)]
    refine ⟨b1, u1, by rw [decide_eq_true (by omega)] at y1; exact y1, ?_⟩
    rcases r1 with ⟨rfl, r1⟩ | ⟨rfl, rfl⟩
    · rw [if_pos rfl]
      obtain ⟨b2, u2, y2, r2⟩ := run_cons r1
      simp only at y2
      by_cases c2 : k < 1
      · rw [if_pos (by simpa using c2)]
        refine ⟨b2, u2, by rw [decide_eq_true (by omega)] at y2; exact y2, ?_⟩
        rcases r2 with ⟨rfl, r2⟩ | ⟨rfl, rfl⟩
        · rw [if_pos rfl]; exact last u2 r2
        · rw [if_neg (by decide)]
      · rw [if_neg (by simpa using c2)]
        refine ⟨b2, u2, by rw [show decide (5 < k) = decide (¬ (1 ≤ k ∧ k ≤ 5)) by rw [decide_eq_decide]; omega]; exact y2, ?_⟩
        rcases r2 with ⟨rfl, r2⟩ | ⟨rfl, rfl⟩
        · rw [if_pos rfl]; exact last u2 r2
        · rw [if_neg (by decide)]
    · rw [if_neg (by decide)]
  · rw [if_neg (by simpa using c1)]
    refine ⟨b1, u1, by rw [show decide (2 < v) = decide (¬ (1 ≤ v ∧ v ≤ 2)) by rw [decide_eq_decide]; omega]; exact y1, ?_⟩
    rcases r1 with ⟨rfl, r1⟩ | ⟨rfl, rfl⟩
    · rw [if_pos rfl]
      obtain ⟨b2, u2, y2, r2⟩ := run_cons r1
      simp only at y2
      by_cases c2 : k < 1
      · rw [if_pos (by simpa using c2)]
        refine ⟨b2, u2, by rw [decide_eq_true (by omega)] at y2; exact y2, ?_⟩
        rcases r2 with ⟨rfl, r2⟩ | ⟨rfl, rfl⟩
        · rw [if_pos rfl]; exact last u2 r2
        · rw [if_neg (by decide)]
      · rw [if_neg (by simpa using c2)]
        refine ⟨b2, u2, by rw [show decide (5 < k) = decide (¬ (1 ≤ k ∧ k ≤ 5)) by rw [decide_eq_decide]; omega]; exact y2, ?_⟩
        rcases r2 with ⟨rfl, r2⟩ | ⟨rfl, rfl⟩
        · rw [if_pos rfl]; exact last u2 r2
        · rw [if_neg (by decide)]
    · rw [if_neg (by decide)]
theorem hcheck_ok (h : Hd) : head_Check h (headE h) := by
  refine ⟨_, rfl, ?_⟩
  have go : ∀ e, head_Check_l2 (e, false) () (.inl ()) := fun e => by unfold head_Check_l2; rw [if_neg (ne_true rfl)]
  have st : ∀ e, head_Check_l2 (e, true) () (.inr e) := fun e => by unfold head_Check_l2; rw [if_pos rfl]
  have key : ∀ t, RunB head_Check_l2 (headL h) () t → head_wrong_1 h (Sum Unit Int) (Yof head_Check_l2) (.inl ()) (t, ()) := fun t ht => wrong_ok h _ _ _ _ (run_yof ht)
  unfold headE headL at *
  by_cases c1 : 1 ≤ h.1 ∧ h.1 ≤ 2
  · rw [if_neg (by simpa using c1)]
    rw [decide_eq_false (show ¬ ¬ (1 ≤ h.1 ∧ h.1 ≤ 2) from fun e => e c1)] at key
    by_cases c2 : 1 ≤ h.2.1 ∧ h.2.1 ≤ 5
    · rw [if_neg (by simpa using c2)]
      rw [decide_eq_false (show ¬ ¬ (1 ≤ h.2.1 ∧ h.2.1 ≤ 5) from fun e => e c2)] at key
      by_cases c3 : 1 ≤ h.2.2.2.2 ∧ h.2.2.2.2 ≤ 255 ∧ 0 ≤ h.2.2.2.1 ∧ h.2.2.2.1 < h.2.2.2.2
      · rw [if_neg (fun e => e c3)]
        rw [decide_eq_false (fun e => e c3)] at key
        exact ⟨.inl (), (), key _ (.go (go _) (.go (go _) (.go (go _) .nil))), rfl⟩
      · rw [if_pos c3]
        rw [decide_eq_true c3] at key
        exact ⟨.inr 3, (), key _ (.go (go _) (.go (go _) (.stop (st _)))), rfl⟩
    · rw [if_pos c2]
      rw [decide_eq_true c2] at key
      exact ⟨.inr 9, (), key _ (.go (go _) (.stop (st _))), rfl⟩
  · rw [if_pos c1]
    rw [decide_eq_true c1] at key
    exact ⟨.inr 10, (), key _ (.stop (st _)), rfl⟩
/-- A head's bytes. -/
def headB (h : Hd) : List Int := [h.1, h.2.1, h.2.2.1 % 256, h.2.2.1 / 256 % 256, h.2.2.1 / 65536 % 256, h.2.2.1 / 16777216, h.2.2.2.1, h.2.2.2.2]
theorem headE_ok {h : Hd} (he : headE h = 0) : 1 ≤ h.1 ∧ h.1 ≤ 2 ∧ 1 ≤ h.2.1 ∧ h.2.1 ≤ 5 ∧ 1 ≤ h.2.2.2.2 ∧ h.2.2.2.2 ≤ 255 ∧ 0 ≤ h.2.2.2.1 ∧ h.2.2.2.1 < h.2.2.2.2 := by
  unfold headE at he
  split at he
  · cases he
  · split at he
    · cases he
    · split at he
      · cases he
      · omega
theorem shr_u32 {a : Int} (n : Nat) (hn : n ≤ 32) {s : Int} (hs : s = (n : Int)) : ishr .u32 a s = a / 2 ^ n := by
  subst hs
  show a.fdiv (2 ^ min (n : Int).toNat 32) = _
  have hp : (0 : Int) < 2 ^ n := Int.pow_pos (by decide)
  rw [show min (n : Int).toNat 32 = n by omega, Int.fdiv_eq_ediv_of_nonneg _ (Int.le_of_lt hp)]
theorem hbytes_ok {h : Hd} (he : headE h = 0) (hq : 0 ≤ h.2.2.1 ∧ h.2.2.1 < 4294967296) : head_Bytes h (headB h, 0) := by
  have h1 := headE_ok he
  refine ⟨_, hcheck_ok h, ?_⟩
  rw [if_neg (by simp [he])]
  rw [shr_u32 8 (by omega) (s := 8) rfl, shr_u32 16 (by omega) (s := 16) rfl, shr_u32 24 (by omega) (s := 24) rfl]
  simp only [w_u8, headB]
  have e : ∀ a b c d e f g i a' b' c' d' e' f' g' i' : Int, a = a' → b = b' → c = c' → d = d' → e = e' → f = f' → g = g' → i = i' → ([a, b, c, d, e, f, g, i], (0 : Int)) = ([a', b', c', d', e', f', g', i'], 0) := by
    intros; subst_vars; rfl
  apply e <;> omega
theorem headB_byt {h : Hd} (he : headE h = 0) (hq : 0 ≤ h.2.2.1 ∧ h.2.2.1 < 4294967296) : ∀ x ∈ headB h, 0 ≤ x ∧ x < 256 := by
  have h1 := headE_ok he
  intro x hx
  simp only [headB, List.mem_cons, List.not_mem_nil, or_false] at hx
  rcases hx with rfl | rfl | rfl | rfl | rfl | rfl | rfl | rfl <;> omega
end Go.Rel
/-! Plain laws: rooms on the wire. -/
namespace Go.Rel
open Go Go.Eng Go.Pl
def mostB (n : Int) : Int := if n < 0 then 0 else n + max ((n + 253) / 254) 1
theorem most_ok {n : Int} (hn : n < 4611686018427387904) : cobs_Most n (mostB n) := by
  unfold cobs_Most mostB
  by_cases h : n < 0
  · rw [if_pos (by simpa using h), if_pos h]
  · rw [if_neg (by simpa using h), if_neg h, Int.tmod_eq_emod_of_nonneg (by omega), Int.tdiv_eq_ediv_of_nonneg (by omega)]
    have hmax : ∀ a b : Int, max a b = if a ≤ b then b else a := fun a b => by omega
    by_cases h2 : n % 254 = 0
    · rw [if_neg (by simpa using h2)]
      unfold cobs_Most_j1
      rw [w_small (n := n / 254) (by omega) (by omega), w_small (by rw [hmax]; split <;> omega) (by rw [hmax]; split <;> omega)]
      rw [show (n + 253) / 254 = n / 254 by omega]
    · rw [if_pos (by simpa using h2)]
      unfold cobs_Most_j1
      rw [w_small (n := n / 254) (by omega) (by omega), w_small (n := n / 254 + 1) (by omega) (by omega), w_small (by rw [hmax]; split <;> omega) (by rw [hmax]; split <;> omega)]
      rw [show (n + 253) / 254 = n / 254 + 1 by omega]
def wireB (n : Int) : Int := if n < 1 ∨ 242 < n then 0 else n + 15
theorem wire_ok (n : Int) : frame_Wire n (wireB n) := by
  unfold frame_Wire wireB
  by_cases h : n < 1
  · rw [if_pos (by simpa using h), if_pos (.inl h)]
    unfold frame_Wire_j1; rw [if_pos rfl]
  · rw [if_neg (by simpa using h)]
    unfold frame_Wire_j1
    by_cases h2 : 242 < n
    · rw [if_pos (by simpa using h2), if_pos (.inr h2)]
    · rw [if_neg (by simpa using h2), if_neg (by omega)]
      rw [w_small (n := n + 12) (by omega) (by omega)]
      refine ⟨_, most_ok (by omega), ?_⟩
      unfold mostB
      rw [if_neg (by omega), w_small (by omega) (by omega)]; omega
def roomB (m : Int) : Int := if m < 16 then 0 else min (m - 15) 242
theorem room_ok {m : Int} (hm : m ≤ 9223372036854775807) : frame_Room m (roomB m) := by
  refine ⟨_, wire_ok 1, ?_⟩
  have e : wireB 1 = 16 := rfl
  rw [e]
  unfold roomB
  by_cases h : m < 16
  · rw [if_pos (by simpa using h), if_pos h]
  · rw [if_neg (by simpa using h), if_neg h]
    refine ⟨_, wire_ok 1, ?_⟩
    rw [e, w_small (n := m - 16) (by omega) (by omega), w_small (by omega) (by omega), show m - 16 + 1 = m - 15 by omega]
end Go.Rel
/-! Plain laws: frames. -/
namespace Go.Rel
open Go Go.Eng Go.Pl
theorem take_map {α β : Type} (f : α → β) {l : List α} {k : Nat} (hk : k < l.length) : (l.take (k + 1)).map f = (l.take k).map f ++ [f l[k]] := by
  rw [List.take_succ_eq_append_getElem hk, List.map_append]; rfl
def frameE (f : Hd × List Int) : Int := if headE f.1 ≠ 0 then headE f.1 else if f.2.length = 0 then 13 else if 242 < f.2.length then 2 else 0
theorem fcheck_ok (t : List Int) (f : Hd × List Int) : frame_Codec_Check t f (frameE f) := by
  refine ⟨_, hcheck_ok f.1, ?_⟩
  unfold frameE
  by_cases h : headE f.1 = 0
  · simp only [h, ne_eq, not_true_eq_false, if_false, decide_true, Bool.not_true, Bool.false_eq_true]
    by_cases h1 : f.2.length = 0
    · rw [if_pos (by simp only [decide_eq_true_eq]; omega), if_pos h1]
    · by_cases h2 : 242 < f.2.length
      · rw [if_neg (by simp only [decide_eq_true_eq]; omega), if_pos (by simp only [decide_eq_true_eq]; omega), if_neg h1, if_pos h2]
      · rw [if_neg (by simp only [decide_eq_true_eq]; omega), if_neg (by simp only [decide_eq_true_eq]; omega), if_neg h1, if_neg h2]
  · rw [if_pos (by simpa using h), if_pos h]
/-- What a frame's block is, and its segment. -/
def blockB (f : Hd × List Int) : List Int := (headB f.1 ++ f.2) ++ sumB (sumW (headB f.1 ++ f.2))
def segB (f : Hd × List Int) : List Int := encB (blockB f)
theorem frameE_ok {f : Hd × List Int} (h : frameE f = 0) : headE f.1 = 0 ∧ f.2.length ≠ 0 ∧ f.2.length ≤ 242 := by
  unfold frameE at h
  by_cases h0 : headE f.1 = 0
  · rw [if_neg (by simpa using h0)] at h
    split at h
    · cases h
    · split at h
      · cases h
      · exact ⟨h0, by assumption, by omega⟩
  · rw [if_pos h0] at h; exact absurd h h0
theorem segment_ok {t : List Int} (ht : IsTab t) {f : Hd × List Int} (h : frameE f = 0) (hq : 0 ≤ f.1.2.2.1 ∧ f.1.2.2.1 < 4294967296) (hb : Byt f.2) : frame_Codec_Segment t f (segB f, 0) := by
  obtain ⟨h1, h2, h3⟩ := frameE_ok h
  have hby : Byt (headB f.1 ++ f.2) := Byt.app (headB_byt h1 hq) hb
  have hl8 : (headB f.1).length = 8 := rfl
  refine ⟨_, fcheck_ok t f, ?_⟩
  rw [if_neg (by simp [h])]
  refine ⟨_, hbytes_ok h1 hq, by simp only [hl8]; omega, by simp only [hl8]; omega, _, seal_ok ht hby (by rw [List.length_append, hl8]; omega), _, encode_ok ?_, rfl⟩
  simp only [List.length_append, hl8, sumB, List.length_cons, List.length_nil]; omega
theorem segment_no (t : List Int) {f : Hd × List Int} (h : frameE f ≠ 0) : frame_Codec_Segment t f ([], frameE f) := by
  refine ⟨_, fcheck_ok t f, ?_⟩
  rw [if_pos (by simpa using h)]
theorem segB_len {f : Hd × List Int} (h : f.2.length ≤ 242) : (segB f).length = f.2.length + 13 := by
  have : (blockB f).length = f.2.length + 12 := by simp [blockB, headB, sumB]
  unfold segB encB
  rw [cb_len _ _ (by simp) (by simp; omega), this]; simp
def wrapB (l : List (List Int)) : List Int := (l.map fun s => [0] ++ s ++ [0]).flatten
theorem wrap_ok {l : List (List Int)} (hl : l.length < 1048576) (hs : ∀ s ∈ l, s.length < 1048576) : fence_Wrap l (wrapB l) := by
  refine ⟨_, ?_, rfl⟩
  have hlen : ∀ k, k ≤ l.length → (wrapB (l.take k)).length ≤ k * 1048578 := by
    intro k
    induction k with
    | zero => intro _; simp [wrapB]
    | succ k ih =>
      intro hk
      have h1 := ih (by omega)
      have h2 := hs l[k] (List.getElem_mem _)
      rw [List.take_succ_eq_append_getElem (by omega)]
      simp only [wrapB, List.map_append, List.flatten_append, List.length_append, List.map_cons, List.map_nil, List.flatten_cons, List.flatten_nil, List.append_nil, List.length_cons, List.length_nil] at h1 ⊢
      omega
  refine loops_count (step := fence_Wrap_l2 l) (fun k => (wrapB (l.take k), (k : Int))) l.length (fun k hk => ?_) ?_
  · unfold fence_Wrap_l2
    have h1 := hlen k (by omega)
    have h2 := hs l[k] (List.getElem_mem _)
    have h3 : k * 1048578 ≤ 1048576 * 1048578 := Nat.mul_le_mul_right _ (by omega)
    simp only
    rw [if_pos (by simp; omega)]
    simp only [List.length_append, List.length_cons, List.length_nil]
    refine ⟨l[k], idx_of hk, by omega, by omega, by omega, by omega, by omega, by omega, ?_⟩
    rw [w_small (by omega) (by omega)]
    unfold wrapB
    rw [take_map _ hk, List.flatten_append]
    simp
  · unfold fence_Wrap_l2
    simp only
    rw [if_neg (by simp), List.take_length]
/-- The least error among frames, the first one that has one. -/
theorem pack_ok {t : List Int} (ht : IsTab t) {l : List (Hd × List Int)} (hl : l.length < 1048576) (h : ∀ f ∈ l, frameE f = 0 ∧ (0 ≤ f.1.2.2.1 ∧ f.1.2.2.1 < 4294967296) ∧ Byt f.2) : frame_Codec_Pack t l (wrapB (l.map segB), 0) := by
  refine ⟨(l.map segB, 0), ?_, _, wrap_ok (by simpa using hl) (fun s hs => ?_), rfl⟩
  · refine loops_count (step := frame_Codec_Pack_l2 t l) (fun k => ((l.take k).map segB, (k : Int))) l.length (fun k hk => ?_) ?_
    · unfold frame_Codec_Pack_l2
      simp only
      rw [if_pos (by simp; omega)]
      obtain ⟨h1, h2, h3⟩ := h l[k] (List.getElem_mem _)
      refine ⟨l[k], idx_of hk, _, segment_ok ht h1 h2 h3, ?_⟩
      rw [if_neg (by simp)]
      simp only [List.length_map, List.length_take, List.length_cons, List.length_nil]
      refine ⟨by omega, by omega, ?_⟩
      rw [w_small (by omega) (by omega), take_map _ hk]; rfl
    · unfold frame_Codec_Pack_l2
      simp only
      rw [if_neg (by simp), List.take_length]
  · obtain ⟨f, hf, rfl⟩ := List.mem_map.1 hs
    have := frameE_ok (h f hf).1
    rw [segB_len this.2.2]; omega
theorem pack_no {t : List Int} (ht : IsTab t) {l : List (Hd × List Int)} {k : Nat} (hl : l.length < 1048576) (hk : k < l.length) (h : ∀ j (hj : j < k), frameE (l[j]'(by omega)) = 0 ∧ (0 ≤ (l[j]'(by omega)).1.2.2.1 ∧ (l[j]'(by omega)).1.2.2.1 < 4294967296) ∧ Byt (l[j]'(by omega)).2) (hn : frameE l[k] ≠ 0) : frame_Codec_Pack t l ([], frameE l[k]) := by
  refine ⟨([], frameE l[k]), ?_, _, wrap_ok (l := []) (by simp) (fun s hs => nomatch hs), rfl⟩
  refine loops_count (step := frame_Codec_Pack_l2 t l) (fun k => ((l.take k).map segB, (k : Int))) k (fun j hj => ?_) ?_
  · unfold frame_Codec_Pack_l2
    simp only
    rw [if_pos (by simp; omega)]
    obtain ⟨h1, h2, h3⟩ := h j hj
    refine ⟨l[j], idx_of (by omega), _, segment_ok ht h1 h2 h3, ?_⟩
    rw [if_neg (by simp)]
    simp only [List.length_map, List.length_take, List.length_cons, List.length_nil]
    refine ⟨by omega, by omega, ?_⟩
    rw [w_small (by omega) (by omega), take_map _ (show j < l.length by omega)]; rfl
  · unfold frame_Codec_Pack_l2
    simp only
    rw [if_pos (by simp; omega)]
    refine ⟨l[k], idx_of hk, _, segment_no t hn, ?_⟩
    rw [if_pos (by simpa using hn)]
theorem fnew_ok : ∃ t, frame_New t ∧ IsTab t := by
  obtain ⟨t, h1, h2⟩ := new_ok
  exact ⟨t, ⟨t, h1, rfl⟩, h2⟩
theorem known08_ok : law08_known true := by
  obtain ⟨t, h1, h2⟩ := fnew_ok
  refine ⟨t, h1, _, pack_ok h2 (by simp) (fun f hf => ?_), ?_⟩
  · simp only [List.mem_singleton] at hf; subst hf
    exact ⟨by decide, ⟨by decide, by decide⟩, fun x hx => by simp at hx; omega⟩
  · rw [if_pos (by simp)]
    have : (wrapB (List.map segB [((1, 1, 0, 0, 1), [7])])).length = 16 := by
      simp only [wrapB, List.map_cons, List.map_nil, List.flatten_cons, List.flatten_nil, List.append_nil, List.length_append, segB_len (f := ((1, 1, 0, 0, 1), [7])) (by simp)]
      rfl
    simp only
    rw [this, if_pos (by decide)]
    refine ⟨_, wire_ok 1, ?_⟩
    rw [if_pos (by decide)]
    refine ⟨_, room_ok (by decide), ?_⟩
    rw [if_pos (by decide)]
    refine ⟨_, room_ok (by decide), ?_⟩
    rw [if_pos (by decide)]
    refine ⟨_, room_ok (by decide), ?_⟩
    show true = _
    decide
end Go.Rel
/-! Plain laws: the head of bytes. -/
namespace Go.Rel
open Go Go.Eng Go.Pl
/-! ### heads -/
def hdOf (l : List Int) : Hd := (l.getD 0 0, l.getD 1 0, leV ((l.drop 2).take 4), l.getD 6 0, l.getD 7 0)
def parseH (l : List Int) : Hd × Int := if headE (hdOf l) = 0 then (hdOf l, 0) else ((0, 0, 0, 0, 0), headE (hdOf l))
theorem one_at {l : List Int} {k : Nat} (h : k < l.length) : leV ((l.drop k).take 1) = l.getD k 0 := by
  rw [List.drop_eq_getElem_cons h, List.getD_eq_getElem?_getD, List.getElem?_eq_getElem h]
  simp only [List.take_succ_cons, List.take_zero, leV, Option.getD_some]; omega
theorem getD_byt {l : List Int} (hl : Byt l) {k : Nat} (h : k < l.length) : 0 ≤ l.getD k 0 ∧ l.getD k 0 < 256 := by
  rw [List.getD_eq_getElem?_getD, List.getElem?_eq_getElem h]; exact byt_at hl h
theorem lu8_ok {b : List Int} (hb : Byt b) (hlen : b.length < 4611686018427387904) {k : Nat} (h : k < b.length) : lens_Lens_U8 (b, (k : Int), 0) (b.getD k 0, (b, ((k + 1 : Nat) : Int), 0)) := by
  refine ⟨_, lword_ok hb hlen (n := 1) (by omega) (by omega), ?_⟩
  have := getD_byt hb h
  rw [one_at h, w_u8]
  congr 1; simp only; omega
theorem hparse_ok {l : List Int} (hl : Byt l) (h8 : l.length = 8) : head_Parse l (parseH l) := by
  unfold head_Parse
  rw [if_neg (by simp [h8])]
  have v4 := leV_bound ((l.drop 2).take 4) ((hl.drop 2).take 4)
  refine ⟨_, lnew_ok (by omega), _, lu8_ok hl (by omega) (k := 0) (by omega), _, lu8_ok hl (by omega) (k := 1) (by omega), _, ⟨_, lword_ok hl (by omega) (at_ := 2) (n := 4) (by omega) (by omega), rfl⟩, _, lu8_ok hl (by omega) (k := 6) (by omega), _, lu8_ok hl (by omega) (k := 7) (by omega), 0, ?_, ?_⟩
  · refine ⟨0, rfl, ?_⟩
    rw [if_neg (by decide)]
    refine ⟨_, ⟨_, left_ok (at_ := 8) (by omega), rfl⟩, ?_⟩
    unfold lens_Lens_End_j1
    rw [List.drop_eq_nil_of_le (by omega), if_pos (by decide)]
  · rw [if_pos (by decide)]
    have g : ∀ k, k < 8 → IntKind.i64.wrap (l.getD k 0) = l.getD k 0 := fun k hk => by
      have := getD_byt hl (show k < l.length by omega)
      rw [w_small (by omega) (by omega)]
    simp only
    rw [g 0 (by omega), g 1 (by omega), g 6 (by omega), g 7 (by omega)]
    refine ⟨_, hcheck_ok _, ?_⟩
    unfold head_Parse_j1 parseH
    simp only
    rw [g 0 (by omega), g 1 (by omega), g 6 (by omega), g 7 (by omega)]
    by_cases he : headE (hdOf l) = 0
    · rw [if_pos he, if_neg (by simp; exact he)]; rfl
    · rw [if_neg he, if_pos (by simp; exact he)]; rfl
theorem rhcheck_ok (h : Hd) : ref07_Check h (headE h) := by
  obtain ⟨v, k, q, i, n⟩ := h
  have j3 : ∀ b : Bool, b = decide (¬ (1 ≤ n ∧ n ≤ 255 ∧ 0 ≤ i ∧ i < n)) → ref07_Check_j3 b (if ¬ (1 ≤ n ∧ n ≤ 255 ∧ 0 ≤ i ∧ i < n) then 3 else 0) := by
    rintro b rfl
    unfold ref07_Check_j3
    by_cases h : ¬ (1 ≤ n ∧ n ≤ 255 ∧ 0 ≤ i ∧ i < n)
    · rw [decide_eq_true h, if_pos rfl, if_pos h]
    · rw [decide_eq_false h, if_neg (by decide), if_neg h]
  have j2 : ∀ b : Bool, b = decide (¬ (1 ≤ k ∧ k ≤ 5)) → ref07_Check_j2 (v, k, q, i, n) b (if ¬ (1 ≤ k ∧ k ≤ 5) then 9 else if ¬ (1 ≤ n ∧ n ≤ 255 ∧ 0 ≤ i ∧ i < n) then 3 else 0) := by
    rintro b rfl
    unfold ref07_Check_j2
    by_cases h : ¬ (1 ≤ k ∧ k ≤ 5)
    · rw [decide_eq_true h, if_pos rfl, if_pos h]
    · rw [decide_eq_false h, if_neg (by decide), if_neg h]
      simp only
      by_cases h1 : n < 1
      · rw [if_pos (by simpa using h1)]; exact j3 _ (by rw [decide_eq_true]; omega)
      · rw [if_neg (by simpa using h1)]
        by_cases h2 : 255 < n
        · rw [if_pos (by simpa using h2)]; exact j3 _ (by rw [decide_eq_true]; omega)
        · rw [if_neg (by simpa using h2)]
          by_cases h3 : i < 0
          · rw [if_pos (by simpa using h3)]; exact j3 _ (by rw [decide_eq_true]; omega)
          · rw [if_neg (by simpa using h3)]; exact j3 _ (by rw [decide_eq_decide]; omega)
  have j1 : ∀ b : Bool, b = decide (¬ (1 ≤ v ∧ v ≤ 2)) → ref07_Check_j1 (v, k, q, i, n) b (headE (v, k, q, i, n)) := by
    rintro b rfl
    unfold ref07_Check_j1 headE
    simp only
    by_cases h : ¬ (1 ≤ v ∧ v ≤ 2)
    · rw [decide_eq_true h, if_pos rfl, if_pos h]
    · rw [decide_eq_false h, if_neg (by decide), if_neg h]
      by_cases h1 : k < 1
      · rw [if_pos (by simpa using h1)]; exact j2 _ (by rw [decide_eq_true]; omega)
      · rw [if_neg (by simpa using h1)]; exact j2 _ (by rw [decide_eq_decide]; omega)
  unfold ref07_Check
  simp only
  by_cases h : v = 1
  · rw [if_neg (by simp [h])]; exact j1 _ (by rw [decide_eq_false]; omega)
  · rw [if_pos (by simp [h])]
    refine j1 _ ?_
    by_cases h2 : v = 2
    · rw [h2]; simp
    · rw [decide_eq_false h2, decide_eq_true (by omega)]; rfl
theorem rhparse_ok {l : List Int} (hl : Byt l) (h8 : l.length = 8) : ref07_Parse l (parseH l) := by
  unfold ref07_Parse
  rw [if_neg (by simp [h8]), if_neg (by simp [h8])]
  have ht4 : Byt ((l.drop 2).take 4) := (hl.drop 2).take 4
  have hl4 : ((l.drop 2).take 4).length = 4 := by rw [List.length_take, List.length_drop]; omega
  refine ⟨leV ((l.drop 2).take 4), ?_, ?_⟩
  · have := loops_count (step := ref07_Parse_l2 l) (fun k => (leV (((l.drop 2).take 4).drop (4 - k)), 5 - (k : Int))) 4 (e := leV ((l.drop 2).take 4)) (fun k hk => ?_) ?_
    · have e0 : leV (((l.drop 2).take 4).drop 4) = 0 := by rw [List.drop_eq_nil_of_le (by omega)]; rfl
      simpa [e0, leV] using this
    · unfold ref07_Parse_l2
      have hc := byt_at ht4 (show 3 - k < ((l.drop 2).take 4).length by omega)
      have hv := leV_bound (((l.drop 2).take 4).drop (4 - k)) (ht4.drop _)
      have hp2 : 256 ^ (((l.drop 2).take 4).drop (4 - k)).length ≤ 256 ^ 3 := Nat.pow_le_pow_right (by omega) (by rw [List.length_drop]; omega)
      simp only
      rw [if_pos (by simp; omega)]
      refine ⟨((l.drop 2).take 4)[3 - k]'(by omega), idx_at (k := 5 - k) (by omega) ?_, ?_⟩
      · rw [List.getElem_take, List.getElem_drop, List.getElem?_eq_getElem (by omega)]
        congr 2; omega
      · rw [w32_small (n := 256 * _) (by omega) (by omega), w32_small (n := ((l.drop 2).take 4)[3 - k]'(by omega)) (by omega) (by omega), w32_small (by omega) (by omega), w_small (by omega) (by omega), show 4 - (k + 1) = 3 - k by omega, leV_drop (show 3 - k < ((l.drop 2).take 4).length by omega), show 3 - k + 1 = 4 - k by omega]
        congr 2 <;> omega
    · unfold ref07_Parse_l2
      rw [if_neg (by simp)]; simp
  · have g : ∀ k (hk : k < 8), l.getD k 0 = l[k]'(by omega) := fun k hk => by rw [List.getD_eq_getElem?_getD, List.getElem?_eq_getElem (by omega)]; rfl
    have wg : ∀ k (hk : k < 8), IntKind.i64.wrap (l[k]'(by omega)) = l.getD k 0 := fun k hk => by
      have := byt_at hl (show k < l.length by omega)
      rw [g k hk, w_small (by omega) (by omega)]
    refine ⟨l[0]'(by omega), idx_of (k := 0) (by omega), l[1]'(by omega), idx_of (k := 1) (by omega), l[6]'(by omega), idx_of (k := 6) (by omega), l[7]'(by omega), idx_of (k := 7) (by omega), ?_⟩
    rw [wg 0 (by omega), wg 1 (by omega), wg 6 (by omega), wg 7 (by omega)]
    refine ⟨_, rhcheck_ok (hdOf l), ?_⟩
    unfold parseH
    by_cases he : headE (hdOf l) = 0
    · rw [if_pos he, if_neg (by simp [he])]; rfl
    · rw [if_neg he, if_pos (by simp [he])]
      exact ⟨_, rhcheck_ok (hdOf l), rfl⟩


theorem headB_hdOf {l : List Int} (hxb : Byt l) (h8 : l.length = 8) : headB (hdOf l) = l := by
  match l, h8 with
  | [a0, a1, a2, a3, a4, a5, a6, a7], _ =>
    have q2 := hxb a2 (by simp)
    have q3 := hxb a3 (by simp)
    have q4 := hxb a4 (by simp)
    have q5 := hxb a5 (by simp)
    simp only [headB, hdOf, leV, List.drop_succ_cons, List.drop_zero, List.take_succ_cons, List.take_zero, List.getD_cons_zero, List.getD_cons_succ]
    have e : ∀ a b c d e f g i a' b' c' d' e' f' g' i' : Int, a = a' → b = b' → c = c' → d = d' → e = e' → f = f' → g = g' → i = i' → [a, b, c, d, e, f, g, i] = [a', b', c', d', e', f', g', i'] := by
      intros; subst_vars; rfl
    apply e <;> omega
/-- Of fewer or more bytes than 8 there is none. -/
theorem hparse_short {l : List Int} (h : l.length < 8) : head_Parse l ((0, 0, 0, 0, 0), 13) ∧ ref07_Parse l ((0, 0, 0, 0, 0), 13) := by
  unfold head_Parse ref07_Parse
  rw [if_pos (by simp; omega), if_pos (by simp; omega)]; exact ⟨rfl, rfl⟩
theorem hparse_long {l : List Int} (hl : Byt l) (h : 8 < l.length) (hlen : l.length < 1073741824) : head_Parse l ((0, 0, 0, 0, 0), 3) ∧ ref07_Parse l ((0, 0, 0, 0, 0), 3) := by
  unfold head_Parse ref07_Parse
  rw [if_neg (by simp; omega), if_neg (by simp; omega), if_pos (by simp; omega)]
  refine ⟨⟨_, lnew_ok (by omega), _, lu8_ok hl (by omega) (k := 0) (by omega), _, lu8_ok hl (by omega) (k := 1) (by omega), _, ⟨_, lword_ok hl (by omega) (at_ := 2) (n := 4) (by omega) (by omega), rfl⟩, _, lu8_ok hl (by omega) (k := 6) (by omega), _, lu8_ok hl (by omega) (k := 7) (by omega), 3, ?_, ?_⟩, rfl⟩
  · refine ⟨0, rfl, ?_⟩
    rw [if_neg (by decide)]
    refine ⟨_, ⟨_, left_ok (at_ := 8) (by omega), rfl⟩, ?_⟩
    unfold lens_Lens_End_j1
    rw [if_neg (by rw [List.length_drop]; simp; omega)]
  · rw [if_neg (by decide)]
    unfold head_Parse_j1
    rw [if_pos (by decide)]
end Go.Rel
/-! Plain laws: the frame of a segment. -/
namespace Go.Rel
open Go Go.Eng Go.Pl
theorem rblocks_ok {l : List Int} (hlen : l.length < 1073741824) : ref05_Blocks l (cb [] l false) := by
  have key := loops_inv (step := ref05_Blocks_l3 l) (s := ([], [], false, 0)) (fun k (s : List (List Int) × List Int × Bool × Int) => s.2.2.2 = (k : Int) ∧ s.1 ++ cb s.2.1 (l.drop k) s.2.2.1 = cb [] l false ∧ s.2.1.length < 254 ∧ s.1.length ≤ k) (fun e => ref05_Blocks_j1 e (cb [] l false)) l.length ⟨rfl, by simp, by simp, by simp⟩ ?_ ?_
  · obtain ⟨e, h1, h2⟩ := key; exact ⟨e, h1, h2⟩
  · rintro k ⟨out, now, ended, i⟩ hk ⟨h1, h2, h3, h4⟩
    simp only at h1 h2 h3 h4
    subst h1
    left
    rw [List.drop_eq_getElem_cons hk] at h2
    simp only [cb] at h2
    have wi : IntKind.i64.wrap ((k : Int) + 1) = ((k + 1 : Nat) : Int) := by rw [w_small (by omega) (by omega)]; rfl
    by_cases h0 : l[k] = 0
    · rw [if_pos h0] at h2
      refine ⟨(out ++ [now], [], false, ((k + 1 : Nat) : Int)), ?_, rfl, by simpa using h2, by simp, by simp; omega⟩
      unfold ref05_Blocks_l3
      simp only
      rw [if_pos (by simp; omega)]
      refine ⟨l[k], idx_of hk, ?_⟩
      rw [if_pos (by simpa using h0)]
      simp only [List.length_cons, List.length_nil]
      refine ⟨by omega, by omega, ?_⟩
      unfold ref05_Blocks_j4
      simp only
      rw [wi]
    · rw [if_neg h0] at h2
      by_cases h5 : now.length + 1 = 254
      · rw [if_pos h5] at h2
        refine ⟨(out ++ [now ++ [l[k]]], [], true, ((k + 1 : Nat) : Int)), ?_, rfl, by simpa using h2, by simp, by simp; omega⟩
        unfold ref05_Blocks_l3
        simp only
        rw [if_pos (by simp; omega)]
        refine ⟨l[k], idx_of hk, ?_⟩
        rw [if_neg (by simpa using h0)]
        simp only [List.length_cons, List.length_nil, List.length_append]
        refine ⟨l[k], idx_of hk, by omega, by omega, ?_⟩
        rw [if_pos (by simp; omega)]
        refine ⟨by omega, by omega, ?_⟩
        unfold ref05_Blocks_j4
        simp only
        rw [wi]
      · rw [if_neg h5] at h2
        refine ⟨(out, now ++ [l[k]], false, ((k + 1 : Nat) : Int)), ?_, rfl, h2, by simp; omega, by simp; omega⟩
        unfold ref05_Blocks_l3
        simp only
        rw [if_pos (by simp; omega)]
        refine ⟨l[k], idx_of hk, ?_⟩
        rw [if_neg (by simpa using h0)]
        simp only [List.length_cons, List.length_nil, List.length_append]
        refine ⟨l[k], idx_of hk, by omega, by omega, ?_⟩
        rw [if_neg (by simp; omega)]
        unfold ref05_Blocks_j4
        simp only
        rw [wi]
  · rintro ⟨out, now, ended, i⟩ ⟨h1, h2, h3, h4⟩
    simp only at h1 h2 h3 h4
    refine ⟨(out, now, ended), ?_, ?_⟩
    · unfold ref05_Blocks_l3
      rw [if_neg (by simp [h1])]
    · rw [List.drop_length] at h2
      unfold ref05_Blocks_j1
      cases ended with
      | true =>
        rw [if_neg (by simp)]
        simp only [cb, if_true, List.append_nil] at h2
        exact h2.symm
      | false =>
        rw [if_pos (by simp)]
        simp only [cb, Bool.false_eq_true, if_false] at h2
        simp only [List.length_cons, List.length_nil]
        exact ⟨by omega, by omega, h2.symm⟩
theorem rencode_ok {l : List Int} (hlen : l.length < 1073741824) : ref05_Encode l (encB l) := by
  refine ⟨_, rblocks_ok hlen, encB l, ?_, rfl⟩
  have hs := cb_sum l [] false
  have ha := cb_all l [] false (by simp)
  unfold encB
  generalize cb [] l false = L at hs ha
  have hf : ∀ k, k ≤ L.length → ((L.take k).map enc1).flatten.length ≤ (L.map List.length).sum + L.length := by
    intro k hk
    have h1 := flat_len L
    have h2 : (L.map enc1).flatten = ((L.take k).map enc1).flatten ++ ((L.drop k).map enc1).flatten := by
      rw [← List.flatten_append, ← List.map_append, List.take_append_drop]
    rw [h2, List.length_append] at h1; omega
  refine loops_count (step := ref05_Encode_l2 L) (fun k => (((L.take k).map enc1).flatten, (k : Int))) L.length (fun k hk => ?_) ?_
  · have h1 := hf k (by omega)
    have h2 := ha L[k] (List.getElem_mem _)
    simp only [List.length_nil, Nat.zero_add] at hs
    unfold ref05_Encode_l2
    simp only
    rw [if_pos (by simp; omega)]
    simp only [List.length_cons, List.length_nil, List.length_append]
    refine ⟨L[k], idx_of hk, by omega, by omega, L[k], idx_of hk, by omega, by omega, ?_⟩
    have e1 : IntKind.u8.wrap (IntKind.i64.wrap ((L[k].length : Int) + 1)) = (L[k].length : Int) + 1 := by rw [w_small (by omega) (by omega), w_u8]; omega
    rw [e1, w_small (by omega) (by omega), take_map _ hk, List.flatten_append]
    simp [enc1]
  · unfold ref05_Encode_l2
    simp only
    rw [if_neg (by simp), List.take_length]
/-- One code and its block. -/
theorem rinner_ok {b : List Int} (hb : Byt b) (hlen : b.length < 1073741824) {at_ : Nat} (ha : at_ < b.length) {out : List Int} (ho : out.length < 1073741824) : Loops (ref05_Decode_l5 b (out, (at_ : Int)) b[at_]) (out, 1) (out ++ (b.drop (at_ + 1)).take (b[at_] - 1).toNat) := by
  have hc := byt_at hb ha
  have hw : IntKind.i64.wrap b[at_] = b[at_] := w_small (by omega) (by omega)
  have htk : (b.drop (at_ + 1)).take (b[at_] - 1).toNat = (b.drop (at_ + 1)).take (min (b[at_] - 1).toNat (b.length - at_ - 1)) := by
    by_cases h : (b[at_] - 1).toNat ≤ b.length - at_ - 1
    · rw [Nat.min_eq_left h]
    · rw [Nat.min_eq_right (by omega), List.take_of_length_le (by rw [List.length_drop]; omega), List.take_of_length_le (by rw [List.length_drop]; omega)]
  rw [htk]
  have := loops_count (step := ref05_Decode_l5 b (out, (at_ : Int)) b[at_]) (fun k => (out ++ (b.drop (at_ + 1)).take k, ((k + 1 : Nat) : Int))) (min (b[at_] - 1).toNat (b.length - at_ - 1)) (e := out ++ (b.drop (at_ + 1)).take (min (b[at_] - 1).toNat (b.length - at_ - 1))) (fun k hk => ?_) ?_
  · simpa using this
  · unfold ref05_Decode_l5
    rw [hw]
    simp only
    rw [if_pos (by simp; omega)]
    unfold ref05_Decode_j6
    simp only
    have e2 : IntKind.i64.wrap ((at_ : Int) + ((k + 1 : Nat) : Int)) = ((at_ + 1 + k : Nat) : Int) := by rw [w_small (by omega) (by omega)]; omega
    rw [e2, if_pos (by simp; omega)]
    refine ⟨b[at_ + 1 + k]'(by omega), idx_of (by omega), ?_⟩
    simp only [List.length_append, List.length_take, List.length_drop, List.length_cons, List.length_nil]
    refine ⟨by omega, by omega, ?_⟩
    rw [w_small (by omega) (by omega), List.take_succ_eq_append_getElem (show k < (b.drop (at_ + 1)).length by rw [List.length_drop]; omega), List.getElem_drop]
    simp
  · unfold ref05_Decode_l5
    rw [hw]
    simp only
    have fin : ref05_Decode_j6 b (out, (at_ : Int)) (out ++ (b.drop (at_ + 1)).take (min (b[at_] - 1).toNat (b.length - at_ - 1)), ((min (b[at_] - 1).toNat (b.length - at_ - 1) + 1 : Nat) : Int)) false (.inr (out ++ (b.drop (at_ + 1)).take (min (b[at_] - 1).toNat (b.length - at_ - 1)))) := by
      unfold ref05_Decode_j6
      rw [if_neg (by decide)]
    by_cases h : (((min (b[at_] - 1).toNat (b.length - at_ - 1) + 1 : Nat) : Int)) < b[at_]
    · rw [if_pos (by simpa using h)]
      have e3 : decide (IntKind.i64.wrap ((at_ : Int) + ((min (b[at_] - 1).toNat (b.length - at_ - 1) + 1 : Nat) : Int)) < (b.length : Int)) = false := by
        rw [w_small (by omega) (by omega), decide_eq_false]; omega
      rw [e3]; exact fin
    · rw [if_neg (by simpa using h)]; exact fin
theorem rstep_ok {b : List Int} (hb : Byt b) (hlen : b.length < 1073741824) {at_ : Nat} (ha : at_ < b.length) {out : List Int} (ho : out.length < 1073741824) :
    ref05_Decode_l2 b (out, (at_ : Int)) (if b[at_] = 0 then .inr (.inr ([], 12)) else .inl (out ++ (b.drop (at_ + 1)).take (b[at_] - 1).toNat ++ (if b[at_] < 255 ∧ (at_ : Int) + b[at_] < b.length then [0] else []), (at_ : Int) + b[at_])) := by
  have hc := byt_at hb ha
  have hw : IntKind.i64.wrap b[at_] = b[at_] := w_small (by omega) (by omega)
  have hw2 : IntKind.i64.wrap ((at_ : Int) + b[at_]) = (at_ : Int) + b[at_] := w_small (by omega) (by omega)
  unfold ref05_Decode_l2
  simp only
  rw [if_pos (by simp; omega)]
  refine ⟨b[at_], idx_of ha, _, rinner_ok hb hlen ha ho, ?_⟩
  have hl : (out ++ (b.drop (at_ + 1)).take (b[at_] - 1).toNat).length < 2147483648 := by
    rw [List.length_append, List.length_take]; omega
  generalize out ++ (b.drop (at_ + 1)).take (b[at_] - 1).toNat = o2 at hl
  unfold ref05_Decode_j3
  simp only [hw, hw2]
  by_cases h0 : b[at_] = 0
  · rw [if_pos h0, if_pos (by simpa using h0)]
  · rw [if_neg h0, if_neg (by simpa using h0)]
    by_cases h1 : b[at_] < 255
    · rw [if_pos (by simpa using h1)]
      unfold ref05_Decode_j4
      by_cases h2 : (at_ : Int) + b[at_] < b.length
      · have hz : (if b[at_] < 255 ∧ (at_ : Int) + b[at_] < b.length then ([0] : List Int) else []) = [0] := if_pos ⟨h1, h2⟩
        rw [hz, if_pos (by simpa using h2)]
        simp only [hw, hw2, List.length_cons, List.length_nil]
        exact ⟨by omega, by omega, trivial⟩
      · have hz : (if b[at_] < 255 ∧ (at_ : Int) + b[at_] < b.length then ([0] : List Int) else []) = [] := if_neg (fun h => h2 h.2)
        rw [hz, if_neg (by simpa using h2)]
        simp only [hw, hw2, List.append_nil]
    · have hz : (if b[at_] < 255 ∧ (at_ : Int) + b[at_] < b.length then ([0] : List Int) else []) = [] := if_neg (fun h => h1 h.1)
      rw [hz, if_neg (by simpa using h1)]
      unfold ref05_Decode_j4
      rw [if_neg (by decide)]
      simp only [hw, hw2, List.append_nil]
theorem rloop_any {b : List Int} (hb : Byt b) (hlen : b.length < 268435456) : ∃ e, Loops (ref05_Decode_l2 b) ([], 0) e ∧ (e = .inr ([], 12) ∨ ∃ o : List Int, e = .inl o ∧ o.length < 1073741824) := by
  refine loops_inv (step := ref05_Decode_l2 b) (fun k (s : List Int × Int) => ∃ at_ : Nat, s.2 = (at_ : Int) ∧ k ≤ at_ ∧ at_ ≤ b.length + 255 ∧ s.1.length ≤ at_) _ b.length ⟨0, rfl, Nat.le_refl _, by omega, by simp⟩ ?_ ?_
  · rintro k ⟨out, i⟩ hk ⟨at_, h1, h2, h3, h4⟩
    simp only at h1 h4
    subst h1
    by_cases ha : at_ < b.length
    · have hs := rstep_ok hb (by omega) ha (out := out) (by omega)
      have hc := byt_at hb ha
      by_cases h0 : b[at_] = 0
      · right
        rw [if_pos h0] at hs
        exact ⟨_, hs, .inl rfl⟩
      · left
        rw [if_neg h0] at hs
        refine ⟨_, hs, (at_ + b[at_].toNat), by simp only; omega, by omega, by omega, ?_⟩
        have : (if b[at_] < 255 ∧ (at_ : Int) + b[at_] < b.length then ([0] : List Int) else []).length ≤ 1 := by split <;> simp
        simp only [List.length_append, List.length_take]
        omega
    · right
      refine ⟨.inl out, ?_, .inr ⟨out, rfl, by omega⟩⟩
      unfold ref05_Decode_l2
      rw [if_neg (by simp; omega)]
  · rintro ⟨out, i⟩ ⟨at_, h1, h2, h3, h4⟩
    simp only at h1 h4
    subst h1
    refine ⟨.inl out, ?_, .inr ⟨out, rfl, by omega⟩⟩
    unfold ref05_Decode_l2
    rw [if_neg (by simp; omega)]
theorem flatB_cons (p : List Int) (L : List (List Int)) : flatB (p :: L) = ((p.length : Int) + 1) :: (p ++ flatB L) := by simp [flatB, enc1]
theorem rloop_enc {b : List Int} (hb : Byt b) (hlen : b.length < 268435456) : ∀ (L : List (List Int)) (pre out : List Int), (∀ p ∈ L, p.length ≤ 254) → b = pre ++ flatB L → out.length ≤ pre.length → Loops (ref05_Decode_l2 b) (out, (pre.length : Int)) (.inl (out ++ joinB L))
  | [], pre, out, _, hp, _ => by
    refine .done ?_
    unfold ref05_Decode_l2
    have : b.length = pre.length := by rw [hp]; simp [flatB]
    rw [if_neg (by simp; omega)]
    simp [joinB]
  | p :: L, pre, out, hL, hp, ho => by
    have hbl : b.length = pre.length + 1 + p.length + (flatB L).length := by rw [hp, flatB_cons]; simp only [List.length_append, List.length_cons]; omega
    have ha : pre.length < b.length := by omega
    have hc : b[pre.length] = (p.length : Int) + 1 := by
      have h1 : b[pre.length]? = some ((p.length : Int) + 1) := by rw [hp, flatB_cons]; simp
      rw [List.getElem?_eq_getElem ha] at h1
      simpa using h1
    have hpl := hL p List.mem_cons_self
    have hs := rstep_ok hb (by omega) ha (out := out) (by omega)
    rw [hc, if_neg (by omega)] at hs
    have ht : (b.drop (pre.length + 1)).take ((p.length : Int) + 1 - 1).toNat = p := by
      rw [show ((p.length : Int) + 1 - 1).toNat = p.length by omega, hp, flatB_cons, ← List.drop_drop, List.drop_left, List.drop_succ_cons, List.drop_zero, List.take_left]
    rw [ht] at hs
    have e2 : (pre.length : Int) + ((p.length : Int) + 1) = ((pre ++ (((p.length : Int) + 1) :: p)).length : Int) := by simp only [List.length_append, List.length_cons]; omega
    rw [e2] at hs
    have ih := rloop_enc hb hlen L (pre ++ (((p.length : Int) + 1) :: p)) (out ++ p ++ (if (p.length : Int) + 1 < 255 ∧ ((pre ++ (((p.length : Int) + 1) :: p)).length : Int) < b.length then [0] else [])) (fun q hq => hL q (List.mem_cons_of_mem _ hq)) (by rw [hp, flatB_cons]; simp) (by
      have : (if (p.length : Int) + 1 < 255 ∧ ((pre ++ (((p.length : Int) + 1) :: p)).length : Int) < b.length then ([0] : List Int) else []).length ≤ 1 := by split <;> simp
      simp only [List.length_append, List.length_cons] at this ⊢; omega)
    refine .next hs ?_
    have hj : out ++ p ++ (if (p.length : Int) + 1 < 255 ∧ ((pre ++ (((p.length : Int) + 1) :: p)).length : Int) < b.length then [0] else []) ++ joinB L = out ++ joinB (p :: L) := by
      cases L with
      | nil =>
        have : ¬ ((p.length : Int) + 1 < 255 ∧ ((pre ++ (((p.length : Int) + 1) :: p)).length : Int) < b.length) := by
          rintro ⟨_, h⟩
          rw [hbl] at h
          simp [flatB] at h; omega
        rw [if_neg this]; simp [joinB]
      | cons q L =>
        have hq : (((pre ++ (((p.length : Int) + 1) :: p)).length : Int) < b.length) := by
          rw [hbl, flatB_cons]; simp; omega
        simp only [joinB]
        by_cases h : p.length = 254
        · rw [if_neg (fun h2 => by omega), if_pos h]; simp
        · rw [if_pos ⟨by omega, hq⟩, if_neg h]; simp
    rw [hj] at ih
    exact ih
theorem enc_len (x : List Int) : x.length + 1 ≤ (encB x).length := by
  have h := join_len (cb [] x false) (cb_ne x [])
  rw [(cb_ok (x.length + 1) x (by omega)).2.1] at h; exact h
theorem rdecode_ok {b : List Int} (hb : Byt b) (hlen : b.length < 268435456) : ref05_Decode b (decR b) := by
  unfold decR
  cases hd : decB b with
  | some x =>
    have he := dec_some hb hd
    obtain ⟨h1, h2, _⟩ := cb_ok (x.length + 1) x (by omega)
    have hl := rloop_enc hb hlen (cb [] x false) [] [] (fun p hp => (h1 p hp).2) (by rw [List.nil_append]; exact he.symm) (by simp)
    rw [h2] at hl
    refine ⟨.inl x, by simpa using hl, ?_⟩
    have hxl := enc_len x
    rw [he] at hxl
    refine ⟨_, rencode_ok (by omega), _, same_ok (by rw [he]; omega), ?_⟩
    rw [he, decide_eq_true rfl, if_neg (by decide)]
  | none =>
    obtain ⟨e, h1, h2⟩ := rloop_any hb hlen
    rcases h2 with rfl | ⟨o, rfl, ho⟩
    · exact ⟨_, h1, rfl⟩
    · refine ⟨_, h1, ?_⟩
      have hne : ¬ encB o = b := by
        intro h; rw [← h, dec_enc] at hd; cases hd
      have h3 : (encB o).length < 4611686018427387904 := by
        unfold encB
        have := cb_sum o [] false
        rw [flat_len]; simp at this; omega
      refine ⟨_, rencode_ok ho, _, same_ok h3, ?_⟩
      rw [decide_eq_false hne, if_pos (by decide)]

/-! ### frames -/
abbrev Fm := Hd × List Int
def noF : Fm := ((0, 0, 0, 0, 0), [])
def unpB (s : List Int) : Fm × Int := if 255 < s.length then (noF, 2) else if (decR s).2 ≠ 0 then (noF, (decR s).2) else if (decR s).1.length ≤ 12 then (noF, 13) else
  if (openB (decR s).1).2 ≠ 0 then (noF, (openB (decR s).1).2) else if (parseH ((openB (decR s).1).1.take 8)).2 ≠ 0 then (noF, (parseH ((openB (decR s).1).1.take 8)).2) else (((parseH ((openB (decR s).1).1.take 8)).1, (openB (decR s).1).1.drop 8), 0)
theorem decR_ok {s : List Int} (hs : Byt s) (h : (decR s).2 = 0) : encB (decR s).1 = s ∧ Byt (decR s).1 := by
  unfold decR at h ⊢
  cases hd : decB s with
  | none => rw [hd] at h; cases h
  | some x =>
    simp only
    refine ⟨dec_some hs hd, ?_⟩
    -- its bytes are among those
    have : ∀ (L : List (List Int)), (∀ p ∈ L, Byt p) → Byt (joinB L) := by
      intro L
      induction L with
      | nil => intro _ x hx; cases hx
      | cons p L ih =>
        intro hL
        cases L with
        | nil => exact hL p List.mem_cons_self
        | cons q L =>
          simp only [joinB]
          refine Byt.app (Byt.app (hL p List.mem_cons_self) ?_) (ih fun r hr => hL r (List.mem_cons_of_mem _ hr))
          intro x hx
          split at hx
          · cases hx
          · simp at hx; omega
    obtain ⟨_, h2, _⟩ := cb_ok (x.length + 1) x (by omega)
    rw [← h2]
    refine this _ fun p hp => ?_
    have he := dec_some hs hd
    intro c hc
    refine hs c ?_
    rw [← he]
    unfold encB
    exact List.mem_flatten.2 ⟨enc1 p, List.mem_map_of_mem hp, List.mem_cons_of_mem _ hc⟩
theorem drop8 {x : List Int} (_h : 8 ≤ x.length) : (x.drop (0 : Int).toNat).take ((8 : Int) - 0).toNat = x.take 8 ∧ (x.drop (8 : Int).toNat).take (((x.length : Int) : Int) - 8).toNat = x.drop 8 := by
  refine ⟨rfl, ?_⟩
  rw [show (8 : Int).toNat = 8 from rfl, List.take_of_length_le]
  rw [List.length_drop]; omega
theorem unpack_ok {t : List Int} (ht : IsTab t) {s : List Int} (hs : Byt s) (hl : s.length < 268435456) : frame_Codec_Unpack t s (unpB s) := by
  unfold frame_Codec_Unpack unpB
  by_cases h1 : 255 < s.length
  · rw [if_pos (by simp; omega), if_pos h1]; rfl
  · rw [if_neg (by simp; omega), if_neg h1]
    refine ⟨_, decode_ok hs hl, ?_⟩
    by_cases h2 : (decR s).2 = 0
    · rw [if_neg (show ¬ ((decR s).2 ≠ 0) from fun e => e h2), if_neg (by simpa using h2)]
      obtain ⟨he, hb⟩ := decR_ok hs h2
      have hbl : (decR s).1.length < 256 := by have := enc_len (decR s).1; rw [he] at this; omega
      by_cases h3 : (decR s).1.length ≤ 12
      · rw [if_pos h3, if_pos (by simp; omega)]; rfl
      · rw [if_neg h3, if_neg (by simp; omega)]
        refine ⟨_, copen_ok ht hb (by omega), ?_⟩
        by_cases h4 : (openB (decR s).1).2 = 0
        · rw [if_neg (by simpa using h4), if_neg (by simpa using h4)]
          obtain ⟨_, h5, _⟩ := openB_ok' h4
          have hxb : Byt (openB (decR s).1).1 := by rw [h5]; exact hb.take _
          have hxl : 8 ≤ (openB (decR s).1).1.length := by rw [h5, List.length_take]; omega
          obtain ⟨e1, e2⟩ := drop8 hxl
          rw [e1, e2]
          refine ⟨by omega, _, hparse_ok (hxb.take 8) (by rw [List.length_take]; omega), ?_⟩
          by_cases h6 : (parseH ((openB (decR s).1).1.take 8)).2 = 0
          · rw [if_neg (by simpa using h6), if_neg (by simpa using h6)]
            exact ⟨by omega, Int.le_refl _, rfl⟩
          · rw [if_pos (by simpa using h6), if_pos h6]; rfl
        · rw [if_pos (by simpa using h4), if_pos h4]; rfl
    · rw [if_pos (by simpa using h2), if_pos h2]; rfl
theorem runpack_ok {s : List Int} (hs : Byt s) (hl : s.length < 268435456) : ref08_Unpack s (unpB s) := by
  unfold ref08_Unpack unpB
  by_cases h1 : 255 < s.length
  · rw [if_pos (by simp; omega), if_pos h1]; rfl
  · rw [if_neg (by simp; omega), if_neg h1]
    refine ⟨_, rdecode_ok hs hl, ?_⟩
    by_cases h2 : (decR s).2 = 0
    · rw [if_neg (show ¬ ((decR s).2 ≠ 0) from fun e => e h2), if_neg (by simpa using h2)]
      obtain ⟨he, hb⟩ := decR_ok hs h2
      have hbl : (decR s).1.length < 256 := by have := enc_len (decR s).1; rw [he] at this; omega
      by_cases h3 : (decR s).1.length ≤ 12
      · rw [if_pos h3, if_pos (by simp; omega)]; rfl
      · rw [if_neg h3, if_neg (by simp; omega)]
        refine ⟨_, ropen_ok hb (by omega), ?_⟩
        by_cases h4 : (openB (decR s).1).2 = 0
        · rw [if_neg (by simpa using h4), if_neg (by simpa using h4)]
          obtain ⟨_, h5, _⟩ := openB_ok' h4
          have hxb : Byt (openB (decR s).1).1 := by rw [h5]; exact hb.take _
          have hxl : 8 ≤ (openB (decR s).1).1.length := by rw [h5, List.length_take]; omega
          have hxl2 : (openB (decR s).1).1.length < 256 := by rw [h5, List.length_take]; omega
          obtain ⟨e1, e2⟩ := drop8 hxl
          rw [e1, e2]
          refine ⟨by omega, _, rhparse_ok (hxb.take 8) (by rw [List.length_take]; omega), ?_⟩
          by_cases h6 : (parseH ((openB (decR s).1).1.take 8)).2 = 0
          · rw [if_neg (by simpa using h6), if_neg (by simpa using h6)]
            simp only [List.length_nil, List.nil_append, List.length_drop]
            exact ⟨by omega, Int.le_refl _, by omega, by omega, trivial⟩
          · rw [if_pos (by simpa using h6), if_pos h6]; rfl
        · rw [if_pos (by simpa using h4), if_pos h4]; rfl
    · rw [if_pos (by simpa using h2), if_pos h2]; rfl
/-- What is unpacked may be, and is packed to just that segment. -/
theorem unp_back {s : List Int} (hs : Byt s) (h : (unpB s).2 = 0) : frameE (unpB s).1 = 0 ∧ (0 ≤ (unpB s).1.1.2.2.1 ∧ (unpB s).1.1.2.2.1 < 4294967296) ∧ Byt (unpB s).1.2 ∧ segB (unpB s).1 = s := by
  unfold unpB at h ⊢
  by_cases h1 : 255 < s.length
  · rw [if_pos h1] at h; cases h
  · rw [if_neg h1] at h ⊢
    by_cases h2 : (decR s).2 = 0
    · rw [if_neg (by simpa using h2)] at h ⊢
      obtain ⟨he, hb⟩ := decR_ok hs h2
      have hbl := enc_len (decR s).1
      rw [he] at hbl
      by_cases h3 : (decR s).1.length ≤ 12
      · rw [if_pos h3] at h; cases h
      · rw [if_neg h3] at h ⊢
        by_cases h4 : (openB (decR s).1).2 = 0
        · rw [if_neg (by simpa using h4)] at h ⊢
          obtain ⟨_, h5, h6⟩ := openB_ok' h4
          rw [h5] at h ⊢
          generalize decR s = d at *
          obtain ⟨b, e⟩ := d
          simp only at *
          by_cases h7 : (parseH ((b.take (b.length - 4)).take 8)).2 = 0
          · rw [if_neg (by simpa using h7)]
            have h8 : ((b.take (b.length - 4)).take 8).length = 8 := by rw [List.length_take, List.length_take]; omega
            have hxb : Byt ((b.take (b.length - 4)).take 8) := (hb.take _).take _
            have hE : headE (hdOf ((b.take (b.length - 4)).take 8)) = 0 := by
              unfold parseH at h7
              by_cases hq : headE (hdOf ((b.take (b.length - 4)).take 8)) = 0
              · exact hq
              · rw [if_neg hq] at h7; exact absurd h7 hq
            have hP : (parseH ((b.take (b.length - 4)).take 8)).1 = hdOf ((b.take (b.length - 4)).take 8) := by unfold parseH; rw [if_pos hE]
            rw [hP]
            simp only
            have hv := leV_bound ((((b.take (b.length - 4)).take 8).drop 2).take 4) ((hxb.drop 2).take 4)
            have hp2 : 256 ^ ((((b.take (b.length - 4)).take 8).drop 2).take 4).length ≤ 256 ^ 4 := Nat.pow_le_pow_right (by omega) (by rw [List.length_take]; omega)
            have hdl : ((b.take (b.length - 4)).drop 8).length = b.length - 12 := by rw [List.length_drop, List.length_take]; omega
            have hB := headB_hdOf hxb h8
            refine ⟨?_, ⟨hv.1, ?_⟩, (hb.take _).drop _, ?_⟩
            · unfold frameE
              simp only
              rw [if_neg (by simpa using hE), hdl, if_neg (by omega), if_neg (by omega)]
            · simp only [hdOf]; omega
            · unfold segB blockB
              simp only
              rw [hB, List.take_append_drop, ← h6, List.take_append_drop]; exact he
          · rw [if_pos h7] at h; exact absurd h h7
        · rw [if_pos h4] at h; exact absurd h h4
    · rw [if_pos h2] at h; exact absurd h h2
theorem rfsame_ok (a b : Fm) (hl : a.2.length < 4611686018427387904) : ref08_Same a b (decide (a = b)) := by
  unfold ref08_Same
  obtain ⟨⟨v, k, q, i, n⟩, x⟩ := a
  obtain ⟨⟨v', k', q', i', n'⟩, y⟩ := b
  simp only
  by_cases h : v = v' ∧ k = k' ∧ q = q' ∧ i = i' ∧ n = n'
  · obtain ⟨rfl, rfl, rfl, rfl, rfl⟩ := h
    rw [if_pos (by simp)]
    refine ⟨_, same_ok hl, ?_⟩
    show decide _ = decide _
    rw [decide_eq_decide]; simp
  · rw [if_neg (by simpa using h)]
    show decide _ = false
    rw [decide_eq_false]
    intro e
    simp only [Prod.mk.injEq] at e
    exact h e.1
end Go.Rel
/-! Plain law: what the segments of any bytes are. -/
namespace Go.Rel
open Go Go.Eng Go.Pl
/-- The segments of bytes, each with its place: what a segment has so far, what is left. -/
def segP : Nat → List Int → List Int → List (Int × List Int)
  | _, _, [] => []
  | i, now, c :: l => if c ≠ 0 then segP (i + 1) (now ++ [c]) l else if now = [] then segP (i + 1) [] l else ((i : Int) - (now.length : Int), now) :: segP (i + 1) [] l
theorem segments_ok {b : List Int} (hl : b.length < 1073741824) : Itr (fence_Segments_1 b) (segP 0 [] b) := by
  intro S Y s s' hr
  refine ⟨(s', ()), ?_, rfl⟩
  have key : ∀ (m i st : Nat) (now : List Int) (s : S), i + m = b.length → st ≤ i → (b.drop st).take (i - st) = now → Run Y (segP i now (b.drop i)) s s' → Loops (fence_Segments_1_l1 S Y b) (s, (st : Int), (i : Int)) (s', ()) := by
    intro m
    induction m with
    | zero =>
      intro i st now s hi _ _ hr
      rw [List.drop_eq_nil_of_le (by omega)] at hr
      cases hr
      refine .done ?_
      unfold fence_Segments_1_l1
      rw [if_neg (by simp; omega)]
    | succ m ih =>
      intro i st now s hi hst hnow hr
      have hib : i < b.length := by omega
      rw [List.drop_eq_getElem_cons hib] at hr
      have wi : IntKind.i64.wrap ((i : Int) + 1) = ((i + 1 : Nat) : Int) := by rw [w_small (by omega) (by omega)]; rfl
      have hnl : now.length = i - st := by rw [← hnow, List.length_take, List.length_drop]; omega
      have e0 : (b.drop (st : Int).toNat).take (((i : Int) : Int) - (st : Int)).toNat = now := by
        rw [Int.toNat_natCast, ← hnow]; congr 1; omega
      simp only [segP] at hr
      by_cases h0 : b[i] = 0
      · rw [if_neg (by simpa using h0)] at hr
        by_cases hn : now = []
        · rw [if_pos hn] at hr
          subst hn
          refine .next (s' := (s, ((i + 1 : Nat) : Int), ((i + 1 : Nat) : Int))) ?_ (ih (i + 1) (i + 1) [] s (by omega) (Nat.le_refl _) (by simp) hr)
          unfold fence_Segments_1_l1
          simp only
          rw [if_pos (by simp; omega)]
          refine ⟨b[i], idx_of hib, ?_⟩
          rw [if_neg (by simp [h0]), if_neg (by simp at hnl; simp; omega)]
          unfold fence_Segments_1_j3
          rw [if_neg (by simp)]
          unfold fence_Segments_1_j2
          simp only
          rw [wi]
        · rw [if_neg hn] at hr
          have hst2 : st < i := by
            have : now.length ≠ 0 := fun h => hn (List.eq_nil_of_length_eq_zero h)
            omega
          have hp : (i : Int) - (now.length : Int) = (st : Int) := by omega
          rw [hp] at hr
          have stp : ∀ y u, Y ((st : Int), now) s (y, u) → fence_Segments_1_l1 S Y b (s, (st : Int), (i : Int)) (if y = true then .inl (u, ((i + 1 : Nat) : Int), ((i + 1 : Nat) : Int)) else .inr (u, ())) := by
            intro y u hy
            unfold fence_Segments_1_l1
            simp only
            rw [if_pos (by simp; omega)]
            refine ⟨b[i], idx_of hib, ?_⟩
            rw [if_neg (by simp [h0]), if_pos (by simp; omega), e0]
            simp only [List.length_nil, List.nil_append]
            refine ⟨by omega, by omega, by omega, Int.le_refl _, by omega, by omega, by omega, y, u, hy, ?_⟩
            unfold fence_Segments_1_j3
            cases y with
            | true =>
              rw [if_neg (by simp)]
              unfold fence_Segments_1_j2
              simp only
              rw [wi]; rfl
            | false => rw [if_pos (by simp)]; rfl
          cases hr with
          | go h h' => exact .next (stp true _ h) (ih (i + 1) (i + 1) [] _ (by omega) (Nat.le_refl _) (by simp) h')
          | stop h => exact .done (stp false _ h)
      · rw [if_pos h0] at hr
        refine .next (s' := (s, (st : Int), ((i + 1 : Nat) : Int))) ?_ (ih (i + 1) st (now ++ [b[i]]) s (by omega) (by omega) ?_ hr)
        · unfold fence_Segments_1_l1
          simp only
          rw [if_pos (by simp; omega)]
          refine ⟨b[i], idx_of hib, ?_⟩
          rw [if_pos (by simpa using h0)]
          unfold fence_Segments_1_j2
          simp only
          rw [wi]
        · rw [show i + 1 - st = (i - st) + 1 by omega, List.take_succ_eq_append_getElem (show i - st < (b.drop st).length by rw [List.length_drop]; omega), hnow, List.getElem_drop]
          congr 3; omega
  exact key b.length 0 0 [] s (by omega) (Nat.le_refl _) (by simp) (by simpa using hr)
theorem segP_sum : ∀ (l : List Int) (i : Nat) (now : List Int), ((segP i now l).map (fun x => x.2.length)).sum ≤ now.length + l.length ∧ (segP i now l).length ≤ l.length
  | [], i, now => by simp [segP]
  | c :: l, i, now => by
    unfold segP
    split
    · have := segP_sum l (i + 1) (now ++ [c]); simp at this ⊢; omega
    · split
      · have := segP_sum l (i + 1) []; simp at this ⊢; omega
      · have := segP_sum l (i + 1) []; simp at this ⊢; omega
theorem segP_byt : ∀ (l : List Int) (i : Nat) (now : List Int), Byt l → Byt now → ∀ x ∈ segP i now l, Byt x.2
  | [], i, now, _, _, x, hx => by simp [segP] at hx
  | c :: l, i, now, hl, hn, x, hx => by
    have hl' : Byt l := fun y hy => hl y (List.mem_cons_of_mem _ hy)
    have hc := hl c List.mem_cons_self
    unfold segP at hx
    split at hx
    · exact segP_byt l (i + 1) (now ++ [c]) hl' (Byt.app hn (fun y hy => by simp at hy; subst hy; exact hc)) x hx
    · split at hx
      · exact segP_byt l (i + 1) [] hl' (fun y hy => nomatch hy) x hx
      · rcases List.mem_cons.1 hx with rfl | hx
        · exact hn
        · exact segP_byt l (i + 1) [] hl' (fun y hy => nomatch hy) x hx
theorem split_ok {b : List Int} (hl : b.length < 1073741824) : ∃ ps rest, ref06_Split b ((segP 0 [] b).map (·.2), ps, rest) := by
  have key := loops_inv (step := ref06_Split_l2 b) (s := ([], [], [], 0)) (fun k (s : List (List Int) × List Int × List Int × Int) => s.2.2.2 = (k : Int) ∧ s.1 ++ (segP k s.2.2.1 (b.drop k)).map (·.2) = (segP 0 [] b).map (·.2) ∧ s.1.length ≤ k ∧ s.2.1.length ≤ k ∧ s.2.2.1.length ≤ k) (fun e => e.1 = (segP 0 [] b).map (·.2)) b.length ⟨rfl, by simp, by simp, by simp, by simp⟩ ?_ ?_
  · obtain ⟨⟨l, ps, rest⟩, h1, h2⟩ := key
    simp only at h2
    subst h2
    exact ⟨ps, rest, _, h1, rfl⟩
  · rintro k ⟨out, ps, now, i⟩ hk ⟨h1, h2, h3, h4, h5⟩
    simp only at h1 h2 h3 h4 h5
    subst h1
    left
    have wi : IntKind.i64.wrap ((k : Int) + 1) = ((k + 1 : Nat) : Int) := by rw [w_small (by omega) (by omega)]; rfl
    rw [List.drop_eq_getElem_cons hk] at h2
    simp only [segP] at h2
    by_cases h0 : b[k] = 0
    · rw [if_neg (by simpa using h0)] at h2
      by_cases hn : now = []
      · rw [if_pos hn] at h2
        subst hn
        refine ⟨(out, ps, [], ((k + 1 : Nat) : Int)), ?_, rfl, h2, by simp only; omega, by simp only; omega, by simp⟩
        unfold ref06_Split_l2
        simp only
        rw [if_pos (by simp; omega)]
        refine ⟨b[k], idx_of hk, ?_⟩
        rw [if_neg (by simp [h0]), if_neg (by simp)]
        unfold ref06_Split_j4 ref06_Split_j3
        simp only
        rw [wi]
      · rw [if_neg hn] at h2
        have hnl : 0 < now.length := List.length_pos_iff.2 hn
        refine ⟨(out ++ [now], ps ++ [(k : Int) - (now.length : Int)], [], ((k + 1 : Nat) : Int)), ?_, rfl, by simpa using h2, by simp; omega, by simp; omega, by simp⟩
        unfold ref06_Split_l2
        simp only
        rw [if_pos (by simp; omega)]
        refine ⟨b[k], idx_of hk, ?_⟩
        rw [if_neg (by simp [h0]), if_pos (by simp; omega), w_small (n := (k : Int) - (now.length : Int)) (by omega) (by omega)]
        simp only [List.length_cons, List.length_nil]
        refine ⟨by omega, by omega, by omega, by omega, ?_⟩
        unfold ref06_Split_j4 ref06_Split_j3
        simp only
        rw [wi]
    · rw [if_pos h0] at h2
      refine ⟨(out, ps, now ++ [b[k]], ((k + 1 : Nat) : Int)), ?_, rfl, h2, by simp only; omega, by simp only; omega, by simp; omega⟩
      unfold ref06_Split_l2
      simp only
      rw [if_pos (by simp; omega)]
      refine ⟨b[k], idx_of hk, ?_⟩
      rw [if_pos (by simpa using h0)]
      simp only [List.length_cons, List.length_nil]
      refine ⟨b[k], idx_of hk, by omega, by omega, ?_⟩
      unfold ref06_Split_j3
      simp only
      rw [wi]
  · rintro ⟨out, ps, now, i⟩ ⟨h1, h2, _⟩
    simp only at h1 h2
    refine ⟨(out, ps, now), ?_, by simpa [segP] using h2⟩
    unfold ref06_Split_l2
    rw [if_neg (by simp [h1])]
theorem mem_le_sum : ∀ {l : List Nat} {x : Nat}, x ∈ l → x ≤ l.sum
  | y :: l, x, h => by
    rcases List.mem_cons.1 h with rfl | h
    · simp
    · have := mem_le_sum h; simp; omega
/-- The frames of bytes' segments, and the errors. -/
def framesB (b : List Int) : List (Fm × Int) := (segP 0 [] b).map fun x => unpB x.2
theorem frames_ok {t : List Int} (ht : IsTab t) {b : List Int} (hb : Byt b) (hl : b.length < 268435456) : Itr (frame_Codec_Frames_1 t b) (framesB b) := by
  intro S Y s s' hr
  have hbs := segP_byt b 0 [] hb (fun y hy => nomatch hy)
  have hss := segP_sum b 0 []
  have hlen : ∀ x ∈ segP 0 [] b, x.2.length < 268435456 := by
    intro x hx
    have : x.2.length ≤ ((segP 0 [] b).map (fun x => x.2.length)).sum := mem_le_sum (List.mem_map_of_mem hx)
    simp at hss; omega
  have go : ∀ (xs : List (Int × List Int)) (s : S), (∀ x ∈ xs, Byt x.2 ∧ x.2.length < 268435456) → Run Y (xs.map fun x => unpB x.2) s s' → ∃ t', RunB (frame_Codec_Frames_1_l1 S Y t) xs s t' ∧ (t' = .inl s' ∨ t' = .inr s') := by
    intro xs
    induction xs with
    | nil => intro s _ h; cases h; exact ⟨_, .nil, .inl rfl⟩
    | cons x xs ih =>
      intro s hx h
      obtain ⟨h1, h2⟩ := hx x List.mem_cons_self
      have stp : ∀ y u, Y (unpB x.2) s (y, u) → frame_Codec_Frames_1_l1 S Y t x s (if y = true then .inl u else .inr u) := by
        intro y u hy
        refine ⟨_, unpack_ok ht h1 h2, y, u, hy, ?_⟩
        cases y with
        | true => rw [if_neg (by decide)]; rfl
        | false => rw [if_pos (by decide)]; rfl
      simp only [List.map_cons] at h
      cases h with
      | go h h' =>
        obtain ⟨t', h3, h4⟩ := ih _ (fun z hz => hx z (List.mem_cons_of_mem _ hz)) h'
        exact ⟨t', .go (stp true _ h) h3, h4⟩
      | stop h => exact ⟨_, .stop (stp false _ h), .inr rfl⟩
  obtain ⟨t', h1, h2⟩ := go _ s (fun x hx => ⟨hbs x hx, hlen x hx⟩) hr
  refine ⟨_, rfl, t', (), segments_ok (by omega) _ _ _ _ (run_yof h1), ?_⟩
  rcases h2 with rfl | rfl <;> rfl
theorem rframes_ok {b : List Int} (hb : Byt b) (hl : b.length < 268435456) : ref08_Frames b ((framesB b).map (·.1), (framesB b).map (·.2)) := by
  obtain ⟨ps, rest, hs⟩ := split_ok (b := b) (by omega)
  have hbs := segP_byt b 0 [] hb (fun y hy => nomatch hy)
  have hss := segP_sum b 0 []
  have hlen : ∀ x ∈ segP 0 [] b, x.2.length < 268435456 := by
    intro x hx
    have : x.2.length ≤ ((segP 0 [] b).map (fun x => x.2.length)).sum := mem_le_sum (List.mem_map_of_mem hx)
    simp at hss; omega
  refine ⟨_, hs, ((framesB b).map (fun x : Fm × Int => x.1), (framesB b).map (fun x : Fm × Int => x.2)), ?_, by show _ = _; rfl⟩
  unfold framesB
  generalize segP 0 [] b = L at hbs hss hlen
  have hll : L.length < 268435456 := by omega
  refine loops_count (step := ref08_Frames_l2 (L.map (·.2), ps, rest)) (fun k => ((((L.take k).map fun x => unpB x.2).map (·.1)), ((L.take k).map fun x => unpB x.2).map (·.2), (k : Int))) L.length (fun k hk => ?_) ?_
  · unfold ref08_Frames_l2
    simp only
    rw [if_pos (by simp; omega)]
    refine ⟨L[k].2, idx_at rfl (by simp [hk]), _, runpack_ok (hbs _ (List.getElem_mem hk)) (hlen _ (List.getElem_mem hk)), ?_⟩
    simp only [List.length_map, List.length_take, List.length_cons, List.length_nil]
    refine ⟨by omega, by omega, by omega, by omega, ?_⟩
    rw [w_small (by omega) (by omega), take_map _ hk, List.map_append, List.map_append]; rfl
  · unfold ref08_Frames_l2
    simp only
    rw [if_neg (by simp), List.take_length]
theorem unpB_len {s : List Int} (hs : Byt s) (hl : s.length < 268435456) : (unpB s).1.2.length < 4611686018427387904 := by
  unfold unpB
  repeat' split
  all_goals simp only [noF, List.length_nil, List.length_drop]
  all_goals try omega
  unfold openB
  repeat' split
  all_goals simp only [List.length_nil, List.length_take]
  all_goals try omega
  have h5 : (decR s).2 = 0 := by omega
  have := enc_len (decR s).1
  rw [(decR_ok hs h5).1] at this
  omega
theorem frameStream_true {b : List Int} (hb : Byt b) {stop : Int} (hs : -9223372036854775808 ≤ stop ∧ stop ≤ 9223372036854775807) : law08_FrameStream b stop true := by
  have h900 := take_min b 900
  have hl : (b.take 900).length ≤ 900 := by rw [List.length_take]; omega
  have hbt : Byt (b.take 900) := hb.take _
  unfold law08_FrameStream
  rw [show ((900 : Nat) : Int) = 900 from rfl] at h900
  rw [h900]
  generalize b.take 900 = c at hl hbt
  obtain ⟨t, ht1, ht2⟩ := fnew_ok
  have hfr := frames_ok ht2 hbt (by omega)
  have hn : (framesB c).length ≤ 900 := by
    have := (segP_sum c 0 []).2
    simp [framesB]; omega
  have hfl : ∀ x ∈ framesB c, x.1.2.length < 4611686018427387904 := by
    intro x hx
    obtain ⟨y, hy, rfl⟩ := List.mem_map.1 hx
    have hbs := segP_byt c 0 [] hbt (fun y hy => nomatch hy) y hy
    have : y.2.length ≤ ((segP 0 [] c).map (fun x => x.2.length)).sum := mem_le_sum (List.mem_map_of_mem hy)
    have hss := segP_sum c 0 []
    exact unpB_len hbs (by simp at hss; omega)
  refine ⟨by omega, by omega, t, ht1, _, rframes_ok hbt (by omega), _, rfl, .inl ((framesB c).length : Int), (), ?_, ?_⟩
  · refine hfr _ _ _ _ (run_yof ?_)
    obtain ⟨t', h1, h2⟩ := runB_inv (B := law08_FrameStream_l1 ((framesB c).map (·.1), (framesB c).map (·.2))) (fun k (s : Int) => s = (k : Int)) (fun _ => False) (framesB c) (s := 0) rfl (by
      rintro k hk s rfl
      left
      refine ⟨((k + 1 : Nat) : Int), ?_, rfl⟩
      have hlt : decide ((((framesB c).map (·.1)).length : Int) ≤ (k : Int)) = false := by rw [decide_eq_false]; simp; omega
      refine ⟨(framesB c)[k].2, fun _ => idx_at rfl (by simp [hk]), (framesB c)[k].1, fun _ => rfl, (framesB c)[k].1, fun _ => idx_at rfl (by simp [hk]), true, fun _ => ?_, ?_⟩
      · have := rfsame_ok (framesB c)[k].1 (framesB c)[k].1 (hfl _ (List.getElem_mem hk))
        simpa using this
      · simp only
        rw [hlt, if_neg (by simp), w_small (by omega) (by omega)]; rfl)
    rcases h2 with ⟨s', rfl, rfl⟩ | ⟨e, _, hf⟩
    · exact h1
    · exact hf.elim
  · have j3 : ∀ x y : Int, x = y → law08_FrameStream_j3 ((framesB c).map (·.1), (framesB c).map (·.2)) ((framesB c).length : Int) x y true := by
      intro x y hxy
      refine ⟨_, known08_ok, ?_⟩
      rw [if_pos rfl, if_pos (by simp)]
      show true = _
      simp [hxy]
    obtain ⟨t', h1, h2⟩ := runB_inv (B := law08_FrameStream_l6 stop) (fun k (s : Int) => s = (k : Int) ∧ ∀ j : Nat, j < k → (j : Int) ≠ stop) (fun e => e = stop + 1 ∧ 0 ≤ stop ∧ stop < (framesB c).length) (framesB c) (s := 0) ⟨rfl, fun j h => by omega⟩ (by
      rintro k hk s ⟨rfl, hj⟩
      have e1 : IntKind.i64.wrap ((k : Int) + 1) = ((k + 1 : Nat) : Int) := by rw [w_small (by omega) (by omega)]; rfl
      have e2 : IntKind.i64.wrap (((k + 1 : Nat) : Int) - 1) = (k : Int) := by rw [w_small (by omega) (by omega)]; omega
      by_cases h : (k : Int) = stop
      · right
        refine ⟨((k + 1 : Nat) : Int), ?_, by omega, by omega, by omega⟩
        unfold law08_FrameStream_l6
        rw [e1, e2, if_pos (by simpa using h)]
      · left
        refine ⟨((k + 1 : Nat) : Int), ?_, rfl, fun j hj2 => ?_⟩
        · unfold law08_FrameStream_l6
          rw [e1, e2, if_neg (by simpa using h)]
        · by_cases e : j = k
          · subst e; exact h
          · exact hj j (by omega))
    have j2 : ∀ x : Int, x = (if 0 ≤ stop ∧ stop < (framesB c).length then stop + 1 else ((framesB c).length : Int)) → law08_FrameStream_j2 stop ((framesB c).map (·.1), (framesB c).map (·.2)) ((framesB c).length : Int) x true := by
      intro x hx
      unfold law08_FrameStream_j2
      by_cases h0 : 0 ≤ stop
      · rw [if_pos (by simpa using h0)]
        unfold law08_FrameStream_j5
        by_cases h3 : stop < (framesB c).length
        · rw [if_pos (by simpa using h3)]
          rw [if_pos ⟨h0, h3⟩] at hx
          exact j3 _ _ (by rw [hx, w_small (by omega) (by omega)])
        · rw [if_neg (by simpa using h3)]
          rw [if_neg (fun h => h3 h.2)] at hx
          exact j3 _ _ (by simpa using hx)
      · rw [if_neg (by simpa using h0)]
        unfold law08_FrameStream_j5
        rw [if_neg (by decide)]
        rw [if_neg (fun h => h0 h.1)] at hx
        exact j3 _ _ (by simpa using hx)
    refine ⟨_, rfl, t', (), hfr _ _ _ _ (run_yof h1), ?_⟩
    rcases h2 with ⟨s', rfl, rfl, hj⟩ | ⟨e, rfl, rfl, h3, h4⟩
    · refine j2 _ ?_
      rw [if_neg]
      rintro ⟨h5, h6⟩
      exact hj stop.toNat (by omega) (by omega)
    · exact j2 _ (by rw [if_pos ⟨h3, h4⟩])
theorem frameStream_claim {b : List Int} {stop : Int} (h0 : ListOk (IntOk .u8) b) (h1 : IntOk .i64 stop) : law08_FrameStream b stop true := frameStream_true (ok_byt h0) (ok_i64 h1)
end Go.Rel
/-! Plain laws: heads of one message; the head of any bytes. -/
namespace Go.Rel
open Go Go.Eng Go.Pl
theorem known07_ok : law07_known true := by
  refine ⟨_, hbytes_ok (h := (2, 4, 258, 0, 3)) (by decide) ⟨by decide, by decide⟩, ?_⟩
  rw [if_pos (by decide)]
  refine ⟨_, same_ok (by decide), ?_⟩
  rw [if_pos (by decide)]
  refine ⟨bstr [118, 32, 50, 32, 107, 32, 52, 32, 55, 55, 32, 48, 47, 51], ?_, ?_⟩
  · refine ⟨_, itoa_small (by decide) (by decide) dig2, by decide +kernel, by decide +kernel, _, itoa_small (by decide) (by decide) dig4, by decide +kernel, by decide +kernel, _, utoa_small (n := IntKind.u64.wrap 77) (by decide) (by decide) dig77, by decide +kernel, by decide +kernel, _, itoa_small (by decide) (by decide) dig0, by decide +kernel, by decide +kernel, _, itoa_small (by decide) (by decide) dig3, by decide +kernel, by decide +kernel⟩
  · show true = _
    rw [decide_eq_true rfl]
theorem mates_ok (a b : Hd) : head_Mates a b (decide (a.1 = b.1 ∧ a.2.1 = b.2.1 ∧ a.2.2.1 = b.2.2.1 ∧ a.2.2.2.2 = b.2.2.2.2)) := by
  unfold head_Mates
  rw [Bool.eq_iff_iff]
  simp
theorem headMates_true (a b : Hd) : law07_HeadMates a b true := by
  have j1 : ∀ w : Bool, w = decide (a.1 = b.1 ∧ a.2.1 = b.2.1 ∧ a.2.2.1 = b.2.2.1 ∧ a.2.2.2.2 = b.2.2.2.2) → law07_HeadMates_j1 a b w true := by
    rintro w rfl
    refine ⟨_, known07_ok, ?_⟩
    rw [if_pos rfl]
    refine ⟨_, mates_ok a b, ?_⟩
    rw [if_pos (by simp)]
    refine ⟨_, mates_ok b a, ?_⟩
    rw [if_pos (by rw [decide_eq_true_eq, decide_eq_decide]; constructor <;> (rintro ⟨h1, h2, h3, h4⟩; exact ⟨h1.symm, h2.symm, h3.symm, h4.symm⟩))]
    refine ⟨_, mates_ok a _, ?_⟩
    show true = _
    simp
  unfold law07_HeadMates
  by_cases h1 : a.1 = b.1
  · rw [if_pos (by simpa using h1)]
    by_cases h2 : a.2.1 = b.2.1
    · rw [if_pos (by simpa using h2)]
      by_cases h3 : a.2.2.1 = b.2.2.1
      · rw [if_pos (by simpa using h3)]
        exact j1 _ (by rw [decide_eq_decide]; exact ⟨fun h => ⟨h1, h2, h3, h⟩, fun h => h.2.2.2⟩)
      · rw [if_neg (by simpa using h3)]; exact j1 _ (by rw [eq_comm, decide_eq_false_iff_not]; exact fun h => h3 h.2.2.1)
    · rw [if_neg (by simpa using h2)]; exact j1 _ (by rw [eq_comm, decide_eq_false_iff_not]; exact fun h => h2 h.2.1)
  · rw [if_neg (by simpa using h1)]; exact j1 _ (by rw [eq_comm, decide_eq_false_iff_not]; exact fun h => h1 h.1)
theorem headMates_claim {a b : Hd} {p q : Prop} (_h0 : p) (_h1 : q) : law07_HeadMates a b true := headMates_true a b
theorem headParses_true {b : List Int} (hb : Byt b) : law07_HeadParses b true := by
  have h20 := take_min b 20
  have hl : (b.take 20).length ≤ 20 := by rw [List.length_take]; omega
  have hbt : Byt (b.take 20) := hb.take _
  have main : ∃ r, head_Parse (b.take 20) r ∧ ref07_Parse (b.take 20) r ∧ law07_HeadParses_j1 b r false true := by
    have nok : ∀ e : Int, e ≠ 0 → law07_HeadParses_j1 b ((0, 0, 0, 0, 0), e) false true := by
      intro e he
      unfold law07_HeadParses_j1
      rw [if_neg (by decide), if_pos (by simpa using he)]
      exact ⟨_, known07_ok, rfl⟩
    by_cases h1 : (b.take 20).length < 8
    · exact ⟨_, (hparse_short h1).1, (hparse_short h1).2, nok 13 (by decide)⟩
    · by_cases h2 : 8 < (b.take 20).length
      · exact ⟨_, (hparse_long hbt h2 (by omega)).1, (hparse_long hbt h2 (by omega)).2, nok 3 (by decide)⟩
      · have h8 : (b.take 20).length = 8 := by omega
        refine ⟨_, hparse_ok hbt h8, rhparse_ok hbt h8, ?_⟩
        unfold parseH
        by_cases he : headE (hdOf (b.take 20)) = 0
        · rw [if_pos he]
          unfold law07_HeadParses_j1
          rw [if_neg (by decide), if_neg (by simp)]
          have hv := leV_bound (((b.take 20).drop 2).take 4) ((hbt.drop 2).take 4)
          have hp2 : 256 ^ (((b.take 20).drop 2).take 4).length ≤ 256 ^ 4 := Nat.pow_le_pow_right (by omega) (by rw [List.length_take]; omega)
          refine ⟨_, hbytes_ok he ⟨hv.1, by simp only [hdOf]; omega⟩, _, known07_ok, ?_⟩
          rw [if_pos rfl, if_pos (by simp)]
          rw [show ((20 : Nat) : Int) = 20 from rfl] at h20
          refine ⟨_, same_ok (by simp [headB]), ?_⟩
          show true = _
          rw [h20, headB_hdOf hbt h8, decide_eq_true rfl]
        · rw [if_neg he]; exact nok _ he
  obtain ⟨r, hr1, hr2, hr3⟩ := main
  unfold law07_HeadParses
  rw [show ((20 : Nat) : Int) = 20 from rfl] at h20
  rw [h20]
  refine ⟨by omega, by omega, r, hr1, r, hr2, ?_⟩
  rw [if_neg (by simp)]
  simpa using hr3
theorem headParses_claim {b : List Int} (h0 : ListOk (IntOk .u8) b) : law07_HeadParses b true := headParses_true (ok_byt h0)
end Go.Rel
/-! Plain laws: whether any head may be, its bytes and its line. -/
namespace Go.Rel
open Go Go.Eng Go.Pl
/-- A head's line. -/
def headLn (h : Hd) : List Int := [118, 32] ++ decI h.1 ++ [32, 107, 32] ++ decI h.2.1 ++ [32] ++ decI h.2.2.1 ++ [32] ++ decI h.2.2.2.1 ++ [47] ++ decI h.2.2.2.2
abbrev HdOk (h : Hd) : Prop := IntOk .i64 h.1 ∧ IntOk .i64 h.2.1 ∧ IntOk .u32 h.2.2.1 ∧ IntOk .i64 h.2.2.2.1 ∧ IntOk .i64 h.2.2.2.2
theorem hline_ok {h : Hd} (ok : HdOk h) : head_Line h (bstr (headLn h)) ∧ ref07_Line h (bstr (headLn h)) := by
  obtain ⟨o1, o2, o3, o4, o5⟩ := ok
  have ⟨q0, q1⟩ := ok_u32 o3
  have o3u : IntOk .u64 h.2.2.1 := ⟨q0, by show h.2.2.1 ≤ 18446744073709551615; omega⟩
  have o3i : IntOk .i64 h.2.2.1 := ⟨by show (-9223372036854775808 : Int) ≤ h.2.2.1; omega, by show h.2.2.1 ≤ 9223372036854775807; omega⟩
  have l1 := decI_len o1
  have l2 := decI_len o2
  have l3 := decI_len o3i
  have l4 := decI_len o4
  have l5 := decI_len o5
  have fin : ∀ a b : List Int, a.length + b.length < 1000 → (bstr a).size + (bstr b).size < 4611686018427387904 := by
    intro a b hab; rw [size_bstr, size_bstr]; omega
  constructor
  · unfold head_Line
    rw [w64_small q0 (by omega)]
    refine ⟨_, itoa_ok o1, ?_, ?_, _, itoa_ok o2, ?_, ?_, _, utoa_ok o3u, ?_, ?_, _, itoa_ok o4, ?_, ?_, _, itoa_ok o5, ?_, ?_⟩
    all_goals (try simp only [← bstr_append])
    all_goals first | (refine fin _ _ ?_; simp only [List.length_append, List.length_cons, List.length_nil]; omega) | rfl
  · unfold ref07_Line
    rw [w_small (by omega) (by omega)]
    refine ⟨_, digits_ok o1, ?_, ?_, _, digits_ok o2, ?_, ?_, _, digits_ok o3i, ?_, ?_, _, digits_ok o4, ?_, ?_, _, digits_ok o5, ?_, ?_⟩
    all_goals (try simp only [← bstr_append])
    all_goals first | (refine fin _ _ ?_; simp only [List.length_append, List.length_cons, List.length_nil]; omega) | rfl
theorem hbytes_no {h : Hd} (he : headE h ≠ 0) : head_Bytes h ([], headE h) := by
  refine ⟨_, hcheck_ok h, ?_⟩
  rw [if_pos (by simp; exact he)]
theorem hdOf_headB {h : Hd} (hq : 0 ≤ h.2.2.1 ∧ h.2.2.1 < 4294967296) : hdOf (headB h) = h := by
  obtain ⟨a, b, q, i, n⟩ := h
  simp only at hq
  simp only [headB, hdOf, leV, List.drop_succ_cons, List.drop_zero, List.take_succ_cons, List.take_zero, List.getD_cons_zero, List.getD_cons_succ]
  have : (((0 * 256 + q / 16777216) * 256 + q / 65536 % 256) * 256 + q / 256 % 256) * 256 + q % 256 = q := by omega
  rw [this]
theorem word_step {n q i : Int} {l : List Int} (hl : l.length < 100) (hq : 0 ≤ q ∧ q < 4294967296) (h0 : 0 ≤ i) (h1 : i < n) (hn : n ≤ 100) : ref02_Word_l2 n (q, l, i) (.inl (q / 256, l ++ [q % 256], i + 1)) := by
  unfold ref02_Word_l2
  simp only
  rw [if_pos (by simpa using h1)]
  refine ⟨by simp; omega, by simp; omega, ?_⟩
  rw [Int.tdiv_eq_ediv_of_nonneg hq.1, Int.tmod_eq_emod_of_nonneg hq.1, w_u32, w_u8, w_small (by omega) (by omega), show q / 256 % 4294967296 = q / 256 by omega, show q % 256 % 256 = q % 256 by omega]
theorem word4_ok {q : Int} (hq : 0 ≤ q ∧ q < 4294967296) : ref02_Word q 4 [q % 256, q / 256 % 256, q / 65536 % 256, q / 16777216] := by
  refine ⟨_, .next (word_step (by simp) hq (by decide) (by decide) (by decide)) (.next (word_step (by simp) (by omega) (by decide) (by decide) (by decide)) (.next (word_step (by simp) (by omega) (by decide) (by decide) (by decide)) (.next (word_step (by simp) (by omega) (by decide) (by decide) (by decide)) (.done (e := [q % 256, q / 256 % 256, q / 65536 % 256, q / 16777216]) ?_)))), rfl⟩
  unfold ref02_Word_l2
  simp only
  rw [if_neg (by simp)]
  simp only [List.nil_append, List.cons_append]
  rw [show q / 256 / 256 = q / 65536 by omega, show q / 65536 / 256 = q / 16777216 by omega, show q / 16777216 % 256 = q / 16777216 by omega]
theorem rhbytes_ok {h : Hd} (he : headE h = 0) (hq : 0 ≤ h.2.2.1 ∧ h.2.2.1 < 4294967296) : ref07_Bytes h (headB h) := by
  have := headE_ok he
  refine ⟨_, word4_ok hq, by simp, by simp, by simp, by simp, ?_⟩
  rw [w_u8, w_u8, w_u8, w_u8]
  unfold headB
  simp only [List.cons_append, List.nil_append]
  have e : ∀ a b c d e f g i a' b' c' d' e' f' g' i' : Int, a = a' → b = b' → c = c' → d = d' → e = e' → f = f' → g = g' → i = i' → [a, b, c, d, e, f, g, i] = [a', b', c', d', e', f', g', i'] := by
    intros; subst_vars; rfl
  apply e <;> omega
theorem headTells_true {h : Hd} (ok : HdOk h) : law07_HeadTells h true := by
  have hq := ok_u32 ok.2.2.1
  by_cases he : headE h = 0
  · have hb := headB_byt he hq
    have hP := hparse_ok (l := headB h) hb rfl
    have hPe : parseH (headB h) = (h, 0) := by unfold parseH; rw [hdOf_headB hq, if_pos he]
    rw [hPe] at hP
    have hh := headE_ok he
    refine ⟨_, hbytes_ok he hq, _, rhcheck_ok h, _, hcheck_ok h, _, fun _ => (hline_ok ok).1, _, fun _ => (hline_ok ok).2, ?_⟩
    rw [if_neg (by simp [he]), if_neg (by simp [he])]
    refine ⟨_, hP, _, known07_ok, _, fun _ => rhbytes_ok he hq, _, fun _ => same_ok (by simp [headB]), _, fun _ => rfl, ?_⟩
    have hl : (headB h).length = 8 := rfl
    have e1 : (IntKind.i64.wrap (h.2.2.2.2 - 1) = h.2.2.2.1) = (h.2.2.2.1 = IntKind.i64.wrap (h.2.2.2.2 - 1)) := propext ⟨Eq.symm, Eq.symm⟩
    simp [hl, e1]
  · refine ⟨_, hbytes_no he, _, rhcheck_ok h, _, hcheck_ok h, _, fun _ => (hline_ok ok).1, _, fun _ => (hline_ok ok).2, ?_⟩
    rw [if_neg (by simp), if_pos (by simpa using he)]
    refine ⟨_, known07_ok, ?_⟩
    rw [if_pos rfl]
    rfl
theorem headTells_claim {a : Hd} (h : HdOk a) : law07_HeadTells a true := headTells_true h
end Go.Rel
/-! Plain law: whether any frames may be, and what they are on the wire. -/
namespace Go.Rel
open Go Go.Eng Go.Pl
/-! ### Bytes as strings, and back -/
theorem bints_bstr {l : List Int} (h : Byt l) : bints (bstr l) = l := by
  have key : ∀ (l : List Int) (r : ByteArray), Byt l → bints (l.foldl (fun r n => r.push (UInt8.ofNat n.toNat)) r) = bints r ++ l := by
    intro l
    induction l with
    | nil => intro r _; simp
    | cons x l ih =>
      intro r hx
      rw [List.foldl_cons, ih _ (fun y hy => hx y (List.mem_cons_of_mem _ hy))]
      have h0 := hx x List.mem_cons_self
      have : bints (r.push (UInt8.ofNat x.toNat)) = bints r ++ [x] := by
        simp only [bints, ByteArray.push, Array.toList_push, List.map_append, List.map_cons, List.map_nil]
        congr 2
        rw [UInt8.toNat_ofNat']
        omega
      rw [this, List.append_assoc]; rfl
  have := key l ByteArray.empty h
  simpa [bstr, bints] using this
theorem bstr_inj {a b : List Int} (ha : Byt a) (hb : Byt b) (h : bstr a = bstr b) : a = b := by
  rw [← bints_bstr ha, ← bints_bstr hb, h]
theorem beq_ok {a b : List Int} (ha : Byt a) (hb : Byt b) : bytes_Equal a b (decide (a = b)) := by
  show _ = _
  rw [decide_eq_decide]
  exact ⟨fun h => by rw [h], bstr_inj ha hb⟩
theorem fsame_ok (a b : Fm) (ha : Byt a.2) (hb : Byt b.2) : frame_Same a b (decide (a = b)) := by
  unfold frame_Same
  obtain ⟨⟨v, k, q, i, n⟩, x⟩ := a
  obtain ⟨⟨v', k', q', i', n'⟩, y⟩ := b
  simp only at ha hb ⊢
  by_cases h : v = v' ∧ k = k' ∧ q = q' ∧ i = i' ∧ n = n'
  · obtain ⟨rfl, rfl, rfl, rfl, rfl⟩ := h
    rw [if_pos (by simp)]
    refine ⟨_, beq_ok ha hb, ?_⟩
    show _ = _
    rw [decide_eq_decide]; simp
  · rw [if_neg (by simpa using h)]
    show _ = _
    rw [decide_eq_false_iff_not]
    intro e; cases e; exact h ⟨rfl, rfl, rfl, rfl, rfl⟩
theorem rfcheck_ok (f : Fm) : ref08_Check f (frameE f) := by
  refine ⟨_, rhcheck_ok f.1, ?_⟩
  by_cases h0 : headE f.1 = 0
  · rw [if_neg (by simpa using h0)]
    by_cases h1 : f.2.length = 0
    · have e : frameE f = 13 := by unfold frameE; rw [if_neg (by simpa using h0), if_pos h1]
      rw [e, if_pos (by simp only [decide_eq_true_eq]; omega)]
    · by_cases h2 : 242 < f.2.length
      · have e : frameE f = 2 := by unfold frameE; rw [if_neg (by simpa using h0), if_neg h1, if_pos h2]
        rw [e, if_neg (by simp only [decide_eq_true_eq]; omega), if_pos (by simp only [decide_eq_true_eq]; omega)]
      · have e : frameE f = 0 := by unfold frameE; rw [if_neg (by simpa using h0), if_neg h1, if_neg h2]
        rw [e, if_neg (by simp only [decide_eq_true_eq]; omega), if_neg (by simp only [decide_eq_true_eq]; omega)]
  · have e : frameE f = headE f.1 := by unfold frameE; rw [if_pos h0]
    rw [e, if_pos (by simpa using h0)]
    exact ⟨_, rhcheck_ok f.1, rfl⟩
/-- A frame's line. -/
def frameLn (f : Fm) : List Int := headLn f.1 ++ [32] ++ decI (f.2.length : Int)
theorem headLn_len {h : Hd} (ok : HdOk h) : (headLn h).length ≤ 200 := by
  obtain ⟨o1, o2, o3, o4, o5⟩ := ok
  have ⟨q0, q1⟩ := ok_u32 o3
  have o3i : IntOk .i64 h.2.2.1 := ⟨by show (-9223372036854775808 : Int) ≤ h.2.2.1; omega, by show h.2.2.1 ≤ 9223372036854775807; omega⟩
  have l1 := decI_len o1
  have l2 := decI_len o2
  have l3 := decI_len o3i
  have l4 := decI_len o4
  have l5 := decI_len o5
  simp only [headLn, List.length_append, List.length_cons, List.length_nil]; omega
theorem fline_ok {f : Fm} (ok : HdOk f.1) (hl : f.2.length < 1048576) : frame_Line f (bstr (frameLn f)) ∧ ref08_Line f (bstr (frameLn f)) := by
  have hh := headLn_len ok
  have ol : IntOk .i64 (f.2.length : Int) := ⟨by show (-9223372036854775808 : Int) ≤ _; omega, by show _ ≤ (9223372036854775807 : Int); omega⟩
  have l1 := decI_len ol
  have fin : ∀ a b : List Int, a.length + b.length < 1000 → (bstr a).size + (bstr b).size < 4611686018427387904 := by
    intro a b hab; rw [size_bstr, size_bstr]; omega
  constructor
  · refine ⟨_, (hline_ok ok).1, ?_, _, itoa_ok ol, ?_, ?_⟩
    all_goals (try simp only [← bstr_append])
    all_goals first | (refine fin _ _ ?_; simp only [List.length_append, List.length_cons, List.length_nil]; omega) | rfl
  · refine ⟨_, (hline_ok ok).2, ?_, _, digits_ok ol, ?_, ?_⟩
    all_goals (try simp only [← bstr_append])
    all_goals first | (refine fin _ _ ?_; simp only [List.length_append, List.length_cons, List.length_nil]; omega) | rfl
/-! ### Segments -/
theorem mem_join : ∀ (L : List (List Int)) (p : List Int) (c : Int), p ∈ L → c ∈ p → c ∈ joinB L
  | [q], p, c, hp, hc => by rw [List.mem_singleton] at hp; subst hp; exact hc
  | q :: r :: L, p, c, hp, hc => by
    rw [joinB]
    rcases List.mem_cons.1 hp with rfl | hp
    · exact List.mem_append_left _ (List.mem_append_left _ hc)
    · exact List.mem_append_right _ (mem_join (r :: L) p c hp hc)
theorem enc_mem {x : List Int} (hx : Byt x) : ∀ c ∈ encB x, c ≠ 0 ∧ 0 ≤ c ∧ c < 256 := by
  intro c hc
  obtain ⟨h1, h2, _⟩ := cb_ok (x.length + 1) x (by omega)
  simp only [encB, List.mem_flatten, List.mem_map] at hc
  obtain ⟨_, ⟨p, hp, rfl⟩, hc⟩ := hc
  obtain ⟨h3, h4⟩ := h1 p hp
  rcases List.mem_cons.1 hc with rfl | hc
  · omega
  · have := hx c (by rw [← h2]; exact mem_join _ p c hp hc)
    exact ⟨h3 c hc, this⟩
theorem block_byt {f : Fm} (h : frameE f = 0) (hq : 0 ≤ f.1.2.2.1 ∧ f.1.2.2.1 < 4294967296) (hb : Byt f.2) : Byt (blockB f) :=
  Byt.app (Byt.app (headB_byt (frameE_ok h).1 hq) hb) (sumB_byt _)
theorem unp_seg {f : Fm} (h : frameE f = 0) (hq : 0 ≤ f.1.2.2.1 ∧ f.1.2.2.1 < 4294967296) : unpB (segB f) = (f, 0) := by
  obtain ⟨h1, h2, h3⟩ := frameE_ok h
  have hl8 : (headB f.1).length = 8 := rfl
  have hs4 : ∀ w, (sumB w).length = 4 := fun w => rfl
  have hbl : (blockB f).length = f.2.length + 12 := by simp only [blockB, List.length_append, hl8, hs4]; omega
  have hd : decR (segB f) = (blockB f, 0) := by unfold decR segB; rw [dec_enc]
  have ho : openB (blockB f) = (headB f.1 ++ f.2, 0) := by
    have e : (blockB f).length - 4 = (headB f.1 ++ f.2).length := by rw [hbl, List.length_append, hl8]; omega
    unfold openB
    rw [if_neg (by omega), e]
    unfold blockB
    rw [List.take_left, List.drop_left, if_pos rfl]
  have hp : parseH (headB f.1) = (f.1, 0) := by unfold parseH; rw [hdOf_headB hq, if_pos h1]
  unfold unpB
  rw [segB_len h3, if_neg (by omega), hd, if_neg (by simp), if_neg (by simp only [hbl]; omega), ho, if_neg (by simp)]
  have e8 : (headB f.1 ++ f.2).take 8 = headB f.1 := by rw [← hl8, List.take_left]
  have d8 : (headB f.1 ++ f.2).drop 8 = f.2 := by rw [← hl8, List.drop_left]
  rw [e8, hp, if_neg (by simp), d8]
theorem segP_run : ∀ (s l now : List Int) (i : Nat), (∀ c ∈ s, c ≠ 0) → segP i now (s ++ l) = segP (i + s.length) (now ++ s) l
  | [], l, now, i, _ => by simp
  | c :: s, l, now, i, h => by
    rw [List.cons_append, segP, if_pos (h c List.mem_cons_self), segP_run s l (now ++ [c]) (i + 1) (fun x hx => h x (List.mem_cons_of_mem _ hx)), List.length_cons, List.append_assoc]
    congr 1; omega
theorem segP_wrap : ∀ (ss : List (List Int)) (i : Nat), (∀ s ∈ ss, s ≠ [] ∧ ∀ c ∈ s, c ≠ 0) → (segP i [] (wrapB ss)).map (·.2) = ss
  | [], i, _ => rfl
  | s :: ss, i, h => by
    obtain ⟨h1, h2⟩ := h s List.mem_cons_self
    have e : wrapB (s :: ss) = 0 :: (s ++ (0 :: wrapB ss)) := by simp [wrapB]
    rw [e, segP, if_neg (by simp), if_pos rfl, segP_run _ _ _ _ h2, List.nil_append, segP, if_neg (by simp), if_neg h1, List.map_cons, segP_wrap ss _ (fun x hx => h x (List.mem_cons_of_mem _ hx))]
theorem frames_wrap {l : List Fm} (h : ∀ f ∈ l, frameE f = 0 ∧ (0 ≤ f.1.2.2.1 ∧ f.1.2.2.1 < 4294967296) ∧ Byt f.2) : framesB (wrapB (l.map segB)) = l.map fun f => (f, 0) := by
  have hs : (segP 0 [] (wrapB (l.map segB))).map (·.2) = l.map segB := segP_wrap _ _ (fun s hs => by
    obtain ⟨f, hf, rfl⟩ := List.mem_map.1 hs
    obtain ⟨a, b, c⟩ := h f hf
    refine ⟨fun e => ?_, fun c hc => (enc_mem (block_byt a b ‹_›) c hc).1⟩
    have := segB_len (frameE_ok a).2.2
    rw [e] at this; simp at this)
  have : framesB (wrapB (l.map segB)) = ((segP 0 [] (wrapB (l.map segB))).map (·.2)).map unpB := by unfold framesB; rw [List.map_map]; rfl
  rw [this, hs, List.map_map]
  apply List.map_congr_left
  intro f hf
  exact unp_seg (h f hf).1 (h f hf).2.1
theorem wrap_byt {l : List Fm} (h : ∀ f ∈ l, frameE f = 0 ∧ (0 ≤ f.1.2.2.1 ∧ f.1.2.2.1 < 4294967296) ∧ Byt f.2) : Byt (wrapB (l.map segB)) := by
  intro c hc
  simp only [wrapB, List.mem_flatten, List.mem_map] at hc
  obtain ⟨_, ⟨_, ⟨f, hf, rfl⟩, rfl⟩, hc⟩ := hc
  obtain ⟨a, b, d⟩ := h f hf
  simp only [List.mem_append, List.mem_singleton] at hc
  rcases hc with (rfl | hc) | rfl
  · omega
  · exact (enc_mem (block_byt a b d) c hc).2
  · omega
theorem wrap_len : ∀ (l : List Fm), (∀ f ∈ l, frameE f = 0) → (wrapB (l.map segB)).length ≤ l.length * 257
  | [], _ => by simp [wrapB]
  | f :: l, h => by
    have ih := wrap_len l (fun g hg => h g (List.mem_cons_of_mem _ hg))
    have h3 := (frameE_ok (h f List.mem_cons_self)).2.2
    have hl := segB_len h3
    have e : wrapB ((f :: l).map segB) = [0] ++ segB f ++ [0] ++ wrapB (l.map segB) := by simp [wrapB]
    rw [e]
    simp only [List.length_append, List.length_cons, List.length_nil, hl]; omega
/-! ### The document's -/
theorem rsegment_ok {f : Fm} (h : frameE f = 0) (hq : 0 ≤ f.1.2.2.1 ∧ f.1.2.2.1 < 4294967296) (hb : Byt f.2) : ref08_Segment f (segB f) := by
  obtain ⟨h1, h2, h3⟩ := frameE_ok h
  have hby : Byt (headB f.1 ++ f.2) := Byt.app (headB_byt h1 hq) hb
  have hl8 : (headB f.1).length = 8 := rfl
  have hs4 : ∀ w, (sumB w).length = 4 := fun w => rfl
  refine ⟨_, rhbytes_ok h1 hq, by rw [hl8]; omega, by rw [hl8]; omega, by simp only [List.length_append, hl8, List.length_nil]; omega, by simp only [List.length_append, hl8, List.length_nil]; omega, _, rsum_ok hby (by rw [List.length_append, hl8]; omega), _, rbytes_ok _, by simp only [List.length_append, hl8, List.length_nil, hs4]; omega, by simp only [List.length_append, hl8, List.length_nil, hs4]; omega, _, rencode_ok (by simp only [List.length_append, hl8, List.length_nil, hs4]; omega), ?_⟩
  rw [List.nil_append]; rfl
theorem wrap_snoc (l : List (List Int)) (s : List Int) : wrapB (l ++ [s]) = wrapB l ++ [0] ++ s ++ [0] := by
  unfold wrapB; rw [List.map_append, List.flatten_append]; simp
theorem rwire_ok {l : List Fm} (hl : l.length ≤ 1000) (h : ∀ f ∈ l, frameE f = 0 ∧ (0 ≤ f.1.2.2.1 ∧ f.1.2.2.1 < 4294967296) ∧ Byt f.2) : ref08_Wire l (wrapB (l.map segB)) := by
  refine ⟨_, ?_, rfl⟩
  refine loops_count (step := ref08_Wire_l2 l) (fun k => (wrapB ((l.take k).map segB), (k : Int))) l.length (fun k hk => ?_) ?_
  · unfold ref08_Wire_l2
    simp only
    obtain ⟨a, b, c⟩ := h l[k] (List.getElem_mem _)
    have hw := wrap_len (l.take k) (fun f hf => (h f (List.mem_of_mem_take hf)).1)
    have hs := segB_len (frameE_ok a).2.2
    have h3 := (frameE_ok a).2.2
    rw [List.length_take] at hw
    rw [if_pos (by simp; omega)]
    refine ⟨by simp only [List.length_cons, List.length_nil]; omega, by simp only [List.length_cons, List.length_nil]; omega, l[k], idx_of hk, _, rsegment_ok a b c, by simp only [List.length_append, List.length_cons, List.length_nil]; omega, by simp only [List.length_append, List.length_cons, List.length_nil]; omega, by simp only [List.length_append, List.length_cons, List.length_nil]; omega, by simp only [List.length_append, List.length_cons, List.length_nil]; omega, ?_⟩
    rw [w_small (by omega) (by omega), take_map _ hk, wrap_snoc]; rfl
  · unfold ref08_Wire_l2
    simp only
    rw [if_neg (by simp), List.take_length]
/-! ### The law -/
def cutF (f : Fm) : Fm := (f.1, f.2.take 250)
theorem fcut_ok (f : Fm) : law08_Cut f (cutF f) := by
  refine ⟨by omega, by omega, ?_⟩
  have := take_min f.2 250
  rw [show ((250 : Nat) : Int) = 250 from rfl] at this
  rw [this]; rfl
/-- The first thing that is wrong with frames. -/
def wantB : List Fm → Int
  | [] => 0
  | f :: l => if frameE f = 0 then wantB l else frameE f
theorem want_snoc (l : List Fm) (f : Fm) : wantB (l ++ [f]) = if wantB l = 0 then frameE f else wantB l := by
  induction l with
  | nil => simp [wantB]; exact fun h => h.symm
  | cons g l ih =>
    simp only [List.cons_append, wantB, ih]
    by_cases h : frameE g = 0
    · simp [h]
    · simp [h]
theorem want_zero {l : List Fm} (h : wantB l = 0) : ∀ f ∈ l, frameE f = 0 := by
  induction l with
  | nil => intro f hf; cases hf
  | cons g l ih =>
    simp only [wantB] at h
    by_cases hg : frameE g = 0
    · rw [if_pos hg] at h
      intro f hf
      rcases List.mem_cons.1 hf with rfl | hf
      · exact hg
      · exact ih h f hf
    · rw [if_neg hg] at h; exact absurd h hg
theorem want_first {l : List Fm} (h : wantB l ≠ 0) : ∃ k, ∃ hk : k < l.length, wantB l = frameE l[k] ∧ frameE l[k] ≠ 0 ∧ ∀ j (hj : j < k), frameE (l[j]'(by omega)) = 0 := by
  induction l with
  | nil => exact absurd rfl h
  | cons g l ih =>
    by_cases hg : frameE g = 0
    · simp only [wantB, if_pos hg] at h ⊢
      obtain ⟨k, hk, h1, h2, h3⟩ := ih h
      refine ⟨k + 1, by simp; omega, by simpa using h1, by simpa using h2, fun j hj => ?_⟩
      cases j with
      | zero => simpa using hg
      | succ j => simpa using h3 j (by omega)
    · refine ⟨0, by simp, by simp [wantB, if_neg hg], by simpa using hg, fun j hj => by omega⟩
theorem framePacks_true {a : List Fm} (ok : ∀ f ∈ a, HdOk f.1 ∧ Byt f.2) (hal : a.length ≤ 9223372036854775807) : law08_FramePacks a true := by
  obtain ⟨t, ht1, ht2⟩ := fnew_ok
  refine ⟨t, ht1, ?_⟩
  have hL : ∃ L : List Fm, L = (a.take 10).map cutF := ⟨_, rfl⟩
  obtain ⟨L, hLe⟩ := hL
  have hLl : L.length = min 10 a.length := by rw [hLe, List.length_map, List.length_take]
  have hLok : ∀ f ∈ L, HdOk f.1 ∧ Byt f.2 ∧ f.2.length ≤ 250 := by
    intro f hf
    rw [hLe] at hf
    obtain ⟨g, hg, rfl⟩ := List.mem_map.1 hf
    obtain ⟨h1, h2⟩ := ok g (List.mem_of_mem_take hg)
    exact ⟨h1, h2.take _, by simp only [cutF, List.length_take]; omega⟩
  have hLk : ∀ k (hk : k < L.length), L[k] = cutF (a[k]'(by omega)) := by
    intro k hk
    simp only [hLe, List.getElem_map, List.getElem_take]
  refine ⟨.inl (L, wantB L, L), ?_, ?_⟩
  · refine loops_count (step := law08_FramePacks_l6 a t) (fun k => (L.take k, wantB (L.take k), (k : Int), L.take k)) L.length (fun k hk => ?_) ?_
    · unfold law08_FramePacks_l6
      simp only
      rw [if_pos (by simp; omega)]
      unfold law08_FramePacks_j7
      rw [if_pos (by simp; omega)]
      simp only
      have hka : k < a.length := by omega
      obtain ⟨o1, o2, o3⟩ := hLok L[k] (List.getElem_mem _)
      have hcut := fcut_ok a[k]
      rw [← hLk k hk] at hcut
      have htk : (L.take k).length = k := by rw [List.length_take]; omega
      have h0 : 0 < L.length := by omega
      have hsn : L.take k ++ [L[k]] = L.take (k + 1) := (List.take_succ_eq_append_getElem hk).symm
      have hid : idx (L.take k ++ [L[k]]) 0 L[0] := by
        rw [hsn]; exact idx_at (k := 0) rfl (by rw [List.getElem?_take]; simp [h0])
      obtain ⟨p1, p2, p3⟩ := hLok L[0] (List.getElem_mem _)
      have hs1 := fsame_ok L[k] L[k] o2 o2
      rw [decide_eq_true rfl] at hs1
      have hs2 := fsame_ok L[k] L[0] o2 p2
      have hs3 := rfsame_ok L[k] L[0] (by omega)
      have hw : IntKind.i64.wrap ((k : Int) + 1) = ((k + 1 : Nat) : Int) := by rw [w_small (by omega) (by omega)]; omega
      refine ⟨a[k], idx_of hka, _, hcut, by rw [htk]; simp only [List.length_cons, List.length_nil]; omega, by rw [htk]; simp only [List.length_cons, List.length_nil]; omega, _, rfl, by rw [htk]; simp only [List.length_cons, List.length_nil]; omega, by rw [htk]; simp only [List.length_cons, List.length_nil]; omega, _, rfl, _, rfcheck_ok _, _, fcheck_ok t _, true, fun _ => hs1, _, fun _ => (fline_ok o1 (by omega)).1, _, fun _ => rfl, _, fun _ => (fline_ok o1 (by omega)).2, _, fun _ => hid, _, fun _ => hs2, _, fun _ => rfl, _, fun _ => hid, _, fun _ => hs3, ?_⟩
      rw [if_neg (by simp)]
      unfold law08_FramePacks_j8
      rw [hsn, hw]
      have hws := want_snoc (L.take k) L[k]
      rw [hsn] at hws
      by_cases hz : wantB (L.take k) = 0
      · rw [if_pos (by simpa using hz)]
        rw [if_pos hz] at hws
        rw [hws]
      · rw [if_neg (by simpa using hz)]
        rw [if_neg hz] at hws
        rw [hws]
    · rw [List.take_length]
      unfold law08_FramePacks_l6 law08_FramePacks_j7
      simp only
      by_cases h : L.length < a.length
      · rw [if_pos (by simp; omega), if_neg (by simp; omega)]; trivial
      · rw [if_neg (by simp; omega), if_neg (by decide)]; trivial
  · show law08_FramePacks_j1 t (L, wantB L, L) true
    unfold law08_FramePacks_j1
    simp only
    by_cases hw : wantB L = 0
    · have hall : ∀ f ∈ L, frameE f = 0 ∧ (0 ≤ f.1.2.2.1 ∧ f.1.2.2.1 < 4294967296) ∧ Byt f.2 := fun f hf => ⟨want_zero hw f hf, ok_u32 (hLok f hf).1.2.2.1, (hLok f hf).2.1⟩
      have hwl := wrap_len L (fun f hf => (hall f hf).1)
      refine ⟨_, pack_ok ht2 (by omega) hall, ?_⟩
      rw [if_neg (by simp [hw])]
      unfold law08_FramePacks_j2
      rw [if_neg (by simp [hw])]
      simp only
      have hfr := frames_ok ht2 (wrap_byt hall) (by omega)
      rw [frames_wrap hall] at hfr
      obtain ⟨t', h1, h2⟩ := runB_inv (B := law08_FramePacks_l4 (L, wantB L, L)) (fun k (s : Int) => s = (k : Int)) (fun _ => False) (L.map fun f => (f, (0 : Int))) (s := 0) rfl (by
        rintro k hk s rfl
        left
        rw [List.length_map] at hk
        refine ⟨((k + 1 : Nat) : Int), ?_, rfl⟩
        rw [List.getElem_map]
        refine ⟨L[k], fun _ => idx_of hk, true, fun _ => ?_, ?_⟩
        · have o2 := (hLok L[k] (List.getElem_mem _)).2.1
          have := fsame_ok L[k] L[k] o2 o2
          rw [decide_eq_true rfl] at this; exact this
        · rw [if_neg (by simp; omega), w_small (by omega) (by omega)]; rfl)
      refine ⟨_, rfl, t', (), hfr _ _ _ _ (run_yof h1), ?_⟩
      rcases h2 with ⟨s', rfl, rfl⟩ | ⟨e, _, hf⟩
      · show ∃ r69 : Bool, _
        refine ⟨_, known08_ok, ?_⟩
        rw [if_pos rfl]
        refine ⟨_, rwire_ok (by omega) hall, true, ?_, ?_⟩
        · have := same_ok (a := wrapB (L.map segB)) (b := wrapB (L.map segB)) (by omega)
          simpa using this
        · rw [if_pos rfl]
          show true = _
          simp
      · exact hf.elim
    · obtain ⟨k, hk, h1, h2, h3⟩ := want_first hw
      refine ⟨_, pack_no ht2 (by omega) hk (fun j hj => ⟨h3 j hj, ok_u32 (hLok _ (List.getElem_mem _)).1.2.2.1, (hLok _ (List.getElem_mem _)).2.1⟩) h2, ?_⟩
      rw [if_neg (by simp [h1])]
      unfold law08_FramePacks_j2
      rw [if_pos (by simp [hw])]
      refine ⟨_, known08_ok, ?_⟩
      rw [if_pos rfl, if_pos (by simp [h1])]
      rfl
theorem framePacks_claim {a : List Fm} (h : ListOk (fun f : Fm => HdOk f.1 ∧ ListOk (IntOk .u8) f.2) a) : law08_FramePacks a true :=
  framePacks_true (fun f hf => ⟨(h.1 f hf).1, ok_byt (h.1 f hf).2⟩) h.2
end Go.Rel
/-! Plain laws: events: their lines, which are the same, the words of errors. -/
namespace Go.Rel
open Go Go.Eng Go.Pl
abbrev Ev := Int × Int × Int × Int × Mg
abbrev Er := Int × Int × Int × Int × Mr
def errWords : List (Int × List Int) := [(2, [108, 111, 110, 103]), (3, [102, 111, 114, 109]), (4, [101, 110, 100]), (5, [114, 97, 110, 103, 101]), (6, [109, 97, 110, 121]), (9, [107, 105, 110, 100]), (10, [118, 101, 114, 115, 105, 111, 110]), (11, [115, 117, 109]), (12, [115, 116, 117, 102, 102]), (13, [115, 104, 111, 114, 116]), (14, [115, 101, 101, 110]), (15, [111, 108, 100]), (16, [116, 119, 105, 99, 101]), (17, [109, 101, 101, 116]), (18, [108, 97, 116, 101]), (19, [116, 101, 120, 116])]
def wordE (e : Int) : List Int := ((errWords.find? fun p => decide (p.1 = e)).map (·.2)).getD []
theorem wordE_cases (e : Int) : (e = 2 ∨ e = 3 ∨ e = 4 ∨ e = 5 ∨ e = 6 ∨ e = 9 ∨ e = 10 ∨ e = 11 ∨ e = 12 ∨ e = 13 ∨ e = 14 ∨ e = 15 ∨ e = 16 ∨ e = 17 ∨ e = 18 ∨ e = 19) ∨ (¬ (e = 2 ∨ e = 3 ∨ e = 4 ∨ e = 5 ∨ e = 6 ∨ e = 9 ∨ e = 10 ∨ e = 11 ∨ e = 12 ∨ e = 13 ∨ e = 14 ∨ e = 15 ∨ e = 16 ∨ e = 17 ∨ e = 18 ∨ e = 19) ∧ wordE e = []) := by
  by_cases h : e = 2 ∨ e = 3 ∨ e = 4 ∨ e = 5 ∨ e = 6 ∨ e = 9 ∨ e = 10 ∨ e = 11 ∨ e = 12 ∨ e = 13 ∨ e = 14 ∨ e = 15 ∨ e = 16 ∨ e = 17 ∨ e = 18 ∨ e = 19
  · exact .inl h
  · refine .inr ⟨h, ?_⟩
    unfold wordE
    have : errWords.find? (fun p => decide (p.1 = e)) = none := by
      rw [List.find?_eq_none]
      intro p hp
      simp only [errWords, List.mem_cons, List.not_mem_nil, or_false] at hp
      simp only [decide_eq_true_eq]
      rcases hp with rfl | rfl | rfl | rfl | rfl | rfl | rfl | rfl | rfl | rfl | rfl | rfl | rfl | rfl | rfl | rfl <;> simp only <;> omega
    rw [this]; rfl
theorem eword_ok (e : Int) : event_Word e (bstr (wordE e)) := by
  unfold event_Word
  simp only [decide_eq_true_eq]
  rcases wordE_cases e with h | ⟨h, hw⟩
  · rcases h with rfl | rfl | rfl | rfl | rfl | rfl | rfl | rfl | rfl | rfl | rfl | rfl | rfl | rfl | rfl | rfl <;> exact rfl
  · rw [hw]
    simp only [not_or] at h
    obtain ⟨h1, h2, h3, h4, h5, h6, h7, h8, h9, h10, h11, h12, h13, h14, h15, h16⟩ := h
    rw [if_neg h1, if_neg h2, if_neg h3, if_neg h4, if_neg h5, if_neg h6, if_neg h7, if_neg h8, if_neg h9, if_neg h10, if_neg h11, if_neg h12, if_neg h13, if_neg h14, if_neg h15, if_neg h16]
def errN : List Int := [2, 3, 4, 5, 6, 9, 10, 11, 12, 13, 14, 15, 16, 17, 18, 19]
def errT : List ByteArray := [(bstr [108, 111, 110, 103]), (bstr [102, 111, 114, 109]), (bstr [101, 110, 100]), (bstr [114, 97, 110, 103, 101]), (bstr [109, 97, 110, 121]), (bstr [107, 105, 110, 100]), (bstr [118, 101, 114, 115, 105, 111, 110]), (bstr [115, 117, 109]), (bstr [115, 116, 117, 102, 102]), (bstr [115, 104, 111, 114, 116]), (bstr [115, 101, 101, 110]), (bstr [111, 108, 100]), (bstr [116, 119, 105, 99, 101]), (bstr [109, 101, 101, 116]), (bstr [108, 97, 116, 101]), (bstr [116, 101, 120, 116])]
theorem rword_run (e : Int) : ∀ (m k : Nat), k + m = 16 → (∀ j, j < k → errN.getD j 0 ≠ e) → ∃ x, Loops (ref23_Word_l2 e) (k : Int) x ∧ Aft (fun p23 => ref23_Word_j1 p23 (bstr (wordE e))) (fun p24 => bstr (wordE e) = p24) x
  | 0, k, hk, hn => by
    obtain rfl : k = 16 := by omega
    refine ⟨.inl (), .done ?_, ?_⟩
    · unfold ref23_Word_l2; rw [if_neg (by decide)]
    · show bstr (wordE e) = bstr []
      rcases wordE_cases e with h | ⟨h, hw⟩
      · exfalso
        have h0 := hn 0 (by omega); have h1 := hn 1 (by omega); have h2 := hn 2 (by omega); have h3 := hn 3 (by omega); have h4 := hn 4 (by omega); have h5 := hn 5 (by omega); have h6 := hn 6 (by omega); have h7 := hn 7 (by omega)
        have h8 := hn 8 (by omega); have h9 := hn 9 (by omega); have h10 := hn 10 (by omega); have h11 := hn 11 (by omega); have h12 := hn 12 (by omega); have h13 := hn 13 (by omega); have h14 := hn 14 (by omega); have h15 := hn 15 (by omega)
        simp only [errN, List.getD_cons_zero, List.getD_cons_succ] at *
        omega
      · rw [hw]
  | m + 1, k, hk, hn => by
    have hlt : k < 16 := by omega
    have hN : errN[k]? = some (errN.getD k 0) := by
      rw [List.getD_eq_getElem?_getD, List.getElem?_eq_getElem (by show k < 16; omega)]; rfl
    have hx : idx [2, 3, 4, 5, 6, 9, 10, 11, 12, 13, 14, 15, 16, 17, 18, 19] (k : Int) (errN.getD k 0) := idx_at rfl hN
    by_cases he : errN.getD k 0 = e
    · refine ⟨.inr (bstr (wordE e)), .done ?_, rfl⟩
      unfold ref23_Word_l2
      rw [if_pos (by simp; omega)]
      refine ⟨_, hx, ?_⟩
      rw [if_pos (by simpa using he)]
      refine ⟨bstr (wordE e), idx_at rfl ?_, rfl⟩
      subst he
      have : ∀ k, k < 16 → errT[k]? = some (bstr (wordE (errN.getD k 0))) := by
        intro k hk
        match k, hk with
        | 0, _ => rfl
        | 1, _ => rfl
        | 2, _ => rfl
        | 3, _ => rfl
        | 4, _ => rfl
        | 5, _ => rfl
        | 6, _ => rfl
        | 7, _ => rfl
        | 8, _ => rfl
        | 9, _ => rfl
        | 10, _ => rfl
        | 11, _ => rfl
        | 12, _ => rfl
        | 13, _ => rfl
        | 14, _ => rfl
        | 15, _ => rfl
        | n + 16, h => exact absurd h (by omega)
      exact this k hlt
    · obtain ⟨x, h1, h2⟩ := rword_run e m (k + 1) (by omega) (fun j hj => by
        by_cases hjk : j = k
        · subst hjk; exact he
        · exact hn j (by omega))
      refine ⟨x, .next ?_ h1, h2⟩
      unfold ref23_Word_l2
      rw [if_pos (by simp; omega)]
      refine ⟨_, hx, ?_⟩
      rw [if_neg (by simpa using he), len_wrap (by omega)]
theorem reword_ok (e : Int) : ref23_Word e (bstr (wordE e)) := rword_run e 16 0 (by omega) (fun j hj => by omega)
theorem wordE_len (e : Int) : (wordE e).length ≤ 7 := by
  rcases wordE_cases e with h | ⟨_, hw⟩
  · rcases h with rfl | rfl | rfl | rfl | rfl | rfl | rfl | rfl | rfl | rfl | rfl | rfl | rfl | rfl | rfl | rfl <;> decide
  · rw [hw]; decide
def evLine (e : Ev) : List Int :=
  if e.1 = 1 then [100, 101, 108, 105, 118, 101, 114, 32] ++ decI e.2.1 ++ [32, 118, 32] ++ decI e.2.2.1 ++ [32] ++ lineL e.2.2.2.2
  else if e.1 = 2 then [114, 101, 106, 101, 99, 116, 32] ++ decI e.2.1 ++ [32] ++ wordE e.2.2.2.1
  else if e.1 = 3 then [101, 118, 105, 99, 116, 32] ++ decI e.2.1 else []
structure EvOk (e : Ev) : Prop where
  kind : IntOk .i64 e.1
  seq : IntOk .u32 e.2.1
  ver : IntOk .i64 e.2.2.1
  err : IntOk .i64 e.2.2.2.1
  msg : MgOk e.2.2.2.2
theorem lineL_len {m : Mg} (ok : MgOk m) : (lineL m).length ≤ 1000000 := by
  unfold lineL; split
  · have := wordL_len m.1
    have := bodyL_len ok (fields_fd m.1)
    have := fields_len m.1
    simp only [List.length_append]; omega
  · simp
theorem i64_u32 {n : Int} (h : IntOk .u32 n) : IntOk .i64 n ∧ IntKind.i64.wrap n = n := by
  have ⟨q0, q1⟩ := ok_u32 h
  exact ⟨⟨by show (-9223372036854775808 : Int) ≤ n; omega, by show n ≤ 9223372036854775807; omega⟩, w_small (by omega) (by omega)⟩
theorem fin_app (a b : List Int) (hab : a.length + b.length < 1000000000) : (bstr a).size + (bstr b).size < 4611686018427387904 := by rw [size_bstr, size_bstr]; omega
theorem eline_ok {e : Ev} (ok : EvOk e) : event_Line e (bstr (evLine e)) := by
  obtain ⟨hs, hw⟩ := i64_u32 ok.seq
  have l1 := decI_len hs
  have l2 := decI_len ok.ver
  have l3 := lineL_len ok.msg
  have l4 := wordE_len e.2.2.2.1
  refine ⟨_, by rw [hw]; exact snum_ok hs, ?_⟩
  unfold evLine
  simp only [decide_eq_true_eq]
  by_cases h1 : e.1 = 1
  · rw [if_pos h1, if_pos h1]
    refine ⟨?_, ?_, _, snum_ok ok.ver, ?_, ?_, _, sline_ok ok.msg, ?_, ?_⟩
    all_goals (try simp only [← bstr_append])
    all_goals first | (refine fin_app _ _ ?_; simp only [List.length_append, List.length_cons, List.length_nil]; omega)
  rw [if_neg h1, if_neg h1]
  by_cases h2 : e.1 = 2
  · rw [if_pos h2, if_pos h2]
    refine ⟨?_, ?_, _, eword_ok _, ?_, ?_⟩
    all_goals (try simp only [← bstr_append])
    all_goals first | (refine fin_app _ _ ?_; simp only [List.length_append, List.length_cons, List.length_nil]; omega)
  rw [if_neg h2, if_neg h2]
  by_cases h3 : e.1 = 3
  · rw [if_pos h3, if_pos h3]
    refine ⟨?_, ?_⟩
    all_goals (try simp only [← bstr_append])
    all_goals first | (refine fin_app _ _ ?_; simp only [List.length_cons, List.length_nil]; omega)
  rw [if_neg h3, if_neg h3]
def ofE (e : Ev) : Er := (e.1, e.2.1, e.2.2.1, e.2.2.2.1, ofM e.2.2.2.2)
theorem reline_ok {e : Ev} (ok : EvOk e) : ref23_Line (ofE e) (bstr (evLine e)) := by
  obtain ⟨hs, hw⟩ := i64_u32 ok.seq
  have l1 := decI_len hs
  have l2 := decI_len ok.ver
  have l3 := lineL_len ok.msg
  have l4 := wordE_len e.2.2.2.1
  refine ⟨_, (by simp only [ofE]; rw [hw]; exact digits_ok hs), ?_⟩
  unfold evLine
  have cp : ∀ {n : Int}, e.1 = n → decide ((ofE e).1 = n) = true := fun h => decide_eq_true h
  have cn : ∀ {n : Int}, ¬ e.1 = n → ¬ decide ((ofE e).1 = n) = true := fun h hh => h (of_decide_eq_true hh)
  by_cases h1 : e.1 = 1
  · rw [if_pos (cp h1), if_pos h1]
    refine ⟨?_, ?_, bstr (decI e.2.2.1), digits_ok ok.ver, ?_, ?_, bstr (lineL e.2.2.2.2), rline_ok ok.msg, ?_, ?_⟩
    all_goals (try simp only [← bstr_append])
    all_goals first | (refine fin_app _ _ ?_; simp only [List.length_append, List.length_cons, List.length_nil]; omega)
  rw [if_neg (cn h1), if_neg h1]
  by_cases h2 : e.1 = 2
  · rw [if_pos (cp h2), if_pos h2]
    refine ⟨?_, ?_, bstr (wordE e.2.2.2.1), reword_ok _, ?_, ?_⟩
    all_goals (try simp only [← bstr_append])
    all_goals first | (refine fin_app _ _ ?_; simp only [List.length_append, List.length_cons, List.length_nil]; omega)
  rw [if_neg (cn h2), if_neg h2]
  by_cases h3 : e.1 = 3
  · rw [if_pos (cp h3), if_pos h3]
    refine ⟨?_, ?_⟩
    all_goals (try simp only [← bstr_append])
    all_goals first | (refine fin_app _ _ ?_; simp only [List.length_cons, List.length_nil]; omega)
  rw [if_neg (cn h3), if_neg h3]
def sameE (a b : Ev) : Bool := decide (a.1 = b.1 ∧ a.2.1 = b.2.1 ∧ a.2.2.1 = b.2.2.1 ∧ a.2.2.2.1 = b.2.2.2.1) && sameB a.2.2.2.2 b.2.2.2.2
theorem esame_ok {a b : Ev} (hp : a.2.2.2.2.2.2.1.length < 4611686018427387904) (hc : a.2.2.2.2.2.2.2.1.length < 4611686018427387904) : event_Same a b (sameE a b) := by
  unfold event_Same sameE
  simp only [decide_eq_true_eq, event_Same_j1]
  by_cases h1 : a.1 = b.1
  · by_cases h2 : a.2.1 = b.2.1
    · by_cases h3 : a.2.2.1 = b.2.2.1
      · by_cases h4 : a.2.2.2.1 = b.2.2.2.1
        · rw [if_pos h1, if_pos h2, if_pos h3, if_pos h4]; exact ⟨_, msame_ok hp hc, by simp [h1, h2, h3, h4]⟩
        · rw [if_pos h1, if_pos h2, if_pos h3, if_neg h4]; simp [h4]
      · rw [if_pos h1, if_pos h2, if_neg h3]; simp [h3]
    · rw [if_pos h1, if_neg h2]; simp [h2]
  · rw [if_neg h1]; simp [h1]
theorem resame_ok {a b : Ev} (hp : a.2.2.2.2.2.2.1.length < 4611686018427387904) (hc : a.2.2.2.2.2.2.2.1.length < 4611686018427387904) : ref23_Same (ofE a) (ofE b) (sameE a b) := by
  unfold ref23_Same sameE ofE
  simp only [decide_eq_true_eq, ref23_Same_j1]
  by_cases h1 : a.1 = b.1
  · by_cases h2 : a.2.1 = b.2.1
    · by_cases h3 : a.2.2.1 = b.2.2.1
      · by_cases h4 : a.2.2.2.1 = b.2.2.2.1
        · rw [if_pos h1, if_pos h2, if_pos h3, if_pos h4]; exact ⟨_, rsame_ok hp hc, by simp [h1, h2, h3, h4]⟩
        · rw [if_pos h1, if_pos h2, if_pos h3, if_neg h4]; simp [h4]
      · rw [if_pos h1, if_pos h2, if_neg h3]; simp [h3]
    · rw [if_pos h1, if_neg h2]; simp [h2]
  · rw [if_neg h1]; simp [h1]
theorem sameB_refl (m : Mg) : sameB m m = true := by simp [sameB]
theorem sameE_refl (e : Ev) : sameE e e = true := by simp [sameE, sameB_refl]
def cutE (e : Ev) : Ev := (e.1, e.2.1, e.2.2.1, e.2.2.2.1, cutM e.2.2.2.2)
theorem ecut_ok (e : Ev) : law23_Cut e (cutE e) := ⟨_, cut_ok _, rfl⟩
theorem eof_ok {e : Ev} (h : e.2.2.2.2.2.2.1.length < 1099511627776) : law23_Of e (ofE e) := ⟨_, ofm_ok h, rfl⟩
/-- What comes in: a message of any lengths. -/
structure MgIn (m : Mg) : Prop where
  kind : IntOk .i64 m.1
  six : m.2.1.length = 6
  num : ∀ x ∈ m.2.1, IntOk .i64 x
  path : ∀ p ∈ m.2.2.1, IntOk .i64 p.1 ∧ IntOk .i64 p.2
  cells : ∀ x ∈ m.2.2.2.1, IntOk .i64 x
theorem ext_size (s : ByteArray) (n : Nat) : (s.extract 0 n).size ≤ n := by rw [ByteArray.size_extract]; omega
theorem cut_in {m : Mg} (h : MgIn m) : MgOk (cutM m) := ⟨h.kind, h.six, h.num, fun p hp => h.path p (List.mem_of_mem_take hp), fun x hx => h.cells x (List.mem_of_mem_take hx), by simp only [cutM, List.length_take]; omega, by simp only [cutM, List.length_take]; omega, by have := ext_size m.2.2.2.2.1 80; simp only [cutM]; omega, by have := ext_size m.2.2.2.2.2 80; simp only [cutM]; omega⟩
structure EvIn (e : Ev) : Prop where
  kind : IntOk .i64 e.1
  seq : IntOk .u32 e.2.1
  ver : IntOk .i64 e.2.2.1
  err : IntOk .i64 e.2.2.2.1
  msg : MgIn e.2.2.2.2
theorem ecut_in {e : Ev} (h : EvIn e) : EvOk (cutE e) := ⟨h.kind, h.seq, h.ver, h.err, cut_in h.msg⟩
theorem ok_lit (n : Int) (h0 : -9223372036854775808 ≤ n) (h1 : n ≤ 9223372036854775807) : IntOk .i64 n := ⟨h0, h1⟩
theorem deliv_ok (seq ver : Int) {m : Mg} (hp : m.2.2.1.length < 1099511627776) (hc : m.2.2.2.1.length < 1099511627776) : event_Delivery seq ver m (1, seq, ver, 0, m) := ⟨_, mcopy_ok hp hc, rfl⟩
instance (k : IntKind) (n : Int) : Decidable (IntOk k n) := by unfold IntOk; infer_instance
def zM : Mg := (0, [0, 0, 0, 0, 0, 0], [], [], bstr [], bstr [])
theorem zM_ok : MgOk zM := ⟨by decide, rfl, by decide, by decide, by decide, by decide, by decide, by decide, by decide⟩
theorem known23_ok : law23_known true := by
  have hm : MgOk (2, [1, 2, 0, 0, 0, 0], [], [], bstr [], bstr []) := ⟨by decide, rfl, by decide, by decide, by decide, by decide, by decide, by decide, by decide⟩
  refine ⟨_, deliv_ok 7 1 (by decide) (by decide), _, eline_ok ⟨by decide, by decide, by decide, by decide, hm⟩, ?_⟩
  rw [if_pos (by decide)]
  refine ⟨_, rfl, _, eline_ok ⟨by decide, by decide, by decide, by decide, zM_ok⟩, ?_⟩
  rw [if_pos (by decide)]
  refine ⟨_, rfl, _, eline_ok ⟨by decide, by decide, by decide, by decide, zM_ok⟩, ?_⟩
  show true = _
  decide
theorem eventLines_true {a b : Ev} {e : Int} (ha : EvIn a) (hb : EvIn b) : law23_EventLines a b e true := by
  have oa := ecut_in ha
  have ob := ecut_in hb
  have h1 := oa.msg.lpath
  have h2 := oa.msg.lcells
  have h3 := ob.msg.lpath
  refine ⟨_, ecut_ok a, _, ecut_ok b, true, known23_ok, _, fun _ => eline_ok oa, _, fun _ => eof_ok (by omega), _, fun _ => reline_ok oa, _, fun _ => esame_ok (by omega) (by omega), _, fun _ => eof_ok (by omega), _, fun _ => eof_ok (by omega), _, fun _ => resame_ok (by omega) (by omega), _, fun _ => esame_ok (by omega) (by omega), _, fun _ => eword_ok e, _, fun _ => reword_ok e, ?_⟩
  simp [sameE_refl]
abbrev MgRaw (m : Mg) : Prop := IntOk .i64 m.1 ∧ (m.2.1.length = 6 ∧ ∀ x ∈ m.2.1, IntOk .i64 x) ∧ ListOk (fun p : Int × Int => IntOk .i64 p.1 ∧ IntOk .i64 p.2) m.2.2.1 ∧ ListOk (IntOk .i64) m.2.2.2.1 ∧ StrOk m.2.2.2.2.1 ∧ StrOk m.2.2.2.2.2
theorem mgIn {m : Mg} (h : MgRaw m) : MgIn m := ⟨h.1, h.2.1.1, h.2.1.2, h.2.2.1.1, h.2.2.2.1.1⟩
abbrev EvRaw (e : Ev) : Prop := IntOk .i64 e.1 ∧ IntOk .u32 e.2.1 ∧ IntOk .i64 e.2.2.1 ∧ IntOk .i64 e.2.2.2.1 ∧ MgRaw e.2.2.2.2
theorem evIn {e : Ev} (h : EvRaw e) : EvIn e := ⟨h.1, h.2.1, h.2.2.1, h.2.2.2.1, mgIn h.2.2.2.2⟩
theorem eventLines_claim {a b : Ev} {e : Int} (h0 : EvRaw a) (h1 : EvRaw b) (_h2 : IntOk .i64 e) : law23_EventLines a b e true := eventLines_true (evIn h0) (evIn h1)
end Go.Rel
