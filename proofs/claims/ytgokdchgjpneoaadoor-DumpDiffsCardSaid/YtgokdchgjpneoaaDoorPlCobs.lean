import Derived.Test.YtgokdchgjpneoaaDoorPlCrc
import Derived.Test.YtgokdchgjpneoaaDoorPlI
/-! Plain laws: stuffing. -/
namespace Go.Rel
open Go Go.Eng Go.Pl
/-- The blocks of bytes: what a block has so far, what is left; did a full block end just now? -/
def cb : List Int → List Int → Bool → List (List Int)
  | now, [], e => if e then [] else [now]
  | now, c :: l, _ => if c = 0 then now :: cb [] l false else if now.length + 1 = 254 then (now ++ [c]) :: cb [] l true else cb (now ++ [c]) l false
def enc1 (x : List Int) : List Int := ((x.length : Int) + 1) :: x
def encB (l : List Int) : List Int := ((cb [] l false).map enc1).flatten
theorem cb_len : ∀ (l now : List Int), now.length < 254 → now.length + l.length ≤ 254 → ((cb now l false).map enc1).flatten.length = now.length + l.length + 1
  | [], now, _, _ => by simp [cb, enc1]
  | c :: l, now, h1, h2 => by
    unfold cb
    simp only [List.length_cons] at h2 ⊢
    by_cases h0 : c = 0
    · rw [if_pos h0, List.map_cons, List.flatten_cons, List.length_append, cb_len l [] (by simp) (by simp; omega)]
      simp [enc1]; omega
    · rw [if_neg h0]
      by_cases h3 : now.length + 1 = 254
      · rw [if_pos h3]
        have : l = [] := List.eq_nil_of_length_eq_zero (by omega)
        subst this
        simp [cb, enc1]
      · rw [if_neg h3, cb_len l (now ++ [c]) (by simp; omega) (by simp; omega)]
        simp; omega
theorem cb_all : ∀ (l now : List Int) (e : Bool), now.length < 254 → ∀ x ∈ cb now l e, x.length ≤ 254
  | [], now, e, h, x, hx => by
    unfold cb at hx
    split at hx
    · cases hx
    · simp at hx; subst hx; omega
  | c :: l, now, e, h, x, hx => by
    unfold cb at hx
    split at hx
    · rcases List.mem_cons.1 hx with rfl | hx
      · omega
      · exact cb_all l [] _ (by simp) x hx
    · split at hx
      · rcases List.mem_cons.1 hx with rfl | hx
        · simp; omega
        · exact cb_all l [] _ (by simp) x hx
      · exact cb_all l _ _ (by simp; omega) x hx
theorem cb_sum : ∀ (l now : List Int) (e : Bool), ((cb now l e).map List.length).sum ≤ now.length + l.length ∧ (cb now l e).length ≤ l.length + 1
  | [], now, e => by unfold cb; split <;> simp
  | c :: l, now, e => by
    unfold cb
    split
    · have := cb_sum l [] false; simp at this ⊢; omega
    · split
      · have := cb_sum l [] true; simp at this ⊢; omega
      · have := cb_sum l (now ++ [c]) false; simp at this ⊢; omega

/-- A run of bytes that aren't 0. -/
theorem cb_run : ∀ (p l now : List Int) (e : Bool), (∀ x ∈ p, x ≠ 0) → now.length + p.length < 254 → p ≠ [] → cb now (p ++ l) e = cb (now ++ p) l false
  | [], _, _, _, _, _, h => absurd rfl h
  | c :: p, l, now, e, h0, h1, _ => by
    simp only [List.length_cons] at h1
    rw [List.cons_append]; unfold cb
    rw [if_neg (h0 c List.mem_cons_self), if_neg (by omega)]
    by_cases hp : p = []
    · subst hp
      simp only [List.nil_append]
      rw [cb.eq_def]
    · rw [cb_run p l (now ++ [c]) false (fun x hx => h0 x (List.mem_cons_of_mem _ hx)) (by simp; omega) hp]
      simp only [List.append_assoc, List.singleton_append]
      rw [cb.eq_def]
theorem cb_e (l : List Int) (h : l ≠ []) (e e' : Bool) : cb [] l e = cb [] l e' := by
  cases l with
  | nil => exact absurd rfl h
  | cons c l => simp only [cb]
theorem cb_zero (p l : List Int) (h0 : ∀ x ∈ p, x ≠ 0) (h1 : p.length < 254) (e : Bool) : cb [] (p ++ 0 :: l) e = p :: cb [] l false := by
  by_cases hp : p = []
  · subst hp; simp [cb]
  · rw [cb_run p (0 :: l) [] e h0 (by simpa using h1) hp]; simp [cb]
theorem cb_end (p : List Int) (h0 : ∀ x ∈ p, x ≠ 0) (h1 : p.length < 254) : cb [] p false = [p] := by
  by_cases hp : p = []
  · subst hp; simp [cb]
  · have := cb_run p [] [] false h0 (by simpa using h1) hp
    rw [List.append_nil] at this
    rw [this]; simp [cb]
theorem cb_full (p l : List Int) (h0 : ∀ x ∈ p, x ≠ 0) (h1 : p.length = 254) (e : Bool) : cb [] (p ++ l) e = p :: cb [] l true := by
  obtain ⟨q, c, rfl⟩ : ∃ q c, p = q ++ [c] := ⟨p.dropLast, p.getLast (by intro h; subst h; simp at h1), (List.dropLast_concat_getLast _).symm⟩
  simp only [List.length_append, List.length_cons, List.length_nil] at h1
  rw [List.append_assoc, cb_run q ([c] ++ l) [] e (fun x hx => h0 x (List.mem_append.2 (.inl hx))) (by simp; omega) (by intro h; subst h; simp at h1)]
  simp only [List.singleton_append, List.nil_append]
  rw [cb.eq_def]
  simp only
  rw [if_neg (h0 c (by simp)), if_pos (by omega)]

/-- Where the first 0 stands. -/
def fz (l : List Int) : Nat := l.findIdx (fun c => decide (c = 0))
theorem fz_before {l : List Int} {k : Nat} (h : k < fz l) (hk : k < l.length) : l[k] ≠ 0 := by
  have := List.not_of_lt_findIdx h
  simpa using this
theorem fz_at {l : List Int} (h : fz l < l.length) : l[fz l] = 0 := by
  have := List.findIdx_getElem (p := fun c : Int => decide (c = 0)) (xs := l) (w := h)
  unfold fz
  simpa using this
theorem fz_le (l : List Int) : fz l ≤ l.length := List.findIdx_le_length
theorem take_all (l : List Int) (b : Int) (h : b = (l.length : Int)) : (l.drop (0 : Int).toNat).take ((b : Int) - 0).toNat = l := by subst h; simp

theorem block_ok {l : List Int} (hlen : l.length < 4611686018427387904) : cobs_block l (if fz l < min l.length 254 then ((fz l : Int), (fz l : Int) + 1, true) else if 254 ≤ l.length then (254, 254, decide (254 < l.length)) else ((l.length : Int), (l.length : Int), false)) := by
  have hd : (l.drop (0 : Int).toNat).take (((min (l.length : Int) 254) : Int) - 0).toNat = l.take (min l.length 254) := by
    rw [show (0 : Int).toNat = 0 from rfl, List.drop_zero]; congr 1; omega
  refine ⟨by omega, by omega, ?_⟩
  have step : ∀ k, k < min l.length 254 → k < fz l → cobs_block_l2 l (k : Int) (.inl ((k + 1 : Nat) : Int)) := by
    intro k hk hf
    unfold cobs_block_l2
    rw [hd, if_pos (by simp; omega)]
    refine ⟨l[k]'(by omega), idx_at rfl (by rw [List.getElem?_take, if_pos hk]; exact List.getElem?_eq_getElem (by omega)), ?_⟩
    rw [if_neg (by simpa using fz_before hf (by omega)), w_small (by omega) (by omega)]
    rfl
  by_cases hz : fz l < min l.length 254
  · rw [if_pos hz]
    refine ⟨.inr ((fz l : Int), (fz l : Int) + 1, true), ?_, rfl⟩
    refine loops_count (fun k => (k : Int)) (fz l) (fun k hk => step k (by omega) hk) ?_
    unfold cobs_block_l2
    rw [hd, if_pos (by simp; omega)]
    refine ⟨l[fz l]'(by omega), idx_at rfl (by rw [List.getElem?_take, if_pos hz]; exact List.getElem?_eq_getElem (by omega)), ?_⟩
    rw [if_pos (by simpa using fz_at (by omega)), w_small (by omega) (by omega)]
  · rw [if_neg hz]
    refine ⟨.inl (), ?_, ?_⟩
    · refine loops_count (fun k => (k : Int)) (min l.length 254) (fun k hk => step k hk (by omega)) ?_
      unfold cobs_block_l2
      rw [hd, if_neg (by simp)]
    · show cobs_block_j1 l () _
      unfold cobs_block_j1
      by_cases h2 : 254 ≤ l.length
      · rw [if_pos h2, if_pos (by simp; omega)]
        congr 2
        rw [decide_eq_decide]; omega
      · rw [if_neg h2, if_neg (by simp; omega)]
theorem blocks_ok {l : List Int} (hlen : l.length < 1073741824) : Itr (cobs_Blocks_1 l) (cb [] l false) := by
  intro S Y s s' hr
  refine ⟨(s', ()), ?_, rfl⟩
  have key : ∀ (m : Nat) (l : List Int) (s : S), l.length < m → l.length < 1073741824 → Run Y (cb [] l false) s s' → Loops (cobs_Blocks_1_l1 S Y) (s, l, true) (s', ()) := by
    intro m
    induction m with
    | zero => intro l s h; omega
    | succ m ih =>
      intro l s hm hlen hr
      -- one block
      have one : ∀ (n all : Nat) (next : Bool), cobs_block l ((n : Int), (all : Int), next) → n ≤ l.length → all ≤ l.length → ∀ rest, cb [] l false = l.take n :: rest → (next = true → rest = cb [] (l.drop all) false ∧ 0 < all) → (next = false → rest = []) → Loops (cobs_Blocks_1_l1 S Y) (s, l, true) (s', ()) := by
        intro n all next hb hn ha rest hcb hnx hend
        rw [hcb] at hr
        have e1 : (l.drop (0 : Int).toNat).take (((n : Int) : Int) - 0).toNat = l.take n := by
          rw [show (0 : Int).toNat = 0 from rfl, List.drop_zero]; congr 1
        have e2 : (l.drop (all : Int).toNat).take (((l.length : Int) : Int) - (all : Int)).toNat = l.drop all := by
          rw [Int.toNat_natCast, List.take_of_length_le (by rw [List.length_drop]; omega)]
        have hlt : (l.take n).length ≤ l.length := by rw [List.length_take]; omega
        obtain ⟨b, s1, hy, h1⟩ : ∃ b s1, Y (l.take n) s (b, s1) ∧ ((b = true ∧ Run Y rest s1 s') ∨ (b = false ∧ s1 = s')) := by
          cases hr with
          | go h h' => exact ⟨true, _, h, .inl ⟨rfl, h'⟩⟩
          | stop h => exact ⟨false, _, h, .inr ⟨rfl, rfl⟩⟩
        rcases h1 with ⟨rfl, h1⟩ | ⟨rfl, rfl⟩
        · refine .next (s' := (s1, l.drop all, next)) ?_ ?_
          · unfold cobs_Blocks_1_l1
            simp only
            rw [if_pos trivial]
            refine ⟨_, hb, ?_⟩
            simp only
            rw [e1, e2]
            refine ⟨by omega, by omega, by omega, by omega, by simp only [List.length_nil]; omega, by simp only [List.length_nil]; omega, true, s1, by simpa using hy, ?_⟩
            rw [if_neg (by decide)]
            exact ⟨by omega, by omega, by omega, rfl⟩
          · cases hnext : next with
            | true =>
              obtain ⟨hr1, hpos⟩ := hnx hnext
              subst hr1
              exact ih (l.drop all) s1 (by rw [List.length_drop]; omega) (by rw [List.length_drop]; omega) h1
            | false =>
              rw [hend hnext] at h1
              cases h1
              refine .done ?_
              unfold cobs_Blocks_1_l1
              rw [if_neg (ne_true rfl)]
        · refine .done ?_
          unfold cobs_Blocks_1_l1
          simp only
          rw [if_pos trivial]
          refine ⟨_, hb, ?_⟩
          simp only
          rw [e1, e2]
          refine ⟨by omega, by omega, by omega, by omega, by simp only [List.length_nil]; omega, by simp only [List.length_nil]; omega, false, s1, by simpa using hy, ?_⟩
          rw [if_pos (by decide)]
      have hb := block_ok (l := l) (by omega)
      by_cases hz : fz l < min l.length 254
      · rw [if_pos hz] at hb
        refine one (fz l) (fz l + 1) true (by simpa using hb) (by omega) (by omega) (cb [] (l.drop (fz l + 1)) false) ?_ (fun _ => ⟨rfl, by omega⟩) (fun h => nomatch h)
        have e : l = l.take (fz l) ++ 0 :: l.drop (fz l + 1) := by
          have h3 : l.drop (fz l) = 0 :: l.drop (fz l + 1) := by
            rw [List.drop_eq_getElem_cons (show fz l < l.length by omega), fz_at (by omega)]
          rw [← h3, List.take_append_drop]
        conv => lhs; rw [e]
        refine cb_zero _ _ (fun x hx => ?_) (by rw [List.length_take]; omega) false
        obtain ⟨k, hk, rfl⟩ := List.getElem_of_mem hx
        rw [List.length_take] at hk
        rw [List.getElem_take]
        exact fz_before (by omega) (by omega)
      · rw [if_neg hz] at hb
        have h0 : ∀ x ∈ l.take 254, x ≠ 0 := by
          intro x hx
          obtain ⟨k, hk, rfl⟩ := List.getElem_of_mem hx
          rw [List.length_take] at hk
          rw [List.getElem_take]
          exact fz_before (by omega) (by omega)
        by_cases h2 : 254 ≤ l.length
        · rw [if_pos h2] at hb
          have e : l = l.take 254 ++ l.drop 254 := (List.take_append_drop _ _).symm
          refine one 254 254 (decide (254 < l.length)) (by simpa using hb) h2 h2 (cb [] (l.drop 254) true) ?_ (fun h => ⟨?_, by omega⟩) (fun h => ?_)
          · conv => lhs; rw [e]
            exact cb_full _ _ h0 (by rw [List.length_take]; omega) false
          · refine cb_e _ (fun h3 => ?_) _ _
            have := congrArg List.length h3
            rw [List.length_drop] at this
            simp at h this; omega
          · have : l.drop 254 = [] := List.drop_eq_nil_of_le (by simpa using h)
            rw [this]; rfl
        · rw [if_neg h2] at hb
          rw [List.take_of_length_le (by omega)] at h0
          refine one l.length l.length false (by simpa using hb) (Nat.le_refl _) (Nat.le_refl _) [] ?_ (fun h => nomatch h) (fun _ => rfl)
          rw [List.take_length]
          exact cb_end l h0 (by omega)
  exact key _ l s (Nat.lt_succ_self _) hlen hr
theorem flat_len : ∀ (xs : List (List Int)), (xs.map enc1).flatten.length = (xs.map List.length).sum + xs.length
  | [] => rfl
  | x :: xs => by
    have := flat_len xs
    simp only [List.map_cons, List.flatten_cons, List.length_append, List.sum_cons, List.length_cons, this, enc1]; omega
theorem encode_ok {l : List Int} (hlen : l.length < 1073741824) : cobs_Encode l (encB l) := by
  refine ⟨_, rfl, .inl (encB l), (), ?_, rfl⟩
  refine blocks_ok hlen _ _ _ _ (run_yof ?_)
  have h2 := runB_fold (B := cobs_Encode_l1) (fun s x => s ++ enc1 x) (cb [] l false) [] ?_
  · have e : ∀ (xs : List (List Int)) (s : List Int), xs.foldl (fun s x => s ++ enc1 x) s = s ++ (xs.map enc1).flatten := by
      intro xs
      induction xs with
      | nil => intro s; simp
      | cons x xs ih => intro s; rw [List.foldl_cons, ih]; simp
    rw [e] at h2
    simpa [encB] using h2
  · intro p x q hpq
    have e : ∀ (xs : List (List Int)) (s : List Int), xs.foldl (fun s x => s ++ enc1 x) s = s ++ (xs.map enc1).flatten := by
      intro xs
      induction xs with
      | nil => intro s; simp
      | cons x xs ih => intro s; rw [List.foldl_cons, ih]; simp
    have hx : x.length ≤ 254 := cb_all l [] false (by simp) x (by rw [hpq]; simp)
    have hs := cb_sum l [] false
    rw [hpq] at hs
    simp only [List.map_append, List.map_cons, List.sum_append, List.sum_cons, List.length_append, List.length_cons, List.length_nil] at hs
    have hp : ((p.map enc1).flatten).length ≤ 2147483648 := by rw [flat_len]; omega
    rw [e]
    simp only [List.nil_append]
    unfold cobs_Encode_l1
    have e1 : IntKind.u8.wrap (IntKind.i64.wrap ((x.length : Int) + 1)) = (x.length : Int) + 1 := by rw [w_small (by omega) (by omega), w_u8]; omega
    rw [e1]
    simp only [List.length_append, List.length_cons, List.length_nil]
    refine ⟨by omega, by omega, by omega, by omega, ?_⟩
    simp [enc1]
end Go.Rel
