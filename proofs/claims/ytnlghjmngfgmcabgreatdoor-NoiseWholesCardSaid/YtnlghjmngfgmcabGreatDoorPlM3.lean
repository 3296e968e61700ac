import Derived.Test.YtnlghjmngfgmcabGreatDoorURel
import Derived.Test.YtnlghjmngfgmcabGreatDoorPlM2
/-! Plain laws: bytes read from the left, bytes written. -/
namespace Go.Rel
open Go Go.Eng Go.Pl
/-- The number whose bytes these are, the lowest one first. -/
def leV : List Int → Int
  | [] => 0
  | c :: l => leV l * 256 + c
theorem leV_bound : ∀ (l : List Int), Byt l → 0 ≤ leV l ∧ leV l < ((256 ^ l.length : Nat) : Int)
  | [], _ => by simp [leV]
  | c :: l, h => by
    have h1 := leV_bound l (fun x hx => h x (List.mem_cons_of_mem _ hx))
    have h2 := h c List.mem_cons_self
    simp only [leV, List.length_cons, Nat.pow_succ]
    omega
theorem leV_drop {l : List Int} {k : Nat} (h : k < l.length) : leV (l.drop k) = leV (l.drop (k + 1)) * 256 + l[k] := by
  rw [List.drop_eq_getElem_cons h]; rfl
theorem ior_32 {s c : Int} (hs : 0 ≤ s ∧ s < 16777216) (hc : 0 ≤ c ∧ c < 256) : ior .u32 (ishl .u32 s 8) c = s * 256 + c := by
  obtain ⟨a, rfl⟩ := Int.eq_ofNat_of_zero_le hs.1
  obtain ⟨b, rfl⟩ := Int.eq_ofNat_of_zero_le hc.1
  have e1 : ishl .u32 (a : Int) 8 = ((a * 256 : Nat) : Int) := by
    show IntKind.u32.wrap ((a : Int) * 2 ^ min (8 : Int).toNat 32) = _
    rw [show min (8 : Int).toNat 32 = 8 from rfl, w_u32]; omega
  rw [e1]
  show IntKind.u32.wrap (((BitVec.ofInt 32 ((a * 256 : Nat) : Int) ||| BitVec.ofInt 32 (b : Int)).toNat : Nat) : Int) = _
  rw [BitVec.ofInt_natCast, BitVec.ofInt_natCast, BitVec.toNat_or, BitVec.toNat_ofNat, BitVec.toNat_ofNat, Nat.mod_eq_of_lt (by omega), Nat.mod_eq_of_lt (by omega)]
  have e2 : a * 256 ||| b = a * 256 + b := by
    have := Nat.shiftLeft_add_eq_or_of_lt (show b < 2 ^ 8 by omega) a
    rw [Nat.shiftLeft_eq] at this; exact this.symm
  rw [e2, w_u32]; omega
/-- A list from behind, each with its place. -/
def backL (l : List Int) : List (Int × Int) := (List.range l.length).map fun k => (((l.length - 1 - k : Nat) : Int), l.getD (l.length - 1 - k) 0)
theorem backward_ok {l : List Int} (hl : l.length < 4611686018427387904) : Itr (slices_Backward_byte_byte_1 l) (backL l) := by
  intro S Y s s' hr
  refine ⟨(s', ()), ?_, rfl⟩
  have key : ∀ (m : Nat) (s : S), m ≤ l.length → Run Y ((backL l).drop (l.length - m)) s s' → Loops (slices_Backward_byte_byte_1_l1 S Y l) (s, (m : Int) - 1) (s', ()) := by
    intro m
    induction m with
    | zero =>
      intro s _ hr
      rw [List.drop_eq_nil_of_le (by simp [backL])] at hr
      cases hr
      refine .done ?_
      unfold slices_Backward_byte_byte_1_l1
      rw [if_neg (by simp)]
    | succ m ih =>
      intro s hm hr
      have hk : l.length - (m + 1) < (backL l).length := by simp [backL]; omega
      rw [List.drop_eq_getElem_cons hk] at hr
      have hx : (backL l)[l.length - (m + 1)] = ((m : Int), l[m]) := by
        simp only [backL, List.getElem_map, List.getElem_range]
        rw [show l.length - 1 - (l.length - (m + 1)) = m by omega, List.getD_eq_getElem?_getD, List.getElem?_eq_getElem (by omega)]; rfl
      rw [hx, show l.length - (m + 1) + 1 = l.length - m by omega] at hr
      have hs : ∀ b u, Y ((m : Int), l[m]) s (b, u) → slices_Backward_byte_byte_1_l1 S Y l (s, ((m + 1 : Nat) : Int) - 1) (if b = true then .inl (u, (m : Int) - 1) else .inr (u, ())) := by
        intro b u hy
        unfold slices_Backward_byte_byte_1_l1
        rw [show ((m + 1 : Nat) : Int) - 1 = (m : Int) by omega]
        simp only
        rw [if_pos (by simp)]
        refine ⟨l[m], idx_of (by omega), b, u, hy, ?_⟩
        cases b with
        | true => rw [if_neg (by decide), w_small (by omega) (by omega)]; rfl
        | false => rw [if_pos (by decide)]; rfl
      cases hr with
      | go h h' => exact .next (hs true _ h) (ih _ (by omega) h')
      | stop h => exact .done (hs false _ h)
  have := key l.length s (Nat.le_refl _) (by simpa using hr)
  rw [w_small (by omega) (by omega)]
  exact this
theorem byt_at {l : List Int} (hl : Byt l) {k : Nat} (h : k < l.length) : 0 ≤ l[k] ∧ l[k] < 256 := hl _ (List.getElem_mem h)
/-- Several bytes as one number. -/
theorem word1_ok {l : List Int} (hl : Byt l) (_hlen : l.length < 4611686018427387904) {n : Nat} (hn : n ≤ 4) (h : n ≤ l.length) : lens_Lens_word_1 l (n : Int) 0 ((n : Int), 0, leV (l.take n)) := by
  unfold lens_Lens_word_1
  have e : (l.drop (0 : Int).toNat).take (((n : Int) : Int) - 0).toNat = l.take n := by
    rw [show (0 : Int).toNat = 0 from rfl, List.drop_zero]; congr 1
  rw [if_neg (by simp; omega), e]
  refine ⟨by omega, by omega, _, rfl, ?_⟩
  have hb : Byt (l.take n) := hl.take n
  have hln : (l.take n).length = n := by rw [List.length_take]; omega
  generalize l.take n = q at hb hln
  subst hln
  obtain ⟨t, h1, h2⟩ := runB_inv (B := lens_Lens_word_1_l1) (s := 0) (fun k (s : Int) => s = leV (q.drop (q.length - k))) (fun _ => False) (backL q) (by simp [leV]) (by
    rintro k hk s rfl
    left
    have hkl : k < q.length := by simpa [backL] using hk
    refine ⟨_, ?_, rfl⟩
    have hx : (backL q)[k] = (((q.length - 1 - k : Nat) : Int), q[q.length - 1 - k]'(by omega)) := by
      simp only [backL, List.getElem_map, List.getElem_range]
      rw [List.getD_eq_getElem?_getD, List.getElem?_eq_getElem (by omega)]; rfl
    have hc := byt_at hb (show q.length - 1 - k < q.length by omega)
    have hv := leV_bound (q.drop (q.length - k)) (hb.drop _)
    have hp : 256 ^ (q.drop (q.length - k)).length ≤ 256 ^ 3 := Nat.pow_le_pow_right (by omega) (by rw [List.length_drop]; omega)
    unfold lens_Lens_word_1_l1
    rw [hx]
    simp only
    rw [w32_small (n := q[q.length - 1 - k]'(by omega)) (by omega) (by omega), ior_32 ⟨hv.1, by omega⟩ hc, show q.length - (k + 1) = q.length - 1 - k by omega, leV_drop (show q.length - 1 - k < q.length by omega), show q.length - 1 - k + 1 = q.length - k by omega])
  rcases h2 with ⟨s', rfl, h2⟩ | ⟨e, _, hf⟩
  · refine ⟨.inl s', (), backward_ok (by omega) _ _ _ _ (run_yof h1), ?_⟩
    show _ = _
    rw [h2]; simp [backL]
  · exact hf.elim
theorem left_ok {b : List Int} {at_ : Nat} {e : Int} (h : at_ ≤ b.length) : lens_Lens_left (b, (at_ : Int), e) (b.drop at_) := by
  unfold lens_Lens_left
  refine ⟨by simp, by simp; omega, Int.le_refl _, Int.le_refl _, Int.le_refl _, ?_⟩
  simp only [Int.toNat_natCast]
  rw [List.take_of_length_le (by rw [List.length_drop]; omega)]
theorem lword_ok {b : List Int} (hb : Byt b) (hlen : b.length < 4611686018427387904) {at_ n : Nat} (hn : n ≤ 4) (h : at_ + n ≤ b.length) : lens_Lens_word (b, (at_ : Int), 0) (n : Int) (leV ((b.drop at_).take n), (b, ((at_ + n : Nat) : Int), 0)) := by
  refine ⟨(true, (b, ((at_ + n : Nat) : Int), 0), leV ((b.drop at_).take n)), ?_, rfl⟩
  unfold lens_Lens_read__lens_Lens_word_1
  rw [if_neg (by simp)]
  refine ⟨_, left_ok (by omega), _, word1_ok (hb.drop _) (by rw [List.length_drop]; omega) hn (by rw [List.length_drop]; omega), ?_⟩
  rw [if_neg (by simp)]
  simp only
  rw [w_small (by omega) (by omega)]; rfl
theorem lnew_ok {b : List Int} (hlen : b.length < 1073741824) : lens_New b (b, 0, 0) := by
  unfold lens_New
  simp only [List.length_nil, List.nil_append]
  exact ⟨by omega, by omega, trivial⟩

end Go.Rel
/-! Plain laws: what is stuffed is taken apart. -/
namespace Go.Rel
open Go Go.Eng Go.Pl
/-- Blocks as bytes: a 0 behind each that isn't a full one, nor the last. -/
def joinB : List (List Int) → List Int
  | [] => []
  | [p] => p
  | p :: q :: L => p ++ (if p.length = 254 then [] else [0]) ++ joinB (q :: L)
/-- Does an empty block stand last behind a full one? -/
def endBad : Bool → List (List Int) → Bool
  | _, [] => false
  | f, [p] => f && decide (p = [])
  | _, p :: q :: L => endBad (decide (p.length = 254)) (q :: L)
/-- Blocks that may be: no 0 in one, none too long. -/
def OkB (L : List (List Int)) : Prop := ∀ p ∈ L, (∀ x ∈ p, x ≠ 0) ∧ p.length ≤ 254
theorem cb_ne : ∀ (l now : List Int), cb now l false ≠ []
  | [], now => by simp [cb]
  | c :: l, now => by
    unfold cb
    split
    · simp
    · split
      · simp
      · exact cb_ne l _
theorem before_fz {l : List Int} {m : Nat} (h : m ≤ fz l) : ∀ x ∈ l.take m, x ≠ 0 := by
  intro x hx
  obtain ⟨k, hk, rfl⟩ := List.getElem_of_mem hx
  rw [List.length_take] at hk
  rw [List.getElem_take]
  exact fz_before (by omega) (by omega)
/-- The first block of bytes. -/
theorem cb_cases (x : List Int) : (∃ p l, x = p ++ 0 :: l ∧ (∀ c ∈ p, c ≠ 0) ∧ p.length < 254 ∧ cb [] x false = p :: cb [] l false) ∨
    (∃ p l, x = p ++ l ∧ (∀ c ∈ p, c ≠ 0) ∧ p.length = 254 ∧ cb [] x false = p :: cb [] l true) ∨ ((∀ c ∈ x, c ≠ 0) ∧ x.length < 254 ∧ cb [] x false = [x]) := by
  by_cases hz : fz x < min x.length 254
  · left
    refine ⟨x.take (fz x), x.drop (fz x + 1), ?_, before_fz (Nat.le_refl _), by rw [List.length_take]; omega, ?_⟩
    · have h3 : x.drop (fz x) = 0 :: x.drop (fz x + 1) := by rw [List.drop_eq_getElem_cons (show fz x < x.length by omega), fz_at (by omega)]
      rw [← h3, List.take_append_drop]
    · have h3 : x.drop (fz x) = 0 :: x.drop (fz x + 1) := by rw [List.drop_eq_getElem_cons (show fz x < x.length by omega), fz_at (by omega)]
      have e : x = x.take (fz x) ++ 0 :: x.drop (fz x + 1) := by rw [← h3, List.take_append_drop]
      conv => lhs; rw [e]
      exact cb_zero _ _ (before_fz (Nat.le_refl _)) (by rw [List.length_take]; omega) false
  · right
    by_cases h2 : 254 ≤ x.length
    · left
      refine ⟨x.take 254, x.drop 254, (List.take_append_drop _ _).symm, before_fz (by omega), by rw [List.length_take]; omega, ?_⟩
      conv => lhs; rw [(List.take_append_drop 254 x).symm]
      exact cb_full _ _ (before_fz (by omega)) (by rw [List.length_take]; omega) false
    · right
      have h0 : ∀ c ∈ x, c ≠ 0 := by
        have h9 := fz_le x
        have := before_fz (l := x) (m := x.length) (by omega)
        rwa [List.take_length] at this
      exact ⟨h0, by omega, cb_end x h0 (by omega)⟩
theorem cb_ok : ∀ (m : Nat) (x : List Int), x.length < m → OkB (cb [] x false) ∧ joinB (cb [] x false) = x ∧ ∀ f, (f = true → x ≠ []) → endBad f (cb [] x false) = false := by
  intro m
  induction m with
  | zero => intro x h; omega
  | succ m ih =>
    intro x hm
    have more : ∀ (p l : List Int), (∀ c ∈ p, c ≠ 0) → p.length ≤ 254 → l.length < m → x = p ++ (if p.length = 254 then [] else [0]) ++ l → (p.length = 254 → l ≠ []) → OkB (p :: cb [] l false) ∧ joinB (p :: cb [] l false) = x ∧ ∀ f, endBad f (p :: cb [] l false) = false := by
      intro p l hp hpl hl hx hn
      obtain ⟨h1, h2, h3⟩ := ih l hl
      obtain ⟨q, L, hq⟩ := List.exists_cons_of_ne_nil (cb_ne l [])
      refine ⟨fun r hr => ?_, ?_, fun f => ?_⟩
      · rcases List.mem_cons.1 hr with rfl | hr
        · exact ⟨hp, hpl⟩
        · exact h1 r hr
      · rw [hq]
        simp only [joinB]
        rw [← hq, h2]; exact hx.symm
      · rw [hq]
        simp only [endBad]
        rw [← hq]
        exact h3 _ (fun h => hn (by simpa using h))
    rcases cb_cases x with ⟨p, l, hx, h0, hp, hc⟩ | ⟨p, l, hx, h0, hp, hc⟩ | ⟨h0, hp, hc⟩
    · have := more p l h0 (by omega) (by have := congrArg List.length hx; simp at this; omega) (by rw [if_neg (by omega)]; simpa using hx) (fun h => by omega)
      rw [hc]; exact ⟨this.1, this.2.1, fun f _ => this.2.2 f⟩
    · by_cases hl : l = []
      · subst hl
        have e : cb [] x false = [p] := by rw [hc]; simp [cb]
        rw [e]
        refine ⟨fun r hr => by simp at hr; subst hr; exact ⟨h0, by omega⟩, by simp [joinB, hx], fun f _ => ?_⟩
        have : p ≠ [] := by intro h; subst h; simp at hp
        simp [endBad, this]
      · have := more p l h0 (by omega) (by have := congrArg List.length hx; simp at this; omega) (by rw [if_pos hp]; simpa using hx) (fun _ => hl)
        rw [hc, cb_e l hl true false]; exact ⟨this.1, this.2.1, fun f _ => this.2.2 f⟩
    · rw [hc]
      refine ⟨fun r hr => by simp at hr; subst hr; exact ⟨h0, by omega⟩, rfl, fun f hf => ?_⟩
      cases f with
      | false => rfl
      | true => simp [endBad, hf rfl]
theorem join_ne : ∀ (L : List (List Int)) (q : List Int), endBad true (q :: L) = false → joinB (q :: L) ≠ []
  | [], q, h => by simp [endBad] at h; simpa [joinB] using h
  | r :: L, q, _ => by
    simp only [joinB]
    by_cases h : q.length = 254
    · intro e
      have := congrArg List.length e
      simp [h] at this
    · rw [if_neg h]; simp
theorem cb_join : ∀ (L : List (List Int)) (f : Bool), L ≠ [] → OkB L → endBad f L = false → cb [] (joinB L) false = L
  | [], _, h, _, _ => absurd rfl h
  | [p], _, _, ho, _ => by
    obtain ⟨h0, h1⟩ := ho p List.mem_cons_self
    by_cases h2 : p.length = 254
    · have := cb_full p [] h0 h2 false
      simp only [List.append_nil] at this
      simp only [joinB, this, cb, if_true]
    · exact cb_end p h0 (by omega)
  | p :: q :: L, f, _, ho, he => by
    obtain ⟨h0, h1⟩ := ho p List.mem_cons_self
    have ho2 : OkB (q :: L) := fun r hr => ho r (List.mem_cons_of_mem _ hr)
    simp only [endBad] at he
    have ih := cb_join (q :: L) _ (by simp) ho2 he
    simp only [joinB]
    by_cases h2 : p.length = 254
    · rw [if_pos h2]
      rw [decide_eq_true h2] at he
      simp only [List.append_nil]
      rw [cb_full p _ h0 h2 false, cb_e _ (join_ne L q he) true false, ih]
    · rw [if_neg h2]
      simp only [List.append_assoc, List.singleton_append]
      rw [cb_zero p _ h0 (by omega) false, ih]
def flatB (L : List (List Int)) : List Int := (L.map enc1).flatten
theorem join_len : ∀ (L : List (List Int)), L ≠ [] → (joinB L).length + 1 ≤ (flatB L).length
  | [], h => absurd rfl h
  | [p], _ => by simp [joinB, flatB, enc1]
  | p :: q :: L, _ => by
    have ih := join_len (q :: L) (by simp)
    have e : (flatB (p :: q :: L)).length = p.length + 1 + (flatB (q :: L)).length := by simp [flatB, enc1]; omega
    rw [e]
    simp only [joinB, List.length_append]
    split <;> simp <;> omega
/-- Bytes as blocks, each behind its code. -/
def pb : Nat → List Int → Option (List (List Int))
  | 0, _ => none
  | _ + 1, [] => some []
  | n + 1, c :: r => if 1 ≤ c ∧ (c - 1).toNat ≤ r.length ∧ ∀ x ∈ r.take (c - 1).toNat, x ≠ 0 then (pb n (r.drop (c - 1).toNat)).map (r.take (c - 1).toNat :: ·) else none
theorem pb_some : ∀ (n : Nat) (b : List Int) (L : List (List Int)), Byt b → pb n b = some L → flatB L = b ∧ OkB L
  | 0, _, _, _, h => by simp [pb] at h
  | n + 1, [], L, _, h => by simp [pb] at h; subst h; exact ⟨rfl, fun p hp => nomatch hp⟩
  | n + 1, c :: r, L, hb, h => by
    unfold pb at h
    split at h
    · rename_i hc
      obtain ⟨L', h1, rfl⟩ := Option.map_eq_some_iff.1 h
      obtain ⟨h2, h3⟩ := pb_some n _ L' (fun x hx => hb x (List.mem_cons_of_mem _ (List.mem_of_mem_drop hx))) h1
      have hcb := hb c List.mem_cons_self
      have hlen : (r.take (c - 1).toNat).length = (c - 1).toNat := by rw [List.length_take]; omega
      refine ⟨?_, fun p hp => ?_⟩
      · have e : flatB (r.take (c - 1).toNat :: L') = (((r.take (c - 1).toNat).length : Int) + 1) :: (r.take (c - 1).toNat ++ flatB L') := by simp [flatB, enc1]
        rw [e, h2, List.take_append_drop, hlen]
        congr 1; omega
      · rcases List.mem_cons.1 hp with rfl | hp
        · exact ⟨hc.2.2, by omega⟩
        · exact h3 p hp
    · cases h
/-- What bytes are, unstuffed. -/
def decB (b : List Int) : Option (List Int) := if b = [] then none else match pb (b.length + 1) b with
  | none => none
  | some L => if endBad false L = true then none else some (joinB L)
theorem dec_some {b x : List Int} (hb : Byt b) (h : decB b = some x) : encB x = b := by
  unfold decB at h
  split at h
  · cases h
  · rename_i hne
    split at h
    · cases h
    · rename_i L hL
      split at h
      · cases h
      · rename_i he
        cases h
        obtain ⟨h1, h2⟩ := pb_some _ b L hb hL
        have hn : L ≠ [] := by rintro rfl; exact hne h1.symm
        unfold encB
        rw [cb_join L false hn h2 (by simpa using he)]; exact h1
/-- What the program makes of the rest, a full block having just ended or not. -/
def resB (f : Bool) (rest : List Int) : Sum Unit (List Int) := match pb (rest.length + 1) rest with
  | none => .inl ()
  | some L => if endBad f L = true then .inl () else .inr (joinB L)
theorem pb_fuel : ∀ (n m : Nat) (b : List Int), b.length < n → b.length < m → pb n b = pb m b
  | 0, _, b, h, _ => by omega
  | n + 1, 0, b, _, h => by omega
  | n + 1, m + 1, [], _, _ => rfl
  | n + 1, m + 1, c :: r, h, h' => by
    unfold pb
    rw [pb_fuel n m (r.drop (c - 1).toNat) (by simp at h ⊢; omega) (by simp at h' ⊢; omega)]
theorem decode_run : ∀ (m : Nat) (rest out : List Int) (f : Bool), rest.length < m → rest ≠ [] → Byt rest → out.length + 2 * rest.length < 1073741824 →
    Loops cobs_Decode_l3 (out, rest, f) (match resB f rest with | .inl u => .inl u | .inr x => .inr (out ++ x)) := by
  intro m
  induction m with
  | zero => intro rest out f h; omega
  | succ m ih =>
    intro rest out f hm hne hb hlen
    obtain ⟨c, r, rfl⟩ := List.exists_cons_of_ne_nil hne
    have hc := hb c List.mem_cons_self
    have hbr : Byt r := fun x hx => hb x (List.mem_cons_of_mem _ hx)
    simp only [List.length_cons] at hm hlen
    have e1 : IntKind.i64.wrap ((IntKind.i64.wrap c) - 1) = c - 1 := by rw [w_small (n := c) (by omega) (by omega), w_small (by omega) (by omega)]
    have e2 : IntKind.i64.wrap ((c - 1) + 1) = c := by rw [w_small (by omega) (by omega)]; omega
    have bad : (c < 1 ∨ (r.length : Int) + 1 ≤ c - 1) → Loops cobs_Decode_l3 (out, c :: r, f) (.inl ()) := by
      intro h
      refine .done ⟨c, ⟨by decide, rfl⟩, ?_⟩
      simp only [e1]
      by_cases h1 : c - 1 < 0
      · rw [if_pos (by simpa using h1)]
        unfold cobs_Decode_j4
        rw [if_pos rfl]
      · rw [if_neg (by simpa using h1)]
        unfold cobs_Decode_j4
        rw [decide_eq_true (by simp; omega), if_pos rfl]
    unfold resB
    simp only [List.length_cons]
    unfold pb
    by_cases hin : 1 ≤ c ∧ (c - 1).toNat ≤ r.length
    · obtain ⟨k, hk⟩ : ∃ k : Nat, c = (k : Int) + 1 := ⟨(c - 1).toNat, by omega⟩
      have hkn : (c - 1).toNat = k := by omega
      rw [hkn] at hin ⊢
      have ed : (((c :: r).drop (1 : Int).toNat).take ((c : Int) - 1).toNat) = r.take k := by
        rw [show (1 : Int).toNat = 1 from rfl, List.drop_succ_cons, List.drop_zero, hkn]
      have er : (((c :: r).drop c.toNat).take ((((c :: r).length : Int) : Int) - c).toNat) = r.drop k := by
        rw [show c.toNat = k + 1 by omega, List.drop_succ_cons, List.take_of_length_le]
        simp only [List.length_drop, List.length_cons]; omega
      have htk : (r.take k).length = k := by rw [List.length_take]; omega
      -- the zeros
      have zs : ∃ e, Loops (cobs_Decode_l7 (out, c :: r, f) c) 0 e ∧ e = if ∀ x ∈ r.take k, x ≠ 0 then .inl () else .inr () := by
        have key := loops_inv (step := cobs_Decode_l7 (out, c :: r, f) c) (s := 0) (fun j (s : Int) => s = (j : Int) ∧ ∀ q (h : q < (r.take k).length), q < j → (r.take k)[q] ≠ 0) (fun e => e = if ∀ x ∈ r.take k, x ≠ 0 then .inl () else .inr ()) k ⟨rfl, fun q _ h => by omega⟩ ?_ ?_
        · exact key
        · rintro j s hj ⟨rfl, h2⟩
          have hj2 : j < (r.take k).length := by omega
          by_cases h0 : (r.take k)[j] = 0
          · right
            refine ⟨.inr (), ?_, ?_⟩
            · unfold cobs_Decode_l7
              simp only [e1, e2, ed]
              rw [if_pos (by simp; omega)]
              refine ⟨(r.take k)[j], idx_of hj2, ?_⟩
              rw [if_pos (by simpa using h0)]
              trivial
            · rw [if_neg]
              intro h; exact h _ (List.getElem_mem hj2) h0
          · left
            refine ⟨((j + 1 : Nat) : Int), ?_, rfl, fun q h3 h4 => ?_⟩
            · unfold cobs_Decode_l7
              simp only [e1, e2, ed]
              rw [if_pos (by simp; omega)]
              refine ⟨(r.take k)[j], idx_of hj2, ?_⟩
              rw [if_neg (by simpa using h0), w_small (by omega) (by omega)]; rfl
            · by_cases e : q = j
              · subst e; exact h0
              · exact h2 q h3 (by omega)
        · rintro s ⟨rfl, h2⟩
          refine ⟨.inl (), ?_, ?_⟩
          · unfold cobs_Decode_l7
            simp only [e1, e2, ed]
            rw [if_neg (by rw [htk]; simp)]
            trivial
          · rw [if_pos]
            intro x hx
            obtain ⟨q, hq, rfl⟩ := List.getElem_of_mem hx
            exact h2 q hq (by omega)
      obtain ⟨e, hl, he⟩ := zs
      have stp : ∀ o, Aft (fun p60 => cobs_Decode_j5 (out, c :: r, f) c p60 o) (fun p61 => o = .inr (.inl p61)) e → cobs_Decode_l3 (out, c :: r, f) o := by
        intro o ha
        refine ⟨c, ⟨by decide, rfl⟩, ?_⟩
        simp only [e1]
        rw [if_neg (by simp; omega)]
        unfold cobs_Decode_j4
        simp only [e1, e2]
        rw [decide_eq_false (by simp; omega), if_neg (by decide)]
        exact ⟨by omega, by simp; omega, e, hl, ha⟩
      by_cases hz : ∀ x ∈ r.take k, x ≠ 0
      · rw [if_pos ⟨hin.1, hin.2, hz⟩]
        rw [if_pos hz] at he
        subst he
        rw [pb_fuel (r.length + 1) ((r.drop k).length + 1) (r.drop k) (by simp; omega) (by omega)]
        have j5 : ∀ o, (if r.drop k = [] then (if (f && decide (k = 0)) = true then o = .inr (.inl ()) else o = .inr (.inr (out ++ r.take k))) else o = .inl ((out ++ r.take k) ++ (if k = 254 then [] else [0]), r.drop k, decide (k = 254))) → cobs_Decode_j5 (out, c :: r, f) c () o := by
          intro o ho
          unfold cobs_Decode_j5
          simp only [e1, e2, ed, er]
          refine ⟨by omega, by simp; omega, by rw [htk]; omega, by rw [htk]; omega, by omega, by simp; omega, Int.le_refl _, ?_⟩
          have hnd : (decide (((r.drop k).length : Int) = 0)) = decide (r.drop k = []) := by
            rw [decide_eq_decide]; constructor
            · intro h; exact List.eq_nil_of_length_eq_zero (by omega)
            · intro h; rw [h]; rfl
          have hk0 : decide (c - 1 = 0) = decide (k = 0) := by rw [decide_eq_decide]; omega
          have hk254 : decide (c - 1 = 254) = decide (k = 254) := by rw [decide_eq_decide]; omega
          have j6 : ∀ b : Bool, b = (decide (r.drop k = []) && (f && decide (k = 0))) → cobs_Decode_j6 (out, c :: r, f) c b o := by
            intro b hbb
            unfold cobs_Decode_j6
            simp only [e1, e2, ed, er, hnd, hk254]
            by_cases hd : r.drop k = []
            · rw [if_pos hd] at ho
              rw [decide_eq_true hd] at hbb ⊢
              by_cases hq : (f && decide (k = 0)) = true
              · rw [if_pos hq] at ho
                rw [hbb, hq, if_pos rfl]; exact ho
              · rw [if_neg hq] at ho
                rw [hbb, show (f && decide (k = 0)) = false by simpa using hq, if_neg (by decide), if_pos rfl]; exact ho
            · rw [if_neg hd] at ho
              rw [decide_eq_false hd] at hbb ⊢
              rw [hbb, if_neg (by simp), if_neg (by decide)]
              by_cases h4 : k = 254
              · rw [if_pos h4] at ho
                rw [if_neg (by simp [h4])]
                rw [ho]; simp
              · rw [if_neg h4] at ho
                rw [if_pos (by simp [h4])]
                simp only [List.length_append, htk, List.length_cons, List.length_nil]
                exact ⟨by omega, by omega, ho⟩
          rw [hnd]
          by_cases hd : r.drop k = []
          · rw [if_pos (by simpa using hd), hk0]
            cases f with
            | true => rw [if_pos rfl]; exact j6 _ (by simp [hd])
            | false => rw [if_neg (by decide)]; exact j6 _ (by simp)
          · rw [if_neg (by simpa using hd)]; exact j6 _ (by simp [hd])
        by_cases hd : r.drop k = []
        · have hp : pb ((r.drop k).length + 1) (r.drop k) = some [] := by rw [hd]; rfl
          rw [hp]
          simp only [Option.map_some]
          have hE : endBad f [r.take k] = (f && decide (k = 0)) := by
            simp only [endBad]
            congr 1
            rw [decide_eq_decide]
            constructor
            · intro h; have := congrArg List.length h; rw [htk] at this; simpa using this
            · intro h; subst h; simp
          by_cases hq : endBad f [r.take k] = true
          · rw [if_pos hq]
            exact .done (stp _ (j5 _ (by rw [if_pos hd, if_pos (by rw [← hE]; exact hq)])))
          · rw [if_neg hq]
            exact .done (stp _ (j5 _ (by rw [if_pos hd, if_neg (by rw [← hE]; exact hq)]; rfl)))
        · have i2 := ih (r.drop k) ((out ++ r.take k) ++ (if k = 254 then [] else [0])) (decide (k = 254)) (by rw [List.length_drop]; omega) hd (hbr.drop _) (by
            have : (if k = 254 then ([] : List Int) else [0]).length ≤ 1 := by split <;> simp
            simp only [List.length_append, htk, List.length_drop]; omega)
          refine .next (stp _ (j5 _ (by rw [if_neg hd]))) ?_
          unfold resB at i2
          cases hpb : pb ((r.drop k).length + 1) (r.drop k) with
          | none => rw [hpb] at i2; exact i2
          | some L =>
            rw [hpb] at i2
            have hL : L ≠ [] := by
              rintro rfl
              have := (pb_some _ _ [] (hbr.drop _) hpb).1
              exact hd this.symm
            obtain ⟨q, L', rfl⟩ := List.exists_cons_of_ne_nil hL
            simp only [Option.map_some, endBad, joinB, htk] at i2 ⊢
            by_cases hq : endBad (decide (k = 254)) (q :: L') = true
            · rw [if_pos hq] at i2 ⊢; exact i2
            · rw [if_neg hq] at i2 ⊢
              simp only [List.append_assoc] at i2 ⊢; exact i2
      · rw [if_neg (fun h => hz h.2.2)]
        rw [if_neg hz] at he
        subst he
        exact .done (stp _ rfl)
    · rw [if_neg (fun h => hin ⟨h.1, h.2.1⟩)]
      exact bad (by omega)
def decR (b : List Int) : List Int × Int := match decB b with
  | none => ([], 12)
  | some x => (x, 0)
theorem decode_ok {b : List Int} (hb : Byt b) (hl : b.length < 268435456) : cobs_Decode b (decR b) := by
  unfold cobs_Decode decR decB
  by_cases h : b = []
  · subst h; rw [if_pos (by simp), if_pos rfl]; rfl
  · rw [if_neg (by simp; exact h), if_neg h]
    have := decode_run (b.length + 1) b [] false (by omega) h hb (by simp; omega)
    refine ⟨_, this, ?_⟩
    unfold resB
    cases pb (b.length + 1) b with
    | none => rfl
    | some L =>
      simp only
      by_cases hq : endBad false L = true
      · rw [if_pos hq, if_pos hq]; rfl
      · rw [if_neg hq, if_neg hq]; simp only [List.nil_append]; rfl
end Go.Rel
/-! Plain laws: heads. -/
namespace Go.Rel
open Go Go.Eng Go.Pl
abbrev Hd := Int × Int × Int × Int × Int
def headE (h : Hd) : Int := if ¬ (1 ≤ h.1 ∧ h.1 ≤ 2) then 10 else if ¬ (1 ≤ h.2.1 ∧ h.2.1 ≤ 5) then 9 else if ¬ (1 ≤ h.2.2.2.2 ∧ h.2.2.2.2 ≤ 255 ∧ 0 ≤ h.2.2.2.1 ∧ h.2.2.2.1 < h.2.2.2.2) then 3 else 0
/-- The errors that a head may have, and whether it has them, in their order. -/
def headL (h : Hd) : List (Int × Bool) := [(10, decide (¬ (1 ≤ h.1 ∧ h.1 ≤ 2))), (9, decide (¬ (1 ≤ h.2.1 ∧ h.2.1 ≤ 5))), (3, decide (¬ (1 ≤ h.2.2.2.2 ∧ h.2.2.2.2 ≤ 255 ∧ 0 ≤ h.2.2.2.1 ∧ h.2.2.2.1 < h.2.2.2.2)))]
theorem run_cons {X S : Type} {Y : X → S → Bool × S → Prop} {x : X} {xs : List X} {s s' : S} (h : Run Y (x :: xs) s s') : ∃ b s1, Y x s (b, s1) ∧ ((b = true ∧ Run Y xs s1 s') ∨ (b = false ∧ s1 = s')) := by
  cases h with
  | go h h' => exact ⟨true, _, h, .inl ⟨rfl, h'⟩⟩
  | stop h => exact ⟨false, _, h, .inr ⟨rfl, rfl⟩⟩
theorem run_one {X S : Type} {Y : X → S → Bool × S → Prop} {x : X} {s s' : S} (h : Run Y [x] s s') : ∃ b, Y x s (b, s') := by
  obtain ⟨b, s1, h1, h2⟩ := run_cons h
  rcases h2 with ⟨_, h2⟩ | ⟨_, rfl⟩
  · cases h2; exact ⟨b, h1⟩
  · exact ⟨b, h1⟩
theorem wrong_ok (h : Hd) : Itr (head_wrong_1 h) (headL h) := by
  intro S Y s s' hr
  obtain ⟨v, k, q, i, n⟩ := h
  obtain ⟨b1, u1, y1, r1⟩ := run_cons hr
  have last : ∀ u, Run Y [((3 : Int), decide (¬ (1 ≤ n ∧ n ≤ 255 ∧ 0 ≤ i ∧ i < n)))] u s' → if (decide (n < 1)) = true then (∃ y15 : Bool, ∃ u16 : S, Y (3, true) u (y15, u16) ∧ (s', ()) = (u16, ())) else (if (decide (255 < n)) = true then (∃ y22 : Bool, ∃ u23 : S, Y (3, true) u (y22, u23) ∧ (s', ()) = (u23, ())) else (if (decide (i < 0)) = true then (∃ y29 : Bool, ∃ u30 : S, Y (3, true) u (y29, u30) ∧ (s', ()) = (u30, ())) else (∃ y36 : Bool, ∃ u37 : S, Y (3, (decide (n ≤ i))) u (y36, u37) ∧ (s', ()) = (u37, ())))) := by
    intro u hu
    obtain ⟨b, hb⟩ := run_one hu
    by_cases h1 : n < 1
    · rw [if_pos (by simpa using h1)]
      exact ⟨b, s', by rw [decide_eq_true (by omega)] at hb; exact hb, rfl⟩
    · rw [if_neg (by simpa using h1)]
      by_cases h2 : 255 < n
      · rw [if_pos (by simpa using h2)]
        exact ⟨b, s', by rw [decide_eq_true (by omega)] at hb; exact hb, rfl⟩
      · rw [if_neg (by simpa using h2)]
        by_cases h3 : i < 0
        · rw [if_pos (by simpa using h3)]
          exact ⟨b, s', by rw [decide_eq_true (by omega)] at hb; exact hb, rfl⟩
        · rw [if_neg (by simpa using h3)]
          refine ⟨b, s', ?_, rfl⟩
          rw [show decide (n ≤ i) = decide (¬ (1 ≤ n ∧ n ≤ 255 ∧ 0 ≤ i ∧ i < n)) by rw [decide_eq_decide]; omega]; exact hb
  unfold head_wrong_1
  simp only at y1 ⊢
  by_cases c1 : v < 1
  · rw [if_pos (by simpa using c1)]
    refine ⟨b1, u1, by rw [decide_eq_true (by omega)] at y1; exact y1, ?_⟩
    rcases r1 with ⟨rfl, r1⟩ | ⟨rfl, rfl⟩
    · rw [if_pos rfl]
      obtain ⟨b2, u2, y2, r2⟩ := run_cons r1
      simp only at y2
      by_cases c2 : k < 1
      · rw [if_pos (by simpa using c2)]
        refine ⟨b2, u2, by rw [decide_eq_true (by omega)] at y2; exact y2, ?_⟩
        rcases r2 with ⟨rfl, r2⟩ | ⟨rfl, rfl⟩
        · rw [if_pos rfl]; exact last u2 r2
        · rw [if_neg (by decide)]
      · rw [if_neg (by simpa using c2)]
        refine ⟨b2, u2, by rw [show decide (5 < k) = decide (¬ (1 ≤ k ∧ k ≤ 5)) by rw [decide_eq_decide]; omega]; exact y2, ?_⟩
        rcases r2 with ⟨rfl, r2⟩ | ⟨rfl, rfl⟩
        · rw [if_pos rfl]; exact last u2 r2
        · rw [if_neg (by decide)]
    · rw [if_neg (by decide)]
  · rw [if_neg (by simpa using c1)]
    refine ⟨b1, u1, by rw [show decide (2 < v) = decide (¬ (1 ≤ v ∧ v ≤ 2)) by rw [decide_eq_decide]; omega]; exact y1, ?_⟩
    rcases r1 with ⟨rfl, r1⟩ | ⟨rfl, rfl⟩
    · rw [if_pos rfl]
      obtain ⟨b2, u2, y2, r2⟩ := run_cons r1
      simp only at y2
      by_cases c2 : k < 1
      · rw [if_pos (by simpa using c2)]
        refine ⟨b2, u2, by rw [decide_eq_true (by omega)] at y2; exact y2, ?_⟩
        rcases r2 with ⟨rfl, r2⟩ | ⟨rfl, rfl⟩
        · rw [if_pos rfl]; exact last u2 r2
        · rw [if_neg (by decide)]
      · rw [if_neg (by simpa using c2)]
        refine ⟨b2, u2, by rw [show decide (5 < k) = decide (¬ (1 ≤ k ∧ k ≤ 5)) by rw [decide_eq_decide]; omega]; exact y2, ?_⟩
        rcases r2 with ⟨rfl, r2⟩ | ⟨rfl, rfl⟩
        · rw [if_pos rfl]; exact last u2 r2
        · rw [if_neg (by decide)]
    · rw [if_neg (by decide)]
theorem hcheck_ok (h : Hd) : head_Check h (headE h) := by
  refine ⟨_, rfl, ?_⟩
  have go : ∀ e, head_Check_l2 (e, false) () (.inl ()) := fun e => by unfold head_Check_l2; rw [if_neg (ne_true rfl)]
  have st : ∀ e, head_Check_l2 (e, true) () (.inr e) := fun e => by unfold head_Check_l2; rw [if_pos rfl]
  have key : ∀ t, RunB head_Check_l2 (headL h) () t → head_wrong_1 h (Sum Unit Int) (Yof head_Check_l2) (.inl ()) (t, ()) := fun t ht => wrong_ok h _ _ _ _ (run_yof ht)
  unfold headE headL at *
  by_cases c1 : 1 ≤ h.1 ∧ h.1 ≤ 2
  · rw [if_neg (by simpa using c1)]
    rw [decide_eq_false (show ¬ ¬ (1 ≤ h.1 ∧ h.1 ≤ 2) from fun e => e c1)] at key
    by_cases c2 : 1 ≤ h.2.1 ∧ h.2.1 ≤ 5
    · rw [if_neg (by simpa using c2)]
      rw [decide_eq_false (show ¬ ¬ (1 ≤ h.2.1 ∧ h.2.1 ≤ 5) from fun e => e c2)] at key
      by_cases c3 : 1 ≤ h.2.2.2.2 ∧ h.2.2.2.2 ≤ 255 ∧ 0 ≤ h.2.2.2.1 ∧ h.2.2.2.1 < h.2.2.2.2
      · rw [if_neg (fun e => e c3)]
        rw [decide_eq_false (fun e => e c3)] at key
        exact ⟨.inl (), (), key _ (.go (go _) (.go (go _) (.go (go _) .nil))), rfl⟩
      · rw [if_pos c3]
        rw [decide_eq_true c3] at key
        exact ⟨.inr 3, (), key _ (.go (go _) (.go (go _) (.stop (st _)))), rfl⟩
    · rw [if_pos c2]
      rw [decide_eq_true c2] at key
      exact ⟨.inr 9, (), key _ (.go (go _) (.stop (st _))), rfl⟩
  · rw [if_pos c1]
    rw [decide_eq_true c1] at key
    exact ⟨.inr 10, (), key _ (.stop (st _)), rfl⟩
/-- A head's bytes. -/
def headB (h : Hd) : List Int := [h.1, h.2.1, h.2.2.1 % 256, h.2.2.1 / 256 % 256, h.2.2.1 / 65536 % 256, h.2.2.1 / 16777216, h.2.2.2.1, h.2.2.2.2]
theorem headE_ok {h : Hd} (he : headE h = 0) : 1 ≤ h.1 ∧ h.1 ≤ 2 ∧ 1 ≤ h.2.1 ∧ h.2.1 ≤ 5 ∧ 1 ≤ h.2.2.2.2 ∧ h.2.2.2.2 ≤ 255 ∧ 0 ≤ h.2.2.2.1 ∧ h.2.2.2.1 < h.2.2.2.2 := by
  unfold headE at he
  split at he
  · cases he
  · split at he
    · cases he
    · split at he
      · cases he
      · omega
theorem shr_u32 {a : Int} (n : Nat) (hn : n ≤ 32) {s : Int} (hs : s = (n : Int)) : ishr .u32 a s = a / 2 ^ n := by
  subst hs
  show a.fdiv (2 ^ min (n : Int).toNat 32) = _
  have hp : (0 : Int) < 2 ^ n := Int.pow_pos (by decide)
  rw [show min (n : Int).toNat 32 = n by omega, Int.fdiv_eq_ediv_of_nonneg _ (Int.le_of_lt hp)]
theorem hbytes_ok {h : Hd} (he : headE h = 0) (hq : 0 ≤ h.2.2.1 ∧ h.2.2.1 < 4294967296) : head_Bytes h (headB h, 0) := by
  have h1 := headE_ok he
  refine ⟨_, hcheck_ok h, ?_⟩
  rw [if_neg (by simp [he])]
  rw [shr_u32 8 (by omega) (s := 8) rfl, shr_u32 16 (by omega) (s := 16) rfl, shr_u32 24 (by omega) (s := 24) rfl]
  simp only [w_u8, headB]
  have e : ∀ a b c d e f g i a' b' c' d' e' f' g' i' : Int, a = a' → b = b' → c = c' → d = d' → e = e' → f = f' → g = g' → i = i' → ([a, b, c, d, e, f, g, i], (0 : Int)) = ([a', b', c', d', e', f', g', i'], 0) := by
    intros; subst_vars; rfl
  apply e <;> omega
theorem headB_byt {h : Hd} (he : headE h = 0) (hq : 0 ≤ h.2.2.1 ∧ h.2.2.1 < 4294967296) : ∀ x ∈ headB h, 0 ≤ x ∧ x < 256 := by
  have h1 := headE_ok he
  intro x hx
  simp only [headB, List.mem_cons, List.not_mem_nil, or_false] at hx
  rcases hx with rfl | rfl | rfl | rfl | rfl | rfl | rfl | rfl <;> omega
end Go.Rel
/-! Plain laws: rooms on the wire. -/
namespace Go.Rel
open Go Go.Eng Go.Pl
end Go.Rel
/-! Plain laws: frames. -/
namespace Go.Rel
open Go Go.Eng Go.Pl
theorem take_map {α β : Type} (f : α → β) {l : List α} {k : Nat} (hk : k < l.length) : (l.take (k + 1)).map f = (l.take k).map f ++ [f l[k]] := by
  rw [List.take_succ_eq_append_getElem hk, List.map_append]; rfl
def frameE (f : Hd × List Int) : Int := if headE f.1 ≠ 0 then headE f.1 else if f.2.length = 0 then 13 else if 242 < f.2.length then 2 else 0
theorem fcheck_ok (t : List Int) (f : Hd × List Int) : frame_Codec_Check t f (frameE f) := by
  refine ⟨_, hcheck_ok f.1, ?_⟩
  unfold frameE
  by_cases h : headE f.1 = 0
  · simp only [h, ne_eq, not_true_eq_false, if_false, decide_true, Bool.not_true, Bool.false_eq_true]
    by_cases h1 : f.2.length = 0
    · rw [if_pos (by simp only [decide_eq_true_eq]; omega), if_pos h1]
    · by_cases h2 : 242 < f.2.length
      · rw [if_neg (by simp only [decide_eq_true_eq]; omega), if_pos (by simp only [decide_eq_true_eq]; omega), if_neg h1, if_pos h2]
      · rw [if_neg (by simp only [decide_eq_true_eq]; omega), if_neg (by simp only [decide_eq_true_eq]; omega), if_neg h1, if_neg h2]
  · rw [if_pos (by simpa using h), if_pos h]
/-- What a frame's block is, and its segment. -/
def blockB (f : Hd × List Int) : List Int := (headB f.1 ++ f.2) ++ sumB (sumW (headB f.1 ++ f.2))
def segB (f : Hd × List Int) : List Int := encB (blockB f)
theorem frameE_ok {f : Hd × List Int} (h : frameE f = 0) : headE f.1 = 0 ∧ f.2.length ≠ 0 ∧ f.2.length ≤ 242 := by
  unfold frameE at h
  by_cases h0 : headE f.1 = 0
  · rw [if_neg (by simpa using h0)] at h
    split at h
    · cases h
    · split at h
      · cases h
      · exact ⟨h0, by assumption, by omega⟩
  · rw [if_pos h0] at h; exact absurd h h0
theorem segment_ok {t : List Int} (ht : IsTab t) {f : Hd × List Int} (h : frameE f = 0) (hq : 0 ≤ f.1.2.2.1 ∧ f.1.2.2.1 < 4294967296) (hb : Byt f.2) : frame_Codec_Segment t f (segB f, 0) := by
  obtain ⟨h1, h2, h3⟩ := frameE_ok h
  have hby : Byt (headB f.1 ++ f.2) := Byt.app (headB_byt h1 hq) hb
  have hl8 : (headB f.1).length = 8 := rfl
  refine ⟨_, fcheck_ok t f, ?_⟩
  rw [if_neg (by simp [h])]
  refine ⟨_, hbytes_ok h1 hq, by simp only [hl8]; omega, by simp only [hl8]; omega, _, seal_ok ht hby (by rw [List.length_append, hl8]; omega), _, encode_ok ?_, rfl⟩
  simp only [List.length_append, hl8, sumB, List.length_cons, List.length_nil]; omega
theorem segment_no (t : List Int) {f : Hd × List Int} (h : frameE f ≠ 0) : frame_Codec_Segment t f ([], frameE f) := by
  refine ⟨_, fcheck_ok t f, ?_⟩
  rw [if_pos (by simpa using h)]
theorem segB_len {f : Hd × List Int} (h : f.2.length ≤ 242) : (segB f).length = f.2.length + 13 := by
  have : (blockB f).length = f.2.length + 12 := by simp [blockB, headB, sumB]
  unfold segB encB
  rw [cb_len _ _ (by simp) (by simp; omega), this]; simp
def wrapB (l : List (List Int)) : List Int := (l.map fun s => [0] ++ s ++ [0]).flatten
theorem wrap_ok {l : List (List Int)} (hl : l.length < 1048576) (hs : ∀ s ∈ l, s.length < 1048576) : fence_Wrap l (wrapB l) := by
  refine ⟨_, ?_, rfl⟩
  have hlen : ∀ k, k ≤ l.length → (wrapB (l.take k)).length ≤ k * 1048578 := by
    intro k
    induction k with
    | zero => intro _; simp [wrapB]
    | succ k ih =>
      intro hk
      have h1 := ih (by omega)
      have h2 := hs l[k] (List.getElem_mem _)
      rw [List.take_succ_eq_append_getElem (by omega)]
      simp only [wrapB, List.map_append, List.flatten_append, List.length_append, List.map_cons, List.map_nil, List.flatten_cons, List.flatten_nil, List.append_nil, List.length_cons, List.length_nil] at h1 ⊢
      omega
  refine loops_count (step := fence_Wrap_l2 l) (fun k => (wrapB (l.take k), (k : Int))) l.length (fun k hk => ?_) ?_
  · unfold fence_Wrap_l2
    have h1 := hlen k (by omega)
    have h2 := hs l[k] (List.getElem_mem _)
    have h3 : k * 1048578 ≤ 1048576 * 1048578 := Nat.mul_le_mul_right _ (by omega)
    simp only
    rw [if_pos (by simp; omega)]
    simp only [List.length_append, List.length_cons, List.length_nil]
    refine ⟨l[k], idx_of hk, by omega, by omega, by omega, by omega, by omega, by omega, ?_⟩
    rw [w_small (by omega) (by omega)]
    unfold wrapB
    rw [take_map _ hk, List.flatten_append]
    simp
  · unfold fence_Wrap_l2
    simp only
    rw [if_neg (by simp), List.take_length]
/-- The least error among frames, the first one that has one. -/
theorem pack_ok {t : List Int} (ht : IsTab t) {l : List (Hd × List Int)} (hl : l.length < 1048576) (h : ∀ f ∈ l, frameE f = 0 ∧ (0 ≤ f.1.2.2.1 ∧ f.1.2.2.1 < 4294967296) ∧ Byt f.2) : frame_Codec_Pack t l (wrapB (l.map segB), 0) := by
  refine ⟨(l.map segB, 0), ?_, _, wrap_ok (by simpa using hl) (fun s hs => ?_), rfl⟩
  · refine loops_count (step := frame_Codec_Pack_l2 t l) (fun k => ((l.take k).map segB, (k : Int))) l.length (fun k hk => ?_) ?_
    · unfold frame_Codec_Pack_l2
      simp only
      rw [if_pos (by simp; omega)]
      obtain ⟨h1, h2, h3⟩ := h l[k] (List.getElem_mem _)
      refine ⟨l[k], idx_of hk, _, segment_ok ht h1 h2 h3, ?_⟩
      rw [if_neg (by simp)]
      simp only [List.length_map, List.length_take, List.length_cons, List.length_nil]
      refine ⟨by omega, by omega, ?_⟩
      rw [w_small (by omega) (by omega), take_map _ hk]; rfl
    · unfold frame_Codec_Pack_l2
      simp only
      rw [if_neg (by simp), List.take_length]
  · obtain ⟨f, hf, rfl⟩ := List.mem_map.1 hs
    have := frameE_ok (h f hf).1
    rw [segB_len this.2.2]; omega
theorem pack_no {t : List Int} (ht : IsTab t) {l : List (Hd × List Int)} {k : Nat} (hl : l.length < 1048576) (hk : k < l.length) (h : ∀ j (hj : j < k), frameE (l[j]'(by omega)) = 0 ∧ (0 ≤ (l[j]'(by omega)).1.2.2.1 ∧ (l[j]'(by omega)).1.2.2.1 < 4294967296) ∧ Byt (l[j]'(by omega)).2) (hn : frameE l[k] ≠ 0) : frame_Codec_Pack t l ([], frameE l[k]) := by
  refine ⟨([], frameE l[k]), ?_, _, wrap_ok (l := []) (by simp) (fun s hs => nomatch hs), rfl⟩
  refine loops_count (step := frame_Codec_Pack_l2 t l) (fun k => ((l.take k).map segB, (k : Int))) k (fun j hj => ?_) ?_
  · unfold frame_Codec_Pack_l2
    simp only
    rw [if_pos (by simp; omega)]
    obtain ⟨h1, h2, h3⟩ := h j hj
    refine ⟨l[j], idx_of (by omega), _, segment_ok ht h1 h2 h3, ?_⟩
    rw [if_neg (by simp)]
    simp only [List.length_map, List.length_take, List.length_cons, List.length_nil]
    refine ⟨by omega, by omega, ?_⟩
    rw [w_small (by omega) (by omega), take_map _ (show j < l.length by omega)]; rfl
  · unfold frame_Codec_Pack_l2
    simp only
    rw [if_pos (by simp; omega)]
    refine ⟨l[k], idx_of hk, _, segment_no t hn, ?_⟩
    rw [if_pos (by simpa using hn)]
theorem fnew_ok : ∃ t, frame_New t ∧ IsTab t := by
  obtain ⟨t, h1, h2⟩ := new_ok
  exact ⟨t, ⟨t, h1, rfl⟩, h2⟩
end Go.Rel
/-! Plain laws: the head of bytes. -/
namespace Go.Rel
open Go Go.Eng Go.Pl
/-! ### heads -/
def hdOf (l : List Int) : Hd := (l.getD 0 0, l.getD 1 0, leV ((l.drop 2).take 4), l.getD 6 0, l.getD 7 0)
def parseH (l : List Int) : Hd × Int := if headE (hdOf l) = 0 then (hdOf l, 0) else ((0, 0, 0, 0, 0), headE (hdOf l))
theorem one_at {l : List Int} {k : Nat} (h : k < l.length) : leV ((l.drop k).take 1) = l.getD k 0 := by
  rw [List.drop_eq_getElem_cons h, List.getD_eq_getElem?_getD, List.getElem?_eq_getElem h]
  simp only [List.take_succ_cons, List.take_zero, leV, Option.getD_some]; omega
theorem getD_byt {l : List Int} (hl : Byt l) {k : Nat} (h : k < l.length) : 0 ≤ l.getD k 0 ∧ l.getD k 0 < 256 := by
  rw [List.getD_eq_getElem?_getD, List.getElem?_eq_getElem h]; exact byt_at hl h
theorem lu8_ok {b : List Int} (hb : Byt b) (hlen : b.length < 4611686018427387904) {k : Nat} (h : k < b.length) : lens_Lens_U8 (b, (k : Int), 0) (b.getD k 0, (b, ((k + 1 : Nat) : Int), 0)) := by
  refine ⟨_, lword_ok hb hlen (n := 1) (by omega) (by omega), ?_⟩
  have := getD_byt hb h
  rw [one_at h, w_u8]
  congr 1; simp only; omega
theorem hparse_ok {l : List Int} (hl : Byt l) (h8 : l.length = 8) : head_Parse l (parseH l) := by
  unfold head_Parse
  rw [if_neg (by simp [h8])]
  have v4 := leV_bound ((l.drop 2).take 4) ((hl.drop 2).take 4)
  refine ⟨_, lnew_ok (by omega), _, lu8_ok hl (by omega) (k := 0) (by omega), _, lu8_ok hl (by omega) (k := 1) (by omega), _, ⟨_, lword_ok hl (by omega) (at_ := 2) (n := 4) (by omega) (by omega), rfl⟩, _, lu8_ok hl (by omega) (k := 6) (by omega), _, lu8_ok hl (by omega) (k := 7) (by omega), 0, ?_, ?_⟩
  · refine ⟨0, rfl, ?_⟩
    rw [if_neg (by decide)]
    refine ⟨_, ⟨_, left_ok (at_ := 8) (by omega), rfl⟩, ?_⟩
    unfold lens_Lens_End_j1
    rw [List.drop_eq_nil_of_le (by omega), if_pos (by decide)]
  · rw [if_pos (by decide)]
    have g : ∀ k, k < 8 → IntKind.i64.wrap (l.getD k 0) = l.getD k 0 := fun k hk => by
      have := getD_byt hl (show k < l.length by omega)
      rw [w_small (by omega) (by omega)]
    simp only
    rw [g 0 (by omega), g 1 (by omega), g 6 (by omega), g 7 (by omega)]
    refine ⟨_, hcheck_ok _, ?_⟩
    unfold head_Parse_j1 parseH
    simp only
    rw [g 0 (by omega), g 1 (by omega), g 6 (by omega), g 7 (by omega)]
    by_cases he : headE (hdOf l) = 0
    · rw [if_pos he, if_neg (by simp; exact he)]; rfl
    · rw [if_neg he, if_pos (by simp; exact he)]; rfl
end Go.Rel
/-! Plain laws: the frame of a segment. -/
namespace Go.Rel
open Go Go.Eng Go.Pl
theorem enc_len (x : List Int) : x.length + 1 ≤ (encB x).length := by
  have h := join_len (cb [] x false) (cb_ne x [])
  rw [(cb_ok (x.length + 1) x (by omega)).2.1] at h; exact h
/-! ### frames -/
abbrev Fm := Hd × List Int
def noF : Fm := ((0, 0, 0, 0, 0), [])
def unpB (s : List Int) : Fm × Int := if 255 < s.length then (noF, 2) else if (decR s).2 ≠ 0 then (noF, (decR s).2) else if (decR s).1.length ≤ 12 then (noF, 13) else
  if (openB (decR s).1).2 ≠ 0 then (noF, (openB (decR s).1).2) else if (parseH ((openB (decR s).1).1.take 8)).2 ≠ 0 then (noF, (parseH ((openB (decR s).1).1.take 8)).2) else (((parseH ((openB (decR s).1).1.take 8)).1, (openB (decR s).1).1.drop 8), 0)
theorem decR_ok {s : List Int} (hs : Byt s) (h : (decR s).2 = 0) : encB (decR s).1 = s ∧ Byt (decR s).1 := by
  unfold decR at h ⊢
  cases hd : decB s with
  | none => rw [hd] at h; cases h
  | some x =>
    simp only
    refine ⟨dec_some hs hd, ?_⟩
    -- its bytes are among those
    have : ∀ (L : List (List Int)), (∀ p ∈ L, Byt p) → Byt (joinB L) := by
      intro L
      induction L with
      | nil => intro _ x hx; cases hx
      | cons p L ih =>
        intro hL
        cases L with
        | nil => exact hL p List.mem_cons_self
        | cons q L =>
          simp only [joinB]
          refine Byt.app (Byt.app (hL p List.mem_cons_self) ?_) (ih fun r hr => hL r (List.mem_cons_of_mem _ hr))
          intro x hx
          split at hx
          · cases hx
          · simp at hx; omega
    obtain ⟨_, h2, _⟩ := cb_ok (x.length + 1) x (by omega)
    rw [← h2]
    refine this _ fun p hp => ?_
    have he := dec_some hs hd
    intro c hc
    refine hs c ?_
    rw [← he]
    unfold encB
    exact List.mem_flatten.2 ⟨enc1 p, List.mem_map_of_mem hp, List.mem_cons_of_mem _ hc⟩
theorem drop8 {x : List Int} (_h : 8 ≤ x.length) : (x.drop (0 : Int).toNat).take ((8 : Int) - 0).toNat = x.take 8 ∧ (x.drop (8 : Int).toNat).take (((x.length : Int) : Int) - 8).toNat = x.drop 8 := by
  refine ⟨rfl, ?_⟩
  rw [show (8 : Int).toNat = 8 from rfl, List.take_of_length_le]
  rw [List.length_drop]; omega
theorem unpack_ok {t : List Int} (ht : IsTab t) {s : List Int} (hs : Byt s) (hl : s.length < 268435456) : frame_Codec_Unpack t s (unpB s) := by
  unfold frame_Codec_Unpack unpB
  by_cases h1 : 255 < s.length
  · rw [if_pos (by simp; omega), if_pos h1]; rfl
  · rw [if_neg (by simp; omega), if_neg h1]
    refine ⟨_, decode_ok hs hl, ?_⟩
    by_cases h2 : (decR s).2 = 0
    · rw [if_neg (show ¬ ((decR s).2 ≠ 0) from fun e => e h2), if_neg (by simpa using h2)]
      obtain ⟨he, hb⟩ := decR_ok hs h2
      have hbl : (decR s).1.length < 256 := by have := enc_len (decR s).1; rw [he] at this; omega
      by_cases h3 : (decR s).1.length ≤ 12
      · rw [if_pos h3, if_pos (by simp; omega)]; rfl
      · rw [if_neg h3, if_neg (by simp; omega)]
        refine ⟨_, copen_ok ht hb (by omega), ?_⟩
        by_cases h4 : (openB (decR s).1).2 = 0
        · rw [if_neg (by simpa using h4), if_neg (by simpa using h4)]
          obtain ⟨_, h5, _⟩ := openB_ok' h4
          have hxb : Byt (openB (decR s).1).1 := by rw [h5]; exact hb.take _
          have hxl : 8 ≤ (openB (decR s).1).1.length := by rw [h5, List.length_take]; omega
          obtain ⟨e1, e2⟩ := drop8 hxl
          rw [e1, e2]
          refine ⟨by omega, _, hparse_ok (hxb.take 8) (by rw [List.length_take]; omega), ?_⟩
          by_cases h6 : (parseH ((openB (decR s).1).1.take 8)).2 = 0
          · rw [if_neg (by simpa using h6), if_neg (by simpa using h6)]
            exact ⟨by omega, Int.le_refl _, rfl⟩
          · rw [if_pos (by simpa using h6), if_pos h6]; rfl
        · rw [if_pos (by simpa using h4), if_pos h4]; rfl
    · rw [if_pos (by simpa using h2), if_pos h2]; rfl
end Go.Rel
/-! Plain law: what the segments of any bytes are. -/
namespace Go.Rel
open Go Go.Eng Go.Pl
/-- The segments of bytes, each with its place: what a segment has so far, what is left. -/
def segP : Nat → List Int → List Int → List (Int × List Int)
  | _, _, [] => []
  | i, now, c :: l => if c ≠ 0 then segP (i + 1) (now ++ [c]) l else if now = [] then segP (i + 1) [] l else ((i : Int) - (now.length : Int), now) :: segP (i + 1) [] l
theorem segments_ok {b : List Int} (hl : b.length < 1073741824) : Itr (fence_Segments_1 b) (segP 0 [] b) := by
  intro S Y s s' hr
  refine ⟨(s', ()), ?_, rfl⟩
  have key : ∀ (m i st : Nat) (now : List Int) (s : S), i + m = b.length → st ≤ i → (b.drop st).take (i - st) = now → Run Y (segP i now (b.drop i)) s s' → Loops (fence_Segments_1_l1 S Y b) (s, (st : Int), (i : Int)) (s', ()) := by
    intro m
    induction m with
    | zero =>
      intro i st now s hi _ _ hr
      rw [List.drop_eq_nil_of_le (by omega)] at hr
      cases hr
      refine .done ?_
      unfold fence_Segments_1_l1
      rw [if_neg (by simp; omega)]
    | succ m ih =>
      intro i st now s hi hst hnow hr
      have hib : i < b.length := by omega
      rw [List.drop_eq_getElem_cons hib] at hr
      have wi : IntKind.i64.wrap ((i : Int) + 1) = ((i + 1 : Nat) : Int) := by rw [w_small (by omega) (by omega)]; rfl
      have hnl : now.length = i - st := by rw [← hnow, List.length_take, List.length_drop]; omega
      have e0 : (b.drop (st : Int).toNat).take (((i : Int) : Int) - (st : Int)).toNat = now := by
        rw [Int.toNat_natCast, ← hnow]; congr 1; omega
      simp only [segP] at hr
      by_cases h0 : b[i] = 0
      · rw [if_neg (by simpa using h0)] at hr
        by_cases hn : now = []
        · rw [if_pos hn] at hr
          subst hn
          refine .next (s' := (s, ((i + 1 : Nat) : Int), ((i + 1 : Nat) : Int))) ?_ (ih (i + 1) (i + 1) [] s (by omega) (Nat.le_refl _) (by simp) hr)
          unfold fence_Segments_1_l1
          simp only
          rw [if_pos (by simp; omega)]
          refine ⟨b[i], idx_of hib, ?_⟩
          rw [if_neg (by simp [h0]), if_neg (by simp at hnl; simp; omega)]
          unfold fence_Segments_1_j3
          rw [if_neg (by simp)]
          unfold fence_Segments_1_j2
          simp only
          rw [wi]
        · rw [if_neg hn] at hr
          have hst2 : st < i := by
            have : now.length ≠ 0 := fun h => hn (List.eq_nil_of_length_eq_zero h)
            omega
          have hp : (i : Int) - (now.length : Int) = (st : Int) := by omega
          rw [hp] at hr
          have stp : ∀ y u, Y ((st : Int), now) s (y, u) → fence_Segments_1_l1 S Y b (s, (st : Int), (i : Int)) (if y = true then .inl (u, ((i + 1 : Nat) : Int), ((i + 1 : Nat) : Int)) else .inr (u, ())) := by
            intro y u hy
            unfold fence_Segments_1_l1
            simp only
            rw [if_pos (by simp; omega)]
            refine ⟨b[i], idx_of hib, ?_⟩
            rw [if_neg (by simp [h0]), if_pos (by simp; omega), e0]
            simp only [List.length_nil, List.nil_append]
            refine ⟨by omega, by omega, by omega, Int.le_refl _, by omega, by omega, by omega, y, u, hy, ?_⟩
            unfold fence_Segments_1_j3
            cases y with
            | true =>
              rw [if_neg (by simp)]
              unfold fence_Segments_1_j2
              simp only
              rw [wi]; rfl
            | false => rw [if_pos (by simp)]; rfl
          cases hr with
          | go h h' => exact .next (stp true _ h) (ih (i + 1) (i + 1) [] _ (by omega) (Nat.le_refl _) (by simp) h')
          | stop h => exact .done (stp false _ h)
      · rw [if_pos h0] at hr
        refine .next (s' := (s, (st : Int), ((i + 1 : Nat) : Int))) ?_ (ih (i + 1) st (now ++ [b[i]]) s (by omega) (by omega) ?_ hr)
        · unfold fence_Segments_1_l1
          simp only
          rw [if_pos (by simp; omega)]
          refine ⟨b[i], idx_of hib, ?_⟩
          rw [if_pos (by simpa using h0)]
          unfold fence_Segments_1_j2
          simp only
          rw [wi]
        · rw [show i + 1 - st = (i - st) + 1 by omega, List.take_succ_eq_append_getElem (show i - st < (b.drop st).length by rw [List.length_drop]; omega), hnow, List.getElem_drop]
          congr 3; omega
  exact key b.length 0 0 [] s (by omega) (Nat.le_refl _) (by simp) (by simpa using hr)
theorem segP_sum : ∀ (l : List Int) (i : Nat) (now : List Int), ((segP i now l).map (fun x => x.2.length)).sum ≤ now.length + l.length ∧ (segP i now l).length ≤ l.length
  | [], i, now => by simp [segP]
  | c :: l, i, now => by
    unfold segP
    split
    · have := segP_sum l (i + 1) (now ++ [c]); simp at this ⊢; omega
    · split
      · have := segP_sum l (i + 1) []; simp at this ⊢; omega
      · have := segP_sum l (i + 1) []; simp at this ⊢; omega
theorem segP_byt : ∀ (l : List Int) (i : Nat) (now : List Int), Byt l → Byt now → ∀ x ∈ segP i now l, Byt x.2
  | [], i, now, _, _, x, hx => by simp [segP] at hx
  | c :: l, i, now, hl, hn, x, hx => by
    have hl' : Byt l := fun y hy => hl y (List.mem_cons_of_mem _ hy)
    have hc := hl c List.mem_cons_self
    unfold segP at hx
    split at hx
    · exact segP_byt l (i + 1) (now ++ [c]) hl' (Byt.app hn (fun y hy => by simp at hy; subst hy; exact hc)) x hx
    · split at hx
      · exact segP_byt l (i + 1) [] hl' (fun y hy => nomatch hy) x hx
      · rcases List.mem_cons.1 hx with rfl | hx
        · exact hn
        · exact segP_byt l (i + 1) [] hl' (fun y hy => nomatch hy) x hx
theorem mem_le_sum : ∀ {l : List Nat} {x : Nat}, x ∈ l → x ≤ l.sum
  | y :: l, x, h => by
    rcases List.mem_cons.1 h with rfl | h
    · simp
    · have := mem_le_sum h; simp; omega
end Go.Rel
/-! Plain laws: heads of one message; the head of any bytes. -/
namespace Go.Rel
open Go Go.Eng Go.Pl
end Go.Rel
/-! Plain laws: whether any head may be, its bytes and its line. -/
namespace Go.Rel
open Go Go.Eng Go.Pl
abbrev HdOk (h : Hd) : Prop := IntOk .i64 h.1 ∧ IntOk .i64 h.2.1 ∧ IntOk .u32 h.2.2.1 ∧ IntOk .i64 h.2.2.2.1 ∧ IntOk .i64 h.2.2.2.2
end Go.Rel
/-! Plain law: whether any frames may be, and what they are on the wire. -/
namespace Go.Rel
open Go Go.Eng Go.Pl
/-! ### Bytes as strings, and back -/
theorem bints_bstr {l : List Int} (h : Byt l) : bints (bstr l) = l := by
  have key : ∀ (l : List Int) (r : ByteArray), Byt l → bints (l.foldl (fun r n => r.push (UInt8.ofNat n.toNat)) r) = bints r ++ l := by
    intro l
    induction l with
    | nil => intro r _; simp
    | cons x l ih =>
      intro r hx
      rw [List.foldl_cons, ih _ (fun y hy => hx y (List.mem_cons_of_mem _ hy))]
      have h0 := hx x List.mem_cons_self
      have : bints (r.push (UInt8.ofNat x.toNat)) = bints r ++ [x] := by
        simp only [bints, ByteArray.push, Array.toList_push, List.map_append, List.map_cons, List.map_nil]
        congr 2
        rw [UInt8.toNat_ofNat']
        omega
      rw [this, List.append_assoc]; rfl
  have := key l ByteArray.empty h
  simpa [bstr, bints] using this
theorem bstr_inj {a b : List Int} (ha : Byt a) (hb : Byt b) (h : bstr a = bstr b) : a = b := by
  rw [← bints_bstr ha, ← bints_bstr hb, h]
/-! ### Segments -/
theorem mem_join : ∀ (L : List (List Int)) (p : List Int) (c : Int), p ∈ L → c ∈ p → c ∈ joinB L
  | [q], p, c, hp, hc => by rw [List.mem_singleton] at hp; subst hp; exact hc
  | q :: r :: L, p, c, hp, hc => by
    rw [joinB]
    rcases List.mem_cons.1 hp with rfl | hp
    · exact List.mem_append_left _ (List.mem_append_left _ hc)
    · exact List.mem_append_right _ (mem_join (r :: L) p c hp hc)
theorem enc_mem {x : List Int} (hx : Byt x) : ∀ c ∈ encB x, c ≠ 0 ∧ 0 ≤ c ∧ c < 256 := by
  intro c hc
  obtain ⟨h1, h2, _⟩ := cb_ok (x.length + 1) x (by omega)
  simp only [encB, List.mem_flatten, List.mem_map] at hc
  obtain ⟨_, ⟨p, hp, rfl⟩, hc⟩ := hc
  obtain ⟨h3, h4⟩ := h1 p hp
  rcases List.mem_cons.1 hc with rfl | hc
  · omega
  · have := hx c (by rw [← h2]; exact mem_join _ p c hp hc)
    exact ⟨h3 c hc, this⟩
theorem block_byt {f : Fm} (h : frameE f = 0) (hq : 0 ≤ f.1.2.2.1 ∧ f.1.2.2.1 < 4294967296) (hb : Byt f.2) : Byt (blockB f) :=
  Byt.app (Byt.app (headB_byt (frameE_ok h).1 hq) hb) (sumB_byt _)
theorem segP_run : ∀ (s l now : List Int) (i : Nat), (∀ c ∈ s, c ≠ 0) → segP i now (s ++ l) = segP (i + s.length) (now ++ s) l
  | [], l, now, i, _ => by simp
  | c :: s, l, now, i, h => by
    rw [List.cons_append, segP, if_pos (h c List.mem_cons_self), segP_run s l (now ++ [c]) (i + 1) (fun x hx => h x (List.mem_cons_of_mem _ hx)), List.length_cons, List.append_assoc]
    congr 1; omega
theorem wrap_byt {l : List Fm} (h : ∀ f ∈ l, frameE f = 0 ∧ (0 ≤ f.1.2.2.1 ∧ f.1.2.2.1 < 4294967296) ∧ Byt f.2) : Byt (wrapB (l.map segB)) := by
  intro c hc
  simp only [wrapB, List.mem_flatten, List.mem_map] at hc
  obtain ⟨_, ⟨_, ⟨f, hf, rfl⟩, rfl⟩, hc⟩ := hc
  obtain ⟨a, b, d⟩ := h f hf
  simp only [List.mem_append, List.mem_singleton] at hc
  rcases hc with (rfl | hc) | rfl
  · omega
  · exact (enc_mem (block_byt a b d) c hc).2
  · omega
/-! ### The document's -/
/-! ### The law -/
end Go.Rel
/-! Plain law: which segments weren't sent. -/
namespace Go.Rel
open Go Go.Eng Go.Pl
theorem mget_mput {K V : Type} [DecidableEq K] (a b : K) (q : V) : ∀ m : List (K × V), mget (mput m a q) b = if b = a then some q else mget m b
  | [] => by simp [mput, mget]
  | p :: m => by
    by_cases h : a = p.1
    · subst h
      simp only [mput, if_pos, mget]
      by_cases hb : b = p.1
      · simp [hb]
      · simp [hb]
    · simp only [mput, if_neg h, mget, mget_mput a b q m]
      by_cases hb : b = p.1
      · have : b ≠ a := fun e => h (by rw [← e, hb])
        rw [if_pos hb, if_neg this, if_pos hb]
      · rw [if_neg hb, if_neg hb]
def kN (m : List (ByteArray × Bool)) (ss : List (List Int)) : List (ByteArray × Bool) := ss.foldl (fun m s => mput m (bstr s) true) m
theorem kN_get : ∀ (ss : List (List Int)) (m : List (ByteArray × Bool)) (a : ByteArray), (mget (kN m ss) a).getD false = ((mget m a).getD false || ss.any fun s => decide (bstr s = a))
  | [], m, a => by simp [kN]
  | s :: ss, m, a => by
    have := kN_get ss (mput m (bstr s) true) a
    rw [show kN m (s :: ss) = kN (mput m (bstr s) true) ss from rfl, this, mget_mput]
    by_cases h : a = bstr s
    · simp [h]
    · have h2 : ¬ bstr s = a := fun e => h e.symm
      simp [h, h2]
/-- The segments that were sent. -/
def segsN (sent : List (List Int)) : List (List Int) := sent.flatMap fun row => (segP 0 [] row).map (·.2)
theorem segsN_byt {sent : List (List Int)} (h : ∀ r ∈ sent, Byt r) : ∀ s ∈ segsN sent, Byt s := by
  intro s hs
  obtain ⟨r, hr, hm⟩ := List.mem_flatMap.1 hs
  obtain ⟨x, hx, rfl⟩ := List.mem_map.1 hm
  exact segP_byt r 0 [] (h r hr) (fun y hy => nomatch hy) x hx
theorem known_get {sent : List (List Int)} (h : ∀ r ∈ sent, Byt r) {s : List Int} (hs : Byt s) : (mget (kN [] (segsN sent)) (bstr s)).getD false = decide (s ∈ segsN sent) := by
  rw [kN_get]
  simp only [mget, Option.getD_none, Bool.false_or]
  have hb := segsN_byt h
  generalize segsN sent = L at hb
  induction L with
  | nil => simp
  | cons x L ih =>
    rw [List.any_cons, ih (fun y hy => hb y (List.mem_cons_of_mem _ hy))]
    have : decide (bstr x = bstr s) = decide (s = x) := by
      by_cases e : s = x
      · simp [e]
      · have : ¬ bstr x = bstr s := fun he => e (bstr_inj (hb x List.mem_cons_self) hs he).symm
        simp [e, this]
    rw [this]
    simp [List.mem_cons]
def fgN (sent : List (List Int)) (x : Int × List Int) : Bool := decide ((unpB x.2).2 = 0) && !decide (x.2 ∈ segsN sent)
/-- The places of a bytes' frames that weren't sent. -/
def forgedN (sent : List (List Int)) (b : List Int) : List Int := ((segP 0 [] b).filter (fgN sent)).map (·.1)
theorem segsN_take {sent : List (List Int)} {k : Nat} (hk : k < sent.length) : segsN (sent.take (k + 1)) = segsN (sent.take k) ++ (segP 0 [] sent[k]).map (·.2) := by
  unfold segsN
  rw [List.take_succ_eq_append_getElem hk, List.flatMap_append]; simp
theorem kN_app (m : List (ByteArray × Bool)) (a b : List (List Int)) : kN m (a ++ b) = kN (kN m a) b := by simp [kN]
theorem fold_kN {S : Type} (s : S) : ∀ (xs : List (Int × List Int)) (m : List (ByteArray × Bool)), xs.foldl (fun (st : S × List (ByteArray × Bool)) x => (st.1, mput st.2 (bstr x.2) true)) (s, m) = (s, kN m (xs.map (·.2)))
  | [], m => rfl
  | x :: xs, m => by
    rw [List.foldl_cons]
    exact fold_kN s xs (mput m (bstr x.2) true)
theorem forged_itr {t : List Int} (ht : IsTab t) {sent : List (List Int)} (hS : RowsOk sent) (hB : ∀ r ∈ sent, Byt r) {b : List Int} (hb : Byt b) (hl : b.length < 268435456) : Itr (noise_Forged_1 t sent b) (forgedN sent b) := by
  intro S Y s s' hr
  have hSn := hS.n
  have hbs := segP_byt b 0 [] hb (fun y hy => nomatch hy)
  have hss := segP_sum b 0 []
  have hlen : ∀ x ∈ segP 0 [] b, x.2.length < 268435456 := by
    intro x hx
    have : x.2.length ≤ ((segP 0 [] b).map (fun x => x.2.length)).sum := mem_le_sum (List.mem_map_of_mem hx)
    simp at hss; omega
  refine ⟨(s, kN [] (segsN sent)), ?_, ?_⟩
  · have := loops_count (step := noise_Forged_1_l4 S Y sent) (e := (s, kN [] (segsN sent))) (fun k => (s, (k : Int), kN [] (segsN (sent.take k)))) sent.length (fun k hk => by
      unfold noise_Forged_1_l4
      simp only
      rw [if_pos (by rw [decide_eq_true_eq]; omega)]
      refine ⟨sent[k], idx_of hk, _, rfl, .inl (s, kN [] (segsN (sent.take (k + 1)))), (), ?_, ?_⟩
      · refine segments_ok (by have := hS.l _ (List.getElem_mem hk); omega) _ _ _ _ (run_yof ?_)
        have := runB_fold (B := noise_Forged_1_l5 S Y) (fun (st : S × List (ByteArray × Bool)) x => (st.1, mput st.2 (bstr x.2) true)) (segP 0 [] sent[k]) (s, kN [] (segsN (sent.take k))) (fun p x q _ => rfl)
        rw [fold_kN, ← kN_app, ← segsN_take hk] at this
        exact this
      · show _ = _
        rw [w_small (by omega) (by omega)]; rfl) (by
      unfold noise_Forged_1_l4
      simp only
      rw [if_neg (by simp), List.take_length])
    simpa [segsN, kN] using this
  · unfold noise_Forged_1_j1
    have go : ∀ (s0 : S) (xs : List (Int × List Int)) (s : S), (∀ x ∈ xs, Byt x.2 ∧ x.2.length < 268435456) → Run Y ((xs.filter (fgN sent)).map (·.1)) s s' → ∃ t', RunB (noise_Forged_1_l2 S Y t (s0, kN [] (segsN sent))) xs s t' ∧ (t' = .inl s' ∨ t' = .inr s') := by
      intro s0 xs
      induction xs with
      | nil => intro s _ h; cases h; exact ⟨_, .nil, .inl rfl⟩
      | cons x xs ih =>
        intro s hx h
        obtain ⟨h1, h2⟩ := hx x List.mem_cons_self
        have hget := known_get hB h1
        have hU := unpack_ok ht h1 h2
        by_cases hf : fgN sent x = true
        · rw [List.filter_cons_of_pos hf, List.map_cons] at h
          have hf' : (unpB x.2).2 = 0 ∧ ¬ x.2 ∈ segsN sent := by simpa [fgN] using hf
          have stp : ∀ y u, Y x.1 s (y, u) → noise_Forged_1_l2 S Y t (s0, kN [] (segsN sent)) x s (if y = true then .inl u else .inr u) := by
            intro y u hy
            refine ⟨_, hU, ?_⟩
            rw [if_neg (by simp [hf'.1])]
            unfold noise_Forged_1_j3
            simp only
            rw [hget, if_neg (by simp [hf'.2])]
            refine ⟨y, u, hy, ?_⟩
            cases y with
            | true => rw [if_neg (by decide)]; rfl
            | false => rw [if_pos (by decide)]; rfl
          cases h with
          | go h h' =>
            obtain ⟨t', h3, h4⟩ := ih _ (fun z hz => hx z (List.mem_cons_of_mem _ hz)) h'
            exact ⟨t', .go (stp true _ h) h3, h4⟩
          | stop h => exact ⟨_, .stop (stp false _ h), .inr rfl⟩
        · rw [List.filter_cons_of_neg hf] at h
          obtain ⟨t', h3, h4⟩ := ih s (fun z hz => hx z (List.mem_cons_of_mem _ hz)) h
          refine ⟨t', .go (s1 := s) ?_ h3, h4⟩
          refine ⟨_, hU, ?_⟩
          by_cases h0 : (unpB x.2).2 = 0
          · have hm : x.2 ∈ segsN sent := by
              apply Classical.byContradiction
              intro hn
              exact hf (by simp [fgN, h0, hn])
            rw [if_neg (by simp [h0])]
            unfold noise_Forged_1_j3
            simp only
            rw [hget, if_pos (by simp [hm])]
            all_goals trivial
          · rw [if_pos (by simp [h0])]
            unfold noise_Forged_1_j3
            simp only
            rw [if_pos trivial]
            all_goals trivial
    obtain ⟨t', h1, h2⟩ := go s _ s (fun x hx => ⟨hbs x hx, hlen x hx⟩) hr
    refine ⟨_, rfl, t', (), segments_ok (by omega) _ _ _ _ (run_yof h1), ?_⟩
    rcases h2 with rfl | rfl <;> rfl
theorem honest_ok {t : List Int} (ht : IsTab t) {sent : List (List Int)} (hS : RowsOk sent) (hB : ∀ r ∈ sent, Byt r) {b : List Int} (hb : Byt b) (hl : b.length < 268435456) : noise_Honest t sent b (decide (forgedN sent b = [])) := by
  have hi := forged_itr ht hS hB hb hl
  refine ⟨_, rfl, ?_⟩
  cases hf : forgedN sent b with
  | nil =>
    rw [hf] at hi
    exact ⟨.inl (), (), hi _ _ _ _ .nil, rfl⟩
  | cons x xs =>
    rw [hf] at hi
    exact ⟨.inr (), (), hi _ _ _ _ (run_yof (.stop rfl)), rfl⟩
end Go.Rel
/-! Plain law: what arrives whole is honest. -/
namespace Go.Rel
open Go Go.Eng Go.Pl
def cutW (f : Fm) : Fm := (f.1, f.2.take 242)
def goodW (f : Fm) : Bool := decide (frameE f = 0)
def packW (f : Fm) : List Int := wrapB [segB f]
def rowsW (l : List Fm) : List (List Int) := ((l.map cutW).filter goodW).map packW
theorem rowsW_take {l : List Fm} {k : Nat} (hk : k < l.length) : rowsW (l.take (k + 1)) = rowsW (l.take k) ++ (if goodW (cutW l[k]) = true then [packW (cutW l[k])] else []) := by
  unfold rowsW
  rw [List.take_succ_eq_append_getElem hk, List.map_append, List.filter_append, List.map_append]
  congr 1
  simp only [List.map_cons, List.map_nil]
  cases h : goodW (cutW l[k]) with
  | true => rw [List.filter_cons_of_pos h]; rfl
  | false => rw [List.filter_cons_of_neg (by simp [h])]; rfl
theorem rowsW_len (l : List Fm) : (rowsW l).length ≤ l.length := by
  unfold rowsW
  rw [List.length_map]
  have := List.length_filter_le goodW (l.map cutW)
  simpa using this
abbrev FmW (f : Fm) : Prop := (0 ≤ f.1.2.2.1 ∧ f.1.2.2.1 < 4294967296) ∧ Byt f.2
theorem rows_loop {t : List Int} (ht : IsTab t) {a : List Fm} (ok : ∀ f ∈ a, FmW f) : Loops (law26_NoiseWholes_l6 a t) ([], 0) (rowsW (a.take 10)) := by
  have := loops_count (step := law26_NoiseWholes_l6 a t) (e := rowsW (a.take 10)) (fun k => (rowsW (a.take k), (k : Int))) (min 10 a.length) (fun k hk => by
    have hka : k < a.length := by omega
    have hlen := rowsW_len (a.take k)
    rw [List.length_take] at hlen
    unfold law26_NoiseWholes_l6
    rw [if_pos (by rw [decide_eq_true_eq]; simp only; omega)]
    unfold law26_NoiseWholes_j7
    rw [if_pos (by rw [decide_eq_true_eq]; simp only; omega)]
    have h242 := take_min a[k].2 242
    rw [show ((242 : Nat) : Int) = 242 from rfl] at h242
    obtain ⟨h1, h2⟩ := ok _ (List.getElem_mem hka)
    have hF : FmW (cutW a[k]) := ⟨h1, h2.take _⟩
    refine ⟨a[k], idx_of hka, by omega, by omega, ?_⟩
    rw [h242]
    show ∃ r114, frame_Codec_Pack t [cutW a[k]] r114 ∧ _
    rw [rowsW_take hka]
    by_cases hg : frameE (cutW a[k]) = 0
    · have hp := pack_ok ht (l := [cutW a[k]]) (by simp) (fun f hf => by rw [List.mem_singleton.1 hf]; exact ⟨hg, hF⟩)
      refine ⟨_, hp, ?_⟩
      simp only [List.length_singleton]
      rw [if_pos (by simp), if_pos (by simp [goodW, hg])]
      refine ⟨by omega, by omega, ?_⟩
      unfold law26_NoiseWholes_j8
      simp only
      rw [w_small (by omega) (by omega)]; rfl
    · have hp := pack_no ht (l := [cutW a[k]]) (k := 0) (by simp) (by simp) (fun j hj => absurd hj (Nat.not_lt_zero _)) hg
      refine ⟨_, hp, ?_⟩
      simp only [List.getElem_cons_zero]
      rw [if_neg (by simpa using hg), if_neg (by simp [goodW, hg])]
      unfold law26_NoiseWholes_j8
      simp only
      rw [w_small (by omega) (by omega), List.append_nil]; rfl) (by
    unfold law26_NoiseWholes_l6
    simp only
    by_cases h : a.length ≤ 10
    · rw [if_neg (by rw [decide_eq_true_eq]; omega)]
      unfold law26_NoiseWholes_j7
      rw [if_neg (by decide), show min 10 a.length = a.length by omega, List.take_length, List.take_of_length_le h]
    · rw [if_pos (by rw [decide_eq_true_eq]; omega)]
      unfold law26_NoiseWholes_j7
      rw [if_neg (by rw [decide_eq_true_eq]; omega), show min 10 a.length = 10 by omega])
  simpa [rowsW] using this
/-- Each row: a frame that may be, wrapped. -/
theorem rowsW_mem {a : List Fm} (ok : ∀ f ∈ a, FmW f) {r : List Int} (h : r ∈ rowsW a) : ∃ f, frameE f = 0 ∧ FmW f ∧ r = packW f := by
  unfold rowsW at h
  obtain ⟨f, hf, rfl⟩ := List.mem_map.1 h
  obtain ⟨h1, h2⟩ := List.mem_filter.1 hf
  obtain ⟨g, hg, rfl⟩ := List.mem_map.1 h1
  have h3 : FmW (cutW g) := ⟨(ok g hg).1, (ok g hg).2.take 242⟩
  have h4 : frameE (cutW g) = 0 := of_decide_eq_true h2
  exact ⟨cutW g, h4, h3, rfl⟩
theorem packW_eq (f : Fm) : packW f = 0 :: (segB f ++ [0]) := by simp [packW, wrapB]
theorem seg_no0 {f : Fm} (h : frameE f = 0) (hF : FmW f) : segB f ≠ [] ∧ ∀ c ∈ segB f, c ≠ 0 := by
  refine ⟨fun e => ?_, fun c hc => (enc_mem (block_byt h hF.1 hF.2) c hc).1⟩
  have := segB_len (frameE_ok h).2.2
  rw [e] at this; simp at this
theorem packW_len {f : Fm} (h : frameE f = 0) : (packW f).length ≤ 257 := by
  rw [packW_eq]
  have h1 := segB_len (frameE_ok h).2.2
  have h2 := (frameE_ok h).2.2
  simp; omega
theorem segP_pack {f : Fm} (h : frameE f = 0) (hF : FmW f) (i : Nat) (l : List Int) : ∃ p j, segP i [] (packW f ++ l) = (p, segB f) :: segP j [] l := by
  obtain ⟨h1, h2⟩ := seg_no0 h hF
  refine ⟨((i + 1 + (segB f).length : Nat) : Int) - ((segB f).length : Int), i + 1 + (segB f).length + 1, ?_⟩
  rw [packW_eq]
  show segP i [] (0 :: ((segB f ++ [0]) ++ l)) = _
  rw [segP, if_neg (by simp), if_pos rfl, List.append_assoc, segP_run _ _ _ _ h2, List.nil_append, List.singleton_append, segP, if_neg (by simp), if_neg h1]
theorem segP_zeros : ∀ (m i : Nat) (l : List Int), segP i [] (List.replicate m 0 ++ l) = segP (i + m) [] l
  | 0, i, l => by simp
  | m + 1, i, l => by
    rw [List.replicate_succ, List.cons_append, segP, if_neg (by simp), if_pos rfl, segP_zeros m (i + 1) l]
    congr 1; omega
/-- Whole rows with zeros between have no segments but the rows'. -/
theorem segs_whole (Q : List Int → Prop) : ∀ (L : List (Fm × Nat)) (i : Nat), (∀ x ∈ L, frameE x.1 = 0 ∧ FmW x.1 ∧ Q (segB x.1)) → ∀ y ∈ segP i [] (L.flatMap fun x => packW x.1 ++ List.replicate x.2 0), Q y.2
  | [], i, _, y, hy => by simp [segP] at hy
  | x :: L, i, h, y, hy => by
    obtain ⟨h1, h2, h3⟩ := h x List.mem_cons_self
    rw [List.flatMap_cons, List.append_assoc] at hy
    obtain ⟨p, j, e⟩ := segP_pack h1 h2 i (List.replicate x.2 0 ++ L.flatMap fun x => packW x.1 ++ List.replicate x.2 0)
    rw [e, segP_zeros] at hy
    rcases List.mem_cons.1 hy with rfl | hy
    · exact h3
    · exact segs_whole Q L _ (fun z hz => h z (List.mem_cons_of_mem _ hz)) y hy
theorem packW_seg {f : Fm} (h : frameE f = 0) (hF : FmW f) {rows : List (List Int)} (hm : packW f ∈ rows) : segB f ∈ segsN rows := by
  refine List.mem_flatMap.2 ⟨_, hm, ?_⟩
  obtain ⟨p, j, e⟩ := segP_pack h hF 0 []
  rw [List.append_nil] at e
  rw [e]; simp
def kxW (rows : List (List Int)) (q : Int) : Int := IntKind.i64.wrap ((IntKind.u64.wrap q).tmod (IntKind.u64.wrap (rows.length : Int)))
def mxW (b : Int) : Int := IntKind.i64.wrap ((IntKind.u64.wrap b).tmod 4)
theorem mxW_ok (b : Int) : 0 ≤ mxW b ∧ mxW b < 4 := by
  unfold mxW
  have h : 0 ≤ IntKind.u64.wrap b := by rw [w_u64]; omega
  have h1 := Int.tmod_nonneg 4 h
  have h2 := Int.tmod_lt_of_pos (IntKind.u64.wrap b) (show (0 : Int) < 4 by decide)
  rw [w_small (by omega) (by omega)]; exact ⟨h1, h2⟩
theorem kxW_ok {rows : List (List Int)} (h0 : 0 < rows.length) (h1 : rows.length ≤ 100) (q : Int) : 0 ≤ kxW rows q ∧ kxW rows q < rows.length := by
  unfold kxW
  have h : 0 ≤ IntKind.u64.wrap q := by rw [w_u64]; omega
  rw [w64_small (n := (rows.length : Int)) (by omega) (by omega)]
  have h1' := Int.tmod_nonneg (rows.length : Int) h
  have h2 := Int.tmod_lt_of_pos (IntKind.u64.wrap q) (show (0 : Int) < rows.length by omega)
  rw [w_small (by omega) (by omega)]; exact ⟨h1', h2⟩
def pairW (rows : List (List Int)) (b q : Int) : List It := [(1, kxW rows q, 0, 0, []), (4, 0, 0, 0, List.replicate (mxW b).toNat 0)]
def someW (rows : List (List Int)) (b : Int) (l : List Int) : List It := l.flatMap (pairW rows b)
theorem pairW_ok {rows : List (List Int)} (h0 : 0 < rows.length) (h1 : rows.length ≤ 100) (b q : Int) : ∀ it ∈ pairW rows b q, ItOk it := by
  have hk := kxW_ok h0 h1 q
  have hm := mxW_ok b
  have i64 : ∀ {n : Int}, 0 ≤ n → n < 1000 → IntOk .i64 n := fun a b => by
    simp [IntOk, IntKind.min, IntKind.max, IntKind.bits, IntKind.signed]; omega
  intro it hit
  simp only [pairW, List.mem_cons, List.not_mem_nil, or_false] at hit
  rcases hit with rfl | rfl
  · exact ⟨i64 (by simp) (by simp), i64 (by simp; omega) (by simp; omega), i64 (by simp) (by simp), i64 (by simp) (by simp), (fun x hx => nomatch hx), by simp⟩
  · refine ⟨i64 (by simp) (by simp), i64 (by simp) (by simp), i64 (by simp) (by simp), i64 (by simp) (by simp), fun x hx => ?_, by simp; omega⟩
    have := List.eq_of_mem_replicate hx
    omega
theorem pairW_bytes {rows : List (List Int)} (h0 : 0 < rows.length) (h1 : rows.length ≤ 100) (b q : Int) : (pairW rows b q).flatMap (bytesN rows) = rows.getD (kxW rows q).toNat [] ++ List.replicate (mxW b).toNat 0 := by
  have hk := kxW_ok h0 h1 q
  have c1 : checkN (1, kxW rows q, 0, 0, []) (rows.length : Int) = 0 := by
    rw [checkN_k (by simp), if_neg (by simp; omega)]; simp [tailN]
  have c4 : checkN (4, 0, 0, 0, List.replicate (mxW b).toNat 0) (rows.length : Int) = 0 := by
    rw [checkN_4 rfl]; simp [tailN]
  simp only [pairW, List.flatMap_cons, List.flatMap_nil, List.append_nil]
  have b1 : bytesN rows (1, kxW rows q, 0, 0, []) = rows.getD (kxW rows q).toNat [] := by
    unfold bytesN
    rw [if_neg (by rw [c1]; simp), if_neg (by simp)]; rfl
  have b4 : bytesN rows (4, 0, 0, 0, List.replicate (mxW b).toNat 0) = List.replicate (mxW b).toNat 0 := by
    unfold bytesN
    rw [if_neg (by rw [c4]; simp), if_pos rfl]
  rw [b1, b4]
theorem someW_take {rows : List (List Int)} {b : Int} {l : List Int} {k : Nat} (hk : k < l.length) : someW rows b (l.take (k + 1)) = someW rows b (l.take k) ++ pairW rows b l[k] := by
  unfold someW
  rw [List.take_succ_eq_append_getElem hk, List.flatMap_append]; simp
theorem someW_len (rows : List (List Int)) (b : Int) : ∀ l : List Int, (someW rows b l).length = 2 * l.length
  | [] => rfl
  | q :: l => by
    rw [someW, List.flatMap_cons, List.length_append, show (l.flatMap (pairW rows b)) = someW rows b l from rfl, someW_len rows b l, List.length_cons]
    simp [pairW]; omega
/-- The bytes of the items: rows and zeros. -/
theorem someW_bytes {rows : List (List Int)} (h0 : 0 < rows.length) (h1 : rows.length ≤ 100) (b : Int) : ∀ l : List Int, (someW rows b l).flatMap (bytesN rows) = l.flatMap fun q => rows.getD (kxW rows q).toNat [] ++ List.replicate (mxW b).toNat 0
  | [] => rfl
  | q :: l => by
    have := someW_bytes h0 h1 b l
    rw [someW, List.flatMap_cons, List.flatMap_append, pairW_bytes h0 h1, show (l.flatMap (pairW rows b)) = someW rows b l from rfl, this, List.flatMap_cons]
theorem bytes_len {rows : List (List Int)} (hl : ∀ r ∈ rows, r.length ≤ 257) (b : Int) : ∀ l : List Int, (l.flatMap fun q => rows.getD (kxW rows q).toNat [] ++ List.replicate (mxW b).toNat 0).length ≤ 260 * l.length
  | [] => by simp
  | q :: l => by
    have ih := bytes_len hl b l
    have hm := mxW_ok b
    have hr : (rows.getD (kxW rows q).toNat []).length ≤ 257 := by
      rw [List.getD_eq_getElem?_getD]
      cases h : rows[(kxW rows q).toNat]? with
      | none => simp
      | some r => exact hl r (List.mem_of_getElem? h)
    rw [List.flatMap_cons, List.length_append, List.length_append, List.length_replicate, List.length_cons]
    omega
theorem noiseWholes_true {a : List Fm} (ok : ∀ f ∈ a, FmW f) {order : List Int} {b : Int} : law26_NoiseWholes a order b true := by
  obtain ⟨t, ht1, ht2⟩ := fnew_ok
  have ok' : ∀ f ∈ a.take 10, FmW f := fun f hf => ok f (List.mem_of_mem_take hf)
  have hloop := rows_loop ht2 ok
  have hrl := rowsW_len (a.take 10)
  rw [List.length_take] at hrl
  have hmem : ∀ r ∈ rowsW (a.take 10), ∃ f, frameE f = 0 ∧ FmW f ∧ r = packW f := fun r hr => rowsW_mem ok' hr
  refine ⟨t, ht1, _, hloop, ?_⟩
  generalize rowsW (a.take 10) = rows at hrl hmem
  have hl257 : ∀ r ∈ rows, r.length ≤ 257 := fun r hr => by
    obtain ⟨f, h1, _, rfl⟩ := hmem r hr
    exact packW_len h1
  have hS : RowsOk rows := ⟨by omega, fun r hr => by have := hl257 r hr; omega⟩
  have hB : ∀ r ∈ rows, Byt r := fun r hr => by
    obtain ⟨f, h1, h2, rfl⟩ := hmem r hr
    exact wrap_byt (l := [f]) (fun g hg => by rw [List.mem_singleton.1 hg]; exact ⟨h1, h2⟩)
  have hm := mxW_ok b
  obtain ⟨N, hN, hN20⟩ : ∃ N, N = (if rows.length = 0 then 0 else min 20 order.length) ∧ N ≤ 20 ∧ N ≤ order.length ∧ (0 < N → 0 < rows.length) := by
    refine ⟨_, rfl, ?_, ?_, ?_⟩ <;> split <;> omega
  obtain ⟨hN1, hN2, hN3⟩ := hN20
  have hloop2 : Loops (law26_NoiseWholes_l4 order b rows) ([], 0, 0) (someW rows b (order.take N), (((someW rows b (order.take N)).flatMap (bytesN rows)).length : Int)) := by
    have := loops_count (step := law26_NoiseWholes_l4 order b rows) (e := (someW rows b (order.take N), (((someW rows b (order.take N)).flatMap (bytesN rows)).length : Int))) (fun k => (someW rows b (order.take k), (((someW rows b (order.take k)).flatMap (bytesN rows)).length : Int), (k : Int))) N (fun k hk => by
      have hko : k < order.length := by omega
      have hr0 : 0 < rows.length := hN3 (by omega)
      have hkx := kxW_ok hr0 (by omega) order[k]
      have hsl := someW_len rows b (order.take k)
      have hbl := bytes_len hl257 b (order.take k)
      rw [List.length_take] at hsl hbl
      rw [← someW_bytes hr0 (by omega) b] at hbl
      unfold law26_NoiseWholes_l4
      simp only
      rw [if_pos (by rw [decide_eq_true_eq]; omega), if_pos (by rw [decide_eq_true_eq]; omega)]
      unfold law26_NoiseWholes_j5
      rw [if_pos (by rw [decide_eq_true_eq]; omega)]
      refine ⟨order[k], idx_of hko, ?_⟩
      change IntKind.u64.wrap (rows.length : Int) ≠ 0 ∧ 0 ≤ mxW b ∧ mxW b * 1 ≤ 281474976710656 ∧ mxW b ≤ 4611686018427387904 ∧ ((someW rows b (order.take k)).length + (pairW rows b order[k]).length) * 56 ≤ 140737488355328 ∧ (someW rows b (order.take k)).length + (pairW rows b order[k]).length ≤ 4611686018427387904 ∧ ∃ q, idx rows (kxW rows order[k]) q ∧ _ = Sum.inl (someW rows b (order.take k) ++ pairW rows b order[k], IntKind.i64.wrap (IntKind.i64.wrap ((((someW rows b (order.take k)).flatMap (bytesN rows)).length : Int) + (q.length : Int)) + mxW b), IntKind.i64.wrap ((k : Int) + 1))
      have h2 : (pairW rows b order[k]).length = 2 := rfl
      have hlt : (kxW rows order[k]).toNat < rows.length := by omega
      have hq := hl257 _ (List.getElem_mem hlt)
      refine ⟨by rw [w64_small (n := (rows.length : Int)) (by omega) (by omega)]; omega, by omega, by omega, by omega, by omega, by omega, rows[(kxW rows order[k]).toNat], idx_at (k := (kxW rows order[k]).toNat) (by omega) (by simp [hlt]), ?_⟩
      rw [someW_take hko, List.flatMap_append, List.length_append, pairW_bytes hr0 (by omega), List.length_append, List.length_replicate, List.getD_eq_getElem?_getD, List.getElem?_eq_getElem hlt, Option.getD_some]
      rw [w_small (n := ((k : Int) + 1)) (by omega) (by omega), w_small (n := (((someW rows b (order.take k)).flatMap (bytesN rows)).length : Int) + (rows[(kxW rows order[k]).toNat].length : Int)) (by omega) (by omega), w_small (by omega) (by omega)]
      refine congrArg Sum.inl (Prod.ext rfl (Prod.ext ?_ rfl))
      simp only
      omega) (by
      unfold law26_NoiseWholes_l4
      simp only
      by_cases h1 : N < order.length
      · rw [if_pos (by rw [decide_eq_true_eq]; omega)]
        by_cases h2 : N < 20
        · rw [if_pos (by rw [decide_eq_true_eq]; omega)]
          unfold law26_NoiseWholes_j5
          rw [if_neg (by
            rw [decide_eq_true_eq]
            intro h
            rw [if_neg (by omega)] at hN
            omega)]
        · rw [if_neg (by rw [decide_eq_true_eq]; omega)]
          unfold law26_NoiseWholes_j5
          rw [if_neg (by decide)]
      · rw [if_neg (by rw [decide_eq_true_eq]; omega)]
        unfold law26_NoiseWholes_j5
        rw [if_neg (by decide)])
    simpa [someW] using this
  refine ⟨_, hloop2, ?_⟩
  unfold law26_NoiseWholes_j2
  simp only
  have hI : ∀ it ∈ someW rows b (order.take N), ItOk it := by
    intro it hit
    obtain ⟨q, hq, hit⟩ := List.mem_flatMap.1 hit
    have : 0 < N := by
      rcases Nat.eq_zero_or_pos N with h | h
      · rw [h] at hq; simp at hq
      · exact h
    exact pairW_ok (hN3 this) (by omega) b q it hit
  have hsl := someW_len rows b (order.take N)
  rw [List.length_take] at hsl
  refine ⟨_, nrunN_ok hS hI (by omega), true, known26_ok, ?_⟩
  rw [if_pos rfl, if_pos (by simp)]
  have hfin : Byt ((someW rows b (order.take N)).flatMap (bytesN rows)) ∧ ((someW rows b (order.take N)).flatMap (bytesN rows)).length < 268435456 ∧ forgedN rows ((someW rows b (order.take N)).flatMap (bytesN rows)) = [] := by
    rcases Nat.eq_zero_or_pos N with h | h
    · rw [h]
      refine ⟨by simp [someW]; exact (fun x hx => (nomatch hx)), by simp [someW], by simp [someW, forgedN, segP]⟩
    · have hr0 := hN3 h
      rw [someW_bytes hr0 (by omega)]
      have hbl := bytes_len hl257 b (order.take N)
      rw [List.length_take] at hbl
      -- each row as a frame
      have hL : ∀ l : List Int, ∃ L : List (Fm × Nat), (∀ x ∈ L, frameE x.1 = 0 ∧ FmW x.1 ∧ packW x.1 ∈ rows) ∧ (l.flatMap fun q => rows.getD (kxW rows q).toNat [] ++ List.replicate (mxW b).toNat 0) = L.flatMap fun x => packW x.1 ++ List.replicate x.2 0 := by
        intro l
        induction l with
        | nil => exact ⟨[], by simp, rfl⟩
        | cons q l ih =>
          obtain ⟨L, h1, h2⟩ := ih
          have hkx := kxW_ok hr0 (by omega) q
          have hlt : (kxW rows q).toNat < rows.length := by omega
          obtain ⟨f, g1, g2, g3⟩ := hmem _ (List.getElem_mem hlt)
          refine ⟨(f, (mxW b).toNat) :: L, ?_, ?_⟩
          · intro x hx
            rcases List.mem_cons.1 hx with rfl | hx
            · exact ⟨g1, g2, by simp only; rw [← g3]; exact List.getElem_mem hlt⟩
            · exact h1 x hx
          · rw [List.flatMap_cons, List.flatMap_cons, h2, List.getD_eq_getElem?_getD, List.getElem?_eq_getElem hlt, Option.getD_some, g3]
      obtain ⟨L, h1, h2⟩ := hL (order.take N)
      refine ⟨?_, by omega, ?_⟩
      · intro c hc
        obtain ⟨q, _, hc⟩ := List.mem_flatMap.1 hc
        rcases List.mem_append.1 hc with hc | hc
        · rw [List.getD_eq_getElem?_getD] at hc
          cases hg : rows[(kxW rows q).toNat]? with
          | none => rw [hg] at hc; simp at hc
          | some r => rw [hg] at hc; exact hB r (List.mem_of_getElem? hg) c hc
        · have := List.eq_of_mem_replicate hc
          omega
      · rw [h2]
        have hseg := segs_whole (fun s => s ∈ segsN rows) L 0 (fun x hx => ⟨(h1 x hx).1, (h1 x hx).2.1, packW_seg (h1 x hx).1 (h1 x hx).2.1 (h1 x hx).2.2⟩)
        unfold forgedN
        rw [List.filter_eq_nil_iff.2 (fun x hx => by
          have := hseg x hx
          simp [fgN, this])]
        rfl
  obtain ⟨f1, f2, f3⟩ := hfin
  refine ⟨true, ?_, rfl⟩
  have := honest_ok ht2 hS hB f1 f2
  rw [f3] at this
  simpa using this
theorem noiseWholes_claim {a : List Fm} {order : List Int} {b : Int} (h0 : ListOk (fun f : Fm => HdOk f.1 ∧ ListOk (IntOk .u8) f.2) a) (_h1 : ListOk (IntOk .i64) order) (_h2 : IntOk .i64 b) : law26_NoiseWholes a order b true :=
  noiseWholes_true fun f hf => ⟨ok_u32 (h0.1 f hf).1.2.2.1, ok_byt (h0.1 f hf).2⟩
end Go.Rel
