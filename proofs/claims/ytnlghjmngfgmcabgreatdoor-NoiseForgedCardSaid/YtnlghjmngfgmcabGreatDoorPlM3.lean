import Derived.Test.YtnlghjmngfgmcabGreatDoorURel
import Derived.Test.YtnlghjmngfgmcabGreatDoorPlM2
/-! Plain laws: bytes read from the left, bytes written. -/
namespace Go.Rel
open Go Go.Eng Go.Pl
/-- The number whose bytes these are, the lowest one first. -/
def leV : List Int → Int
  | [] => 0
  | c :: l => leV l * 256 + c
theorem leV_bound : ∀ (l : List Int), Byt l → 0 ≤ leV l ∧ leV l < ((256 ^ l.length : Nat) : Int)
  | [], _ => by simp [leV]
  | c :: l, h => by
    have h1 := leV_bound l (fun x hx => h x (List.mem_cons_of_mem _ hx))
    have h2 := h c List.mem_cons_self
    simp only [leV, List.length_cons, Nat.pow_succ]
    omega
theorem leV_drop {l : List Int} {k : Nat} (h : k < l.length) : leV (l.drop k) = leV (l.drop (k + 1)) * 256 + l[k] := by
  rw [List.drop_eq_getElem_cons h]; rfl
theorem ior_32 {s c : Int} (hs : 0 ≤ s ∧ s < 16777216) (hc : 0 ≤ c ∧ c < 256) : ior .u32 (ishl .u32 s 8) c = s * 256 + c := by
  obtain ⟨a, rfl⟩ := Int.eq_ofNat_of_zero_le hs.1
  obtain ⟨b, rfl⟩ := Int.eq_ofNat_of_zero_le hc.1
  have e1 : ishl .u32 (a : Int) 8 = ((a * 256 : Nat) : Int) := by
    show IntKind.u32.wrap ((a : Int) * 2 ^ min (8 : Int).toNat 32) = _
    rw [show min (8 : Int).toNat 32 = 8 from rfl, w_u32]; omega
  rw [e1]
  show IntKind.u32.wrap (((BitVec.ofInt 32 ((a * 256 : Nat) : Int) ||| BitVec.ofInt 32 (b : Int)).toNat : Nat) : Int) = _
  rw [BitVec.ofInt_natCast, BitVec.ofInt_natCast, BitVec.toNat_or, BitVec.toNat_ofNat, BitVec.toNat_ofNat, Nat.mod_eq_of_lt (by omega), Nat.mod_eq_of_lt (by omega)]
  have e2 : a * 256 ||| b = a * 256 + b := by
    have := Nat.shiftLeft_add_eq_or_of_lt (show b < 2 ^ 8 by omega) a
    rw [Nat.shiftLeft_eq] at this; exact this.symm
  rw [e2, w_u32]; omega
/-- A list from behind, each with its place. -/
def backL (l : List Int) : List (Int × Int) := (List.range l.length).map fun k => (((l.length - 1 - k : Nat) : Int), l.getD (l.length - 1 - k) 0)
theorem backward_ok {l : List Int} (hl : l.length < 4611686018427387904) : Itr (slices_Backward_byte_byte_1 l) (backL l) := by
  intro S Y s s' hr
  refine ⟨(s', ()), ?_, rfl⟩
  have key : ∀ (m : Nat) (s : S), m ≤ l.length → Run Y ((backL l).drop (l.length - m)) s s' → Loops (slices_Backward_byte_byte_1_l1 S Y l) (s, (m : Int) - 1) (s', ()) := by
    intro m
    induction m with
    | zero =>
      intro s _ hr
      rw [List.drop_eq_nil_of_le (by simp [backL])] at hr
      cases hr
      refine .done ?_
      unfold slices_Backward_byte_byte_1_l1
      rw [if_neg (by simp)]
    | succ m ih =>
      intro s hm hr
      have hk : l.length - (m + 1) < (backL l).length := by simp [backL]; omega
      rw [List.drop_eq_getElem_cons hk] at hr
      have hx : (backL l)[l.length - (m + 1)] = ((m : Int), l[m]) := by
        simp only [backL, List.getElem_map, List.getElem_range]
        rw [show l.length - 1 - (l.length - (m + 1)) = m by omega, List.getD_eq_getElem?_getD, List.getElem?_eq_getElem (by omega)]; rfl
      rw [hx, show l.length - (m + 1) + 1 = l.length - m by omega] at hr
      have hs : ∀ b u, Y ((m : Int), l[m]) s (b, u) → slices_Backward_byte_byte_1_l1 S Y l (s, ((m + 1 : Nat) : Int) - 1) (if b = true then .inl (u, (m : Int) - 1) else .inr (u, ())) := by
        intro b u hy
        unfold slices_Backward_byte_byte_1_l1
        rw [show ((m + 1 : Nat) : Int) - 1 = (m : Int) by omega]
        simp only
        rw [if_pos (by simp)]
        refine ⟨l[m], idx_of (by omega), b, u, hy, ?_⟩
        cases b with
        | true => rw [if_neg (by decide), w_small (by omega) (by omega)]; rfl
        | false => rw [if_pos (by decide)]; rfl
      cases hr with
      | go h h' => exact .next (hs true _ h) (ih _ (by omega) h')
      | stop h => exact .done (hs false _ h)
  have := key l.length s (Nat.le_refl _) (by simpa using hr)
  rw [w_small (by omega) (by omega)]
  exact this
theorem byt_at {l : List Int} (hl : Byt l) {k : Nat} (h : k < l.length) : 0 ≤ l[k] ∧ l[k] < 256 := hl _ (List.getElem_mem h)
/-- Several bytes as one number. -/
theorem word1_ok {l : List Int} (hl : Byt l) (_hlen : l.length < 4611686018427387904) {n : Nat} (hn : n ≤ 4) (h : n ≤ l.length) : lens_Lens_word_1 l (n : Int) 0 ((n : Int), 0, leV (l.take n)) := by
  unfold lens_Lens_word_1
  have e : (l.drop (0 : Int).toNat).take (((n : Int) : Int) - 0).toNat = l.take n := by
    rw [show (0 : Int).toNat = 0 from rfl, List.drop_zero]; congr 1
  rw [if_neg (by simp; omega), e]
  refine ⟨by omega, by omega, _, rfl, ?_⟩
  have hb : Byt (l.take n) := hl.take n
  have hln : (l.take n).length = n := by rw [List.length_take]; omega
  generalize l.take n = q at hb hln
  subst hln
  obtain ⟨t, h1, h2⟩ := runB_inv (B := lens_Lens_word_1_l1) (s := 0) (fun k (s : Int) => s = leV (q.drop (q.length - k))) (fun _ => False) (backL q) (by simp [leV]) (by
    rintro k hk s rfl
    left
    have hkl : k < q.length := by simpa [backL] using hk
    refine ⟨_, ?_, rfl⟩
    have hx : (backL q)[k] = (((q.length - 1 - k : Nat) : Int), q[q.length - 1 - k]'(by omega)) := by
      simp only [backL, List.getElem_map, List.getElem_range]
      rw [List.getD_eq_getElem?_getD, List.getElem?_eq_getElem (by omega)]; rfl
    have hc := byt_at hb (show q.length - 1 - k < q.length by omega)
    have hv := leV_bound (q.drop (q.length - k)) (hb.drop _)
    have hp : 256 ^ (q.drop (q.length - k)).length ≤ 256 ^ 3 := Nat.pow_le_pow_right (by omega) (by rw [List.length_drop]; omega)
    unfold lens_Lens_word_1_l1
    rw [hx]
    simp only
    rw [w32_small (n := q[q.length - 1 - k]'(by omega)) (by omega) (by omega), ior_32 ⟨hv.1, by omega⟩ hc, show q.length - (k + 1) = q.length - 1 - k by omega, leV_drop (show q.length - 1 - k < q.length by omega), show q.length - 1 - k + 1 = q.length - k by omega])
  rcases h2 with ⟨s', rfl, h2⟩ | ⟨e, _, hf⟩
  · refine ⟨.inl s', (), backward_ok (by omega) _ _ _ _ (run_yof h1), ?_⟩
    show _ = _
    rw [h2]; simp [backL]
  · exact hf.elim
theorem left_ok {b : List Int} {at_ : Nat} {e : Int} (h : at_ ≤ b.length) : lens_Lens_left (b, (at_ : Int), e) (b.drop at_) := by
  unfold lens_Lens_left
  refine ⟨by simp, by simp; omega, Int.le_refl _, Int.le_refl _, Int.le_refl _, ?_⟩
  simp only [Int.toNat_natCast]
  rw [List.take_of_length_le (by rw [List.length_drop]; omega)]
theorem lword_ok {b : List Int} (hb : Byt b) (hlen : b.length < 4611686018427387904) {at_ n : Nat} (hn : n ≤ 4) (h : at_ + n ≤ b.length) : lens_Lens_word (b, (at_ : Int), 0) (n : Int) (leV ((b.drop at_).take n), (b, ((at_ + n : Nat) : Int), 0)) := by
  refine ⟨(true, (b, ((at_ + n : Nat) : Int), 0), leV ((b.drop at_).take n)), ?_, rfl⟩
  unfold lens_Lens_read__lens_Lens_word_1
  rw [if_neg (by simp)]
  refine ⟨_, left_ok (by omega), _, word1_ok (hb.drop _) (by rw [List.length_drop]; omega) hn (by rw [List.length_drop]; omega), ?_⟩
  rw [if_neg (by simp)]
  simp only
  rw [w_small (by omega) (by omega)]; rfl
theorem lnew_ok {b : List Int} (hlen : b.length < 1073741824) : lens_New b (b, 0, 0) := by
  unfold lens_New
  simp only [List.length_nil, List.nil_append]
  exact ⟨by omega, by omega, trivial⟩

theorem same_ok {a b : List Int} (hlen : a.length < 4611686018427387904) : ref01_Same a b (decide (a = b)) := by
  unfold ref01_Same
  by_cases hl : a.length = b.length
  · rw [if_neg (by simp; omega)]
    have key := loops_inv (step := ref01_Same_l2 a b) (s := 0) (fun k (s : Int) => s = (k : Int) ∧ ∀ j (h : j < a.length), j < k → a[j] = b[j]'(by omega)) (fun e => Aft (fun p18 => ref01_Same_j1 p18 (decide (a = b))) (fun p19 => decide (a = b) = p19) e) a.length ⟨rfl, fun j _ h => by omega⟩ ?_ ?_
    · exact key
    · rintro k s hk ⟨rfl, h2⟩
      by_cases he : a[k] = b[k]'(by omega)
      · left
        refine ⟨((k + 1 : Nat) : Int), ?_, rfl, fun j h hj => ?_⟩
        · unfold ref01_Same_l2
          rw [if_pos (by simp; omega)]
          refine ⟨a[k], idx_of hk, b[k]'(by omega), idx_of (by omega), ?_⟩
          rw [if_neg (by simp [he]), w_small (by omega) (by omega)]; rfl
        · by_cases e : j = k
          · subst e; exact he
          · exact h2 j h (by omega)
      · right
        refine ⟨.inr false, ?_, ?_⟩
        · unfold ref01_Same_l2
          rw [if_pos (by simp; omega)]
          refine ⟨a[k], idx_of hk, b[k]'(by omega), idx_of (by omega), ?_⟩
          rw [if_pos (by simpa using he)]
        · show decide (a = b) = false
          rw [decide_eq_false]
          intro e; subst e; exact he rfl
    · rintro s ⟨rfl, h2⟩
      refine ⟨.inl (), ?_, ?_⟩
      · unfold ref01_Same_l2
        rw [if_neg (by simp)]
      · show decide (a = b) = true
        rw [decide_eq_true]
        exact List.ext_getElem hl fun j h _ => h2 j h h
  · rw [if_pos (by simp; omega), decide_eq_false]
    intro e; exact hl (by rw [e])
end Go.Rel
/-! Plain laws: what is stuffed is taken apart. -/
namespace Go.Rel
open Go Go.Eng Go.Pl
/-- Blocks as bytes: a 0 behind each that isn't a full one, nor the last. -/
def joinB : List (List Int) → List Int
  | [] => []
  | [p] => p
  | p :: q :: L => p ++ (if p.length = 254 then [] else [0]) ++ joinB (q :: L)
/-- Does an empty block stand last behind a full one? -/
def endBad : Bool → List (List Int) → Bool
  | _, [] => false
  | f, [p] => f && decide (p = [])
  | _, p :: q :: L => endBad (decide (p.length = 254)) (q :: L)
/-- Blocks that may be: no 0 in one, none too long. -/
def OkB (L : List (List Int)) : Prop := ∀ p ∈ L, (∀ x ∈ p, x ≠ 0) ∧ p.length ≤ 254
theorem cb_ne : ∀ (l now : List Int), cb now l false ≠ []
  | [], now => by simp [cb]
  | c :: l, now => by
    unfold cb
    split
    · simp
    · split
      · simp
      · exact cb_ne l _
theorem before_fz {l : List Int} {m : Nat} (h : m ≤ fz l) : ∀ x ∈ l.take m, x ≠ 0 := by
  intro x hx
  obtain ⟨k, hk, rfl⟩ := List.getElem_of_mem hx
  rw [List.length_take] at hk
  rw [List.getElem_take]
  exact fz_before (by omega) (by omega)
/-- The first block of bytes. -/
theorem cb_cases (x : List Int) : (∃ p l, x = p ++ 0 :: l ∧ (∀ c ∈ p, c ≠ 0) ∧ p.length < 254 ∧ cb [] x false = p :: cb [] l false) ∨
    (∃ p l, x = p ++ l ∧ (∀ c ∈ p, c ≠ 0) ∧ p.length = 254 ∧ cb [] x false = p :: cb [] l true) ∨ ((∀ c ∈ x, c ≠ 0) ∧ x.length < 254 ∧ cb [] x false = [x]) := by
  by_cases hz : fz x < min x.length 254
  · left
    refine ⟨x.take (fz x), x.drop (fz x + 1), ?_, before_fz (Nat.le_refl _), by rw [List.length_take]; omega, ?_⟩
    · have h3 : x.drop (fz x) = 0 :: x.drop (fz x + 1) := by rw [List.drop_eq_getElem_cons (show fz x < x.length by omega), fz_at (by omega)]
      rw [← h3, List.take_append_drop]
    · have h3 : x.drop (fz x) = 0 :: x.drop (fz x + 1) := by rw [List.drop_eq_getElem_cons (show fz x < x.length by omega), fz_at (by omega)]
      have e : x = x.take (fz x) ++ 0 :: x.drop (fz x + 1) := by rw [← h3, List.take_append_drop]
      conv => lhs; rw [e]
      exact cb_zero _ _ (before_fz (Nat.le_refl _)) (by rw [List.length_take]; omega) false
  · right
    by_cases h2 : 254 ≤ x.length
    · left
      refine ⟨x.take 254, x.drop 254, (List.take_append_drop _ _).symm, before_fz (by omega), by rw [List.length_take]; omega, ?_⟩
      conv => lhs; rw [(List.take_append_drop 254 x).symm]
      exact cb_full _ _ (before_fz (by omega)) (by rw [List.length_take]; omega) false
    · right
      have h0 : ∀ c ∈ x, c ≠ 0 := by
        have h9 := fz_le x
        have := before_fz (l := x) (m := x.length) (by omega)
        rwa [List.take_length] at this
      exact ⟨h0, by omega, cb_end x h0 (by omega)⟩
theorem cb_ok : ∀ (m : Nat) (x : List Int), x.length < m → OkB (cb [] x false) ∧ joinB (cb [] x false) = x ∧ ∀ f, (f = true → x ≠ []) → endBad f (cb [] x false) = false := by
  intro m
  induction m with
  | zero => intro x h; omega
  | succ m ih =>
    intro x hm
    have more : ∀ (p l : List Int), (∀ c ∈ p, c ≠ 0) → p.length ≤ 254 → l.length < m → x = p ++ (if p.length = 254 then [] else [0]) ++ l → (p.length = 254 → l ≠ []) → OkB (p :: cb [] l false) ∧ joinB (p :: cb [] l false) = x ∧ ∀ f, endBad f (p :: cb [] l false) = false := by
      intro p l hp hpl hl hx hn
      obtain ⟨h1, h2, h3⟩ := ih l hl
      obtain ⟨q, L, hq⟩ := List.exists_cons_of_ne_nil (cb_ne l [])
      refine ⟨fun r hr => ?_, ?_, fun f => ?_⟩
      · rcases List.mem_cons.1 hr with rfl | hr
        · exact ⟨hp, hpl⟩
        · exact h1 r hr
      · rw [hq]
        simp only [joinB]
        rw [← hq, h2]; exact hx.symm
      · rw [hq]
        simp only [endBad]
        rw [← hq]
        exact h3 _ (fun h => hn (by simpa using h))
    rcases cb_cases x with ⟨p, l, hx, h0, hp, hc⟩ | ⟨p, l, hx, h0, hp, hc⟩ | ⟨h0, hp, hc⟩
    · have := more p l h0 (by omega) (by have := congrArg List.length hx; simp at this; omega) (by rw [if_neg (by omega)]; simpa using hx) (fun h => by omega)
      rw [hc]; exact ⟨this.1, this.2.1, fun f _ => this.2.2 f⟩
    · by_cases hl : l = []
      · subst hl
        have e : cb [] x false = [p] := by rw [hc]; simp [cb]
        rw [e]
        refine ⟨fun r hr => by simp at hr; subst hr; exact ⟨h0, by omega⟩, by simp [joinB, hx], fun f _ => ?_⟩
        have : p ≠ [] := by intro h; subst h; simp at hp
        simp [endBad, this]
      · have := more p l h0 (by omega) (by have := congrArg List.length hx; simp at this; omega) (by rw [if_pos hp]; simpa using hx) (fun _ => hl)
        rw [hc, cb_e l hl true false]; exact ⟨this.1, this.2.1, fun f _ => this.2.2 f⟩
    · rw [hc]
      refine ⟨fun r hr => by simp at hr; subst hr; exact ⟨h0, by omega⟩, rfl, fun f hf => ?_⟩
      cases f with
      | false => rfl
      | true => simp [endBad, hf rfl]
theorem join_ne : ∀ (L : List (List Int)) (q : List Int), endBad true (q :: L) = false → joinB (q :: L) ≠ []
  | [], q, h => by simp [endBad] at h; simpa [joinB] using h
  | r :: L, q, _ => by
    simp only [joinB]
    by_cases h : q.length = 254
    · intro e
      have := congrArg List.length e
      simp [h] at this
    · rw [if_neg h]; simp
theorem cb_join : ∀ (L : List (List Int)) (f : Bool), L ≠ [] → OkB L → endBad f L = false → cb [] (joinB L) false = L
  | [], _, h, _, _ => absurd rfl h
  | [p], _, _, ho, _ => by
    obtain ⟨h0, h1⟩ := ho p List.mem_cons_self
    by_cases h2 : p.length = 254
    · have := cb_full p [] h0 h2 false
      simp only [List.append_nil] at this
      simp only [joinB, this, cb, if_true]
    · exact cb_end p h0 (by omega)
  | p :: q :: L, f, _, ho, he => by
    obtain ⟨h0, h1⟩ := ho p List.mem_cons_self
    have ho2 : OkB (q :: L) := fun r hr => ho r (List.mem_cons_of_mem _ hr)
    simp only [endBad] at he
    have ih := cb_join (q :: L) _ (by simp) ho2 he
    simp only [joinB]
    by_cases h2 : p.length = 254
    · rw [if_pos h2]
      rw [decide_eq_true h2] at he
      simp only [List.append_nil]
      rw [cb_full p _ h0 h2 false, cb_e _ (join_ne L q he) true false, ih]
    · rw [if_neg h2]
      simp only [List.append_assoc, List.singleton_append]
      rw [cb_zero p _ h0 (by omega) false, ih]
def flatB (L : List (List Int)) : List Int := (L.map enc1).flatten
theorem join_len : ∀ (L : List (List Int)), L ≠ [] → (joinB L).length + 1 ≤ (flatB L).length
  | [], h => absurd rfl h
  | [p], _ => by simp [joinB, flatB, enc1]
  | p :: q :: L, _ => by
    have ih := join_len (q :: L) (by simp)
    have e : (flatB (p :: q :: L)).length = p.length + 1 + (flatB (q :: L)).length := by simp [flatB, enc1]; omega
    rw [e]
    simp only [joinB, List.length_append]
    split <;> simp <;> omega
/-- Bytes as blocks, each behind its code. -/
def pb : Nat → List Int → Option (List (List Int))
  | 0, _ => none
  | _ + 1, [] => some []
  | n + 1, c :: r => if 1 ≤ c ∧ (c - 1).toNat ≤ r.length ∧ ∀ x ∈ r.take (c - 1).toNat, x ≠ 0 then (pb n (r.drop (c - 1).toNat)).map (r.take (c - 1).toNat :: ·) else none
theorem pb_flat : ∀ (L : List (List Int)) (n : Nat), OkB L → (flatB L).length < n → pb n (flatB L) = some L
  | [], n, _, h => by cases n with
    | zero => omega
    | succ n => rfl
  | p :: L, n, ho, h => by
    cases n with
    | zero => omega
    | succ n =>
      obtain ⟨h0, _⟩ := ho p List.mem_cons_self
      have e : flatB (p :: L) = ((p.length : Int) + 1) :: (p ++ flatB L) := by simp [flatB, enc1]
      rw [e] at h ⊢
      have hn : ((p.length : Int) + 1 - 1).toNat = p.length := by omega
      unfold pb
      rw [hn]
      have ht : (p ++ flatB L).take p.length = p := List.take_left
      have hd : (p ++ flatB L).drop p.length = flatB L := List.drop_left
      rw [ht, hd, if_pos ⟨by omega, by simp, h0⟩, pb_flat L n (fun r hr => ho r (List.mem_cons_of_mem _ hr)) (by simp at h; omega)]
      rfl
theorem pb_some : ∀ (n : Nat) (b : List Int) (L : List (List Int)), Byt b → pb n b = some L → flatB L = b ∧ OkB L
  | 0, _, _, _, h => by simp [pb] at h
  | n + 1, [], L, _, h => by simp [pb] at h; subst h; exact ⟨rfl, fun p hp => nomatch hp⟩
  | n + 1, c :: r, L, hb, h => by
    unfold pb at h
    split at h
    · rename_i hc
      obtain ⟨L', h1, rfl⟩ := Option.map_eq_some_iff.1 h
      obtain ⟨h2, h3⟩ := pb_some n _ L' (fun x hx => hb x (List.mem_cons_of_mem _ (List.mem_of_mem_drop hx))) h1
      have hcb := hb c List.mem_cons_self
      have hlen : (r.take (c - 1).toNat).length = (c - 1).toNat := by rw [List.length_take]; omega
      refine ⟨?_, fun p hp => ?_⟩
      · have e : flatB (r.take (c - 1).toNat :: L') = (((r.take (c - 1).toNat).length : Int) + 1) :: (r.take (c - 1).toNat ++ flatB L') := by simp [flatB, enc1]
        rw [e, h2, List.take_append_drop, hlen]
        congr 1; omega
      · rcases List.mem_cons.1 hp with rfl | hp
        · exact ⟨hc.2.2, by omega⟩
        · exact h3 p hp
    · cases h
/-- What bytes are, unstuffed. -/
def decB (b : List Int) : Option (List Int) := if b = [] then none else match pb (b.length + 1) b with
  | none => none
  | some L => if endBad false L = true then none else some (joinB L)
theorem dec_enc (x : List Int) : decB (encB x) = some x := by
  obtain ⟨h1, h2, h3⟩ := cb_ok (x.length + 1) x (by omega)
  have hne : encB x ≠ [] := by
    intro h
    have := join_len (cb [] x false) (cb_ne x [])
    have h4 : flatB (cb [] x false) = [] := h
    rw [h4] at this; simp at this
  unfold decB
  rw [if_neg hne]
  have : pb ((encB x).length + 1) (encB x) = some (cb [] x false) := pb_flat _ _ h1 (by show (encB x).length < _; omega)
  rw [this]
  simp only
  rw [h3 false (fun h => nomatch h), if_neg (by decide), h2]
theorem dec_some {b x : List Int} (hb : Byt b) (h : decB b = some x) : encB x = b := by
  unfold decB at h
  split at h
  · cases h
  · rename_i hne
    split at h
    · cases h
    · rename_i L hL
      split at h
      · cases h
      · rename_i he
        cases h
        obtain ⟨h1, h2⟩ := pb_some _ b L hb hL
        have hn : L ≠ [] := by rintro rfl; exact hne h1.symm
        unfold encB
        rw [cb_join L false hn h2 (by simpa using he)]; exact h1
/-- What the program makes of the rest, a full block having just ended or not. -/
def resB (f : Bool) (rest : List Int) : Sum Unit (List Int) := match pb (rest.length + 1) rest with
  | none => .inl ()
  | some L => if endBad f L = true then .inl () else .inr (joinB L)
theorem pb_fuel : ∀ (n m : Nat) (b : List Int), b.length < n → b.length < m → pb n b = pb m b
  | 0, _, b, h, _ => by omega
  | n + 1, 0, b, _, h => by omega
  | n + 1, m + 1, [], _, _ => rfl
  | n + 1, m + 1, c :: r, h, h' => by
    unfold pb
    rw [pb_fuel n m (r.drop (c - 1).toNat) (by simp at h ⊢; omega) (by simp at h' ⊢; omega)]
theorem decode_run : ∀ (m : Nat) (rest out : List Int) (f : Bool), rest.length < m → rest ≠ [] → Byt rest → out.length + 2 * rest.length < 1073741824 →
    Loops cobs_Decode_l3 (out, rest, f) (match resB f rest with | .inl u => .inl u | .inr x => .inr (out ++ x)) := by
  intro m
  induction m with
  | zero => intro rest out f h; omega
  | succ m ih =>
    intro rest out f hm hne hb hlen
    obtain ⟨c, r, rfl⟩ := List.exists_cons_of_ne_nil hne
    have hc := hb c List.mem_cons_self
    have hbr : Byt r := fun x hx => hb x (List.mem_cons_of_mem _ hx)
    simp only [List.length_cons] at hm hlen
    have e1 : IntKind.i64.wrap ((IntKind.i64.wrap c) - 1) = c - 1 := by rw [w_small (n := c) (by omega) (by omega), w_small (by omega) (by omega)]
    have e2 : IntKind.i64.wrap ((c - 1) + 1) = c := by rw [w_small (by omega) (by omega)]; omega
    have bad : (c < 1 ∨ (r.length : Int) + 1 ≤ c - 1) → Loops cobs_Decode_l3 (out, c :: r, f) (.inl ()) := by
      intro h
      refine .done ⟨c, ⟨by decide, rfl⟩, ?_⟩
      simp only [e1]
      by_cases h1 : c - 1 < 0
      · rw [if_pos (by simpa using h1)]
        unfold cobs_Decode_j4
        rw [if_pos rfl]
      · rw [if_neg (by simpa using h1)]
        unfold cobs_Decode_j4
        rw [decide_eq_true (by simp; omega), if_pos rfl]
    unfold resB
    simp only [List.length_cons]
    unfold pb
    by_cases hin : 1 ≤ c ∧ (c - 1).toNat ≤ r.length
    · obtain ⟨k, hk⟩ : ∃ k : Nat, c = (k : Int) + 1 := ⟨(c - 1).toNat, by omega⟩
      have hkn : (c - 1).toNat = k := by omega
      rw [hkn] at hin ⊢
      have ed : (((c :: r).drop (1 : Int).toNat).take ((c : Int) - 1).toNat) = r.take k := by
        rw [show (1 : Int).toNat = 1 from rfl, List.drop_succ_cons, List.drop_zero, hkn]
      have er : (((c :: r).drop c.toNat).take ((((c :: r).length : Int) : Int) - c).toNat) = r.drop k := by
        rw [show c.toNat = k + 1 by omega, List.drop_succ_cons, List.take_of_length_le]
        simp only [List.length_drop, List.length_cons]; omega
      have htk : (r.take k).length = k := by rw [List.length_take]; omega
      -- the zeros
      have zs : ∃ e, Loops (cobs_Decode_l7 (out, c :: r, f) c) 0 e ∧ e = if ∀ x ∈ r.take k, x ≠ 0 then .inl () else .inr () := by
        have key := loops_inv (step := cobs_Decode_l7 (out, c :: r, f) c) (s := 0) (fun j (s : Int) => s = (j : Int) ∧ ∀ q (h : q < (r.take k).length), q < j → (r.take k)[q] ≠ 0) (fun e => e = if ∀ x ∈ r.take k, x ≠ 0 then .inl () else .inr ()) k ⟨rfl, fun q _ h => by omega⟩ ?_ ?_
        · exact key
        · rintro j s hj ⟨rfl, h2⟩
          have hj2 : j < (r.take k).length := by omega
          by_cases h0 : (r.take k)[j] = 0
          · right
            refine ⟨.inr (), ?_, ?_⟩
            · unfold cobs_Decode_l7
              simp only [e1, e2, ed]
              rw [if_pos (by simp; omega)]
              refine ⟨(r.take k)[j], idx_of hj2, ?_⟩
              rw [if_pos (by simpa using h0)]
              trivial
            · rw [if_neg]
              intro h; exact h _ (List.getElem_mem hj2) h0
          · left
            refine ⟨((j + 1 : Nat) : Int), ?_, rfl, fun q h3 h4 => ?_⟩
            · unfold cobs_Decode_l7
              simp only [e1, e2, ed]
              rw [if_pos (by simp; omega)]
              refine ⟨(r.take k)[j], idx_of hj2, ?_⟩
              rw [if_neg (by simpa using h0), w_small (by omega) (by omega)]; rfl
            · by_cases e : q = j
              · subst e; exact h0
              · exact h2 q h3 (by omega)
        · rintro s ⟨rfl, h2⟩
          refine ⟨.inl (), ?_, ?_⟩
          · unfold cobs_Decode_l7
            simp only [e1, e2, ed]
            rw [if_neg (by rw [htk]; simp)]
            trivial
          · rw [if_pos]
            intro x hx
            obtain ⟨q, hq, rfl⟩ := List.getElem_of_mem hx
            exact h2 q hq (by omega)
      obtain ⟨e, hl, he⟩ := zs
      have stp : ∀ o, Aft (fun p60 => cobs_Decode_j5 (out, c :: r, f) c p60 o) (fun p61 => o = .inr (.inl p61)) e → cobs_Decode_l3 (out, c :: r, f) o := by
        intro o ha
        refine ⟨c, ⟨by decide, rfl⟩, ?_⟩
        simp only [e1]
        rw [if_neg (by simp; omega)]
        unfold cobs_Decode_j4
        simp only [e1, e2]
        rw [decide_eq_false (by simp; omega), if_neg (by decide)]
        exact ⟨by omega, by simp; omega, e, hl, ha⟩
      by_cases hz : ∀ x ∈ r.take k, x ≠ 0
      · rw [if_pos ⟨hin.1, hin.2, hz⟩]
        rw [if_pos hz] at he
        subst he
        rw [pb_fuel (r.length + 1) ((r.drop k).length + 1) (r.drop k) (by simp; omega) (by omega)]
        have j5 : ∀ o, (if r.drop k = [] then (if (f && decide (k = 0)) = true then o = .inr (.inl ()) else o = .inr (.inr (out ++ r.take k))) else o = .inl ((out ++ r.take k) ++ (if k = 254 then [] else [0]), r.drop k, decide (k = 254))) → cobs_Decode_j5 (out, c :: r, f) c () o := by
          intro o ho
          unfold cobs_Decode_j5
          simp only [e1, e2, ed, er]
          refine ⟨by omega, by simp; omega, by rw [htk]; omega, by rw [htk]; omega, by omega, by simp; omega, Int.le_refl _, ?_⟩
          have hnd : (decide (((r.drop k).length : Int) = 0)) = decide (r.drop k = []) := by
            rw [decide_eq_decide]; constructor
            · intro h; exact List.eq_nil_of_length_eq_zero (by omega)
            · intro h; rw [h]; rfl
          have hk0 : decide (c - 1 = 0) = decide (k = 0) := by rw [decide_eq_decide]; omega
          have hk254 : decide (c - 1 = 254) = decide (k = 254) := by rw [decide_eq_decide]; omega
          have j6 : ∀ b : Bool, b = (decide (r.drop k = []) && (f && decide (k = 0))) → cobs_Decode_j6 (out, c :: r, f) c b o := by
            intro b hbb
            unfold cobs_Decode_j6
            simp only [e1, e2, ed, er, hnd, hk254]
            by_cases hd : r.drop k = []
            · rw [if_pos hd] at ho
              rw [decide_eq_true hd] at hbb ⊢
              by_cases hq : (f && decide (k = 0)) = true
              · rw [if_pos hq] at ho
                rw [hbb, hq, if_pos rfl]; exact ho
              · rw [if_neg hq] at ho
                rw [hbb, show (f && decide (k = 0)) = false by simpa using hq, if_neg (by decide), if_pos rfl]; exact ho
            · rw [if_neg hd] at ho
              rw [decide_eq_false hd] at hbb ⊢
              rw [hbb, if_neg (by simp), if_neg (by decide)]
              by_cases h4 : k = 254
              · rw [if_pos h4] at ho
                rw [if_neg (by simp [h4])]
                rw [ho]; simp
              · rw [if_neg h4] at ho
                rw [if_pos (by simp [h4])]
                simp only [List.length_append, htk, List.length_cons, List.length_nil]
                exact ⟨by omega, by omega, ho⟩
          rw [hnd]
          by_cases hd : r.drop k = []
          · rw [if_pos (by simpa using hd), hk0]
            cases f with
            | true => rw [if_pos rfl]; exact j6 _ (by simp [hd])
            | false => rw [if_neg (by decide)]; exact j6 _ (by simp)
          · rw [if_neg (by simpa using hd)]; exact j6 _ (by simp [hd])
        by_cases hd : r.drop k = []
        · have hp : pb ((r.drop k).length + 1) (r.drop k) = some [] := by rw [hd]; rfl
          rw [hp]
          simp only [Option.map_some]
          have hE : endBad f [r.take k] = (f && decide (k = 0)) := by
            simp only [endBad]
            congr 1
            rw [decide_eq_decide]
            constructor
            · intro h; have := congrArg List.length h; rw [htk] at this; simpa using this
            · intro h; subst h; simp
          by_cases hq : endBad f [r.take k] = true
          · rw [if_pos hq]
            exact .done (stp _ (j5 _ (by rw [if_pos hd, if_pos (by rw [← hE]; exact hq)])))
          · rw [if_neg hq]
            exact .done (stp _ (j5 _ (by rw [if_pos hd, if_neg (by rw [← hE]; exact hq)]; rfl)))
        · have i2 := ih (r.drop k) ((out ++ r.take k) ++ (if k = 254 then [] else [0])) (decide (k = 254)) (by rw [List.length_drop]; omega) hd (hbr.drop _) (by
            have : (if k = 254 then ([] : List Int) else [0]).length ≤ 1 := by split <;> simp
            simp only [List.length_append, htk, List.length_drop]; omega)
          refine .next (stp _ (j5 _ (by rw [if_neg hd]))) ?_
          unfold resB at i2
          cases hpb : pb ((r.drop k).length + 1) (r.drop k) with
          | none => rw [hpb] at i2; exact i2
          | some L =>
            rw [hpb] at i2
            have hL : L ≠ [] := by
              rintro rfl
              have := (pb_some _ _ [] (hbr.drop _) hpb).1
              exact hd this.symm
            obtain ⟨q, L', rfl⟩ := List.exists_cons_of_ne_nil hL
            simp only [Option.map_some, endBad, joinB, htk] at i2 ⊢
            by_cases hq : endBad (decide (k = 254)) (q :: L') = true
            · rw [if_pos hq] at i2 ⊢; exact i2
            · rw [if_neg hq] at i2 ⊢
              simp only [List.append_assoc] at i2 ⊢; exact i2
      · rw [if_neg (fun h => hz h.2.2)]
        rw [if_neg hz] at he
        subst he
        exact .done (stp _ rfl)
    · rw [if_neg (fun h => hin ⟨h.1, h.2.1⟩)]
      exact bad (by omega)
def decR (b : List Int) : List Int × Int := match decB b with
  | none => ([], 12)
  | some x => (x, 0)
theorem decode_ok {b : List Int} (hb : Byt b) (hl : b.length < 268435456) : cobs_Decode b (decR b) := by
  unfold cobs_Decode decR decB
  by_cases h : b = []
  · subst h; rw [if_pos (by simp), if_pos rfl]; rfl
  · rw [if_neg (by simp; exact h), if_neg h]
    have := decode_run (b.length + 1) b [] false (by omega) h hb (by simp; omega)
    refine ⟨_, this, ?_⟩
    unfold resB
    cases pb (b.length + 1) b with
    | none => rfl
    | some L =>
      simp only
      by_cases hq : endBad false L = true
      · rw [if_pos hq, if_pos hq]; rfl
      · rw [if_neg hq, if_neg hq]; simp only [List.nil_append]; rfl
end Go.Rel
/-! Plain laws: heads. -/
namespace Go.Rel
open Go Go.Eng Go.Pl
abbrev Hd := Int × Int × Int × Int × Int
def headE (h : Hd) : Int := if ¬ (1 ≤ h.1 ∧ h.1 ≤ 2) then 10 else if ¬ (1 ≤ h.2.1 ∧ h.2.1 ≤ 5) then 9 else if ¬ (1 ≤ h.2.2.2.2 ∧ h.2.2.2.2 ≤ 255 ∧ 0 ≤ h.2.2.2.1 ∧ h.2.2.2.1 < h.2.2.2.2) then 3 else 0
/-- The errors that a head may have, and whether it has them, in their order. -/
def headL (h : Hd) : List (Int × Bool) := [(10, decide (¬ (1 ≤ h.1 ∧ h.1 ≤ 2))), (9, decide (¬ (1 ≤ h.2.1 ∧ h.2.1 ≤ 5))), (3, decide (¬ (1 ≤ h.2.2.2.2 ∧ h.2.2.2.2 ≤ 255 ∧ 0 ≤ h.2.2.2.1 ∧ h.2.2.2.1 < h.2.2.2.2)))]
theorem run_cons {X S : Type} {Y : X → S → Bool × S → Prop} {x : X} {xs : List X} {s s' : S} (h : Run Y (x :: xs) s s') : ∃ b s1, Y x s (b, s1) ∧ ((b = true ∧ Run Y xs s1 s') ∨ (b = false ∧ s1 = s')) := by
  cases h with
  | go h h' => exact ⟨true, _, h, .inl ⟨rfl, h'⟩⟩
  | stop h => exact ⟨false, _, h, .inr ⟨rfl, rfl⟩⟩
theorem run_one {X S : Type} {Y : X → S → Bool × S → Prop} {x : X} {s s' : S} (h : Run Y [x] s s') : ∃ b, Y x s (b, s') := by
  obtain ⟨b, s1, h1, h2⟩ := run_cons h
  rcases h2 with ⟨_, h2⟩ | ⟨_, rfl⟩
  · cases h2; exact ⟨b, h1⟩
  · exact ⟨b, h1⟩
theorem wrong_ok (h : Hd) : Itr (head_wrong_1 h) (headL h) := by
  intro S Y s s' hr
  obtain ⟨v, k, q, i, n⟩ := h
  obtain ⟨b1, u1, y1, r1⟩ := run_cons hr
  have last : ∀ u, Run Y [((3 : Int), decide (¬ (1 ≤ n ∧ n ≤ 255 ∧ 0 ≤ i ∧ i < n)))] u s' → if (decide (n < 1)) = true then (∃ y15 : Bool, ∃ u16 : S, Y (3, true) u (y15, u16) ∧ (s', ()) = (u16, ())) else (if (decide (255 < n)) = true then (∃ y22 : Bool, ∃ u23 : S, Y (3, true) u (y22, u23) ∧ (s', ()) = (u23, ())) else (if (decide (i < 0)) = true then (∃ y29 : Bool, ∃ u30 : S, Y (3, true) u (y29, u30) ∧ (s', ()) = (u30, ())) else (∃ y36 : Bool, ∃ u37 : S, Y (3, (decide (n ≤ i))) u (y36, u37) ∧ (s', ()) = (u37, ())))) := by
    intro u hu
    obtain ⟨b, hb⟩ := run_one hu
    by_cases h1 : n < 1
    · rw [if_pos (by simpa using h1)]
      exact ⟨b, s', by rw [decide_eq_true (by omega)] at hb; exact hb, rfl⟩
    · rw [if_neg (by simpa using h1)]
      by_cases h2 : 255 < n
      · rw [if_pos (by simpa using h2)]
        exact ⟨b, s', by rw [decide_eq_true (by omega)] at hb; exact hb, rfl⟩
      · rw [if_neg (by simpa using h2)]
        by_cases h3 : i < 0
        · rw [if_pos (by simpa using h3)]
          exact ⟨b, s', by rw [decide_eq_true (by omega)] at hb; exact hb, rfl⟩
        · rw [if_neg (by simpa using h3)]
          refine ⟨b, s', ?_, rfl⟩
          rw [show decide (n ≤ i) = decide (¬ (1 ≤ n ∧ n ≤ 255 ∧ 0 ≤ i ∧ i < n)) by rw [decide_eq_decide]; omega]; exact hb
  unfold head_wrong_1
  simp only at y1 ⊢
  by_cases c1 : v < 1
  · rw [if_pos (by simpa using c1)]
    refine ⟨b1, u1, by rw [decide_eq_true (by omega)] at y1; exact y1, ?_⟩
    rcases r1 with ⟨rfl, r1⟩ | ⟨rfl, rfl⟩
    · rw [if_pos rfl]
      obtain ⟨b2, u2, y2, r2⟩ := run_cons r1
      simp only at y2
      by_cases c2 : k < 1
      · rw [if_pos (by simpa using c2)]
        refine ⟨b2, u2, by rw [decide_eq_true (by omega)] at y2; exact y2, ?_⟩
        rcases r2 with ⟨rfl, r2⟩ | ⟨rfl, rfl⟩
        · rw [if_pos rfl]; exact last u2 r2
        · rw [if_neg (by decide)]
      · rw [if_neg (by simpa using c2)]
        refine ⟨b2, u2, by rw [show decide (5 < k) = decide (¬ (1 ≤ k ∧ k ≤ 5)) by rw [decide_eq_decide]; omega]; exact y2, ?_⟩
        rcases r2 with ⟨rfl, r2⟩ | ⟨rfl, rfl⟩
        · rw [if_pos rfl]; exact last u2 r2
        · rw [if_neg (by decide)]
    · rw [if_neg (by decide)]
  · rw [if_neg (by simpa using c1)]
    refine ⟨b1, u1, by rw [show decide (2 < v) = decide (¬ (1 ≤ v ∧ v ≤ 2)) by rw [decide_eq_decide]; omega]; exact y1, ?_⟩
    rcases r1 with ⟨rfl, r1⟩ | ⟨rfl, rfl⟩
    · rw [if_pos rfl]
      obtain ⟨b2, u2, y2, r2⟩ := run_cons r1
      simp only at y2
      by_cases c2 : k < 1
      · rw [if_pos (by simpa using c2)]
        refine ⟨b2, u2, by rw [decide_eq_true (by omega)] at y2; exact y2, ?_⟩
        rcases r2 with ⟨rfl, r2⟩ | ⟨rfl, rfl⟩
        · rw [if_pos rfl]; exact last u2 r2
        · rw [if_neg (by decide)]
      · rw [if_neg (by simpa using c2)]
        refine ⟨b2, u2, by rw [show decide (5 < k) = decide (¬ (1 ≤ k ∧ k ≤ 5)) by rw [decide_eq_decide]; omega]; exact y2, ?_⟩
        rcases r2 with ⟨rfl, r2⟩ | ⟨rfl, rfl⟩
        · rw [if_pos rfl]; exact last u2 r2
        · rw [if_neg (by decide)]
    · rw [if_neg (by decide)]
theorem hcheck_ok (h : Hd) : head_Check h (headE h) := by
  refine ⟨_, rfl, ?_⟩
  have go : ∀ e, head_Check_l2 (e, false) () (.inl ()) := fun e => by unfold head_Check_l2; rw [if_neg (ne_true rfl)]
  have st : ∀ e, head_Check_l2 (e, true) () (.inr e) := fun e => by unfold head_Check_l2; rw [if_pos rfl]
  have key : ∀ t, RunB head_Check_l2 (headL h) () t → head_wrong_1 h (Sum Unit Int) (Yof head_Check_l2) (.inl ()) (t, ()) := fun t ht => wrong_ok h _ _ _ _ (run_yof ht)
  unfold headE headL at *
  by_cases c1 : 1 ≤ h.1 ∧ h.1 ≤ 2
  · rw [if_neg (by simpa using c1)]
    rw [decide_eq_false (show ¬ ¬ (1 ≤ h.1 ∧ h.1 ≤ 2) from fun e => e c1)] at key
    by_cases c2 : 1 ≤ h.2.1 ∧ h.2.1 ≤ 5
    · rw [if_neg (by simpa using c2)]
      rw [decide_eq_false (show ¬ ¬ (1 ≤ h.2.1 ∧ h.2.1 ≤ 5) from fun e => e c2)] at key
      by_cases c3 : 1 ≤ h.2.2.2.2 ∧ h.2.2.2.2 ≤ 255 ∧ 0 ≤ h.2.2.2.1 ∧ h.2.2.2.1 < h.2.2.2.2
      · rw [if_neg (fun e => e c3)]
        rw [decide_eq_false (fun e => e c3)] at key
        exact ⟨.inl (), (), key _ (.go (go _) (.go (go _) (.go (go _) .nil))), rfl⟩
      · rw [if_pos c3]
        rw [decide_eq_true c3] at key
        exact ⟨.inr 3, (), key _ (.go (go _) (.go (go _) (.stop (st _)))), rfl⟩
    · rw [if_pos c2]
      rw [decide_eq_true c2] at key
      exact ⟨.inr 9, (), key _ (.go (go _) (.stop (st _))), rfl⟩
  · rw [if_pos c1]
    rw [decide_eq_true c1] at key
    exact ⟨.inr 10, (), key _ (.stop (st _)), rfl⟩
end Go.Rel
/-! Plain laws: rooms on the wire. -/
namespace Go.Rel
open Go Go.Eng Go.Pl
end Go.Rel
/-! Plain laws: frames. -/
namespace Go.Rel
open Go Go.Eng Go.Pl
theorem take_map {α β : Type} (f : α → β) {l : List α} {k : Nat} (hk : k < l.length) : (l.take (k + 1)).map f = (l.take k).map f ++ [f l[k]] := by
  rw [List.take_succ_eq_append_getElem hk, List.map_append]; rfl
theorem fnew_ok : ∃ t, frame_New t ∧ IsTab t := by
  obtain ⟨t, h1, h2⟩ := new_ok
  exact ⟨t, ⟨t, h1, rfl⟩, h2⟩
end Go.Rel
/-! Plain laws: the head of bytes. -/
namespace Go.Rel
open Go Go.Eng Go.Pl
/-! ### heads -/
def hdOf (l : List Int) : Hd := (l.getD 0 0, l.getD 1 0, leV ((l.drop 2).take 4), l.getD 6 0, l.getD 7 0)
def parseH (l : List Int) : Hd × Int := if headE (hdOf l) = 0 then (hdOf l, 0) else ((0, 0, 0, 0, 0), headE (hdOf l))
theorem one_at {l : List Int} {k : Nat} (h : k < l.length) : leV ((l.drop k).take 1) = l.getD k 0 := by
  rw [List.drop_eq_getElem_cons h, List.getD_eq_getElem?_getD, List.getElem?_eq_getElem h]
  simp only [List.take_succ_cons, List.take_zero, leV, Option.getD_some]; omega
theorem getD_byt {l : List Int} (hl : Byt l) {k : Nat} (h : k < l.length) : 0 ≤ l.getD k 0 ∧ l.getD k 0 < 256 := by
  rw [List.getD_eq_getElem?_getD, List.getElem?_eq_getElem h]; exact byt_at hl h
theorem lu8_ok {b : List Int} (hb : Byt b) (hlen : b.length < 4611686018427387904) {k : Nat} (h : k < b.length) : lens_Lens_U8 (b, (k : Int), 0) (b.getD k 0, (b, ((k + 1 : Nat) : Int), 0)) := by
  refine ⟨_, lword_ok hb hlen (n := 1) (by omega) (by omega), ?_⟩
  have := getD_byt hb h
  rw [one_at h, w_u8]
  congr 1; simp only; omega
theorem hparse_ok {l : List Int} (hl : Byt l) (h8 : l.length = 8) : head_Parse l (parseH l) := by
  unfold head_Parse
  rw [if_neg (by simp [h8])]
  have v4 := leV_bound ((l.drop 2).take 4) ((hl.drop 2).take 4)
  refine ⟨_, lnew_ok (by omega), _, lu8_ok hl (by omega) (k := 0) (by omega), _, lu8_ok hl (by omega) (k := 1) (by omega), _, ⟨_, lword_ok hl (by omega) (at_ := 2) (n := 4) (by omega) (by omega), rfl⟩, _, lu8_ok hl (by omega) (k := 6) (by omega), _, lu8_ok hl (by omega) (k := 7) (by omega), 0, ?_, ?_⟩
  · refine ⟨0, rfl, ?_⟩
    rw [if_neg (by decide)]
    refine ⟨_, ⟨_, left_ok (at_ := 8) (by omega), rfl⟩, ?_⟩
    unfold lens_Lens_End_j1
    rw [List.drop_eq_nil_of_le (by omega), if_pos (by decide)]
  · rw [if_pos (by decide)]
    have g : ∀ k, k < 8 → IntKind.i64.wrap (l.getD k 0) = l.getD k 0 := fun k hk => by
      have := getD_byt hl (show k < l.length by omega)
      rw [w_small (by omega) (by omega)]
    simp only
    rw [g 0 (by omega), g 1 (by omega), g 6 (by omega), g 7 (by omega)]
    refine ⟨_, hcheck_ok _, ?_⟩
    unfold head_Parse_j1 parseH
    simp only
    rw [g 0 (by omega), g 1 (by omega), g 6 (by omega), g 7 (by omega)]
    by_cases he : headE (hdOf l) = 0
    · rw [if_pos he, if_neg (by simp; exact he)]; rfl
    · rw [if_neg he, if_pos (by simp; exact he)]; rfl
theorem rhcheck_ok (h : Hd) : ref07_Check h (headE h) := by
  obtain ⟨v, k, q, i, n⟩ := h
  have j3 : ∀ b : Bool, b = decide (¬ (1 ≤ n ∧ n ≤ 255 ∧ 0 ≤ i ∧ i < n)) → ref07_Check_j3 b (if ¬ (1 ≤ n ∧ n ≤ 255 ∧ 0 ≤ i ∧ i < n) then 3 else 0) := by
    rintro b rfl
    unfold ref07_Check_j3
    by_cases h : ¬ (1 ≤ n ∧ n ≤ 255 ∧ 0 ≤ i ∧ i < n)
    · rw [decide_eq_true h, if_pos rfl, if_pos h]
    · rw [decide_eq_false h, if_neg (by decide), if_neg h]
  have j2 : ∀ b : Bool, b = decide (¬ (1 ≤ k ∧ k ≤ 5)) → ref07_Check_j2 (v, k, q, i, n) b (if ¬ (1 ≤ k ∧ k ≤ 5) then 9 else if ¬ (1 ≤ n ∧ n ≤ 255 ∧ 0 ≤ i ∧ i < n) then 3 else 0) := by
    rintro b rfl
    unfold ref07_Check_j2
    by_cases h : ¬ (1 ≤ k ∧ k ≤ 5)
    · rw [decide_eq_true h, if_pos rfl, if_pos h]
    · rw [decide_eq_false h, if_neg (by decide), if_neg h]
      simp only
      by_cases h1 : n < 1
      · rw [if_pos (by simpa using h1)]; exact j3 _ (by rw [decide_eq_true]; omega)
      · rw [if_neg (by simpa using h1)]
        by_cases h2 : 255 < n
        · rw [if_pos (by simpa using h2)]; exact j3 _ (by rw [decide_eq_true]; omega)
        · rw [if_neg (by simpa using h2)]
          by_cases h3 : i < 0
          · rw [if_pos (by simpa using h3)]; exact j3 _ (by rw [decide_eq_true]; omega)
          · rw [if_neg (by simpa using h3)]; exact j3 _ (by rw [decide_eq_decide]; omega)
  have j1 : ∀ b : Bool, b = decide (¬ (1 ≤ v ∧ v ≤ 2)) → ref07_Check_j1 (v, k, q, i, n) b (headE (v, k, q, i, n)) := by
    rintro b rfl
    unfold ref07_Check_j1 headE
    simp only
    by_cases h : ¬ (1 ≤ v ∧ v ≤ 2)
    · rw [decide_eq_true h, if_pos rfl, if_pos h]
    · rw [decide_eq_false h, if_neg (by decide), if_neg h]
      by_cases h1 : k < 1
      · rw [if_pos (by simpa using h1)]; exact j2 _ (by rw [decide_eq_true]; omega)
      · rw [if_neg (by simpa using h1)]; exact j2 _ (by rw [decide_eq_decide]; omega)
  unfold ref07_Check
  simp only
  by_cases h : v = 1
  · rw [if_neg (by simp [h])]; exact j1 _ (by rw [decide_eq_false]; omega)
  · rw [if_pos (by simp [h])]
    refine j1 _ ?_
    by_cases h2 : v = 2
    · rw [h2]; simp
    · rw [decide_eq_false h2, decide_eq_true (by omega)]; rfl
theorem rhparse_ok {l : List Int} (hl : Byt l) (h8 : l.length = 8) : ref07_Parse l (parseH l) := by
  unfold ref07_Parse
  rw [if_neg (by simp [h8]), if_neg (by simp [h8])]
  have ht4 : Byt ((l.drop 2).take 4) := (hl.drop 2).take 4
  have hl4 : ((l.drop 2).take 4).length = 4 := by rw [List.length_take, List.length_drop]; omega
  refine ⟨leV ((l.drop 2).take 4), ?_, ?_⟩
  · have := loops_count (step := ref07_Parse_l2 l) (fun k => (leV (((l.drop 2).take 4).drop (4 - k)), 5 - (k : Int))) 4 (e := leV ((l.drop 2).take 4)) (fun k hk => ?_) ?_
    · have e0 : leV (((l.drop 2).take 4).drop 4) = 0 := by rw [List.drop_eq_nil_of_le (by omega)]; rfl
      simpa [e0, leV] using this
    · unfold ref07_Parse_l2
      have hc := byt_at ht4 (show 3 - k < ((l.drop 2).take 4).length by omega)
      have hv := leV_bound (((l.drop 2).take 4).drop (4 - k)) (ht4.drop _)
      have hp2 : 256 ^ (((l.drop 2).take 4).drop (4 - k)).length ≤ 256 ^ 3 := Nat.pow_le_pow_right (by omega) (by rw [List.length_drop]; omega)
      simp only
      rw [if_pos (by simp; omega)]
      refine ⟨((l.drop 2).take 4)[3 - k]'(by omega), idx_at (k := 5 - k) (by omega) ?_, ?_⟩
      · rw [List.getElem_take, List.getElem_drop, List.getElem?_eq_getElem (by omega)]
        congr 2; omega
      · rw [w32_small (n := 256 * _) (by omega) (by omega), w32_small (n := ((l.drop 2).take 4)[3 - k]'(by omega)) (by omega) (by omega), w32_small (by omega) (by omega), w_small (by omega) (by omega), show 4 - (k + 1) = 3 - k by omega, leV_drop (show 3 - k < ((l.drop 2).take 4).length by omega), show 3 - k + 1 = 4 - k by omega]
        congr 2 <;> omega
    · unfold ref07_Parse_l2
      rw [if_neg (by simp)]; simp
  · have g : ∀ k (hk : k < 8), l.getD k 0 = l[k]'(by omega) := fun k hk => by rw [List.getD_eq_getElem?_getD, List.getElem?_eq_getElem (by omega)]; rfl
    have wg : ∀ k (hk : k < 8), IntKind.i64.wrap (l[k]'(by omega)) = l.getD k 0 := fun k hk => by
      have := byt_at hl (show k < l.length by omega)
      rw [g k hk, w_small (by omega) (by omega)]
    refine ⟨l[0]'(by omega), idx_of (k := 0) (by omega), l[1]'(by omega), idx_of (k := 1) (by omega), l[6]'(by omega), idx_of (k := 6) (by omega), l[7]'(by omega), idx_of (k := 7) (by omega), ?_⟩
    rw [wg 0 (by omega), wg 1 (by omega), wg 6 (by omega), wg 7 (by omega)]
    refine ⟨_, rhcheck_ok (hdOf l), ?_⟩
    unfold parseH
    by_cases he : headE (hdOf l) = 0
    · rw [if_pos he, if_neg (by simp [he])]; rfl
    · rw [if_neg he, if_pos (by simp [he])]
      exact ⟨_, rhcheck_ok (hdOf l), rfl⟩


end Go.Rel
/-! Plain laws: the frame of a segment. -/
namespace Go.Rel
open Go Go.Eng Go.Pl
theorem rblocks_ok {l : List Int} (hlen : l.length < 1073741824) : ref05_Blocks l (cb [] l false) := by
  have key := loops_inv (step := ref05_Blocks_l3 l) (s := ([], [], false, 0)) (fun k (s : List (List Int) × List Int × Bool × Int) => s.2.2.2 = (k : Int) ∧ s.1 ++ cb s.2.1 (l.drop k) s.2.2.1 = cb [] l false ∧ s.2.1.length < 254 ∧ s.1.length ≤ k) (fun e => ref05_Blocks_j1 e (cb [] l false)) l.length ⟨rfl, by simp, by simp, by simp⟩ ?_ ?_
  · obtain ⟨e, h1, h2⟩ := key; exact ⟨e, h1, h2⟩
  · rintro k ⟨out, now, ended, i⟩ hk ⟨h1, h2, h3, h4⟩
    simp only at h1 h2 h3 h4
    subst h1
    left
    rw [List.drop_eq_getElem_cons hk] at h2
    simp only [cb] at h2
    have wi : IntKind.i64.wrap ((k : Int) + 1) = ((k + 1 : Nat) : Int) := by rw [w_small (by omega) (by omega)]; rfl
    by_cases h0 : l[k] = 0
    · rw [if_pos h0] at h2
      refine ⟨(out ++ [now], [], false, ((k + 1 : Nat) : Int)), ?_, rfl, by simpa using h2, by simp, by simp; omega⟩
      unfold ref05_Blocks_l3
      simp only
      rw [if_pos (by simp; omega)]
      refine ⟨l[k], idx_of hk, ?_⟩
      rw [if_pos (by simpa using h0)]
      simp only [List.length_cons, List.length_nil]
      refine ⟨by omega, by omega, ?_⟩
      unfold ref05_Blocks_j4
      simp only
      rw [wi]
    · rw [if_neg h0] at h2
      by_cases h5 : now.length + 1 = 254
      · rw [if_pos h5] at h2
        refine ⟨(out ++ [now ++ [l[k]]], [], true, ((k + 1 : Nat) : Int)), ?_, rfl, by simpa using h2, by simp, by simp; omega⟩
        unfold ref05_Blocks_l3
        simp only
        rw [if_pos (by simp; omega)]
        refine ⟨l[k], idx_of hk, ?_⟩
        rw [if_neg (by simpa using h0)]
        simp only [List.length_cons, List.length_nil, List.length_append]
        refine ⟨l[k], idx_of hk, by omega, by omega, ?_⟩
        rw [if_pos (by simp; omega)]
        refine ⟨by omega, by omega, ?_⟩
        unfold ref05_Blocks_j4
        simp only
        rw [wi]
      · rw [if_neg h5] at h2
        refine ⟨(out, now ++ [l[k]], false, ((k + 1 : Nat) : Int)), ?_, rfl, h2, by simp; omega, by simp; omega⟩
        unfold ref05_Blocks_l3
        simp only
        rw [if_pos (by simp; omega)]
        refine ⟨l[k], idx_of hk, ?_⟩
        rw [if_neg (by simpa using h0)]
        simp only [List.length_cons, List.length_nil, List.length_append]
        refine ⟨l[k], idx_of hk, by omega, by omega, ?_⟩
        rw [if_neg (by simp; omega)]
        unfold ref05_Blocks_j4
        simp only
        rw [wi]
  · rintro ⟨out, now, ended, i⟩ ⟨h1, h2, h3, h4⟩
    simp only at h1 h2 h3 h4
    refine ⟨(out, now, ended), ?_, ?_⟩
    · unfold ref05_Blocks_l3
      rw [if_neg (by simp [h1])]
    · rw [List.drop_length] at h2
      unfold ref05_Blocks_j1
      cases ended with
      | true =>
        rw [if_neg (by simp)]
        simp only [cb, if_true, List.append_nil] at h2
        exact h2.symm
      | false =>
        rw [if_pos (by simp)]
        simp only [cb, Bool.false_eq_true, if_false] at h2
        simp only [List.length_cons, List.length_nil]
        exact ⟨by omega, by omega, h2.symm⟩
theorem rencode_ok {l : List Int} (hlen : l.length < 1073741824) : ref05_Encode l (encB l) := by
  refine ⟨_, rblocks_ok hlen, encB l, ?_, rfl⟩
  have hs := cb_sum l [] false
  have ha := cb_all l [] false (by simp)
  unfold encB
  generalize cb [] l false = L at hs ha
  have hf : ∀ k, k ≤ L.length → ((L.take k).map enc1).flatten.length ≤ (L.map List.length).sum + L.length := by
    intro k hk
    have h1 := flat_len L
    have h2 : (L.map enc1).flatten = ((L.take k).map enc1).flatten ++ ((L.drop k).map enc1).flatten := by
      rw [← List.flatten_append, ← List.map_append, List.take_append_drop]
    rw [h2, List.length_append] at h1; omega
  refine loops_count (step := ref05_Encode_l2 L) (fun k => (((L.take k).map enc1).flatten, (k : Int))) L.length (fun k hk => ?_) ?_
  · have h1 := hf k (by omega)
    have h2 := ha L[k] (List.getElem_mem _)
    simp only [List.length_nil, Nat.zero_add] at hs
    unfold ref05_Encode_l2
    simp only
    rw [if_pos (by simp; omega)]
    simp only [List.length_cons, List.length_nil, List.length_append]
    refine ⟨L[k], idx_of hk, by omega, by omega, L[k], idx_of hk, by omega, by omega, ?_⟩
    have e1 : IntKind.u8.wrap (IntKind.i64.wrap ((L[k].length : Int) + 1)) = (L[k].length : Int) + 1 := by rw [w_small (by omega) (by omega), w_u8]; omega
    rw [e1, w_small (by omega) (by omega), take_map _ hk, List.flatten_append]
    simp [enc1]
  · unfold ref05_Encode_l2
    simp only
    rw [if_neg (by simp), List.take_length]
/-- One code and its block. -/
theorem rinner_ok {b : List Int} (hb : Byt b) (hlen : b.length < 1073741824) {at_ : Nat} (ha : at_ < b.length) {out : List Int} (ho : out.length < 1073741824) : Loops (ref05_Decode_l5 b (out, (at_ : Int)) b[at_]) (out, 1) (out ++ (b.drop (at_ + 1)).take (b[at_] - 1).toNat) := by
  have hc := byt_at hb ha
  have hw : IntKind.i64.wrap b[at_] = b[at_] := w_small (by omega) (by omega)
  have htk : (b.drop (at_ + 1)).take (b[at_] - 1).toNat = (b.drop (at_ + 1)).take (min (b[at_] - 1).toNat (b.length - at_ - 1)) := by
    by_cases h : (b[at_] - 1).toNat ≤ b.length - at_ - 1
    · rw [Nat.min_eq_left h]
    · rw [Nat.min_eq_right (by omega), List.take_of_length_le (by rw [List.length_drop]; omega), List.take_of_length_le (by rw [List.length_drop]; omega)]
  rw [htk]
  have := loops_count (step := ref05_Decode_l5 b (out, (at_ : Int)) b[at_]) (fun k => (out ++ (b.drop (at_ + 1)).take k, ((k + 1 : Nat) : Int))) (min (b[at_] - 1).toNat (b.length - at_ - 1)) (e := out ++ (b.drop (at_ + 1)).take (min (b[at_] - 1).toNat (b.length - at_ - 1))) (fun k hk => ?_) ?_
  · simpa using this
  · unfold ref05_Decode_l5
    rw [hw]
    simp only
    rw [if_pos (by simp; omega)]
    unfold ref05_Decode_j6
    simp only
    have e2 : IntKind.i64.wrap ((at_ : Int) + ((k + 1 : Nat) : Int)) = ((at_ + 1 + k : Nat) : Int) := by rw [w_small (by omega) (by omega)]; omega
    rw [e2, if_pos (by simp; omega)]
    refine ⟨b[at_ + 1 + k]'(by omega), idx_of (by omega), ?_⟩
    simp only [List.length_append, List.length_take, List.length_drop, List.length_cons, List.length_nil]
    refine ⟨by omega, by omega, ?_⟩
    rw [w_small (by omega) (by omega), List.take_succ_eq_append_getElem (show k < (b.drop (at_ + 1)).length by rw [List.length_drop]; omega), List.getElem_drop]
    simp
  · unfold ref05_Decode_l5
    rw [hw]
    simp only
    have fin : ref05_Decode_j6 b (out, (at_ : Int)) (out ++ (b.drop (at_ + 1)).take (min (b[at_] - 1).toNat (b.length - at_ - 1)), ((min (b[at_] - 1).toNat (b.length - at_ - 1) + 1 : Nat) : Int)) false (.inr (out ++ (b.drop (at_ + 1)).take (min (b[at_] - 1).toNat (b.length - at_ - 1)))) := by
      unfold ref05_Decode_j6
      rw [if_neg (by decide)]
    by_cases h : (((min (b[at_] - 1).toNat (b.length - at_ - 1) + 1 : Nat) : Int)) < b[at_]
    · rw [if_pos (by simpa using h)]
      have e3 : decide (IntKind.i64.wrap ((at_ : Int) + ((min (b[at_] - 1).toNat (b.length - at_ - 1) + 1 : Nat) : Int)) < (b.length : Int)) = false := by
        rw [w_small (by omega) (by omega), decide_eq_false]; omega
      rw [e3]; exact fin
    · rw [if_neg (by simpa using h)]; exact fin
theorem rstep_ok {b : List Int} (hb : Byt b) (hlen : b.length < 1073741824) {at_ : Nat} (ha : at_ < b.length) {out : List Int} (ho : out.length < 1073741824) :
    ref05_Decode_l2 b (out, (at_ : Int)) (if b[at_] = 0 then .inr (.inr ([], 12)) else .inl (out ++ (b.drop (at_ + 1)).take (b[at_] - 1).toNat ++ (if b[at_] < 255 ∧ (at_ : Int) + b[at_] < b.length then [0] else []), (at_ : Int) + b[at_])) := by
  have hc := byt_at hb ha
  have hw : IntKind.i64.wrap b[at_] = b[at_] := w_small (by omega) (by omega)
  have hw2 : IntKind.i64.wrap ((at_ : Int) + b[at_]) = (at_ : Int) + b[at_] := w_small (by omega) (by omega)
  unfold ref05_Decode_l2
  simp only
  rw [if_pos (by simp; omega)]
  refine ⟨b[at_], idx_of ha, _, rinner_ok hb hlen ha ho, ?_⟩
  have hl : (out ++ (b.drop (at_ + 1)).take (b[at_] - 1).toNat).length < 2147483648 := by
    rw [List.length_append, List.length_take]; omega
  generalize out ++ (b.drop (at_ + 1)).take (b[at_] - 1).toNat = o2 at hl
  unfold ref05_Decode_j3
  simp only [hw, hw2]
  by_cases h0 : b[at_] = 0
  · rw [if_pos h0, if_pos (by simpa using h0)]
  · rw [if_neg h0, if_neg (by simpa using h0)]
    by_cases h1 : b[at_] < 255
    · rw [if_pos (by simpa using h1)]
      unfold ref05_Decode_j4
      by_cases h2 : (at_ : Int) + b[at_] < b.length
      · have hz : (if b[at_] < 255 ∧ (at_ : Int) + b[at_] < b.length then ([0] : List Int) else []) = [0] := if_pos ⟨h1, h2⟩
        rw [hz, if_pos (by simpa using h2)]
        simp only [hw, hw2, List.length_cons, List.length_nil]
        exact ⟨by omega, by omega, trivial⟩
      · have hz : (if b[at_] < 255 ∧ (at_ : Int) + b[at_] < b.length then ([0] : List Int) else []) = [] := if_neg (fun h => h2 h.2)
        rw [hz, if_neg (by simpa using h2)]
        simp only [hw, hw2, List.append_nil]
    · have hz : (if b[at_] < 255 ∧ (at_ : Int) + b[at_] < b.length then ([0] : List Int) else []) = [] := if_neg (fun h => h1 h.1)
      rw [hz, if_neg (by simpa using h1)]
      unfold ref05_Decode_j4
      rw [if_neg (by decide)]
      simp only [hw, hw2, List.append_nil]
theorem rloop_any {b : List Int} (hb : Byt b) (hlen : b.length < 268435456) : ∃ e, Loops (ref05_Decode_l2 b) ([], 0) e ∧ (e = .inr ([], 12) ∨ ∃ o : List Int, e = .inl o ∧ o.length < 1073741824) := by
  refine loops_inv (step := ref05_Decode_l2 b) (fun k (s : List Int × Int) => ∃ at_ : Nat, s.2 = (at_ : Int) ∧ k ≤ at_ ∧ at_ ≤ b.length + 255 ∧ s.1.length ≤ at_) _ b.length ⟨0, rfl, Nat.le_refl _, by omega, by simp⟩ ?_ ?_
  · rintro k ⟨out, i⟩ hk ⟨at_, h1, h2, h3, h4⟩
    simp only at h1 h4
    subst h1
    by_cases ha : at_ < b.length
    · have hs := rstep_ok hb (by omega) ha (out := out) (by omega)
      have hc := byt_at hb ha
      by_cases h0 : b[at_] = 0
      · right
        rw [if_pos h0] at hs
        exact ⟨_, hs, .inl rfl⟩
      · left
        rw [if_neg h0] at hs
        refine ⟨_, hs, (at_ + b[at_].toNat), by simp only; omega, by omega, by omega, ?_⟩
        have : (if b[at_] < 255 ∧ (at_ : Int) + b[at_] < b.length then ([0] : List Int) else []).length ≤ 1 := by split <;> simp
        simp only [List.length_append, List.length_take]
        omega
    · right
      refine ⟨.inl out, ?_, .inr ⟨out, rfl, by omega⟩⟩
      unfold ref05_Decode_l2
      rw [if_neg (by simp; omega)]
  · rintro ⟨out, i⟩ ⟨at_, h1, h2, h3, h4⟩
    simp only at h1 h4
    subst h1
    refine ⟨.inl out, ?_, .inr ⟨out, rfl, by omega⟩⟩
    unfold ref05_Decode_l2
    rw [if_neg (by simp; omega)]
theorem flatB_cons (p : List Int) (L : List (List Int)) : flatB (p :: L) = ((p.length : Int) + 1) :: (p ++ flatB L) := by simp [flatB, enc1]
theorem rloop_enc {b : List Int} (hb : Byt b) (hlen : b.length < 268435456) : ∀ (L : List (List Int)) (pre out : List Int), (∀ p ∈ L, p.length ≤ 254) → b = pre ++ flatB L → out.length ≤ pre.length → Loops (ref05_Decode_l2 b) (out, (pre.length : Int)) (.inl (out ++ joinB L))
  | [], pre, out, _, hp, _ => by
    refine .done ?_
    unfold ref05_Decode_l2
    have : b.length = pre.length := by rw [hp]; simp [flatB]
    rw [if_neg (by simp; omega)]
    simp [joinB]
  | p :: L, pre, out, hL, hp, ho => by
    have hbl : b.length = pre.length + 1 + p.length + (flatB L).length := by rw [hp, flatB_cons]; simp only [List.length_append, List.length_cons]; omega
    have ha : pre.length < b.length := by omega
    have hc : b[pre.length] = (p.length : Int) + 1 := by
      have h1 : b[pre.length]? = some ((p.length : Int) + 1) := by rw [hp, flatB_cons]; simp
      rw [List.getElem?_eq_getElem ha] at h1
      simpa using h1
    have hpl := hL p List.mem_cons_self
    have hs := rstep_ok hb (by omega) ha (out := out) (by omega)
    rw [hc, if_neg (by omega)] at hs
    have ht : (b.drop (pre.length + 1)).take ((p.length : Int) + 1 - 1).toNat = p := by
      rw [show ((p.length : Int) + 1 - 1).toNat = p.length by omega, hp, flatB_cons, ← List.drop_drop, List.drop_left, List.drop_succ_cons, List.drop_zero, List.take_left]
    rw [ht] at hs
    have e2 : (pre.length : Int) + ((p.length : Int) + 1) = ((pre ++ (((p.length : Int) + 1) :: p)).length : Int) := by simp only [List.length_append, List.length_cons]; omega
    rw [e2] at hs
    have ih := rloop_enc hb hlen L (pre ++ (((p.length : Int) + 1) :: p)) (out ++ p ++ (if (p.length : Int) + 1 < 255 ∧ ((pre ++ (((p.length : Int) + 1) :: p)).length : Int) < b.length then [0] else [])) (fun q hq => hL q (List.mem_cons_of_mem _ hq)) (by rw [hp, flatB_cons]; simp) (by
      have : (if (p.length : Int) + 1 < 255 ∧ ((pre ++ (((p.length : Int) + 1) :: p)).length : Int) < b.length then ([0] : List Int) else []).length ≤ 1 := by split <;> simp
      simp only [List.length_append, List.length_cons] at this ⊢; omega)
    refine .next hs ?_
    have hj : out ++ p ++ (if (p.length : Int) + 1 < 255 ∧ ((pre ++ (((p.length : Int) + 1) :: p)).length : Int) < b.length then [0] else []) ++ joinB L = out ++ joinB (p :: L) := by
      cases L with
      | nil =>
        have : ¬ ((p.length : Int) + 1 < 255 ∧ ((pre ++ (((p.length : Int) + 1) :: p)).length : Int) < b.length) := by
          rintro ⟨_, h⟩
          rw [hbl] at h
          simp [flatB] at h; omega
        rw [if_neg this]; simp [joinB]
      | cons q L =>
        have hq : (((pre ++ (((p.length : Int) + 1) :: p)).length : Int) < b.length) := by
          rw [hbl, flatB_cons]; simp; omega
        simp only [joinB]
        by_cases h : p.length = 254
        · rw [if_neg (fun h2 => by omega), if_pos h]; simp
        · rw [if_pos ⟨by omega, hq⟩, if_neg h]; simp
    rw [hj] at ih
    exact ih
theorem enc_len (x : List Int) : x.length + 1 ≤ (encB x).length := by
  have h := join_len (cb [] x false) (cb_ne x [])
  rw [(cb_ok (x.length + 1) x (by omega)).2.1] at h; exact h
theorem rdecode_ok {b : List Int} (hb : Byt b) (hlen : b.length < 268435456) : ref05_Decode b (decR b) := by
  unfold decR
  cases hd : decB b with
  | some x =>
    have he := dec_some hb hd
    obtain ⟨h1, h2, _⟩ := cb_ok (x.length + 1) x (by omega)
    have hl := rloop_enc hb hlen (cb [] x false) [] [] (fun p hp => (h1 p hp).2) (by rw [List.nil_append]; exact he.symm) (by simp)
    rw [h2] at hl
    refine ⟨.inl x, by simpa using hl, ?_⟩
    have hxl := enc_len x
    rw [he] at hxl
    refine ⟨_, rencode_ok (by omega), _, same_ok (by rw [he]; omega), ?_⟩
    rw [he, decide_eq_true rfl, if_neg (by decide)]
  | none =>
    obtain ⟨e, h1, h2⟩ := rloop_any hb hlen
    rcases h2 with rfl | ⟨o, rfl, ho⟩
    · exact ⟨_, h1, rfl⟩
    · refine ⟨_, h1, ?_⟩
      have hne : ¬ encB o = b := by
        intro h; rw [← h, dec_enc] at hd; cases hd
      have h3 : (encB o).length < 4611686018427387904 := by
        unfold encB
        have := cb_sum o [] false
        rw [flat_len]; simp at this; omega
      refine ⟨_, rencode_ok ho, _, same_ok h3, ?_⟩
      rw [decide_eq_false hne, if_pos (by decide)]

/-! ### frames -/
abbrev Fm := Hd × List Int
def noF : Fm := ((0, 0, 0, 0, 0), [])
def unpB (s : List Int) : Fm × Int := if 255 < s.length then (noF, 2) else if (decR s).2 ≠ 0 then (noF, (decR s).2) else if (decR s).1.length ≤ 12 then (noF, 13) else
  if (openB (decR s).1).2 ≠ 0 then (noF, (openB (decR s).1).2) else if (parseH ((openB (decR s).1).1.take 8)).2 ≠ 0 then (noF, (parseH ((openB (decR s).1).1.take 8)).2) else (((parseH ((openB (decR s).1).1.take 8)).1, (openB (decR s).1).1.drop 8), 0)
theorem decR_ok {s : List Int} (hs : Byt s) (h : (decR s).2 = 0) : encB (decR s).1 = s ∧ Byt (decR s).1 := by
  unfold decR at h ⊢
  cases hd : decB s with
  | none => rw [hd] at h; cases h
  | some x =>
    simp only
    refine ⟨dec_some hs hd, ?_⟩
    -- its bytes are among those
    have : ∀ (L : List (List Int)), (∀ p ∈ L, Byt p) → Byt (joinB L) := by
      intro L
      induction L with
      | nil => intro _ x hx; cases hx
      | cons p L ih =>
        intro hL
        cases L with
        | nil => exact hL p List.mem_cons_self
        | cons q L =>
          simp only [joinB]
          refine Byt.app (Byt.app (hL p List.mem_cons_self) ?_) (ih fun r hr => hL r (List.mem_cons_of_mem _ hr))
          intro x hx
          split at hx
          · cases hx
          · simp at hx; omega
    obtain ⟨_, h2, _⟩ := cb_ok (x.length + 1) x (by omega)
    rw [← h2]
    refine this _ fun p hp => ?_
    have he := dec_some hs hd
    intro c hc
    refine hs c ?_
    rw [← he]
    unfold encB
    exact List.mem_flatten.2 ⟨enc1 p, List.mem_map_of_mem hp, List.mem_cons_of_mem _ hc⟩
theorem drop8 {x : List Int} (_h : 8 ≤ x.length) : (x.drop (0 : Int).toNat).take ((8 : Int) - 0).toNat = x.take 8 ∧ (x.drop (8 : Int).toNat).take (((x.length : Int) : Int) - 8).toNat = x.drop 8 := by
  refine ⟨rfl, ?_⟩
  rw [show (8 : Int).toNat = 8 from rfl, List.take_of_length_le]
  rw [List.length_drop]; omega
theorem unpack_ok {t : List Int} (ht : IsTab t) {s : List Int} (hs : Byt s) (hl : s.length < 268435456) : frame_Codec_Unpack t s (unpB s) := by
  unfold frame_Codec_Unpack unpB
  by_cases h1 : 255 < s.length
  · rw [if_pos (by simp; omega), if_pos h1]; rfl
  · rw [if_neg (by simp; omega), if_neg h1]
    refine ⟨_, decode_ok hs hl, ?_⟩
    by_cases h2 : (decR s).2 = 0
    · rw [if_neg (show ¬ ((decR s).2 ≠ 0) from fun e => e h2), if_neg (by simpa using h2)]
      obtain ⟨he, hb⟩ := decR_ok hs h2
      have hbl : (decR s).1.length < 256 := by have := enc_len (decR s).1; rw [he] at this; omega
      by_cases h3 : (decR s).1.length ≤ 12
      · rw [if_pos h3, if_pos (by simp; omega)]; rfl
      · rw [if_neg h3, if_neg (by simp; omega)]
        refine ⟨_, copen_ok ht hb (by omega), ?_⟩
        by_cases h4 : (openB (decR s).1).2 = 0
        · rw [if_neg (by simpa using h4), if_neg (by simpa using h4)]
          obtain ⟨_, h5, _⟩ := openB_ok' h4
          have hxb : Byt (openB (decR s).1).1 := by rw [h5]; exact hb.take _
          have hxl : 8 ≤ (openB (decR s).1).1.length := by rw [h5, List.length_take]; omega
          obtain ⟨e1, e2⟩ := drop8 hxl
          rw [e1, e2]
          refine ⟨by omega, _, hparse_ok (hxb.take 8) (by rw [List.length_take]; omega), ?_⟩
          by_cases h6 : (parseH ((openB (decR s).1).1.take 8)).2 = 0
          · rw [if_neg (by simpa using h6), if_neg (by simpa using h6)]
            exact ⟨by omega, Int.le_refl _, rfl⟩
          · rw [if_pos (by simpa using h6), if_pos h6]; rfl
        · rw [if_pos (by simpa using h4), if_pos h4]; rfl
    · rw [if_pos (by simpa using h2), if_pos h2]; rfl
theorem runpack_ok {s : List Int} (hs : Byt s) (hl : s.length < 268435456) : ref08_Unpack s (unpB s) := by
  unfold ref08_Unpack unpB
  by_cases h1 : 255 < s.length
  · rw [if_pos (by simp; omega), if_pos h1]; rfl
  · rw [if_neg (by simp; omega), if_neg h1]
    refine ⟨_, rdecode_ok hs hl, ?_⟩
    by_cases h2 : (decR s).2 = 0
    · rw [if_neg (show ¬ ((decR s).2 ≠ 0) from fun e => e h2), if_neg (by simpa using h2)]
      obtain ⟨he, hb⟩ := decR_ok hs h2
      have hbl : (decR s).1.length < 256 := by have := enc_len (decR s).1; rw [he] at this; omega
      by_cases h3 : (decR s).1.length ≤ 12
      · rw [if_pos h3, if_pos (by simp; omega)]; rfl
      · rw [if_neg h3, if_neg (by simp; omega)]
        refine ⟨_, ropen_ok hb (by omega), ?_⟩
        by_cases h4 : (openB (decR s).1).2 = 0
        · rw [if_neg (by simpa using h4), if_neg (by simpa using h4)]
          obtain ⟨_, h5, _⟩ := openB_ok' h4
          have hxb : Byt (openB (decR s).1).1 := by rw [h5]; exact hb.take _
          have hxl : 8 ≤ (openB (decR s).1).1.length := by rw [h5, List.length_take]; omega
          have hxl2 : (openB (decR s).1).1.length < 256 := by rw [h5, List.length_take]; omega
          obtain ⟨e1, e2⟩ := drop8 hxl
          rw [e1, e2]
          refine ⟨by omega, _, rhparse_ok (hxb.take 8) (by rw [List.length_take]; omega), ?_⟩
          by_cases h6 : (parseH ((openB (decR s).1).1.take 8)).2 = 0
          · rw [if_neg (by simpa using h6), if_neg (by simpa using h6)]
            simp only [List.length_nil, List.nil_append, List.length_drop]
            exact ⟨by omega, Int.le_refl _, by omega, by omega, trivial⟩
          · rw [if_pos (by simpa using h6), if_pos h6]; rfl
        · rw [if_pos (by simpa using h4), if_pos h4]; rfl
    · rw [if_pos (by simpa using h2), if_pos h2]; rfl
end Go.Rel
/-! Plain law: what the segments of any bytes are. -/
namespace Go.Rel
open Go Go.Eng Go.Pl
/-- The segments of bytes, each with its place: what a segment has so far, what is left. -/
def segP : Nat → List Int → List Int → List (Int × List Int)
  | _, _, [] => []
  | i, now, c :: l => if c ≠ 0 then segP (i + 1) (now ++ [c]) l else if now = [] then segP (i + 1) [] l else ((i : Int) - (now.length : Int), now) :: segP (i + 1) [] l
theorem segments_ok {b : List Int} (hl : b.length < 1073741824) : Itr (fence_Segments_1 b) (segP 0 [] b) := by
  intro S Y s s' hr
  refine ⟨(s', ()), ?_, rfl⟩
  have key : ∀ (m i st : Nat) (now : List Int) (s : S), i + m = b.length → st ≤ i → (b.drop st).take (i - st) = now → Run Y (segP i now (b.drop i)) s s' → Loops (fence_Segments_1_l1 S Y b) (s, (st : Int), (i : Int)) (s', ()) := by
    intro m
    induction m with
    | zero =>
      intro i st now s hi _ _ hr
      rw [List.drop_eq_nil_of_le (by omega)] at hr
      cases hr
      refine .done ?_
      unfold fence_Segments_1_l1
      rw [if_neg (by simp; omega)]
    | succ m ih =>
      intro i st now s hi hst hnow hr
      have hib : i < b.length := by omega
      rw [List.drop_eq_getElem_cons hib] at hr
      have wi : IntKind.i64.wrap ((i : Int) + 1) = ((i + 1 : Nat) : Int) := by rw [w_small (by omega) (by omega)]; rfl
      have hnl : now.length = i - st := by rw [← hnow, List.length_take, List.length_drop]; omega
      have e0 : (b.drop (st : Int).toNat).take (((i : Int) : Int) - (st : Int)).toNat = now := by
        rw [Int.toNat_natCast, ← hnow]; congr 1; omega
      simp only [segP] at hr
      by_cases h0 : b[i] = 0
      · rw [if_neg (by simpa using h0)] at hr
        by_cases hn : now = []
        · rw [if_pos hn] at hr
          subst hn
          refine .next (s' := (s, ((i + 1 : Nat) : Int), ((i + 1 : Nat) : Int))) ?_ (ih (i + 1) (i + 1) [] s (by omega) (Nat.le_refl _) (by simp) hr)
          unfold fence_Segments_1_l1
          simp only
          rw [if_pos (by simp; omega)]
          refine ⟨b[i], idx_of hib, ?_⟩
          rw [if_neg (by simp [h0]), if_neg (by simp at hnl; simp; omega)]
          unfold fence_Segments_1_j3
          rw [if_neg (by simp)]
          unfold fence_Segments_1_j2
          simp only
          rw [wi]
        · rw [if_neg hn] at hr
          have hst2 : st < i := by
            have : now.length ≠ 0 := fun h => hn (List.eq_nil_of_length_eq_zero h)
            omega
          have hp : (i : Int) - (now.length : Int) = (st : Int) := by omega
          rw [hp] at hr
          have stp : ∀ y u, Y ((st : Int), now) s (y, u) → fence_Segments_1_l1 S Y b (s, (st : Int), (i : Int)) (if y = true then .inl (u, ((i + 1 : Nat) : Int), ((i + 1 : Nat) : Int)) else .inr (u, ())) := by
            intro y u hy
            unfold fence_Segments_1_l1
            simp only
            rw [if_pos (by simp; omega)]
            refine ⟨b[i], idx_of hib, ?_⟩
            rw [if_neg (by simp [h0]), if_pos (by simp; omega), e0]
            simp only [List.length_nil, List.nil_append]
            refine ⟨by omega, by omega, by omega, Int.le_refl _, by omega, by omega, by omega, y, u, hy, ?_⟩
            unfold fence_Segments_1_j3
            cases y with
            | true =>
              rw [if_neg (by simp)]
              unfold fence_Segments_1_j2
              simp only
              rw [wi]; rfl
            | false => rw [if_pos (by simp)]; rfl
          cases hr with
          | go h h' => exact .next (stp true _ h) (ih (i + 1) (i + 1) [] _ (by omega) (Nat.le_refl _) (by simp) h')
          | stop h => exact .done (stp false _ h)
      · rw [if_pos h0] at hr
        refine .next (s' := (s, (st : Int), ((i + 1 : Nat) : Int))) ?_ (ih (i + 1) st (now ++ [b[i]]) s (by omega) (by omega) ?_ hr)
        · unfold fence_Segments_1_l1
          simp only
          rw [if_pos (by simp; omega)]
          refine ⟨b[i], idx_of hib, ?_⟩
          rw [if_pos (by simpa using h0)]
          unfold fence_Segments_1_j2
          simp only
          rw [wi]
        · rw [show i + 1 - st = (i - st) + 1 by omega, List.take_succ_eq_append_getElem (show i - st < (b.drop st).length by rw [List.length_drop]; omega), hnow, List.getElem_drop]
          congr 3; omega
  exact key b.length 0 0 [] s (by omega) (Nat.le_refl _) (by simp) (by simpa using hr)
theorem segP_sum : ∀ (l : List Int) (i : Nat) (now : List Int), ((segP i now l).map (fun x => x.2.length)).sum ≤ now.length + l.length ∧ (segP i now l).length ≤ l.length
  | [], i, now => by simp [segP]
  | c :: l, i, now => by
    unfold segP
    split
    · have := segP_sum l (i + 1) (now ++ [c]); simp at this ⊢; omega
    · split
      · have := segP_sum l (i + 1) []; simp at this ⊢; omega
      · have := segP_sum l (i + 1) []; simp at this ⊢; omega
theorem segP_byt : ∀ (l : List Int) (i : Nat) (now : List Int), Byt l → Byt now → ∀ x ∈ segP i now l, Byt x.2
  | [], i, now, _, _, x, hx => by simp [segP] at hx
  | c :: l, i, now, hl, hn, x, hx => by
    have hl' : Byt l := fun y hy => hl y (List.mem_cons_of_mem _ hy)
    have hc := hl c List.mem_cons_self
    unfold segP at hx
    split at hx
    · exact segP_byt l (i + 1) (now ++ [c]) hl' (Byt.app hn (fun y hy => by simp at hy; subst hy; exact hc)) x hx
    · split at hx
      · exact segP_byt l (i + 1) [] hl' (fun y hy => nomatch hy) x hx
      · rcases List.mem_cons.1 hx with rfl | hx
        · exact hn
        · exact segP_byt l (i + 1) [] hl' (fun y hy => nomatch hy) x hx
theorem mem_le_sum : ∀ {l : List Nat} {x : Nat}, x ∈ l → x ≤ l.sum
  | y :: l, x, h => by
    rcases List.mem_cons.1 h with rfl | h
    · simp
    · have := mem_le_sum h; simp; omega
end Go.Rel
/-! Plain laws: heads of one message; the head of any bytes. -/
namespace Go.Rel
open Go Go.Eng Go.Pl
end Go.Rel
/-! Plain laws: whether any head may be, its bytes and its line. -/
namespace Go.Rel
open Go Go.Eng Go.Pl
end Go.Rel
/-! Plain law: whether any frames may be, and what they are on the wire. -/
namespace Go.Rel
open Go Go.Eng Go.Pl
/-! ### Bytes as strings, and back -/
theorem bints_bstr {l : List Int} (h : Byt l) : bints (bstr l) = l := by
  have key : ∀ (l : List Int) (r : ByteArray), Byt l → bints (l.foldl (fun r n => r.push (UInt8.ofNat n.toNat)) r) = bints r ++ l := by
    intro l
    induction l with
    | nil => intro r _; simp
    | cons x l ih =>
      intro r hx
      rw [List.foldl_cons, ih _ (fun y hy => hx y (List.mem_cons_of_mem _ hy))]
      have h0 := hx x List.mem_cons_self
      have : bints (r.push (UInt8.ofNat x.toNat)) = bints r ++ [x] := by
        simp only [bints, ByteArray.push, Array.toList_push, List.map_append, List.map_cons, List.map_nil]
        congr 2
        rw [UInt8.toNat_ofNat']
        omega
      rw [this, List.append_assoc]; rfl
  have := key l ByteArray.empty h
  simpa [bstr, bints] using this
theorem bstr_inj {a b : List Int} (ha : Byt a) (hb : Byt b) (h : bstr a = bstr b) : a = b := by
  rw [← bints_bstr ha, ← bints_bstr hb, h]
/-! ### Segments -/
/-! ### The document's -/
/-! ### The law -/
end Go.Rel
/-! Plain law: which segments weren't sent. -/
namespace Go.Rel
open Go Go.Eng Go.Pl
theorem mget_mput {K V : Type} [DecidableEq K] (a b : K) (q : V) : ∀ m : List (K × V), mget (mput m a q) b = if b = a then some q else mget m b
  | [] => by simp [mput, mget]
  | p :: m => by
    by_cases h : a = p.1
    · subst h
      simp only [mput, if_pos, mget]
      by_cases hb : b = p.1
      · simp [hb]
      · simp [hb]
    · simp only [mput, if_neg h, mget, mget_mput a b q m]
      by_cases hb : b = p.1
      · have : b ≠ a := fun e => h (by rw [← e, hb])
        rw [if_pos hb, if_neg this, if_pos hb]
      · rw [if_neg hb, if_neg hb]
def kN (m : List (ByteArray × Bool)) (ss : List (List Int)) : List (ByteArray × Bool) := ss.foldl (fun m s => mput m (bstr s) true) m
theorem kN_get : ∀ (ss : List (List Int)) (m : List (ByteArray × Bool)) (a : ByteArray), (mget (kN m ss) a).getD false = ((mget m a).getD false || ss.any fun s => decide (bstr s = a))
  | [], m, a => by simp [kN]
  | s :: ss, m, a => by
    have := kN_get ss (mput m (bstr s) true) a
    rw [show kN m (s :: ss) = kN (mput m (bstr s) true) ss from rfl, this, mget_mput]
    by_cases h : a = bstr s
    · simp [h]
    · have h2 : ¬ bstr s = a := fun e => h e.symm
      simp [h, h2]
/-- The segments that were sent. -/
def segsN (sent : List (List Int)) : List (List Int) := sent.flatMap fun row => (segP 0 [] row).map (·.2)
theorem segsN_byt {sent : List (List Int)} (h : ∀ r ∈ sent, Byt r) : ∀ s ∈ segsN sent, Byt s := by
  intro s hs
  obtain ⟨r, hr, hm⟩ := List.mem_flatMap.1 hs
  obtain ⟨x, hx, rfl⟩ := List.mem_map.1 hm
  exact segP_byt r 0 [] (h r hr) (fun y hy => nomatch hy) x hx
theorem known_get {sent : List (List Int)} (h : ∀ r ∈ sent, Byt r) {s : List Int} (hs : Byt s) : (mget (kN [] (segsN sent)) (bstr s)).getD false = decide (s ∈ segsN sent) := by
  rw [kN_get]
  simp only [mget, Option.getD_none, Bool.false_or]
  have hb := segsN_byt h
  generalize segsN sent = L at hb
  induction L with
  | nil => simp
  | cons x L ih =>
    rw [List.any_cons, ih (fun y hy => hb y (List.mem_cons_of_mem _ hy))]
    have : decide (bstr x = bstr s) = decide (s = x) := by
      by_cases e : s = x
      · simp [e]
      · have : ¬ bstr x = bstr s := fun he => e (bstr_inj (hb x List.mem_cons_self) hs he).symm
        simp [e, this]
    rw [this]
    simp [List.mem_cons]
def fgN (sent : List (List Int)) (x : Int × List Int) : Bool := decide ((unpB x.2).2 = 0) && !decide (x.2 ∈ segsN sent)
/-- The places of a bytes' frames that weren't sent. -/
def forgedN (sent : List (List Int)) (b : List Int) : List Int := ((segP 0 [] b).filter (fgN sent)).map (·.1)
theorem segsN_take {sent : List (List Int)} {k : Nat} (hk : k < sent.length) : segsN (sent.take (k + 1)) = segsN (sent.take k) ++ (segP 0 [] sent[k]).map (·.2) := by
  unfold segsN
  rw [List.take_succ_eq_append_getElem hk, List.flatMap_append]; simp
theorem kN_app (m : List (ByteArray × Bool)) (a b : List (List Int)) : kN m (a ++ b) = kN (kN m a) b := by simp [kN]
theorem fold_kN {S : Type} (s : S) : ∀ (xs : List (Int × List Int)) (m : List (ByteArray × Bool)), xs.foldl (fun (st : S × List (ByteArray × Bool)) x => (st.1, mput st.2 (bstr x.2) true)) (s, m) = (s, kN m (xs.map (·.2)))
  | [], m => rfl
  | x :: xs, m => by
    rw [List.foldl_cons]
    exact fold_kN s xs (mput m (bstr x.2) true)
theorem forged_itr {t : List Int} (ht : IsTab t) {sent : List (List Int)} (hS : RowsOk sent) (hB : ∀ r ∈ sent, Byt r) {b : List Int} (hb : Byt b) (hl : b.length < 268435456) : Itr (noise_Forged_1 t sent b) (forgedN sent b) := by
  intro S Y s s' hr
  have hSn := hS.n
  have hbs := segP_byt b 0 [] hb (fun y hy => nomatch hy)
  have hss := segP_sum b 0 []
  have hlen : ∀ x ∈ segP 0 [] b, x.2.length < 268435456 := by
    intro x hx
    have : x.2.length ≤ ((segP 0 [] b).map (fun x => x.2.length)).sum := mem_le_sum (List.mem_map_of_mem hx)
    simp at hss; omega
  refine ⟨(s, kN [] (segsN sent)), ?_, ?_⟩
  · have := loops_count (step := noise_Forged_1_l4 S Y sent) (e := (s, kN [] (segsN sent))) (fun k => (s, (k : Int), kN [] (segsN (sent.take k)))) sent.length (fun k hk => by
      unfold noise_Forged_1_l4
      simp only
      rw [if_pos (by rw [decide_eq_true_eq]; omega)]
      refine ⟨sent[k], idx_of hk, _, rfl, .inl (s, kN [] (segsN (sent.take (k + 1)))), (), ?_, ?_⟩
      · refine segments_ok (by have := hS.l _ (List.getElem_mem hk); omega) _ _ _ _ (run_yof ?_)
        have := runB_fold (B := noise_Forged_1_l5 S Y) (fun (st : S × List (ByteArray × Bool)) x => (st.1, mput st.2 (bstr x.2) true)) (segP 0 [] sent[k]) (s, kN [] (segsN (sent.take k))) (fun p x q _ => rfl)
        rw [fold_kN, ← kN_app, ← segsN_take hk] at this
        exact this
      · show _ = _
        rw [w_small (by omega) (by omega)]; rfl) (by
      unfold noise_Forged_1_l4
      simp only
      rw [if_neg (by simp), List.take_length])
    simpa [segsN, kN] using this
  · unfold noise_Forged_1_j1
    have go : ∀ (s0 : S) (xs : List (Int × List Int)) (s : S), (∀ x ∈ xs, Byt x.2 ∧ x.2.length < 268435456) → Run Y ((xs.filter (fgN sent)).map (·.1)) s s' → ∃ t', RunB (noise_Forged_1_l2 S Y t (s0, kN [] (segsN sent))) xs s t' ∧ (t' = .inl s' ∨ t' = .inr s') := by
      intro s0 xs
      induction xs with
      | nil => intro s _ h; cases h; exact ⟨_, .nil, .inl rfl⟩
      | cons x xs ih =>
        intro s hx h
        obtain ⟨h1, h2⟩ := hx x List.mem_cons_self
        have hget := known_get hB h1
        have hU := unpack_ok ht h1 h2
        by_cases hf : fgN sent x = true
        · rw [List.filter_cons_of_pos hf, List.map_cons] at h
          have hf' : (unpB x.2).2 = 0 ∧ ¬ x.2 ∈ segsN sent := by simpa [fgN] using hf
          have stp : ∀ y u, Y x.1 s (y, u) → noise_Forged_1_l2 S Y t (s0, kN [] (segsN sent)) x s (if y = true then .inl u else .inr u) := by
            intro y u hy
            refine ⟨_, hU, ?_⟩
            rw [if_neg (by simp [hf'.1])]
            unfold noise_Forged_1_j3
            simp only
            rw [hget, if_neg (by simp [hf'.2])]
            refine ⟨y, u, hy, ?_⟩
            cases y with
            | true => rw [if_neg (by decide)]; rfl
            | false => rw [if_pos (by decide)]; rfl
          cases h with
          | go h h' =>
            obtain ⟨t', h3, h4⟩ := ih _ (fun z hz => hx z (List.mem_cons_of_mem _ hz)) h'
            exact ⟨t', .go (stp true _ h) h3, h4⟩
          | stop h => exact ⟨_, .stop (stp false _ h), .inr rfl⟩
        · rw [List.filter_cons_of_neg hf] at h
          obtain ⟨t', h3, h4⟩ := ih s (fun z hz => hx z (List.mem_cons_of_mem _ hz)) h
          refine ⟨t', .go (s1 := s) ?_ h3, h4⟩
          refine ⟨_, hU, ?_⟩
          by_cases h0 : (unpB x.2).2 = 0
          · have hm : x.2 ∈ segsN sent := by
              apply Classical.byContradiction
              intro hn
              exact hf (by simp [fgN, h0, hn])
            rw [if_neg (by simp [h0])]
            unfold noise_Forged_1_j3
            simp only
            rw [hget, if_pos (by simp [hm])]
            all_goals trivial
          · rw [if_pos (by simp [h0])]
            unfold noise_Forged_1_j3
            simp only
            rw [if_pos trivial]
            all_goals trivial
    obtain ⟨t', h1, h2⟩ := go s _ s (fun x hx => ⟨hbs x hx, hlen x hx⟩) hr
    refine ⟨_, rfl, t', (), segments_ok (by omega) _ _ _ _ (run_yof h1), ?_⟩
    rcases h2 with rfl | rfl <;> rfl
theorem honest_ok {t : List Int} (ht : IsTab t) {sent : List (List Int)} (hS : RowsOk sent) (hB : ∀ r ∈ sent, Byt r) {b : List Int} (hb : Byt b) (hl : b.length < 268435456) : noise_Honest t sent b (decide (forgedN sent b = [])) := by
  have hi := forged_itr ht hS hB hb hl
  refine ⟨_, rfl, ?_⟩
  cases hf : forgedN sent b with
  | nil =>
    rw [hf] at hi
    exact ⟨.inl (), (), hi _ _ _ _ .nil, rfl⟩
  | cons x xs =>
    rw [hf] at hi
    exact ⟨.inr (), (), hi _ _ _ _ (run_yof (.stop rfl)), rfl⟩
theorem split2_ok {b : List Int} (hl : b.length < 1073741824) : ∃ rest, ref06_Split b ((segP 0 [] b).map (·.2), (segP 0 [] b).map (·.1), rest) := by
  have key := loops_inv (step := ref06_Split_l2 b) (s := ([], [], [], 0)) (fun k (s : List (List Int) × List Int × List Int × Int) => s.2.2.2 = (k : Int) ∧ (s.1 ++ (segP k s.2.2.1 (b.drop k)).map (·.2) = (segP 0 [] b).map (·.2) ∧ s.2.1 ++ (segP k s.2.2.1 (b.drop k)).map (·.1) = (segP 0 [] b).map (·.1)) ∧ s.1.length ≤ k ∧ s.2.1.length ≤ k ∧ s.2.2.1.length ≤ k) (fun e => e.1 = (segP 0 [] b).map (·.2) ∧ e.2.1 = (segP 0 [] b).map (·.1)) b.length ⟨rfl, by simp, by simp, by simp, by simp⟩ ?_ ?_
  · obtain ⟨⟨l, ps, rest⟩, h1, h2, h3⟩ := key
    simp only at h2 h3
    subst h2
    subst h3
    exact ⟨rest, _, h1, rfl⟩
  · rintro k ⟨out, ps, now, i⟩ hk ⟨h1, ⟨h2, h2'⟩, h3, h4, h5⟩
    simp only at h1 h2 h2' h3 h4 h5
    subst h1
    left
    have wi : IntKind.i64.wrap ((k : Int) + 1) = ((k + 1 : Nat) : Int) := by rw [w_small (by omega) (by omega)]; rfl
    rw [List.drop_eq_getElem_cons hk] at h2 h2'
    simp only [segP] at h2 h2'
    by_cases h0 : b[k] = 0
    · rw [if_neg (by simpa using h0)] at h2 h2'
      by_cases hn : now = []
      · rw [if_pos hn] at h2 h2'
        subst hn
        refine ⟨(out, ps, [], ((k + 1 : Nat) : Int)), ?_, rfl, ⟨h2, h2'⟩, by simp only; omega, by simp only; omega, by simp⟩
        unfold ref06_Split_l2
        simp only
        rw [if_pos (by simp; omega)]
        refine ⟨b[k], idx_of hk, ?_⟩
        rw [if_neg (by simp [h0]), if_neg (by simp)]
        unfold ref06_Split_j4 ref06_Split_j3
        simp only
        rw [wi]
      · rw [if_neg hn] at h2 h2'
        have hnl : 0 < now.length := List.length_pos_iff.2 hn
        refine ⟨(out ++ [now], ps ++ [(k : Int) - (now.length : Int)], [], ((k + 1 : Nat) : Int)), ?_, rfl, ⟨by simpa using h2, by simpa using h2'⟩, by simp; omega, by simp; omega, by simp⟩
        unfold ref06_Split_l2
        simp only
        rw [if_pos (by simp; omega)]
        refine ⟨b[k], idx_of hk, ?_⟩
        rw [if_neg (by simp [h0]), if_pos (by simp; omega), w_small (n := (k : Int) - (now.length : Int)) (by omega) (by omega)]
        simp only [List.length_cons, List.length_nil]
        refine ⟨by omega, by omega, by omega, by omega, ?_⟩
        unfold ref06_Split_j4 ref06_Split_j3
        simp only
        rw [wi]
    · rw [if_pos h0] at h2 h2'
      refine ⟨(out, ps, now ++ [b[k]], ((k + 1 : Nat) : Int)), ?_, rfl, ⟨h2, h2'⟩, by simp only; omega, by simp only; omega, by simp; omega⟩
      unfold ref06_Split_l2
      simp only
      rw [if_pos (by simp; omega)]
      refine ⟨b[k], idx_of hk, ?_⟩
      rw [if_pos (by simpa using h0)]
      simp only [List.length_cons, List.length_nil]
      refine ⟨b[k], idx_of hk, by omega, by omega, ?_⟩
      unfold ref06_Split_j3
      simp only
      rw [wi]
  · rintro ⟨out, ps, now, i⟩ ⟨h1, ⟨h2, h2'⟩, _⟩
    simp only at h1 h2 h2'
    refine ⟨(out, ps, now), ?_, by simpa [segP] using h2, by simpa [segP] using h2'⟩
    unfold ref06_Split_l2
    rw [if_neg (by simp [h1])]
/-- Is a segment one of a row's, or was it known? -/
theorem rfrow_ok {L : List (List Int)} {P rest : List Int} {k : Nat} (hk : k < L.length) {out : List Int} {row : List (List Int)} {p2 r2 : List Int} (hrow : row.length < 1000000000) (hlen : ∀ x ∈ row, x.length < 1000000000) (kn : Bool) :
    Loops (ref26_Forged_l8 (L, P, rest) (out, (k : Int)) (row, p2, r2)) (kn, 0) (kn || decide (L[k] ∈ row)) := by
  have := loops_count (step := ref26_Forged_l8 (L, P, rest) (out, (k : Int)) (row, p2, r2)) (e := (kn || decide (L[k] ∈ row))) (fun j => ((kn || decide (L[k] ∈ row.take j)), (j : Int))) row.length (fun j hj => by
    unfold ref26_Forged_l8
    simp only
    rw [if_pos (by rw [decide_eq_true_eq]; omega)]
    refine ⟨row[j], fun _ => idx_of hj, L[k], fun _ => idx_of hk, decide (row[j] = L[k]), fun _ => nsame_ok (by have := hlen _ (List.getElem_mem hj); omega), ?_⟩
    rw [w_small (by omega) (by omega), List.take_succ_eq_append_getElem hj, Bool.or_assoc]
    have hm : (decide (L[k] ∈ row.take j) || decide (row[j] = L[k])) = decide (L[k] ∈ row.take j ++ [row[j]]) := by
      rw [Bool.eq_iff_iff]
      simp only [Bool.or_eq_true, decide_eq_true_eq, List.mem_append, List.mem_singleton]
      constructor
      · rintro (h | h)
        · exact .inl h
        · exact .inr h.symm
      · rintro (h | h)
        · exact .inl h
        · exact .inr h.symm
    rw [hm]; rfl) (by
    unfold ref26_Forged_l8
    simp only
    rw [if_neg (by simp), List.take_length])
  simpa using this
theorem rforged_ok {sent : List (List Int)} (hS : RowsOk sent) {b : List Int} (hb : Byt b) (hl : b.length < 268435456) : ref26_Forged sent b (forgedN sent b) := by
  have hSn := hS.n
  obtain ⟨rest, hs⟩ := split2_ok (b := b) (by omega)
  have hbs := segP_byt b 0 [] hb (fun y hy => nomatch hy)
  have hss := segP_sum b 0 []
  have hlen : ∀ x ∈ segP 0 [] b, x.2.length < 268435456 := by
    intro x hx
    have : x.2.length ≤ ((segP 0 [] b).map (fun x => x.2.length)).sum := mem_le_sum (List.mem_map_of_mem hx)
    simp at hss; omega
  refine ⟨_, hs, forgedN sent b, ?_, by show _ = _; rfl⟩
  unfold forgedN
  generalize segP 0 [] b = L at hbs hss hlen
  have hll : L.length < 268435456 := by omega
  have := loops_count (step := ref26_Forged_l2 sent (L.map (·.2), L.map (·.1), rest)) (e := (L.filter (fgN sent)).map (·.1)) (fun k => ((((L.take k).filter (fgN sent)).map (·.1)), (k : Int))) L.length (fun k hk => by
    have hfl : (((L.take k).filter (fgN sent)).map (·.1)).length ≤ k := by
      rw [List.length_map]
      have := List.length_filter_le (fgN sent) (L.take k)
      rw [List.length_take] at this; omega
    unfold ref26_Forged_l2
    simp only
    rw [if_pos (by simp; omega)]
    refine ⟨L[k].2, idx_at rfl (by simp [hk]), _, runpack_ok (hbs _ (List.getElem_mem hk)) (hlen _ (List.getElem_mem hk)), (!fgN sent L[k]), ?_, ?_⟩
    · have hk2 : k < (L.map (·.2)).length := by simpa using hk
      have hget : (L.map (·.2))[k] = L[k].2 := by simp
      obtain ⟨e, h1, h2⟩ := loops_inv (step := ref26_Forged_l5 sent (L.map (·.2), L.map (·.1), rest) ((((L.take k).filter (fgN sent)).map (·.1)), (k : Int))) (s := ((!(decide ((unpB L[k].2).2 = 0))), 0))
        (fun i s => s = ((!(decide ((unpB L[k].2).2 = 0))) || decide (L[k].2 ∈ segsN (sent.take i)), (i : Int))) (fun e => e = !fgN sent L[k]) sent.length (by simp [segsN]) (by
          rintro i s hi rfl
          have hstep : ∀ kn o, ref26_Forged_j6 sent (L.map (·.2), L.map (·.1), rest) ((((L.take k).filter (fgN sent)).map (·.1)), (k : Int)) (kn, (i : Int)) (!kn) o → ref26_Forged_l5 sent (L.map (·.2), L.map (·.1), rest) ((((L.take k).filter (fgN sent)).map (·.1)), (k : Int)) (kn, (i : Int)) o := by
            intro kn o h
            unfold ref26_Forged_l5
            simp only
            rw [if_pos (by rw [decide_eq_true_eq]; omega)]
            exact h
          cases hc : ((!(decide ((unpB L[k].2).2 = 0))) || decide (L[k].2 ∈ segsN (sent.take i))) with
          | true =>
            right
            refine ⟨true, hstep _ _ (by unfold ref26_Forged_j6; rw [if_neg (by decide)]), ?_⟩
            have hsub : ∀ x, x ∈ segsN (sent.take i) → x ∈ segsN sent := by
              intro x hx
              obtain ⟨r, hr, hm⟩ := List.mem_flatMap.1 hx
              exact List.mem_flatMap.2 ⟨r, List.mem_of_mem_take hr, hm⟩
            rw [Bool.or_eq_true] at hc
            unfold fgN
            rcases hc with hc | hc
            · have : ¬ (unpB L[k].2).2 = 0 := by simpa using hc
              simp [this]
            · have := hsub _ (by simpa using hc)
              simp [this]
          | false =>
            left
            obtain ⟨rest2, hs2⟩ := split2_ok (b := sent[i]) (by have := hS.l _ (List.getElem_mem hi); omega)
            have hss2 := segP_sum sent[i] 0 []
            have hl2 := hS.l _ (List.getElem_mem hi)
            refine ⟨_, hstep _ _ ?_, rfl⟩
            unfold ref26_Forged_j6
            rw [if_pos (by decide)]
            refine ⟨sent[i], idx_of hi, _, hs2, _, rfrow_ok hk2 (by simp; omega) (fun x hx => ?_) false, ?_⟩
            · obtain ⟨y, hy, rfl⟩ := List.mem_map.1 hx
              have : y.2.length ≤ ((segP 0 [] sent[i]).map (fun x => x.2.length)).sum := mem_le_sum (List.mem_map_of_mem hy)
              simp at hss2; omega
            · unfold ref26_Forged_j7
              simp only
              rw [w_small (by omega) (by omega), hget, segsN_take hi]
              have hm : decide (L[k].2 ∈ segsN (sent.take i) ++ (segP 0 [] sent[i]).map (·.2)) = (decide (L[k].2 ∈ segsN (sent.take i)) || decide (L[k].2 ∈ (segP 0 [] sent[i]).map (·.2))) := by
                rw [Bool.eq_iff_iff]; simp [List.mem_append]
              rw [hm, ← Bool.or_assoc, hc]
              rfl) (by
          rintro s rfl
          refine ⟨((!(decide ((unpB L[k].2).2 = 0))) || decide (L[k].2 ∈ segsN (sent.take sent.length))), ?_, ?_⟩
          · unfold ref26_Forged_l5
            simp only
            rw [if_neg (by simp)]
            unfold ref26_Forged_j6
            rw [if_neg (by decide)]
          · rw [List.take_length]
            unfold fgN
            simp)
      subst h2
      exact h1
    · unfold ref26_Forged_j4
      rw [List.take_succ_eq_append_getElem hk, List.filter_append, List.map_append]
      cases hc : fgN sent L[k] with
      | true =>
        rw [if_pos (by decide)]
        refine ⟨L[k].1, idx_at rfl (by simp [hk]), ?_⟩
        simp only [List.length_singleton]
        refine ⟨by omega, by omega, ?_⟩
        unfold ref26_Forged_j3
        simp only
        rw [w_small (by omega) (by omega), List.filter_cons_of_pos hc]; rfl
      | false =>
        rw [if_neg (by decide)]
        unfold ref26_Forged_j3
        simp only
        rw [w_small (by omega) (by omega), List.filter_cons_of_neg (by simp [hc])]
        simp) (by
    unfold ref26_Forged_l2
    simp only
    rw [if_neg (by simp), List.take_length])
  simpa using this
theorem noiseForged_true {a : List (List Int)} (hA : ∀ r ∈ a, Byt r) {b : List Int} (hb : Byt b) {stop : Int} : law26_NoiseForged a b stop true := by
  have hS := rowsC_ok a
  have hB : ∀ r ∈ rowsC a, Byt r := by
    intro r hr
    simp only [rowsC, List.mem_map] at hr
    obtain ⟨x, hx, rfl⟩ := hr
    exact (hA x (List.mem_of_mem_take hx)).take _
  have h600 := take_min b 600
  have hl : (b.take 600).length ≤ 600 := by rw [List.length_take]; omega
  have hbt : Byt (b.take 600) := hb.take _
  refine ⟨rowsC a, lrows_ok a, ?_⟩
  rw [show ((600 : Nat) : Int) = 600 from rfl] at h600
  rw [h600]
  obtain ⟨c, hc⟩ : ∃ c, b.take 600 = c := ⟨_, rfl⟩
  rw [hc] at hl hbt h600 ⊢
  generalize hr7 : rowsC a = sent at hS hB
  obtain ⟨t, ht1, ht2⟩ := fnew_ok
  have hit := forged_itr ht2 hS hB hbt (by omega)
  have hn : (forgedN sent c).length ≤ 600 := by
    have := (segP_sum c 0 []).2
    unfold forgedN
    rw [List.length_map]
    have h2 := List.length_filter_le (fgN sent) (segP 0 [] c)
    omega
  have hho := honest_ok ht2 hS hB hbt (by omega)
  refine ⟨by omega, by omega, t, ht1, _, rforged_ok hS hbt (by omega), _, rfl, .inl ((forgedN sent c).length : Int), (), ?_, ?_⟩
  · refine hit _ _ _ _ (run_yof ?_)
    obtain ⟨t', h1, h2⟩ := runB_inv (B := law26_NoiseForged_l1 (forgedN sent c)) (fun k (s : Int) => s = (k : Int)) (fun _ => False) (forgedN sent c) (s := 0) rfl (by
      rintro k hk s rfl
      left
      refine ⟨((k + 1 : Nat) : Int), ?_, rfl⟩
      unfold law26_NoiseForged_l1
      rw [if_neg (by rw [decide_eq_true_eq]; omega)]
      refine ⟨_, idx_of hk, ?_⟩
      unfold law26_NoiseForged_j2
      rw [if_neg (by simp), w_small (by omega) (by omega)]; rfl)
    rcases h2 with ⟨s', rfl, rfl⟩ | ⟨e, _, hf⟩
    · exact h1
    · exact hf.elim
  · show ∃ _, _
    refine ⟨_, rfl, ?_⟩
    obtain ⟨t', h1, h2⟩ := runB_inv (B := law26_NoiseForged_l4 stop) (fun k (s : Int) => s = (k : Int)) (fun e => e = stop) (forgedN sent c) (s := 0) rfl (by
      rintro k hk s rfl
      unfold law26_NoiseForged_l4
      by_cases h : (k : Int) = stop
      · right
        exact ⟨(k : Int), by rw [if_pos (by simpa using h)], h⟩
      · left
        refine ⟨((k + 1 : Nat) : Int), ?_, rfl⟩
        rw [if_neg (by simpa using h), w_small (by omega) (by omega)]; rfl)
    have j3 : ∀ x : Int, (x = ((forgedN sent c).length : Int) ∨ x = stop) → law26_NoiseForged_j3 b stop sent t (forgedN sent c) ((forgedN sent c).length : Int) x true := by
      intro x hx
      refine ⟨true, known26_ok, decide (forgedN sent c = []), fun _ => by rw [h600]; exact hho, ?_⟩
      have hz : (forgedN sent c = []) ↔ (((forgedN sent c).length : Int) = 0) := by
        cases forgedN sent c with
        | nil => simp
        | cons y ys => simp; omega
      have e1 : (decide (x = ((forgedN sent c).length : Int)) || decide (x = stop)) = true := by
        rw [Bool.or_eq_true, decide_eq_true_eq, decide_eq_true_eq]; exact hx
      have e2 : decide (decide (forgedN sent c = []) = decide (((forgedN sent c).length : Int) = 0)) = true := by
        rw [decide_eq_true_eq, Bool.eq_iff_iff, decide_eq_true_eq, decide_eq_true_eq]; exact hz
      rw [e1, e2]; simp
    refine ⟨t', (), hit _ _ _ _ (run_yof h1), ?_⟩
    rcases h2 with ⟨s', rfl, hs'⟩ | ⟨e, rfl, he⟩
    · exact j3 _ (.inl hs')
    · exact j3 _ (.inr he)
theorem noiseForged_claim {a : List (List Int)} {b : List Int} {stop : Int} (h0 : ListOk (ListOk (IntOk .u8)) a) (h1 : ListOk (IntOk .u8) b) (_h2 : IntOk .i64 stop) : law26_NoiseForged a b stop true :=
  noiseForged_true (fun r hr => ok_byt (h0.1 r hr)) (ok_byt h1)
end Go.Rel
