import Derived.Test.YtgokdchgjpneoaaDoorPlCobs
import Derived.Test.YtgokdchgjpneoaaDoorPlLens
/-! Plain laws: what is stuffed is taken apart. -/
namespace Go.Rel
open Go Go.Eng Go.Pl
/-- Blocks as bytes: a 0 behind each that isn't a full one, nor the last. -/
def joinB : List (List Int) → List Int
  | [] => []
  | [p] => p
  | p :: q :: L => p ++ (if p.length = 254 then [] else [0]) ++ joinB (q :: L)
/-- Does an empty block stand last behind a full one? -/
def endBad : Bool → List (List Int) → Bool
  | _, [] => false
  | f, [p] => f && decide (p = [])
  | _, p :: q :: L => endBad (decide (p.length = 254)) (q :: L)
/-- Blocks that may be: no 0 in one, none too long. -/
def OkB (L : List (List Int)) : Prop := ∀ p ∈ L, (∀ x ∈ p, x ≠ 0) ∧ p.length ≤ 254
theorem cb_ne : ∀ (l now : List Int), cb now l false ≠ []
  | [], now => by simp [cb]
  | c :: l, now => by
    unfold cb
    split
    · simp
    · split
      · simp
      · exact cb_ne l _
theorem before_fz {l : List Int} {m : Nat} (h : m ≤ fz l) : ∀ x ∈ l.take m, x ≠ 0 := by
  intro x hx
  obtain ⟨k, hk, rfl⟩ := List.getElem_of_mem hx
  rw [List.length_take] at hk
  rw [List.getElem_take]
  exact fz_before (by omega) (by omega)
/-- The first block of bytes. -/
theorem cb_cases (x : List Int) : (∃ p l, x = p ++ 0 :: l ∧ (∀ c ∈ p, c ≠ 0) ∧ p.length < 254 ∧ cb [] x false = p :: cb [] l false) ∨
    (∃ p l, x = p ++ l ∧ (∀ c ∈ p, c ≠ 0) ∧ p.length = 254 ∧ cb [] x false = p :: cb [] l true) ∨ ((∀ c ∈ x, c ≠ 0) ∧ x.length < 254 ∧ cb [] x false = [x]) := by
  by_cases hz : fz x < min x.length 254
  · left
    refine ⟨x.take (fz x), x.drop (fz x + 1), ?_, before_fz (Nat.le_refl _), by rw [List.length_take]; omega, ?_⟩
    · have h3 : x.drop (fz x) = 0 :: x.drop (fz x + 1) := by rw [List.drop_eq_getElem_cons (show fz x < x.length by omega), fz_at (by omega)]
      rw [← h3, List.take_append_drop]
    · have h3 : x.drop (fz x) = 0 :: x.drop (fz x + 1) := by rw [List.drop_eq_getElem_cons (show fz x < x.length by omega), fz_at (by omega)]
      have e : x = x.take (fz x) ++ 0 :: x.drop (fz x + 1) := by rw [← h3, List.take_append_drop]
      conv => lhs; rw [e]
      exact cb_zero _ _ (before_fz (Nat.le_refl _)) (by rw [List.length_take]; omega) false
  · right
    by_cases h2 : 254 ≤ x.length
    · left
      refine ⟨x.take 254, x.drop 254, (List.take_append_drop _ _).symm, before_fz (by omega), by rw [List.length_take]; omega, ?_⟩
      conv => lhs; rw [(List.take_append_drop 254 x).symm]
      exact cb_full _ _ (before_fz (by omega)) (by rw [List.length_take]; omega) false
    · right
      have h0 : ∀ c ∈ x, c ≠ 0 := by
        have h9 := fz_le x
        have := before_fz (l := x) (m := x.length) (by omega)
        rwa [List.take_length] at this
      exact ⟨h0, by omega, cb_end x h0 (by omega)⟩
theorem cb_ok : ∀ (m : Nat) (x : List Int), x.length < m → OkB (cb [] x false) ∧ joinB (cb [] x false) = x ∧ ∀ f, (f = true → x ≠ []) → endBad f (cb [] x false) = false := by
  intro m
  induction m with
  | zero => intro x h; omega
  | succ m ih =>
    intro x hm
    have more : ∀ (p l : List Int), (∀ c ∈ p, c ≠ 0) → p.length ≤ 254 → l.length < m → x = p ++ (if p.length = 254 then [] else [0]) ++ l → (p.length = 254 → l ≠ []) → OkB (p :: cb [] l false) ∧ joinB (p :: cb [] l false) = x ∧ ∀ f, endBad f (p :: cb [] l false) = false := by
      intro p l hp hpl hl hx hn
      obtain ⟨h1, h2, h3⟩ := ih l hl
      obtain ⟨q, L, hq⟩ := List.exists_cons_of_ne_nil (cb_ne l [])
      refine ⟨fun r hr => ?_, ?_, fun f => ?_⟩
      · rcases List.mem_cons.1 hr with rfl | hr
        · exact ⟨hp, hpl⟩
        · exact h1 r hr
      · rw [hq]
        simp only [joinB]
        rw [← hq, h2]; exact hx.symm
      · rw [hq]
        simp only [endBad]
        rw [← hq]
        exact h3 _ (fun h => hn (by simpa using h))
    rcases cb_cases x with ⟨p, l, hx, h0, hp, hc⟩ | ⟨p, l, hx, h0, hp, hc⟩ | ⟨h0, hp, hc⟩
    · have := more p l h0 (by omega) (by have := congrArg List.length hx; simp at this; omega) (by rw [if_neg (by omega)]; simpa using hx) (fun h => by omega)
      rw [hc]; exact ⟨this.1, this.2.1, fun f _ => this.2.2 f⟩
    · by_cases hl : l = []
      · subst hl
        have e : cb [] x false = [p] := by rw [hc]; simp [cb]
        rw [e]
        refine ⟨fun r hr => by simp at hr; subst hr; exact ⟨h0, by omega⟩, by simp [joinB, hx], fun f _ => ?_⟩
        have : p ≠ [] := by intro h; subst h; simp at hp
        simp [endBad, this]
      · have := more p l h0 (by omega) (by have := congrArg List.length hx; simp at this; omega) (by rw [if_pos hp]; simpa using hx) (fun _ => hl)
        rw [hc, cb_e l hl true false]; exact ⟨this.1, this.2.1, fun f _ => this.2.2 f⟩
    · rw [hc]
      refine ⟨fun r hr => by simp at hr; subst hr; exact ⟨h0, by omega⟩, rfl, fun f hf => ?_⟩
      cases f with
      | false => rfl
      | true => simp [endBad, hf rfl]
theorem join_ne : ∀ (L : List (List Int)) (q : List Int), endBad true (q :: L) = false → joinB (q :: L) ≠ []
  | [], q, h => by simp [endBad] at h; simpa [joinB] using h
  | r :: L, q, _ => by
    simp only [joinB]
    by_cases h : q.length = 254
    · intro e
      have := congrArg List.length e
      simp [h] at this
    · rw [if_neg h]; simp
theorem cb_join : ∀ (L : List (List Int)) (f : Bool), L ≠ [] → OkB L → endBad f L = false → cb [] (joinB L) false = L
  | [], _, h, _, _ => absurd rfl h
  | [p], _, _, ho, _ => by
    obtain ⟨h0, h1⟩ := ho p List.mem_cons_self
    by_cases h2 : p.length = 254
    · have := cb_full p [] h0 h2 false
      simp only [List.append_nil] at this
      simp only [joinB, this, cb, if_true]
    · exact cb_end p h0 (by omega)
  | p :: q :: L, f, _, ho, he => by
    obtain ⟨h0, h1⟩ := ho p List.mem_cons_self
    have ho2 : OkB (q :: L) := fun r hr => ho r (List.mem_cons_of_mem _ hr)
    simp only [endBad] at he
    have ih := cb_join (q :: L) _ (by simp) ho2 he
    simp only [joinB]
    by_cases h2 : p.length = 254
    · rw [if_pos h2]
      rw [decide_eq_true h2] at he
      simp only [List.append_nil]
      rw [cb_full p _ h0 h2 false, cb_e _ (join_ne L q he) true false, ih]
    · rw [if_neg h2]
      simp only [List.append_assoc, List.singleton_append]
      rw [cb_zero p _ h0 (by omega) false, ih]
def flatB (L : List (List Int)) : List Int := (L.map enc1).flatten
theorem join_len : ∀ (L : List (List Int)), L ≠ [] → (joinB L).length + 1 ≤ (flatB L).length
  | [], h => absurd rfl h
  | [p], _ => by simp [joinB, flatB, enc1]
  | p :: q :: L, _ => by
    have ih := join_len (q :: L) (by simp)
    have e : (flatB (p :: q :: L)).length = p.length + 1 + (flatB (q :: L)).length := by simp [flatB, enc1]; omega
    rw [e]
    simp only [joinB, List.length_append]
    split <;> simp <;> omega
/-- Bytes as blocks, each behind its code. -/
def pb : Nat → List Int → Option (List (List Int))
  | 0, _ => none
  | _ + 1, [] => some []
  | n + 1, c :: r => if 1 ≤ c ∧ (c - 1).toNat ≤ r.length ∧ ∀ x ∈ r.take (c - 1).toNat, x ≠ 0 then (pb n (r.drop (c - 1).toNat)).map (r.take (c - 1).toNat :: ·) else none
theorem pb_flat : ∀ (L : List (List Int)) (n : Nat), OkB L → (flatB L).length < n → pb n (flatB L) = some L
  | [], n, _, h => by cases n with
    | zero => omega
    | succ n => rfl
  | p :: L, n, ho, h => by
    cases n with
    | zero => omega
    | succ n =>
      obtain ⟨h0, _⟩ := ho p List.mem_cons_self
      have e : flatB (p :: L) = ((p.length : Int) + 1) :: (p ++ flatB L) := by simp [flatB, enc1]
      rw [e] at h ⊢
      have hn : ((p.length : Int) + 1 - 1).toNat = p.length := by omega
      unfold pb
      rw [hn]
      have ht : (p ++ flatB L).take p.length = p := List.take_left
      have hd : (p ++ flatB L).drop p.length = flatB L := List.drop_left
      rw [ht, hd, if_pos ⟨by omega, by simp, h0⟩, pb_flat L n (fun r hr => ho r (List.mem_cons_of_mem _ hr)) (by simp at h; omega)]
      rfl
theorem pb_some : ∀ (n : Nat) (b : List Int) (L : List (List Int)), Byt b → pb n b = some L → flatB L = b ∧ OkB L
  | 0, _, _, _, h => by simp [pb] at h
  | n + 1, [], L, _, h => by simp [pb] at h; subst h; exact ⟨rfl, fun p hp => nomatch hp⟩
  | n + 1, c :: r, L, hb, h => by
    unfold pb at h
    split at h
    · rename_i hc
      obtain ⟨L', h1, rfl⟩ := Option.map_eq_some_iff.1 h
      obtain ⟨h2, h3⟩ := pb_some n _ L' (fun x hx => hb x (List.mem_cons_of_mem _ (List.mem_of_mem_drop hx))) h1
      have hcb := hb c List.mem_cons_self
      have hlen : (r.take (c - 1).toNat).length = (c - 1).toNat := by rw [List.length_take]; omega
      refine ⟨?_, fun p hp => ?_⟩
      · have e : flatB (r.take (c - 1).toNat :: L') = (((r.take (c - 1).toNat).length : Int) + 1) :: (r.take (c - 1).toNat ++ flatB L') := by simp [flatB, enc1]
        rw [e, h2, List.take_append_drop, hlen]
        congr 1; omega
      · rcases List.mem_cons.1 hp with rfl | hp
        · exact ⟨hc.2.2, by omega⟩
        · exact h3 p hp
    · cases h
/-- What bytes are, unstuffed. -/
def decB (b : List Int) : Option (List Int) := if b = [] then none else match pb (b.length + 1) b with
  | none => none
  | some L => if endBad false L = true then none else some (joinB L)
theorem dec_enc (x : List Int) : decB (encB x) = some x := by
  obtain ⟨h1, h2, h3⟩ := cb_ok (x.length + 1) x (by omega)
  have hne : encB x ≠ [] := by
    intro h
    have := join_len (cb [] x false) (cb_ne x [])
    have h4 : flatB (cb [] x false) = [] := h
    rw [h4] at this; simp at this
  unfold decB
  rw [if_neg hne]
  have : pb ((encB x).length + 1) (encB x) = some (cb [] x false) := pb_flat _ _ h1 (by show (encB x).length < _; omega)
  rw [this]
  simp only
  rw [h3 false (fun h => nomatch h), if_neg (by decide), h2]
theorem dec_some {b x : List Int} (hb : Byt b) (h : decB b = some x) : encB x = b := by
  unfold decB at h
  split at h
  · cases h
  · rename_i hne
    split at h
    · cases h
    · rename_i L hL
      split at h
      · cases h
      · rename_i he
        cases h
        obtain ⟨h1, h2⟩ := pb_some _ b L hb hL
        have hn : L ≠ [] := by rintro rfl; exact hne h1.symm
        unfold encB
        rw [cb_join L false hn h2 (by simpa using he)]; exact h1
/-- What the program makes of the rest, a full block having just ended or not. -/
def resB (f : Bool) (rest : List Int) : Sum Unit (List Int) := match pb (rest.length + 1) rest with
  | none => .inl ()
  | some L => if endBad f L = true then .inl () else .inr (joinB L)
theorem pb_fuel : ∀ (n m : Nat) (b : List Int), b.length < n → b.length < m → pb n b = pb m b
  | 0, _, b, h, _ => by omega
  | n + 1, 0, b, _, h => by omega
  | n + 1, m + 1, [], _, _ => rfl
  | n + 1, m + 1, c :: r, h, h' => by
    unfold pb
    rw [pb_fuel n m (r.drop (c - 1).toNat) (by simp at h ⊢; omega) (by simp at h' ⊢; omega)]
theorem decode_run : ∀ (m : Nat) (rest out : List Int) (f : Bool), rest.length < m → rest ≠ [] → Byt rest → out.length + 2 * rest.length < 1073741824 →
    Loops cobs_Decode_l3 (out, rest, f) (match resB f rest with | .inl u => .inl u | .inr x => .inr (out ++ x)) := by
  intro m
  induction m with
  | zero => intro rest out f h; omega
  | succ m ih =>
    intro rest out f hm hne hb hlen
    obtain ⟨c, r, rfl⟩ := List.exists_cons_of_ne_nil hne
    have hc := hb c List.mem_cons_self
    have hbr : Byt r := fun x hx => hb x (List.mem_cons_of_mem _ hx)
    simp only [List.length_cons] at hm hlen
    have e1 : IntKind.i64.wrap ((IntKind.i64.wrap c) - 1) = c - 1 := by rw [w_small (n := c) (by omega) (by omega), w_small (by omega) (by omega)]
    have e2 : IntKind.i64.wrap ((c - 1) + 1) = c := by rw [w_small (by omega) (by omega)]; omega
    have bad : (c < 1 ∨ (r.length : Int) + 1 ≤ c - 1) → Loops cobs_Decode_l3 (out, c :: r, f) (.inl ()) := by
      intro h
      refine .done ⟨c, ⟨by decide, rfl⟩, ?_⟩
      simp only [e1]
      by_cases h1 : c - 1 < 0
      · rw [if_pos (by simpa using h1)]
        unfold cobs_Decode_j4
        rw [if_pos rfl]
      · rw [if_neg (by simpa using h1)]
        unfold cobs_Decode_j4
        rw [decide_eq_true (by simp; omega), if_pos rfl]
    unfold resB
    simp only [List.length_cons]
    unfold pb
    by_cases hin : 1 ≤ c ∧ (c - 1).toNat ≤ r.length
    · obtain ⟨k, hk⟩ : ∃ k : Nat, c = (k : Int) + 1 := ⟨(c - 1).toNat, by omega⟩
      have hkn : (c - 1).toNat = k := by omega
      rw [hkn] at hin ⊢
      have ed : (((c :: r).drop (1 : Int).toNat).take ((c : Int) - 1).toNat) = r.take k := by
        rw [show (1 : Int).toNat = 1 from rfl, List.drop_succ_cons, List.drop_zero, hkn]
      have er : (((c :: r).drop c.toNat).take ((((c :: r).length : Int) : Int) - c).toNat) = r.drop k := by
        rw [show c.toNat = k + 1 by omega, List.drop_succ_cons, List.take_of_length_le]
        simp only [List.length_drop, List.length_cons]; omega
      have htk : (r.take k).length = k := by rw [List.length_take]; omega
      -- the zeros
      have zs : ∃ e, Loops (cobs_Decode_l7 (out, c :: r, f) c) 0 e ∧ e = if ∀ x ∈ r.take k, x ≠ 0 then .inl () else .inr () := by
        have key := loops_inv (step := cobs_Decode_l7 (out, c :: r, f) c) (s := 0) (fun j (s : Int) => s = (j : Int) ∧ ∀ q (h : q < (r.take k).length), q < j → (r.take k)[q] ≠ 0) (fun e => e = if ∀ x ∈ r.take k, x ≠ 0 then .inl () else .inr ()) k ⟨rfl, fun q _ h => by omega⟩ ?_ ?_
        · exact key
        · rintro j s hj ⟨rfl, h2⟩
          have hj2 : j < (r.take k).length := by omega
          by_cases h0 : (r.take k)[j] = 0
          · right
            refine ⟨.inr (), ?_, ?_⟩
            · unfold cobs_Decode_l7
              simp only [e1, e2, ed]
              rw [if_pos (by simp; omega)]
              refine ⟨(r.take k)[j], idx_of hj2, ?_⟩
              rw [if_pos (by simpa using h0)]
              trivial
            · rw [if_neg]
              intro h; exact h _ (List.getElem_mem hj2) h0
          · left
            refine ⟨((j + 1 : Nat) : Int), ?_, rfl, fun q h3 h4 => ?_⟩
            · unfold cobs_Decode_l7
              simp only [e1, e2, ed]
              rw [if_pos (by simp; omega)]
              refine ⟨(r.take k)[j], idx_of hj2, ?_⟩
              rw [if_neg (by simpa using h0), w_small (by omega) (by omega)]; rfl
            · by_cases e : q = j
              · subst e; exact h0
              · exact h2 q h3 (by omega)
        · rintro s ⟨rfl, h2⟩
          refine ⟨.inl (), ?_, ?_⟩
          · unfold cobs_Decode_l7
            simp only [e1, e2, ed]
            rw [if_neg (by rw [htk]; simp)]
            trivial
          · rw [if_pos]
            intro x hx
            obtain ⟨q, hq, rfl⟩ := List.getElem_of_mem hx
            exact h2 q hq (by omega)
      obtain ⟨e, hl, he⟩ := zs
      have stp : ∀ o, Aft (fun p60 => cobs_Decode_j5 (out, c :: r, f) c p60 o) (fun p61 => o = .inr (.inl p61)) e → cobs_Decode_l3 (out, c :: r, f) o := by
        intro o ha
        refine ⟨c, ⟨by decide, rfl⟩, ?_⟩
        simp only [e1]
        rw [if_neg (by simp; omega)]
        unfold cobs_Decode_j4
        simp only [e1, e2]
        rw [decide_eq_false (by simp; omega), if_neg (by decide)]
        exact ⟨by omega, by simp; omega, e, hl, ha⟩
      by_cases hz : ∀ x ∈ r.take k, x ≠ 0
      · rw [if_pos ⟨hin.1, hin.2, hz⟩]
        rw [if_pos hz] at he
        subst he
        rw [pb_fuel (r.length + 1) ((r.drop k).length + 1) (r.drop k) (by simp; omega) (by omega)]
        have j5 : ∀ o, (if r.drop k = [] then (if (f && decide (k = 0)) = true then o = .inr (.inl ()) else o = .inr (.inr (out ++ r.take k))) else o = .inl ((out ++ r.take k) ++ (if k = 254 then [] else [0]), r.drop k, decide (k = 254))) → cobs_Decode_j5 (out, c :: r, f) c () o := by
          intro o ho
          unfold cobs_Decode_j5
          simp only [e1, e2, ed, er]
          refine ⟨by omega, by simp; omega, by rw [htk]; omega, by rw [htk]; omega, by omega, by simp; omega, Int.le_refl _, ?_⟩
          have hnd : (decide (((r.drop k).length : Int) = 0)) = decide (r.drop k = []) := by
            rw [decide_eq_decide]; constructor
            · intro h; exact List.eq_nil_of_length_eq_zero (by omega)
            · intro h; rw [h]; rfl
          have hk0 : decide (c - 1 = 0) = decide (k = 0) := by rw [decide_eq_decide]; omega
          have hk254 : decide (c - 1 = 254) = decide (k = 254) := by rw [decide_eq_decide]; omega
          have j6 : ∀ b : Bool, b = (decide (r.drop k = []) && (f && decide (k = 0))) → cobs_Decode_j6 (out, c :: r, f) c b o := by
            intro b hbb
            unfold cobs_Decode_j6
            simp only [e1, e2, ed, er, hnd, hk254]
            by_cases hd : r.drop k = []
            · rw [if_pos hd] at ho
              rw [decide_eq_true hd] at hbb ⊢
              by_cases hq : (f && decide (k = 0)) = true
              · rw [if_pos hq] at ho
                rw [hbb, hq, if_pos rfl]; exact ho
              · rw [if_neg hq] at ho
                rw [hbb, show (f && decide (k = 0)) = false by simpa using hq, if_neg (by decide), if_pos rfl]; exact ho
            · rw [if_neg hd] at ho
              rw [decide_eq_false hd] at hbb ⊢
              rw [hbb, if_neg (by simp), if_neg (by decide)]
              by_cases h4 : k = 254
              · rw [if_pos h4] at ho
                rw [if_neg (by simp [h4])]
                rw [ho]; simp
              · rw [if_neg h4] at ho
                rw [if_pos (by simp [h4])]
                simp only [List.length_append, htk, List.length_cons, List.length_nil]
                exact ⟨by omega, by omega, ho⟩
          rw [hnd]
          by_cases hd : r.drop k = []
          · rw [if_pos (by simpa using hd), hk0]
            cases f with
            | true => rw [if_pos rfl]; exact j6 _ (by simp [hd])
            | false => rw [if_neg (by decide)]; exact j6 _ (by simp)
          · rw [if_neg (by simpa using hd)]; exact j6 _ (by simp [hd])
        by_cases hd : r.drop k = []
        · have hp : pb ((r.drop k).length + 1) (r.drop k) = some [] := by rw [hd]; rfl
          rw [hp]
          simp only [Option.map_some]
          have hE : endBad f [r.take k] = (f && decide (k = 0)) := by
            simp only [endBad]
            congr 1
            rw [decide_eq_decide]
            constructor
            · intro h; have := congrArg List.length h; rw [htk] at this; simpa using this
            · intro h; subst h; simp
          by_cases hq : endBad f [r.take k] = true
          · rw [if_pos hq]
            exact .done (stp _ (j5 _ (by rw [if_pos hd, if_pos (by rw [← hE]; exact hq)])))
          · rw [if_neg hq]
            exact .done (stp _ (j5 _ (by rw [if_pos hd, if_neg (by rw [← hE]; exact hq)]; rfl)))
        · have i2 := ih (r.drop k) ((out ++ r.take k) ++ (if k = 254 then [] else [0])) (decide (k = 254)) (by rw [List.length_drop]; omega) hd (hbr.drop _) (by
            have : (if k = 254 then ([] : List Int) else [0]).length ≤ 1 := by split <;> simp
            simp only [List.length_append, htk, List.length_drop]; omega)
          refine .next (stp _ (j5 _ (by rw [if_neg hd]))) ?_
          unfold resB at i2
          cases hpb : pb ((r.drop k).length + 1) (r.drop k) with
          | none => rw [hpb] at i2; exact i2
          | some L =>
            rw [hpb] at i2
            have hL : L ≠ [] := by
              rintro rfl
              have := (pb_some _ _ [] (hbr.drop _) hpb).1
              exact hd this.symm
            obtain ⟨q, L', rfl⟩ := List.exists_cons_of_ne_nil hL
            simp only [Option.map_some, endBad, joinB, htk] at i2 ⊢
            by_cases hq : endBad (decide (k = 254)) (q :: L') = true
            · rw [if_pos hq] at i2 ⊢; exact i2
            · rw [if_neg hq] at i2 ⊢
              simp only [List.append_assoc] at i2 ⊢; exact i2
      · rw [if_neg (fun h => hz h.2.2)]
        rw [if_neg hz] at he
        subst he
        exact .done (stp _ rfl)
    · rw [if_neg (fun h => hin ⟨h.1, h.2.1⟩)]
      exact bad (by omega)
def decR (b : List Int) : List Int × Int := match decB b with
  | none => ([], 12)
  | some x => (x, 0)
theorem decode_ok {b : List Int} (hb : Byt b) (hl : b.length < 268435456) : cobs_Decode b (decR b) := by
  unfold cobs_Decode decR decB
  by_cases h : b = []
  · subst h; rw [if_pos (by simp), if_pos rfl]; rfl
  · rw [if_neg (by simp; exact h), if_neg h]
    have := decode_run (b.length + 1) b [] false (by omega) h hb (by simp; omega)
    refine ⟨_, this, ?_⟩
    unfold resB
    cases pb (b.length + 1) b with
    | none => rfl
    | some L =>
      simp only
      by_cases hq : endBad false L = true
      · rw [if_pos hq, if_pos hq]; rfl
      · rw [if_neg hq, if_neg hq]; simp only [List.nil_append]; rfl
end Go.Rel
