import Derived.Test.YtgokdchgjpneoaaDoorPlDecode
import Derived.Test.YtgokdchgjpneoaaDoorPlFrame
import Derived.Test.YtgokdchgjpneoaaDoorPlHeadP
/-! Plain laws: the frame of a segment. -/
namespace Go.Rel
open Go Go.Eng Go.Pl
theorem rblocks_ok {l : List Int} (hlen : l.length < 1073741824) : ref05_Blocks l (cb [] l false) := by
  have key := loops_inv (step := ref05_Blocks_l3 l) (s := ([], [], false, 0)) (fun k (s : List (List Int) × List Int × Bool × Int) => s.2.2.2 = (k : Int) ∧ s.1 ++ cb s.2.1 (l.drop k) s.2.2.1 = cb [] l false ∧ s.2.1.length < 254 ∧ s.1.length ≤ k) (fun e => ref05_Blocks_j1 e (cb [] l false)) l.length ⟨rfl, by simp, by simp, by simp⟩ ?_ ?_
  · obtain ⟨e, h1, h2⟩ := key; exact ⟨e, h1, h2⟩
  · rintro k ⟨out, now, ended, i⟩ hk ⟨h1, h2, h3, h4⟩
    simp only at h1 h2 h3 h4
    subst h1
    left
    rw [List.drop_eq_getElem_cons hk] at h2
    simp only [cb] at h2
    have wi : IntKind.i64.wrap ((k : Int) + 1) = ((k + 1 : Nat) : Int) := by rw [w_small (by omega) (by omega)]; rfl
    by_cases h0 : l[k] = 0
    · rw [if_pos h0] at h2
      refine ⟨(out ++ [now], [], false, ((k + 1 : Nat) : Int)), ?_, rfl, by simpa using h2, by simp, by simp; omega⟩
      unfold ref05_Blocks_l3
      simp only
      rw [if_pos (by simp; omega)]
      refine ⟨l[k], idx_of hk, ?_⟩
      rw [if_pos (by simpa using h0)]
      simp only [List.length_cons, List.length_nil]
      refine ⟨by omega, by omega, ?_⟩
      unfold ref05_Blocks_j4
      simp only
      rw [wi]
    · rw [if_neg h0] at h2
      by_cases h5 : now.length + 1 = 254
      · rw [if_pos h5] at h2
        refine ⟨(out ++ [now ++ [l[k]]], [], true, ((k + 1 : Nat) : Int)), ?_, rfl, by simpa using h2, by simp, by simp; omega⟩
        unfold ref05_Blocks_l3
        simp only
        rw [if_pos (by simp; omega)]
        refine ⟨l[k], idx_of hk, ?_⟩
        rw [if_neg (by simpa using h0)]
        simp only [List.length_cons, List.length_nil, List.length_append]
        refine ⟨l[k], idx_of hk, by omega, by omega, ?_⟩
        rw [if_pos (by simp; omega)]
        refine ⟨by omega, by omega, ?_⟩
        unfold ref05_Blocks_j4
        simp only
        rw [wi]
      · rw [if_neg h5] at h2
        refine ⟨(out, now ++ [l[k]], false, ((k + 1 : Nat) : Int)), ?_, rfl, h2, by simp; omega, by simp; omega⟩
        unfold ref05_Blocks_l3
        simp only
        rw [if_pos (by simp; omega)]
        refine ⟨l[k], idx_of hk, ?_⟩
        rw [if_neg (by simpa using h0)]
        simp only [List.length_cons, List.length_nil, List.length_append]
        refine ⟨l[k], idx_of hk, by omega, by omega, ?_⟩
        rw [if_neg (by simp; omega)]
        unfold ref05_Blocks_j4
        simp only
        rw [wi]
  · rintro ⟨out, now, ended, i⟩ ⟨h1, h2, h3, h4⟩
    simp only at h1 h2 h3 h4
    refine ⟨(out, now, ended), ?_, ?_⟩
    · unfold ref05_Blocks_l3
      rw [if_neg (by simp [h1])]
    · rw [List.drop_length] at h2
      unfold ref05_Blocks_j1
      cases ended with
      | true =>
        rw [if_neg (by simp)]
        simp only [cb, if_true, List.append_nil] at h2
        exact h2.symm
      | false =>
        rw [if_pos (by simp)]
        simp only [cb, Bool.false_eq_true, if_false] at h2
        simp only [List.length_cons, List.length_nil]
        exact ⟨by omega, by omega, h2.symm⟩
theorem rencode_ok {l : List Int} (hlen : l.length < 1073741824) : ref05_Encode l (encB l) := by
  refine ⟨_, rblocks_ok hlen, encB l, ?_, rfl⟩
  have hs := cb_sum l [] false
  have ha := cb_all l [] false (by simp)
  unfold encB
  generalize cb [] l false = L at hs ha
  have hf : ∀ k, k ≤ L.length → ((L.take k).map enc1).flatten.length ≤ (L.map List.length).sum + L.length := by
    intro k hk
    have h1 := flat_len L
    have h2 : (L.map enc1).flatten = ((L.take k).map enc1).flatten ++ ((L.drop k).map enc1).flatten := by
      rw [← List.flatten_append, ← List.map_append, List.take_append_drop]
    rw [h2, List.length_append] at h1; omega
  refine loops_count (step := ref05_Encode_l2 L) (fun k => (((L.take k).map enc1).flatten, (k : Int))) L.length (fun k hk => ?_) ?_
  · have h1 := hf k (by omega)
    have h2 := ha L[k] (List.getElem_mem _)
    simp only [List.length_nil, Nat.zero_add] at hs
    unfold ref05_Encode_l2
    simp only
    rw [if_pos (by simp; omega)]
    simp only [List.length_cons, List.length_nil, List.length_append]
    refine ⟨L[k], idx_of hk, by omega, by omega, L[k], idx_of hk, by omega, by omega, ?_⟩
    have e1 : IntKind.u8.wrap (IntKind.i64.wrap ((L[k].length : Int) + 1)) = (L[k].length : Int) + 1 := by rw [w_small (by omega) (by omega), w_u8]; omega
    rw [e1, w_small (by omega) (by omega), take_map _ hk, List.flatten_append]
    simp [enc1]
  · unfold ref05_Encode_l2
    simp only
    rw [if_neg (by simp), List.take_length]
/-- One code and its block. -/
theorem rinner_ok {b : List Int} (hb : Byt b) (hlen : b.length < 1073741824) {at_ : Nat} (ha : at_ < b.length) {out : List Int} (ho : out.length < 1073741824) : Loops (ref05_Decode_l5 b (out, (at_ : Int)) b[at_]) (out, 1) (out ++ (b.drop (at_ + 1)).take (b[at_] - 1).toNat) := by
  have hc := byt_at hb ha
  have hw : IntKind.i64.wrap b[at_] = b[at_] := w_small (by omega) (by omega)
  have htk : (b.drop (at_ + 1)).take (b[at_] - 1).toNat = (b.drop (at_ + 1)).take (min (b[at_] - 1).toNat (b.length - at_ - 1)) := by
    by_cases h : (b[at_] - 1).toNat ≤ b.length - at_ - 1
    · rw [Nat.min_eq_left h]
    · rw [Nat.min_eq_right (by omega), List.take_of_length_le (by rw [List.length_drop]; omega), List.take_of_length_le (by rw [List.length_drop]; omega)]
  rw [htk]
  have := loops_count (step := ref05_Decode_l5 b (out, (at_ : Int)) b[at_]) (fun k => (out ++ (b.drop (at_ + 1)).take k, ((k + 1 : Nat) : Int))) (min (b[at_] - 1).toNat (b.length - at_ - 1)) (e := out ++ (b.drop (at_ + 1)).take (min (b[at_] - 1).toNat (b.length - at_ - 1))) (fun k hk => ?_) ?_
  · simpa using this
  · unfold ref05_Decode_l5
    rw [hw]
    simp only
    rw [if_pos (by simp; omega)]
    unfold ref05_Decode_j6
    simp only
    have e2 : IntKind.i64.wrap ((at_ : Int) + ((k + 1 : Nat) : Int)) = ((at_ + 1 + k : Nat) : Int) := by rw [w_small (by omega) (by omega)]; omega
    rw [e2, if_pos (by simp; omega)]
    refine ⟨b[at_ + 1 + k]'(by omega), idx_of (by omega), ?_⟩
    simp only [List.length_append, List.length_take, List.length_drop, List.length_cons, List.length_nil]
    refine ⟨by omega, by omega, ?_⟩
    rw [w_small (by omega) (by omega), List.take_succ_eq_append_getElem (show k < (b.drop (at_ + 1)).length by rw [List.length_drop]; omega), List.getElem_drop]
    simp
  · unfold ref05_Decode_l5
    rw [hw]
    simp only
    have fin : ref05_Decode_j6 b (out, (at_ : Int)) (out ++ (b.drop (at_ + 1)).take (min (b[at_] - 1).toNat (b.length - at_ - 1)), ((min (b[at_] - 1).toNat (b.length - at_ - 1) + 1 : Nat) : Int)) false (.inr (out ++ (b.drop (at_ + 1)).take (min (b[at_] - 1).toNat (b.length - at_ - 1)))) := by
      unfold ref05_Decode_j6
      rw [if_neg (by decide)]
    by_cases h : (((min (b[at_] - 1).toNat (b.length - at_ - 1) + 1 : Nat) : Int)) < b[at_]
    · rw [if_pos (by simpa using h)]
      have e3 : decide (IntKind.i64.wrap ((at_ : Int) + ((min (b[at_] - 1).toNat (b.length - at_ - 1) + 1 : Nat) : Int)) < (b.length : Int)) = false := by
        rw [w_small (by omega) (by omega), decide_eq_false]; omega
      rw [e3]; exact fin
    · rw [if_neg (by simpa using h)]; exact fin
theorem rstep_ok {b : List Int} (hb : Byt b) (hlen : b.length < 1073741824) {at_ : Nat} (ha : at_ < b.length) {out : List Int} (ho : out.length < 1073741824) :
    ref05_Decode_l2 b (out, (at_ : Int)) (if b[at_] = 0 then .inr (.inr ([], 12)) else .inl (out ++ (b.drop (at_ + 1)).take (b[at_] - 1).toNat ++ (if b[at_] < 255 ∧ (at_ : Int) + b[at_] < b.length then [0] else []), (at_ : Int) + b[at_])) := by
  have hc := byt_at hb ha
  have hw : IntKind.i64.wrap b[at_] = b[at_] := w_small (by omega) (by omega)
  have hw2 : IntKind.i64.wrap ((at_ : Int) + b[at_]) = (at_ : Int) + b[at_] := w_small (by omega) (by omega)
  unfold ref05_Decode_l2
  simp only
  rw [if_pos (by simp; omega)]
  refine ⟨b[at_], idx_of ha, _, rinner_ok hb hlen ha ho, ?_⟩
  have hl : (out ++ (b.drop (at_ + 1)).take (b[at_] - 1).toNat).length < 2147483648 := by
    rw [List.length_append, List.length_take]; omega
  generalize out ++ (b.drop (at_ + 1)).take (b[at_] - 1).toNat = o2 at hl
  unfold ref05_Decode_j3
  simp only [hw, hw2]
  by_cases h0 : b[at_] = 0
  · rw [if_pos h0, if_pos (by simpa using h0)]
  · rw [if_neg h0, if_neg (by simpa using h0)]
    by_cases h1 : b[at_] < 255
    · rw [if_pos (by simpa using h1)]
      unfold ref05_Decode_j4
      by_cases h2 : (at_ : Int) + b[at_] < b.length
      · have hz : (if b[at_] < 255 ∧ (at_ : Int) + b[at_] < b.length then ([0] : List Int) else []) = [0] := if_pos ⟨h1, h2⟩
        rw [hz, if_pos (by simpa using h2)]
        simp only [hw, hw2, List.length_cons, List.length_nil]
        exact ⟨by omega, by omega, trivial⟩
      · have hz : (if b[at_] < 255 ∧ (at_ : Int) + b[at_] < b.length then ([0] : List Int) else []) = [] := if_neg (fun h => h2 h.2)
        rw [hz, if_neg (by simpa using h2)]
        simp only [hw, hw2, List.append_nil]
    · have hz : (if b[at_] < 255 ∧ (at_ : Int) + b[at_] < b.length then ([0] : List Int) else []) = [] := if_neg (fun h => h1 h.1)
      rw [hz, if_neg (by simpa using h1)]
      unfold ref05_Decode_j4
      rw [if_neg (by decide)]
      simp only [hw, hw2, List.append_nil]
theorem rloop_any {b : List Int} (hb : Byt b) (hlen : b.length < 268435456) : ∃ e, Loops (ref05_Decode_l2 b) ([], 0) e ∧ (e = .inr ([], 12) ∨ ∃ o : List Int, e = .inl o ∧ o.length < 1073741824) := by
  refine loops_inv (step := ref05_Decode_l2 b) (fun k (s : List Int × Int) => ∃ at_ : Nat, s.2 = (at_ : Int) ∧ k ≤ at_ ∧ at_ ≤ b.length + 255 ∧ s.1.length ≤ at_) _ b.length ⟨0, rfl, Nat.le_refl _, by omega, by simp⟩ ?_ ?_
  · rintro k ⟨out, i⟩ hk ⟨at_, h1, h2, h3, h4⟩
    simp only at h1 h4
    subst h1
    by_cases ha : at_ < b.length
    · have hs := rstep_ok hb (by omega) ha (out := out) (by omega)
      have hc := byt_at hb ha
      by_cases h0 : b[at_] = 0
      · right
        rw [if_pos h0] at hs
        exact ⟨_, hs, .inl rfl⟩
      · left
        rw [if_neg h0] at hs
        refine ⟨_, hs, (at_ + b[at_].toNat), by simp only; omega, by omega, by omega, ?_⟩
        have : (if b[at_] < 255 ∧ (at_ : Int) + b[at_] < b.length then ([0] : List Int) else []).length ≤ 1 := by split <;> simp
        simp only [List.length_append, List.length_take]
        omega
    · right
      refine ⟨.inl out, ?_, .inr ⟨out, rfl, by omega⟩⟩
      unfold ref05_Decode_l2
      rw [if_neg (by simp; omega)]
  · rintro ⟨out, i⟩ ⟨at_, h1, h2, h3, h4⟩
    simp only at h1 h4
    subst h1
    refine ⟨.inl out, ?_, .inr ⟨out, rfl, by omega⟩⟩
    unfold ref05_Decode_l2
    rw [if_neg (by simp; omega)]
theorem flatB_cons (p : List Int) (L : List (List Int)) : flatB (p :: L) = ((p.length : Int) + 1) :: (p ++ flatB L) := by simp [flatB, enc1]
theorem rloop_enc {b : List Int} (hb : Byt b) (hlen : b.length < 268435456) : ∀ (L : List (List Int)) (pre out : List Int), (∀ p ∈ L, p.length ≤ 254) → b = pre ++ flatB L → out.length ≤ pre.length → Loops (ref05_Decode_l2 b) (out, (pre.length : Int)) (.inl (out ++ joinB L))
  | [], pre, out, _, hp, _ => by
    refine .done ?_
    unfold ref05_Decode_l2
    have : b.length = pre.length := by rw [hp]; simp [flatB]
    rw [if_neg (by simp; omega)]
    simp [joinB]
  | p :: L, pre, out, hL, hp, ho => by
    have hbl : b.length = pre.length + 1 + p.length + (flatB L).length := by rw [hp, flatB_cons]; simp only [List.length_append, List.length_cons]; omega
    have ha : pre.length < b.length := by omega
    have hc : b[pre.length] = (p.length : Int) + 1 := by
      have h1 : b[pre.length]? = some ((p.length : Int) + 1) := by rw [hp, flatB_cons]; simp
      rw [List.getElem?_eq_getElem ha] at h1
      simpa using h1
    have hpl := hL p List.mem_cons_self
    have hs := rstep_ok hb (by omega) ha (out := out) (by omega)
    rw [hc, if_neg (by omega)] at hs
    have ht : (b.drop (pre.length + 1)).take ((p.length : Int) + 1 - 1).toNat = p := by
      rw [show ((p.length : Int) + 1 - 1).toNat = p.length by omega, hp, flatB_cons, ← List.drop_drop, List.drop_left, List.drop_succ_cons, List.drop_zero, List.take_left]
    rw [ht] at hs
    have e2 : (pre.length : Int) + ((p.length : Int) + 1) = ((pre ++ (((p.length : Int) + 1) :: p)).length : Int) := by simp only [List.length_append, List.length_cons]; omega
    rw [e2] at hs
    have ih := rloop_enc hb hlen L (pre ++ (((p.length : Int) + 1) :: p)) (out ++ p ++ (if (p.length : Int) + 1 < 255 ∧ ((pre ++ (((p.length : Int) + 1) :: p)).length : Int) < b.length then [0] else [])) (fun q hq => hL q (List.mem_cons_of_mem _ hq)) (by rw [hp, flatB_cons]; simp) (by
      have : (if (p.length : Int) + 1 < 255 ∧ ((pre ++ (((p.length : Int) + 1) :: p)).length : Int) < b.length then ([0] : List Int) else []).length ≤ 1 := by split <;> simp
      simp only [List.length_append, List.length_cons] at this ⊢; omega)
    refine .next hs ?_
    have hj : out ++ p ++ (if (p.length : Int) + 1 < 255 ∧ ((pre ++ (((p.length : Int) + 1) :: p)).length : Int) < b.length then [0] else []) ++ joinB L = out ++ joinB (p :: L) := by
      cases L with
      | nil =>
        have : ¬ ((p.length : Int) + 1 < 255 ∧ ((pre ++ (((p.length : Int) + 1) :: p)).length : Int) < b.length) := by
          rintro ⟨_, h⟩
          rw [hbl] at h
          simp [flatB] at h; omega
        rw [if_neg this]; simp [joinB]
      | cons q L =>
        have hq : (((pre ++ (((p.length : Int) + 1) :: p)).length : Int) < b.length) := by
          rw [hbl, flatB_cons]; simp; omega
        simp only [joinB]
        by_cases h : p.length = 254
        · rw [if_neg (fun h2 => by omega), if_pos h]; simp
        · rw [if_pos ⟨by omega, hq⟩, if_neg h]; simp
    rw [hj] at ih
    exact ih
theorem enc_len (x : List Int) : x.length + 1 ≤ (encB x).length := by
  have h := join_len (cb [] x false) (cb_ne x [])
  rw [(cb_ok (x.length + 1) x (by omega)).2.1] at h; exact h
theorem rdecode_ok {b : List Int} (hb : Byt b) (hlen : b.length < 268435456) : ref05_Decode b (decR b) := by
  unfold decR
  cases hd : decB b with
  | some x =>
    have he := dec_some hb hd
    obtain ⟨h1, h2, _⟩ := cb_ok (x.length + 1) x (by omega)
    have hl := rloop_enc hb hlen (cb [] x false) [] [] (fun p hp => (h1 p hp).2) (by rw [List.nil_append]; exact he.symm) (by simp)
    rw [h2] at hl
    refine ⟨.inl x, by simpa using hl, ?_⟩
    have hxl := enc_len x
    rw [he] at hxl
    refine ⟨_, rencode_ok (by omega), _, same_ok (by rw [he]; omega), ?_⟩
    rw [he, decide_eq_true rfl, if_neg (by decide)]
  | none =>
    obtain ⟨e, h1, h2⟩ := rloop_any hb hlen
    rcases h2 with rfl | ⟨o, rfl, ho⟩
    · exact ⟨_, h1, rfl⟩
    · refine ⟨_, h1, ?_⟩
      have hne : ¬ encB o = b := by
        intro h; rw [← h, dec_enc] at hd; cases hd
      have h3 : (encB o).length < 4611686018427387904 := by
        unfold encB
        have := cb_sum o [] false
        rw [flat_len]; simp at this; omega
      refine ⟨_, rencode_ok ho, _, same_ok h3, ?_⟩
      rw [decide_eq_false hne, if_pos (by decide)]

/-! ### frames -/
abbrev Fm := Hd × List Int
def noF : Fm := ((0, 0, 0, 0, 0), [])
def unpB (s : List Int) : Fm × Int := if 255 < s.length then (noF, 2) else if (decR s).2 ≠ 0 then (noF, (decR s).2) else if (decR s).1.length ≤ 12 then (noF, 13) else
  if (openB (decR s).1).2 ≠ 0 then (noF, (openB (decR s).1).2) else if (parseH ((openB (decR s).1).1.take 8)).2 ≠ 0 then (noF, (parseH ((openB (decR s).1).1.take 8)).2) else (((parseH ((openB (decR s).1).1.take 8)).1, (openB (decR s).1).1.drop 8), 0)
theorem decR_ok {s : List Int} (hs : Byt s) (h : (decR s).2 = 0) : encB (decR s).1 = s ∧ Byt (decR s).1 := by
  unfold decR at h ⊢
  cases hd : decB s with
  | none => rw [hd] at h; cases h
  | some x =>
    simp only
    refine ⟨dec_some hs hd, ?_⟩
    -- its bytes are among those
    have : ∀ (L : List (List Int)), (∀ p ∈ L, Byt p) → Byt (joinB L) := by
      intro L
      induction L with
      | nil => intro _ x hx; cases hx
      | cons p L ih =>
        intro hL
        cases L with
        | nil => exact hL p List.mem_cons_self
        | cons q L =>
          simp only [joinB]
          refine Byt.app (Byt.app (hL p List.mem_cons_self) ?_) (ih fun r hr => hL r (List.mem_cons_of_mem _ hr))
          intro x hx
          split at hx
          · cases hx
          · simp at hx; omega
    obtain ⟨_, h2, _⟩ := cb_ok (x.length + 1) x (by omega)
    rw [← h2]
    refine this _ fun p hp => ?_
    have he := dec_some hs hd
    intro c hc
    refine hs c ?_
    rw [← he]
    unfold encB
    exact List.mem_flatten.2 ⟨enc1 p, List.mem_map_of_mem hp, List.mem_cons_of_mem _ hc⟩
theorem drop8 {x : List Int} (_h : 8 ≤ x.length) : (x.drop (0 : Int).toNat).take ((8 : Int) - 0).toNat = x.take 8 ∧ (x.drop (8 : Int).toNat).take (((x.length : Int) : Int) - 8).toNat = x.drop 8 := by
  refine ⟨rfl, ?_⟩
  rw [show (8 : Int).toNat = 8 from rfl, List.take_of_length_le]
  rw [List.length_drop]; omega
theorem unpack_ok {t : List Int} (ht : IsTab t) {s : List Int} (hs : Byt s) (hl : s.length < 268435456) : frame_Codec_Unpack t s (unpB s) := by
  unfold frame_Codec_Unpack unpB
  by_cases h1 : 255 < s.length
  · rw [if_pos (by simp; omega), if_pos h1]; rfl
  · rw [if_neg (by simp; omega), if_neg h1]
    refine ⟨_, decode_ok hs hl, ?_⟩
    by_cases h2 : (decR s).2 = 0
    · rw [if_neg (show ¬ ((decR s).2 ≠ 0) from fun e => e h2), if_neg (by simpa using h2)]
      obtain ⟨he, hb⟩ := decR_ok hs h2
      have hbl : (decR s).1.length < 256 := by have := enc_len (decR s).1; rw [he] at this; omega
      by_cases h3 : (decR s).1.length ≤ 12
      · rw [if_pos h3, if_pos (by simp; omega)]; rfl
      · rw [if_neg h3, if_neg (by simp; omega)]
        refine ⟨_, copen_ok ht hb (by omega), ?_⟩
        by_cases h4 : (openB (decR s).1).2 = 0
        · rw [if_neg (by simpa using h4), if_neg (by simpa using h4)]
          obtain ⟨_, h5, _⟩ := openB_ok' h4
          have hxb : Byt (openB (decR s).1).1 := by rw [h5]; exact hb.take _
          have hxl : 8 ≤ (openB (decR s).1).1.length := by rw [h5, List.length_take]; omega
          obtain ⟨e1, e2⟩ := drop8 hxl
          rw [e1, e2]
          refine ⟨by omega, _, hparse_ok (hxb.take 8) (by rw [List.length_take]; omega), ?_⟩
          by_cases h6 : (parseH ((openB (decR s).1).1.take 8)).2 = 0
          · rw [if_neg (by simpa using h6), if_neg (by simpa using h6)]
            exact ⟨by omega, Int.le_refl _, rfl⟩
          · rw [if_pos (by simpa using h6), if_pos h6]; rfl
        · rw [if_pos (by simpa using h4), if_pos h4]; rfl
    · rw [if_pos (by simpa using h2), if_pos h2]; rfl
theorem runpack_ok {s : List Int} (hs : Byt s) (hl : s.length < 268435456) : ref08_Unpack s (unpB s) := by
  unfold ref08_Unpack unpB
  by_cases h1 : 255 < s.length
  · rw [if_pos (by simp; omega), if_pos h1]; rfl
  · rw [if_neg (by simp; omega), if_neg h1]
    refine ⟨_, rdecode_ok hs hl, ?_⟩
    by_cases h2 : (decR s).2 = 0
    · rw [if_neg (show ¬ ((decR s).2 ≠ 0) from fun e => e h2), if_neg (by simpa using h2)]
      obtain ⟨he, hb⟩ := decR_ok hs h2
      have hbl : (decR s).1.length < 256 := by have := enc_len (decR s).1; rw [he] at this; omega
      by_cases h3 : (decR s).1.length ≤ 12
      · rw [if_pos h3, if_pos (by simp; omega)]; rfl
      · rw [if_neg h3, if_neg (by simp; omega)]
        refine ⟨_, ropen_ok hb (by omega), ?_⟩
        by_cases h4 : (openB (decR s).1).2 = 0
        · rw [if_neg (by simpa using h4), if_neg (by simpa using h4)]
          obtain ⟨_, h5, _⟩ := openB_ok' h4
          have hxb : Byt (openB (decR s).1).1 := by rw [h5]; exact hb.take _
          have hxl : 8 ≤ (openB (decR s).1).1.length := by rw [h5, List.length_take]; omega
          have hxl2 : (openB (decR s).1).1.length < 256 := by rw [h5, List.length_take]; omega
          obtain ⟨e1, e2⟩ := drop8 hxl
          rw [e1, e2]
          refine ⟨by omega, _, rhparse_ok (hxb.take 8) (by rw [List.length_take]; omega), ?_⟩
          by_cases h6 : (parseH ((openB (decR s).1).1.take 8)).2 = 0
          · rw [if_neg (by simpa using h6), if_neg (by simpa using h6)]
            simp only [List.length_nil, List.nil_append, List.length_drop]
            exact ⟨by omega, Int.le_refl _, by omega, by omega, trivial⟩
          · rw [if_pos (by simpa using h6), if_pos h6]; rfl
        · rw [if_pos (by simpa using h4), if_pos h4]; rfl
    · rw [if_pos (by simpa using h2), if_pos h2]; rfl
/-- What is unpacked may be, and is packed to just that segment. -/
theorem unp_back {s : List Int} (hs : Byt s) (h : (unpB s).2 = 0) : frameE (unpB s).1 = 0 ∧ (0 ≤ (unpB s).1.1.2.2.1 ∧ (unpB s).1.1.2.2.1 < 4294967296) ∧ Byt (unpB s).1.2 ∧ segB (unpB s).1 = s := by
  unfold unpB at h ⊢
  by_cases h1 : 255 < s.length
  · rw [if_pos h1] at h; cases h
  · rw [if_neg h1] at h ⊢
    by_cases h2 : (decR s).2 = 0
    · rw [if_neg (by simpa using h2)] at h ⊢
      obtain ⟨he, hb⟩ := decR_ok hs h2
      have hbl := enc_len (decR s).1
      rw [he] at hbl
      by_cases h3 : (decR s).1.length ≤ 12
      · rw [if_pos h3] at h; cases h
      · rw [if_neg h3] at h ⊢
        by_cases h4 : (openB (decR s).1).2 = 0
        · rw [if_neg (by simpa using h4)] at h ⊢
          obtain ⟨_, h5, h6⟩ := openB_ok' h4
          rw [h5] at h ⊢
          generalize decR s = d at *
          obtain ⟨b, e⟩ := d
          simp only at *
          by_cases h7 : (parseH ((b.take (b.length - 4)).take 8)).2 = 0
          · rw [if_neg (by simpa using h7)]
            have h8 : ((b.take (b.length - 4)).take 8).length = 8 := by rw [List.length_take, List.length_take]; omega
            have hxb : Byt ((b.take (b.length - 4)).take 8) := (hb.take _).take _
            have hE : headE (hdOf ((b.take (b.length - 4)).take 8)) = 0 := by
              unfold parseH at h7
              by_cases hq : headE (hdOf ((b.take (b.length - 4)).take 8)) = 0
              · exact hq
              · rw [if_neg hq] at h7; exact absurd h7 hq
            have hP : (parseH ((b.take (b.length - 4)).take 8)).1 = hdOf ((b.take (b.length - 4)).take 8) := by unfold parseH; rw [if_pos hE]
            rw [hP]
            simp only
            have hv := leV_bound ((((b.take (b.length - 4)).take 8).drop 2).take 4) ((hxb.drop 2).take 4)
            have hp2 : 256 ^ ((((b.take (b.length - 4)).take 8).drop 2).take 4).length ≤ 256 ^ 4 := Nat.pow_le_pow_right (by omega) (by rw [List.length_take]; omega)
            have hdl : ((b.take (b.length - 4)).drop 8).length = b.length - 12 := by rw [List.length_drop, List.length_take]; omega
            have hB := headB_hdOf hxb h8
            refine ⟨?_, ⟨hv.1, ?_⟩, (hb.take _).drop _, ?_⟩
            · unfold frameE
              simp only
              rw [if_neg (by simpa using hE), hdl, if_neg (by omega), if_neg (by omega)]
            · simp only [hdOf]; omega
            · unfold segB blockB
              simp only
              rw [hB, List.take_append_drop, ← h6, List.take_append_drop]; exact he
          · rw [if_pos h7] at h; exact absurd h h7
        · rw [if_pos h4] at h; exact absurd h h4
    · rw [if_pos h2] at h; exact absurd h h2
theorem rfsame_ok (a b : Fm) (hl : a.2.length < 4611686018427387904) : ref08_Same a b (decide (a = b)) := by
  unfold ref08_Same
  obtain ⟨⟨v, k, q, i, n⟩, x⟩ := a
  obtain ⟨⟨v', k', q', i', n'⟩, y⟩ := b
  simp only
  by_cases h : v = v' ∧ k = k' ∧ q = q' ∧ i = i' ∧ n = n'
  · obtain ⟨rfl, rfl, rfl, rfl, rfl⟩ := h
    rw [if_pos (by simp)]
    refine ⟨_, same_ok hl, ?_⟩
    show decide _ = decide _
    rw [decide_eq_decide]; simp
  · rw [if_neg (by simpa using h)]
    show decide _ = false
    rw [decide_eq_false]
    intro e
    simp only [Prod.mk.injEq] at e
    exact h e.1
end Go.Rel
