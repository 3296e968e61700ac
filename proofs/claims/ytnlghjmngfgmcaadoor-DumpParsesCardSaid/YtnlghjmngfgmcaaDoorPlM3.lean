import Derived.Test.YtnlghjmngfgmcaaDoorPlM2
/-! Plain laws: what a dump tells. -/
namespace Go.Rel
open Go Go.Eng Go.Pl
theorem stop_run29 {X : Type} {B : X → Int → Sum Int Int → Prop} {stop : Int} (hB : ∀ x s, 0 ≤ s → s < 1099511627776 → B x s (if s = stop then .inr s else .inl (s + 1))) : ∀ (xs : List X) (s : Int), 0 ≤ s → s + xs.length < 1099511627776 → ∃ t, RunB B xs s t ∧ (t = .inl (s + xs.length) ∨ t = .inr stop)
  | [], s, _, _ => ⟨_, .nil, .inl (by simp)⟩
  | x :: xs, s, h0, h1 => by
    simp only [List.length_cons] at h1
    have := hB x s h0 (by omega)
    by_cases h : s = stop
    · rw [if_pos h] at this; rw [h] at this ⊢; exact ⟨_, .stop this, .inr rfl⟩
    · rw [if_neg h] at this
      obtain ⟨t, h2, h3⟩ := stop_run29 hB xs (s + 1) (by omega) (by omega)
      refine ⟨t, .go this h2, ?_⟩
      rcases h3 with h3 | h3
      · left; rw [h3]; simp only [List.length_cons]; congr 1; omega
      · exact .inr h3
/-! ### Segments, and where they stand -/
theorem split2_ok {b : List Int} (hl : b.length < 1073741824) : ∃ rest, ref06_Split b ((segP 0 [] b).map (·.2), (segP 0 [] b).map (·.1), rest) := by
  have key := loops_inv (step := ref06_Split_l2 b) (s := ([], [], [], 0)) (fun k (s : List (List Int) × List Int × List Int × Int) => s.2.2.2 = (k : Int) ∧ s.1 ++ (segP k s.2.2.1 (b.drop k)).map (·.2) = (segP 0 [] b).map (·.2) ∧ s.2.1 ++ (segP k s.2.2.1 (b.drop k)).map (·.1) = (segP 0 [] b).map (·.1) ∧ s.1.length ≤ k ∧ s.2.1.length ≤ k ∧ s.2.2.1.length ≤ k) (fun e => e.1 = (segP 0 [] b).map (·.2) ∧ e.2.1 = (segP 0 [] b).map (·.1)) b.length ⟨rfl, by simp, by simp, by simp, by simp, by simp⟩ ?_ ?_
  · obtain ⟨⟨l, ps, rest⟩, h1, h2, h3⟩ := key
    simp only at h2 h3
    subst h2 h3
    exact ⟨rest, _, h1, rfl⟩
  · rintro k ⟨out, ps, now, i⟩ hk ⟨h1, h2, h6, h3, h4, h5⟩
    simp only at h1 h2 h3 h4 h5 h6
    subst h1
    left
    have wi : IntKind.i64.wrap ((k : Int) + 1) = ((k + 1 : Nat) : Int) := by rw [w_small (by omega) (by omega)]; rfl
    rw [List.drop_eq_getElem_cons hk] at h2 h6
    simp only [segP] at h2 h6
    by_cases h0 : b[k] = 0
    · rw [if_neg (by simpa using h0)] at h2 h6
      by_cases hn : now = []
      · rw [if_pos hn] at h2 h6
        subst hn
        refine ⟨(out, ps, [], ((k + 1 : Nat) : Int)), ?_, rfl, h2, h6, by simp only; omega, by simp only; omega, by simp⟩
        unfold ref06_Split_l2
        simp only
        rw [if_pos (by simp; omega)]
        refine ⟨b[k], idx_of hk, ?_⟩
        rw [if_neg (by simp [h0]), if_neg (by simp)]
        unfold ref06_Split_j4 ref06_Split_j3
        simp only
        rw [wi]
      · rw [if_neg hn] at h2 h6
        have hnl : 0 < now.length := List.length_pos_iff.2 hn
        refine ⟨(out ++ [now], ps ++ [(k : Int) - (now.length : Int)], [], ((k + 1 : Nat) : Int)), ?_, rfl, by simpa using h2, by simpa using h6, by simp; omega, by simp; omega, by simp⟩
        unfold ref06_Split_l2
        simp only
        rw [if_pos (by simp; omega)]
        refine ⟨b[k], idx_of hk, ?_⟩
        rw [if_neg (by simp [h0]), if_pos (by simp; omega), w_small (n := (k : Int) - (now.length : Int)) (by omega) (by omega)]
        simp only [List.length_cons, List.length_nil]
        refine ⟨by omega, by omega, by omega, by omega, ?_⟩
        unfold ref06_Split_j4 ref06_Split_j3
        simp only
        rw [wi]
    · rw [if_pos h0] at h2 h6
      refine ⟨(out, ps, now ++ [b[k]], ((k + 1 : Nat) : Int)), ?_, rfl, h2, h6, by simp only; omega, by simp only; omega, by simp; omega⟩
      unfold ref06_Split_l2
      simp only
      rw [if_pos (by simp; omega)]
      refine ⟨b[k], idx_of hk, ?_⟩
      rw [if_pos (by simpa using h0)]
      simp only [List.length_cons, List.length_nil]
      refine ⟨b[k], idx_of hk, by omega, by omega, ?_⟩
      unfold ref06_Split_j3
      simp only
      rw [wi]
  · rintro ⟨out, ps, now, i⟩ ⟨h1, h2, h6, _⟩
    simp only at h1 h2 h6
    refine ⟨(out, ps, now), ?_, by simpa [segP] using h2, by simpa [segP] using h6⟩
    unfold ref06_Split_l2
    rw [if_neg (by simp [h1])]
theorem segP_pos : ∀ (l : List Int) (i : Nat) (now : List Int), now.length ≤ i → ∀ x ∈ segP i now l, 0 ≤ x.1 ∧ x.1 ≤ (i : Int) + l.length
  | [], i, now, _, x, hx => by simp [segP] at hx
  | c :: l, i, now, hn, x, hx => by
    unfold segP at hx
    simp only [List.length_cons]
    split at hx
    · have := segP_pos l (i + 1) (now ++ [c]) (by simp; omega) x hx; omega
    · split at hx
      · have := segP_pos l (i + 1) [] (by simp) x hx; omega
      · rcases List.mem_cons.1 hx with rfl | hx
        · simp only; omega
        · have := segP_pos l (i + 1) [] (by simp) x hx; omega
/-- A segment that may be told of. -/
def SegOk (x : Int × List Int) : Prop := Byt x.2 ∧ x.2.length < 100000 ∧ 0 ≤ x.1 ∧ x.1 < 1000000
theorem segs_ok {b : List Int} (hb : Byt b) (hl : b.length < 100000) : ∀ x ∈ segP 0 [] b, SegOk x := by
  intro x hx
  have h1 := segP_byt b 0 [] hb (fun y hy => nomatch hy) x hx
  have h2 : x.2.length ≤ ((segP 0 [] b).map (fun x => x.2.length)).sum := mem_le_sum (List.mem_map_of_mem hx)
  have h3 := segP_sum b 0 []
  have h4 := segP_pos b 0 [] (by simp) x hx
  simp at h3
  exact ⟨h1, by omega, by omega, by omega⟩
/-- What is told of a segment. -/
def descL (x : Int × List Int) : List Int := decI x.1 ++ [32] ++ (if (unpB x.2).2 = 0 then frameLn (unpB x.2).1 else wordE (unpB x.2).2)
theorem unp_fine {s : List Int} (hs : Byt s) (h : (unpB s).2 = 0) : HdOk (unpB s).1.1 ∧ (unpB s).1.2.length < 1048576 := by
  obtain ⟨h1, h2, -, -⟩ := unp_back hs h
  obtain ⟨h3, -, h4⟩ := frameE_ok h1
  obtain ⟨a1, a2, a3, a4, a5, a6, a7, a8⟩ := headE_ok h3
  refine ⟨⟨ok_lit _ (by omega) (by omega), ok_lit _ (by omega) (by omega), ⟨?_, ?_⟩, ok_lit _ (by omega) (by omega), ok_lit _ (by omega) (by omega)⟩, by omega⟩
  · show (0 : Int) ≤ _; omega
  · show _ ≤ (4294967295 : Int); omega
theorem frameLn_len {f : Fm} (ok : HdOk f.1) (hl : f.2.length < 1048576) : (frameLn f).length ≤ 300 := by
  have hh := headLn_len ok
  have l1 := decI_len (ok_lit (f.2.length : Int) (by omega) (by omega))
  simp only [frameLn, List.length_append, List.length_cons, List.length_nil]; omega
/-- The two ways of one segment, each said by its own code. -/
theorem tail_len {x : Int × List Int} (hx : SegOk x) : (decI x.1).length ≤ 21 ∧ (unpB x.2).2 = 0 → (frameLn (unpB x.2).1).length ≤ 300 := fun h => frameLn_len (unp_fine hx.1 h.2).1 (unp_fine hx.1 h.2).2
theorem each_itr {b : List Int} (hb : Byt b) (hl : b.length < 100000) : Itr (dump_Each_1 b) ((segP 0 [] b).map fun x => ((x.2.length : Int), bstr (descL x))) := by
  intro S Y s s' hr
  obtain ⟨t, ht1, ht2⟩ := fnew_ok
  have go : ∀ (xs : List (Int × List Int)) (s : S), (∀ x ∈ xs, SegOk x) → Run Y (xs.map fun x => ((x.2.length : Int), bstr (descL x))) s s' → ∃ t', RunB (dump_Each_1_l1 S Y t) xs s t' ∧ (t' = .inl s' ∨ t' = .inr s') := by
    intro xs
    induction xs with
    | nil => intro s _ h; cases h; exact ⟨_, .nil, .inl rfl⟩
    | cons x xs ih =>
      intro s hx h
      have hx1 := hx x List.mem_cons_self
      obtain ⟨h1, h2, h3, h4⟩ := hx1
      have oi : IntOk .i64 x.1 := ok_lit _ (by omega) (by omega)
      have ld := decI_len oi
      have stp : ∀ y u, Y ((x.2.length : Int), bstr (descL x)) s (y, u) → dump_Each_1_l1 S Y t x s (if y = true then .inl u else .inr u) := by
        intro y u hy
        have j2 : ∀ w : List Int, w.length ≤ 300 → descL x = decI x.1 ++ [32] ++ w → dump_Each_1_j2 S Y x (s, bstr w) (if y = true then .inl u else .inr u) := by
          intro w hw hd
          rw [hd, bstr_append, bstr_append] at hy
          refine ⟨_, snum_ok oi, fin_app _ _ (by simp only [List.length_cons, List.length_nil]; omega), by rw [← bstr_append]; exact fin_app _ _ (by simp only [List.length_append, List.length_cons, List.length_nil]; omega), y, u, hy, ?_⟩
          cases y with
          | true => rw [if_neg (by decide)]; rfl
          | false => rw [if_pos (by decide)]; rfl
        refine ⟨_, unpack_ok ht2 h1 (by omega), _, eword_ok _, ?_⟩
        by_cases he : (unpB x.2).2 = 0
        · rw [if_pos (by simpa using he)]
          obtain ⟨f1, f2⟩ := unp_fine h1 he
          exact ⟨_, (fline_ok f1 f2).1, j2 _ (frameLn_len f1 f2) (by rw [descL, if_pos he])⟩
        · rw [if_neg (by simpa using he)]
          have := wordE_len (unpB x.2).2
          exact j2 _ (by omega) (by rw [descL, if_neg he])
      simp only [List.map_cons] at h
      cases h with
      | go h h' =>
        obtain ⟨t', h3, h4⟩ := ih _ (fun z hz => hx z (List.mem_cons_of_mem _ hz)) h'
        exact ⟨t', .go (stp true _ h) h3, h4⟩
      | stop h => exact ⟨_, .stop (stp false _ h), .inr rfl⟩
  obtain ⟨t', h1, h2⟩ := go _ s (segs_ok hb hl) hr
  refine ⟨t, ht1, _, rfl, t', (), segments_ok (by omega) _ _ _ _ (run_yof h1), ?_⟩
  rcases h2 with rfl | rfl <;> rfl
def descsB (b : List Int) : List ByteArray := (segP 0 [] b).map fun x => bstr (descL x)
theorem foldl_snoc {X Z : Type} (g : X → Z) : ∀ (p : List X) (l : List Z), p.foldl (fun s x => s ++ [g x]) l = l ++ p.map g
  | [], l => by simp
  | x :: p, l => by simp only [List.foldl_cons]; rw [foldl_snoc g p]; simp
theorem describe_ok {b : List Int} (hb : Byt b) (hl : b.length < 100000) : dump_Describe b (descsB b) := by
  have hn : (segP 0 [] b).length < 100000 := by have := (segP_sum b 0 []).2; omega
  have hf : (((segP 0 [] b).map fun x => ((x.2.length : Int), bstr (descL x))).foldl (fun (s : List ByteArray) (x : Int × ByteArray) => s ++ [x.2]) []) = descsB b := by
    rw [foldl_snoc]; simp [descsB]
  refine ⟨_, rfl, .inl (descsB b), (), each_itr hb hl _ _ _ _ (run_yof ?_), rfl⟩
  rw [← hf]
  refine runB_fold _ _ _ (fun p x q e => ?_)
  have hp : p.length < 100000 := by
    have := congrArg List.length e
    simp at this; omega
  rw [foldl_snoc]
  unfold dump_Describe_l1
  simp only [List.nil_append, List.length_map, List.length_cons, List.length_nil]
  exact ⟨by omega, by omega, trivial⟩
theorem rdescribe_ok {b : List Int} (hb : Byt b) (hl : b.length < 100000) : ref29_Describe b (descsB b, (segP 0 [] b).map fun x => (x.2.length : Int)) := by
  obtain ⟨rest, hs⟩ := split2_ok (b := b) (by omega)
  have hok := segs_ok hb hl
  have hn : (segP 0 [] b).length < 100000 := by have := (segP_sum b 0 []).2; omega
  refine ⟨_, hs, (descsB b, (segP 0 [] b).map fun x => (x.2.length : Int)), ?_, by show _ = _; rfl⟩
  unfold descsB
  generalize segP 0 [] b = L at hok hn
  refine loops_count (step := ref29_Describe_l2 (L.map (·.2), L.map (·.1), rest)) (fun k => ((L.take k).map fun x => bstr (descL x), (L.take k).map fun x => (x.2.length : Int), (k : Int))) L.length (fun k hk => ?_) ?_
  · obtain ⟨h1, h2, h3, h4⟩ := hok _ (List.getElem_mem hk)
    have oi : IntOk .i64 L[k].1 := ok_lit _ (by omega) (by omega)
    have ld := decI_len oi
    have j3 : ∀ w : List Int, w.length ≤ 300 → descL L[k] = decI L[k].1 ++ [32] ++ w → ref29_Describe_j3 (L.map (·.2), L.map (·.1), rest) ((L.take k).map fun x => bstr (descL x), (L.take k).map fun x => (x.2.length : Int), (k : Int)) (bstr w) (.inl ((L.take (k + 1)).map fun x => bstr (descL x), (L.take (k + 1)).map fun x => (x.2.length : Int), ((k + 1 : Nat) : Int))) := by
      intro w hw hd
      refine ⟨L[k].1, idx_at rfl (by simp [hk]), _, digits_ok oi, fin_app _ _ (by simp only [List.length_cons, List.length_nil]; omega), by rw [← bstr_append]; exact fin_app _ _ (by simp only [List.length_append, List.length_cons, List.length_nil]; omega), ?_⟩
      simp only [List.length_map, List.length_take, List.length_cons, List.length_nil]
      refine ⟨by omega, by omega, L[k].2, idx_at rfl (by simp [hk]), by omega, by omega, ?_⟩
      rw [w_small (by omega) (by omega), take_map (fun x : Int × List Int => bstr (descL x)) hk, take_map (fun x : Int × List Int => (x.2.length : Int)) hk, hd, bstr_append, bstr_append]; rfl
    unfold ref29_Describe_l2
    simp only
    rw [if_pos (by simp; omega)]
    refine ⟨L[k].2, idx_at rfl (by simp [hk]), _, runpack_ok h1 (by omega), _, reword_ok _, ?_⟩
    by_cases he : (unpB L[k].2).2 = 0
    · rw [if_pos (by simpa using he)]
      obtain ⟨f1, f2⟩ := unp_fine h1 he
      exact ⟨_, (fline_ok f1 f2).2, j3 _ (frameLn_len f1 f2) (by rw [descL, if_pos he])⟩
    · rw [if_neg (by simpa using he)]
      have := wordE_len (unpB L[k].2).2
      exact j3 _ (by omega) (by rw [descL, if_neg he])
  · unfold ref29_Describe_l2
    simp only
    rw [if_neg (by simp), List.take_length]
theorem lines25_ok {l : List ByteArray} (hl : l.length < 4611686018427387904) : law25_Lines l l true := by
  unfold law25_Lines
  rw [if_neg (by simp)]
  refine ⟨.inl (), loops_count (step := law25_Lines_l2 l l) (fun k => (k : Int)) l.length (fun k hk => ?_) ?_, rfl⟩
  · unfold law25_Lines_l2
    rw [if_pos (by simpa using hk)]
    refine ⟨l[k], idx_of hk, l[k], idx_of hk, ?_⟩
    rw [if_neg (by simp), w_small (by omega) (by omega)]; rfl
  · unfold law25_Lines_l2
    rw [if_neg (by simp)]
/-! ### Dumps -/
def hexN : Nat → Int → List Int
  | 0, _ => []
  | k + 1, a => hexD (a / 16 ^ k % 16) :: hexN k a
theorem hexN_len : ∀ (k : Nat) (a : Int), (hexN k a).length = k
  | 0, _ => rfl
  | k + 1, a => by simp [hexN, hexN_len k a]
theorem hexD_byt {n : Int} (h0 : 0 ≤ n) (h1 : n < 16) : 0 ≤ hexD n ∧ hexD n < 256 := by unfold hexD; split <;> omega
theorem hexN_byt : ∀ (k : Nat) (a : Int), Byt (hexN k a)
  | 0, _ => fun x hx => nomatch hx
  | k + 1, a => fun x hx => by
    rcases List.mem_cons.1 hx with rfl | hx
    · exact hexD_byt (Int.emod_nonneg _ (by decide)) (Int.emod_lt_of_pos _ (by decide))
    · exact hexN_byt k a x hx
theorem nib_ok {a : Int} (h0 : 0 ≤ a) (h1 : a < 4294967296) {k : Nat} (hk : k < 8) : iand .u32 (ishr .u32 a (4 * (k : Int))) 15 = a / 16 ^ k % 16 := by
  have e : a = B (bw a) := (B_bw h0 h1).symm
  have h2 := ishr_B (bw a) (s := 4 * (k : Int)) (4 * k) (by omega) (by omega)
  rw [← e] at h2
  rw [h2, show (15 : Int) = B (15#32) from rfl, iand_B]
  unfold B
  rw [BitVec.toNat_and, show (15#32).toNat = 2 ^ 4 - 1 from rfl, Nat.and_two_pow_sub_one_eq_mod, BitVec.toNat_ushiftRight, Nat.shiftRight_eq_div_pow, Nat.pow_mul]
  have h3 : ((bw a).toNat : Int) = a := e.symm
  rw [Int.natCast_emod, Int.natCast_ediv, h3]
  simp
theorem wbyte_ok {s : Bool × List Int} {c : Int} (h : s.2.length < 1000000000) : strings_Builder_WriteByte s c (false, true, s.2 ++ [c]) :=
  ⟨_, rfl, by simp only [List.length_cons, List.length_nil]; omega, by simp only [List.length_cons, List.length_nil]; omega, rfl⟩
theorem put_run {a : Int} (h0 : 0 ≤ a) (h1 : a < 4294967296) : ∀ (k : Nat) (s : Bool × List Int), k ≤ 8 → s.2.length + k < 1000000000 → Loops (dump_Text_1_l1 a) ((k : Int) - 1, s.1, s.2) (s.1 || decide (0 < k), s.2 ++ hexN k a)
  | 0, s, _, _ => by
    refine .done ?_
    unfold dump_Text_1_l1
    rw [if_neg (show ¬ decide (0 ≤ ((0 : Nat) : Int) - 1) = true by decide)]
    simp [hexN]
  | k + 1, s, hk, hl => by
    have ih := put_run h0 h1 k (true, s.2 ++ [hexD (a / 16 ^ k % 16)]) (by omega) (by simp; omega)
    have w4 : IntKind.i64.wrap (4 * (k : Int)) = 4 * (k : Int) := w_small (by omega) (by omega)
    rw [show ((k + 1 : Nat) : Int) - 1 = (k : Int) by omega]
    have e : (s.1 || decide (0 < k + 1), s.2 ++ hexN (k + 1) a) = ((true, s.2 ++ [hexD (a / 16 ^ k % 16)]).1 || decide (0 < k), (true, s.2 ++ [hexD (a / 16 ^ k % 16)]).2 ++ hexN k a) := by simp [hexN]
    rw [e]
    refine .next ?_ ih
    unfold dump_Text_1_l1
    rw [if_pos (by simp)]
    simp only
    rw [w4, nib_ok h0 h1 (by omega)]
    refine ⟨by omega, _, hex_at (Int.emod_nonneg _ (by decide)) (Int.emod_lt_of_pos _ (by decide)), _, wbyte_ok (by simp only; omega), ?_⟩
    rw [w_small (by omega) (by omega)]
theorem put_ok {a : Int} (h0 : 0 ≤ a) (h1 : a < 4294967296) {k : Nat} {n : Int} (hn : n = (k : Int)) (s : Bool × List Int) (hk : k ≤ 8) (hl : s.2.length + k < 1000000000) : dump_Text_1 a n s (s.1 || decide (0 < k), s.2 ++ hexN k a) := by
  subst hn
  refine ⟨_, ?_, rfl⟩
  rw [w_small (by omega) (by omega)]
  exact put_run h0 h1 k s hk hl
def rowsP (at_ : Nat) (l : List Int) : List (Int × List Int) := if _h : l = [] then [] else ((at_ : Int), l.take 16) :: rowsP (at_ + 16) (l.drop 16)
termination_by l.length
decreasing_by have := List.length_pos_iff.2 _h; rw [List.length_drop]; omega
theorem rows_itr {b : List Int} (hl : b.length < 1000000000) : Itr (dump_Rows_1 b) (rowsP 0 b) := by
  intro S Y s s' hr
  refine ⟨(s', ()), ?_, rfl⟩
  have key : ∀ (m a : Nat) (s : S), b.length ≤ a + m → a < 1000000100 → Run Y (rowsP a (b.drop a)) s s' → Loops (dump_Rows_1_l1 S Y b) (s, (a : Int)) (s', ()) := by
    intro m
    induction m with
    | zero =>
      intro a s hm ha hr
      rw [rowsP, dif_pos (List.drop_eq_nil_of_le (by omega))] at hr
      cases hr
      refine .done ?_
      unfold dump_Rows_1_l1
      rw [if_neg (by simp; omega)]
    | succ m ih =>
      intro a s hm ha hr
      by_cases hab : a < b.length
      · have hne : b.drop a ≠ [] := fun h => by have := congrArg List.length h; simp at this; omega
        rw [rowsP, dif_neg hne, List.drop_drop] at hr
        have e1 : IntKind.i64.wrap ((a : Int) + 16) = ((a + 16 : Nat) : Int) := by rw [w_small (by omega) (by omega)]; rfl
        have e2 : (b.drop (a : Int).toNat).take (((min ((a + 16 : Nat) : Int) (b.length : Int)) : Int) - (a : Int)).toNat = (b.drop a).take 16 := by
          rw [Int.toNat_natCast]
          by_cases h : a + 16 ≤ b.length
          · rw [show (min ((a + 16 : Nat) : Int) (b.length : Int) - (a : Int)).toNat = 16 by omega]
          · rw [List.take_of_length_le (by rw [List.length_drop]; omega), List.take_of_length_le (by rw [List.length_drop]; omega)]
        have e3 : ((b.drop a).take 16).length ≤ 16 := by rw [List.length_take]; omega
        have stp : ∀ y u, Y ((a : Int), (b.drop a).take 16) s (y, u) → dump_Rows_1_l1 S Y b (s, (a : Int)) (if y = true then .inl (u, ((a + 16 : Nat) : Int)) else .inr (u, ())) := by
          intro y u hy
          unfold dump_Rows_1_l1
          rw [if_pos (by simpa using hab)]
          simp only
          rw [e1, e2]
          simp only [List.length_nil, List.nil_append]
          refine ⟨by omega, by omega, by omega, by omega, by omega, by omega, by omega, y, u, hy, ?_⟩
          cases y with
          | true => rw [if_neg (by decide)]; rfl
          | false => rw [if_pos (by decide)]; rfl
        cases hr with
        | go h h' => exact .next (stp true _ h) (ih (a + 16) _ (by omega) (by omega) h')
        | stop h => exact .done (stp false _ h)
      · rw [rowsP, dif_pos (List.drop_eq_nil_of_le (by omega))] at hr
        cases hr
        refine .done ?_
        unfold dump_Rows_1_l1
        rw [if_neg (by simp; omega)]
  exact key b.length 0 s (by omega) (by omega) hr
def byteT (c : Int) : List Int := 32 :: hexN 2 c
def rowT (x : Int × List Int) : List Int := hexN 8 x.1 ++ x.2.flatMap byteT ++ [10]
def dumpT (b : List Int) : List Int := (rowsP 0 b).flatMap rowT
theorem rowsP_ok : ∀ (n : Nat) (l : List Int) (a : Nat), l.length ≤ n → Byt l → (∀ x ∈ rowsP a l, 0 ≤ x.1 ∧ x.1 ≤ (a : Int) + l.length ∧ Byt x.2 ∧ x.2.length ≤ 16) ∧ (rowsP a l).length ≤ l.length
  | 0, l, a, h, _ => by
    rw [rowsP, dif_pos (List.eq_nil_of_length_eq_zero (by omega))]; simp
  | n + 1, l, a, h, hb => by
    by_cases hn : l = []
    · rw [rowsP, dif_pos hn]; simp
    · have hp := List.length_pos_iff.2 hn
      obtain ⟨h1, h2⟩ := rowsP_ok n (l.drop 16) (a + 16) (by rw [List.length_drop]; omega) (hb.drop 16)
      rw [List.length_drop] at h2
      rw [rowsP, dif_neg hn]
      refine ⟨fun x hx => ?_, by simp only [List.length_cons]; omega⟩
      rcases List.mem_cons.1 hx with rfl | hx
      · exact ⟨by simp only; omega, by simp only; omega, hb.take 16, by simp only [List.length_take]; omega⟩
      · obtain ⟨k1, k2, k3, k4⟩ := h1 x hx
        rw [List.length_drop] at k2
        by_cases h16 : 16 ≤ l.length
        · exact ⟨k1, by omega, k3, k4⟩
        · rw [List.drop_eq_nil_of_le (by omega), rowsP, dif_pos rfl] at hx
          exact nomatch hx
theorem byteT_len (l : List Int) : (l.flatMap byteT).length = 3 * l.length := by
  induction l with
  | nil => rfl
  | cons x l ih => rw [List.flatMap_cons, List.length_append, ih]; simp [byteT, hexN_len]; omega
theorem rowT_len {x : Int × List Int} (h : x.2.length ≤ 16) : (rowT x).length ≤ 57 := by
  simp only [rowT, List.length_append, hexN_len, byteT_len, List.length_cons, List.length_nil]; omega
theorem rowT_byt (x : Int × List Int) : Byt (rowT x) := by
  intro c hc
  simp only [rowT, List.mem_append, List.mem_flatMap, byteT, List.mem_cons, List.not_mem_nil, or_false] at hc
  rcases hc with (hc | ⟨y, _, hc | hc⟩) | hc
  · exact hexN_byt _ _ c hc
  · omega
  · exact hexN_byt _ _ c hc
  · omega
theorem dflat_len {l : List (Int × List Int)} (h : ∀ x ∈ l, x.2.length ≤ 16) : (l.flatMap rowT).length ≤ 57 * l.length := by
  induction l with
  | nil => simp
  | cons x l ih =>
    have h1 := rowT_len (h x List.mem_cons_self)
    have h2 := ih (fun y hy => h y (List.mem_cons_of_mem _ hy))
    rw [List.flatMap_cons, List.length_append, List.length_cons]; omega
theorem fold_rows : ∀ (p : List (Int × List Int)) (s : Bool × List Int), (p.foldl (fun (s : Bool × List Int) x => (true, s.2 ++ rowT x)) s).2 = s.2 ++ p.flatMap rowT
  | [], s => by simp
  | x :: p, s => by simp only [List.foldl_cons]; rw [fold_rows p]; simp
theorem row_run {x : Int × List Int} (h0 : 0 ≤ x.1) (h1 : x.1 < 100000000) (hx : Byt x.2) (hl : x.2.length ≤ 16) {s : Bool × List Int} (hs : s.2.length < 100000000) : dump_Text_l1 x s (.inl (true, s.2 ++ rowT x)) := by
  have w : IntKind.u32.wrap x.1 = x.1 := w32_small h0 (by omega)
  refine ⟨_, by rw [w]; exact put_ok h0 (by omega) (k := 8) rfl s (by omega) (by omega), (true, s.2 ++ hexN 8 x.1 ++ x.2.flatMap byteT), ?_, ?_⟩
  · have := loops_count (step := dump_Text_l3 x) (e := (true, s.2 ++ hexN 8 x.1 ++ x.2.flatMap byteT)) (fun k => ((k : Int), true, s.2 ++ hexN 8 x.1 ++ (x.2.take k).flatMap byteT)) x.2.length (fun k hk => by
      have hlen : ((x.2.take k).flatMap byteT).length ≤ 48 := by rw [byteT_len, List.length_take]; omega
      have hb := hx _ (List.getElem_mem hk)
      unfold dump_Text_l3
      rw [if_pos (by simpa using hk)]
      refine ⟨x.2[k], idx_of hk, _, wbyte_ok (by simp only [List.length_append, hexN_len]; omega), ?_⟩
      have w2 : IntKind.u32.wrap x.2[k] = x.2[k] := w32_small (by omega) (by omega)
      refine ⟨_, by rw [w2]; exact put_ok (by omega) (by omega) (k := 2) rfl _ (by omega) (by simp only [List.length_append, hexN_len, List.length_cons, List.length_nil]; omega), ?_⟩
      rw [w_small (by omega) (by omega), List.take_succ_eq_append_getElem hk, List.flatMap_append]
      simp [byteT]) (by
      unfold dump_Text_l3
      rw [if_neg (by simp), List.take_length])
    simpa using this
  · refine ⟨_, wbyte_ok (by simp only [List.length_append, hexN_len, byteT_len]; omega), ?_⟩
    simp [rowT]
theorem dtext_ok {b : List Int} (hb : Byt b) (hl : b.length < 1000000) : dump_Text b (bstr (dumpT b)) := by
  obtain ⟨hr, hn⟩ := rowsP_ok b.length b 0 (Nat.le_refl _) hb
  have hrun : RunB dump_Text_l1 (rowsP 0 b) (false, []) (.inl ((rowsP 0 b).foldl (fun (s : Bool × List Int) x => (true, s.2 ++ rowT x)) (false, []))) := by
    refine runB_fold _ _ _ (fun p x q e => ?_)
    have hm : ∀ y, y ∈ p ++ x :: q → y ∈ rowsP 0 b := fun y hy => by rw [e]; exact hy
    obtain ⟨k1, k2, k3, k4⟩ := hr x (hm x (by simp))
    have hp : (p.flatMap rowT).length ≤ 57 * p.length := dflat_len (fun y hy => (hr y (hm y (by simp [hy]))).2.2.2)
    have hpl : p.length ≤ (rowsP 0 b).length := by rw [e]; simp
    exact row_run k1 (by omega) k3 k4 (by rw [fold_rows]; simp only [List.nil_append]; omega)
  refine ⟨_, rfl, _, (), rows_itr (by omega) _ _ _ _ (run_yof hrun), _, ⟨?_, rfl⟩, ?_⟩
  · rw [fold_rows]
    intro x hx
    simp only [List.nil_append, List.mem_flatMap] at hx
    obtain ⟨y, _, hy⟩ := hx
    have := rowT_byt y x hy
    exact ⟨by show (0 : Int) ≤ x; omega, by show x ≤ (255 : Int); omega⟩
  · rw [fold_rows]; rfl
theorem known29_ok : law29_known true := by
  have h1 : descsB [3, 3, 0] = [bstr [48, 32, 115, 116, 117, 102, 102]] := by rfl
  have h2 : dumpT [0, 255] = [48, 48, 48, 48, 48, 48, 48, 48, 32, 48, 48, 32, 102, 102, 10] := by
    simp [dumpT, rowsP, rowT, byteT, hexN, hexD]
  have hb : Byt [3, 3, 0] := by intro x hx; simp at hx; omega
  have hb2 : Byt [0, 255] := by intro x hx; simp at hx; omega
  refine ⟨_, describe_ok hb (by simp), _, dtext_ok hb2 (by simp), ?_⟩
  rw [h1, h2, if_pos (by simp), if_pos (by simp)]
  exact ⟨_, idx_at (k := 0) rfl rfl, by show true = _; simp⟩
end Go.Rel
/-! Plain laws: numbers of 16, read and written. -/
namespace Go.Rel
open Go Go.Eng Go.Pl
/-- A digit's value. -/
def hv (c : Int) : Option Int := if 48 ≤ c ∧ c ≤ 57 then some (c - 48) else if 97 ≤ c ∧ c ≤ 102 then some (c - 87) else none
theorem hv_hexD {n : Int} (h0 : 0 ≤ n) (h1 : n < 16) : hv (hexD n) = some n := by
  unfold hv hexD
  by_cases h : n < 10
  · rw [if_pos h, if_pos (by omega)]; congr 1; omega
  · rw [if_neg h, if_neg (by omega), if_pos (by omega)]; congr 1; omega
theorem hv_some {c n : Int} (h : hv c = some n) : 0 ≤ n ∧ n < 16 ∧ hexD n = c := by
  unfold hv at h
  split at h
  · cases h; unfold hexD; rw [if_pos (by omega)]; omega
  · split at h
    · cases h; unfold hexD; rw [if_neg (by omega)]; omega
    · cases h
set_option maxRecDepth 100000 in
theorem place_all : ∀ k : Nat, k < 256 → ((digs.findIdx? (fun x => decide (x = (k : Int)))).map Int.ofNat).getD (-1) = (hv (k : Int)).getD (-1) := by decide
theorem place_hv {c : Int} (h : 0 ≤ c ∧ c < 256) : strings_IndexByte (bstr [48, 49, 50, 51, 52, 53, 54, 55, 56, 57, 97, 98, 99, 100, 101, 102]) c ((hv c).getD (-1)) := by
  refine ⟨⟨h.1, by show c ≤ (255 : Int); omega⟩, ?_⟩
  rw [digs_lit]
  have := place_all c.toNat (by omega)
  rw [Int.toNat_of_nonneg h.1] at this
  exact this.symm
/-- The number of digits, modulo 2^32. -/
def numL : Int → List Int → Option Int
  | a, [] => some a
  | a, c :: l => match hv c with
    | none => none
    | some d => numL ((a * 16 + d) % 4294967296) l
theorem shl_or {a d : Int} (h0 : 0 ≤ a) (h1 : a < 4294967296) (d0 : 0 ≤ d) (d1 : d < 16) : ior .u32 (ishl .u32 a 4) d = (a * 16 + d) % 4294967296 := by
  have ea : a = B (bw a) := (B_bw h0 h1).symm
  have ed : d = B (bw d) := (B_bw d0 (by omega)).symm
  have h2 := ishl_B (bw a) (s := 4) 4 rfl (by omega)
  rw [← ea] at h2
  rw [h2, ed, ior_B, ← ed]
  unfold B
  rw [BitVec.toNat_or, BitVec.toNat_shiftLeft]
  have ha : ((bw a).toNat : Int) = a := ea.symm
  have hd : ((bw d).toNat : Int) = d := ed.symm
  have hm : (bw a).toNat <<< 4 % 2 ^ 32 = ((bw a).toNat % 2 ^ 28) <<< 4 := by rw [Nat.shiftLeft_eq, Nat.shiftLeft_eq]; omega
  rw [hm, ← Nat.shiftLeft_add_eq_or_of_lt (by omega), Nat.shiftLeft_eq]
  omega
theorem num_run {w : List Int} (ho : Oct w) (hl : w.length < 1000000) : ∀ (l pre : List Int) (a : Int), w = pre ++ l → 0 ≤ a → a < 4294967296 → ∃ e, Loops (dump_number_l2 (bstr w)) (a, (pre.length : Int)) e ∧ e = (match numL a l with | none => .inr (0, false) | some v => .inl v)
  | [], pre, a, h, h0, h1 => by
    refine ⟨_, .done ?_, rfl⟩
    unfold dump_number_l2
    rw [if_neg (by rw [size_bstr, h]; simp)]
    rfl
  | c :: l, pre, a, h, h0, h1 => by
    have hc : 0 ≤ c ∧ c < 256 := ho c (by rw [h]; simp)
    have hlen : w.length = pre.length + l.length + 1 := by rw [h]; simp; omega
    have hx : idx (bints (bstr w)) (pre.length : Int) c := by rw [bb_of ho]; exact idx_at rfl (by rw [h]; simp)
    have wi : IntKind.i64.wrap ((pre.length : Int) + 1) = ((pre ++ [c]).length : Int) := by rw [w_small (by omega) (by omega)]; simp
    cases hv' : hv c with
    | none =>
      refine ⟨_, .done ?_, rfl⟩
      unfold dump_number_l2
      rw [if_pos (by rw [size_bstr, decide_eq_true_eq]; simp only; omega)]
      refine ⟨c, hx, _, place_hv hc, ?_⟩
      rw [hv', if_pos (by decide)]
      simp [numL, hv']
    | some d =>
      obtain ⟨d0, d1, -⟩ := hv_some hv'
      obtain ⟨e, h2, h3⟩ := num_run ho hl l (pre ++ [c]) ((a * 16 + d) % 4294967296) (by rw [h]; simp) (by omega) (by omega)
      refine ⟨e, .next ?_ h2, ?_⟩
      · unfold dump_number_l2
        rw [if_pos (by rw [size_bstr, decide_eq_true_eq]; simp only; omega)]
        refine ⟨c, hx, _, place_hv hc, ?_⟩
        rw [hv', if_neg (by simp; omega)]
        simp only [Option.getD_some]
        rw [wi, w32_small d0 (by omega), shl_or h0 h1 d0 d1]
      · rw [h3, numL, hv']
def numR (w : List Int) (n : Int) : Int × Bool := match numL 0 w with
  | none => (0, false)
  | some v => (v, decide ((w.length : Int) = n))
theorem number_ok {w : List Int} (ho : Oct w) (hl : w.length < 1000000) (n : Int) : dump_number (bstr w) n (numR w n) := by
  obtain ⟨e, h1, h2⟩ := num_run ho hl w [] 0 rfl (by decide) (by decide)
  refine ⟨e, h1, ?_⟩
  rw [h2]
  unfold numR
  cases numL 0 w with
  | none => rfl
  | some v => show _ = _; rw [size_bstr]
/-- Bytes of pairs of digits. -/
def unhexL : List Int → Option (List Int)
  | [] => some []
  | [_] => none
  | a :: b :: l => match hv a, hv b, unhexL l with
    | some x, some y, some r => some ((16 * x + y) :: r)
    | _, _, _ => none
theorem rdig_ok {n : Int} (h0 : 0 ≤ n) (h1 : n < 16) : ref26_digit n (hexD n) := by
  unfold ref26_digit hexD
  by_cases h : n < 10
  · rw [if_pos (by simpa using h), if_pos h, w_u8]; omega
  · rw [if_neg (by simpa using h), if_neg h, w_u8]; omega
theorem rhex26_ok {l : List Int} (hb : Byt l) (hl : l.length < 1000000) (hne : l ≠ []) : ref26_Hex l (bstr (hexL l)) := by
  unfold ref26_Hex
  have hp := List.length_pos_iff.2 hne
  rw [if_neg (by simp only [decide_eq_true_eq]; omega)]
  refine ⟨bstr (hexL l), ?_, rfl⟩
  have := loops_count (step := ref26_Hex_l2 l) (e := bstr (hexL l)) (fun k => (bstr (hexL (l.take k)), (k : Int))) l.length (fun k hk => by
    have hc := hb _ (List.getElem_mem hk)
    unfold ref26_Hex_l2
    rw [if_pos (by simpa using hk)]
    have e1 : IntKind.u8.wrap (l[k].tdiv 16) = l[k] / 16 := by rw [Int.tdiv_eq_ediv_of_nonneg hc.1, w_u8]; omega
    have e2 : l[k].tmod 16 = l[k] % 16 := Int.tmod_eq_emod_of_nonneg hc.1
    have hs : (hexL (l.take k)).length ≤ 2 * l.length := by rw [hexL_len, List.length_take]; omega
    refine ⟨l[k], idx_of hk, _, by rw [e1]; exact rdig_ok (by omega) (by omega), l[k], idx_of hk, _, by rw [e2]; exact rdig_ok (by omega) (by omega), ?_, ?_⟩
    · rw [size_bstr, size_bstr]; simp only [List.length_cons, List.length_nil]; omega
    · rw [w_small (by omega) (by omega), List.take_succ_eq_append_getElem hk, hexL_snoc, bstr_append]; rfl) (by
    unfold ref26_Hex_l2
    rw [if_neg (by simp), List.take_length])
  simpa [hexL] using this
set_option maxRecDepth 10000 in
/-- One byte sought: its two digits. -/
theorem seek_run {w : List Int} (ho : Oct w) (hl : w.length < 1000000) {i : Nat} {c1 c2 : Int} (h1 : w[i]? = some c1) (h2 : w[i + 1]? = some c2) {out : List Int} (hol : out.length < 1000000) :
    Loops (ref26_Unhex_l5 (bstr w) (out, (i : Int))) (out, false, 0) (match hv c1, hv c2 with | some x, some y => (out ++ [16 * x + y], true) | _, _ => (out, false)) := by
  have hi : i + 1 < w.length := (List.getElem?_eq_some_iff.1 h2).1
  have x1 : idx (bints (bstr w)) (i : Int) c1 := by rw [bb_of ho]; exact idx_at rfl h1
  have x2 : idx (bints (bstr w)) (IntKind.i64.wrap ((i : Int) + 1)) c2 := by rw [bb_of ho, w_small (by omega) (by omega)]; exact idx_at (k := i + 1) rfl h2
  have step : ∀ k : Nat, k < 256 → ref26_Unhex_l5 (bstr w) (out, (i : Int)) (out, false, (k : Int)) (.inl (if hexD ((k : Int) / 16) = c1 ∧ hexD ((k : Int) % 16) = c2 then (out ++ [(k : Int)], true, ((k + 1 : Nat) : Int)) else (out, false, ((k + 1 : Nat) : Int)))) := by
    intro k hk
    have wi : IntKind.i64.wrap ((k : Int) + 1) = ((k + 1 : Nat) : Int) := by rw [w_small (by omega) (by omega)]; rfl
    have e1 : IntKind.u8.wrap (IntKind.i64.wrap ((k : Int).tdiv 16)) = (k : Int) / 16 := by rw [Int.tdiv_eq_ediv_of_nonneg (by omega), w_small (by omega) (by omega), w_u8]; omega
    have e2 : IntKind.u8.wrap ((k : Int).tmod 16) = (k : Int) % 16 := by rw [Int.tmod_eq_emod_of_nonneg (by omega), w_u8]; omega
    have e3 : IntKind.u8.wrap (k : Int) = (k : Int) := by rw [w_u8]; omega
    unfold ref26_Unhex_l5
    simp only
    rw [if_pos (by simp only [decide_eq_true_eq]; omega)]
    unfold ref26_Unhex_j6
    rw [if_pos (show (!false) = true from rfl)]
    simp only
    rw [e1, e2, e3]
    refine ⟨_, rdig_ok (by omega) (by omega), c1, x1, hexD ((k : Int) % 16), fun _ => rdig_ok (by omega) (by omega), c2, fun _ => x2, ?_⟩
    by_cases g1 : hexD ((k : Int) / 16) = c1
    · by_cases g2 : hexD ((k : Int) % 16) = c2
      · rw [if_pos (by rw [decide_eq_true g1, decide_eq_true g2]; rfl), if_pos ⟨g1, g2⟩]
        simp only [List.length_cons, List.length_nil]
        refine ⟨by omega, by omega, ?_⟩
        unfold ref26_Unhex_j7; simp only; rw [wi]
      · rw [if_neg (by rw [decide_eq_false g2, Bool.and_false]; decide), if_neg (fun h => g2 h.2)]
        unfold ref26_Unhex_j7; simp only; rw [wi]
    · rw [if_neg (by rw [decide_eq_false g1, Bool.false_and]; decide), if_neg (fun h => g1 h.1)]
      unfold ref26_Unhex_j7; simp only; rw [wi]
  have fin : ∀ (o : List Int) (k : Nat), ref26_Unhex_l5 (bstr w) (out, (i : Int)) (o, true, (k : Int)) (.inr (o, true)) := by
    intro o k
    unfold ref26_Unhex_l5
    simp only
    by_cases hk : (k : Int) < 256
    · rw [if_pos (decide_eq_true hk)]; unfold ref26_Unhex_j6; rw [if_neg (show ¬ ((!true) = true) by decide)]
    · rw [if_neg (fun e => hk (of_decide_eq_true e))]; unfold ref26_Unhex_j6; rw [if_neg (by decide)]
  have fin0 : ref26_Unhex_l5 (bstr w) (out, (i : Int)) (out, false, ((256 : Nat) : Int)) (.inr (out, false)) := by
    unfold ref26_Unhex_l5
    simp only
    rw [if_neg (show ¬ decide (((256 : Nat) : Int) < 256) = true by decide)]; unfold ref26_Unhex_j6; rw [if_neg (by decide)]
  have go : ∀ (m k : Nat) (r : List Int × Bool), k + m = 256 → ((∃ x : Nat, k ≤ x ∧ x < 256 ∧ hexD ((x : Int) / 16) = c1 ∧ hexD ((x : Int) % 16) = c2 ∧ (∀ y : Nat, y < x → ¬ (hexD ((y : Int) / 16) = c1 ∧ hexD ((y : Int) % 16) = c2)) ∧ r = (out ++ [(x : Int)], true)) ∨ ((∀ y : Nat, y < 256 → ¬ (hexD ((y : Int) / 16) = c1 ∧ hexD ((y : Int) % 16) = c2)) ∧ r = (out, false))) → Loops (ref26_Unhex_l5 (bstr w) (out, (i : Int))) (out, false, (k : Int)) r := by
    intro m
    induction m with
    | zero =>
      intro k r hk hr
      obtain rfl : k = 256 := by omega
      rcases hr with ⟨x, h3, h4, _⟩ | ⟨_, rfl⟩
      · omega
      · exact .done fin0
    | succ m ih =>
      intro k r hk hr
      have st := step k (by omega)
      rcases hr with ⟨x, h3, h4, h5, h6, h7, rfl⟩ | ⟨h3, rfl⟩
      · by_cases hkx : k = x
        · subst hkx
          rw [if_pos ⟨h5, h6⟩] at st
          exact .next st (.done (fin _ _))
        · rw [if_neg (h7 k (by omega))] at st
          exact .next st (ih (k + 1) _ (by omega) (.inl ⟨x, by omega, h4, h5, h6, h7, rfl⟩))
      · rw [if_neg (h3 k (by omega))] at st
        exact .next st (ih (k + 1) _ (by omega) (.inr ⟨h3, rfl⟩))
  have inj : ∀ y : Nat, y < 256 → hexD ((y : Int) / 16) = c1 → hexD ((y : Int) % 16) = c2 → hv c1 = some ((y : Int) / 16) ∧ hv c2 = some ((y : Int) % 16) := by
    intro y hy g1 g2
    rw [← g1, ← g2]
    exact ⟨hv_hexD (by omega) (by omega), hv_hexD (by omega) (by omega)⟩
  refine go 256 0 _ rfl ?_
  cases v1 : hv c1 with
  | none => exact .inr ⟨fun y hy h => (by have := (inj y hy h.1 h.2).1; rw [v1] at this; cases this), rfl⟩
  | some x =>
    cases v2 : hv c2 with
    | none => exact .inr ⟨fun y hy h => (by have := (inj y hy h.1 h.2).2; rw [v2] at this; cases this), rfl⟩
    | some y =>
      obtain ⟨a0, a1, a2⟩ := hv_some v1
      obtain ⟨b0, b1, b2⟩ := hv_some v2
      have e : ((16 * x + y).toNat : Int) = 16 * x + y := Int.toNat_of_nonneg (by omega)
      refine .inl ⟨(16 * x + y).toNat, by omega, by omega, ?_, ?_, fun z hz h => ?_, by rw [e]⟩
      · rw [e, show (16 * x + y) / 16 = x by omega, a2]
      · rw [e, show (16 * x + y) % 16 = y by omega, b2]
      · obtain ⟨g1, g2⟩ := inj z (by omega) h.1 h.2
        rw [v1] at g1; rw [v2] at g2
        cases g1; cases g2; omega
theorem unhex_run {w : List Int} (ho : Oct w) (hl : w.length < 1000000) : ∀ (n : Nat) (l pre out : List Int), l.length ≤ n → w = pre ++ l → l.length % 2 = 0 → out.length + l.length ≤ w.length → ∃ e, Loops (ref26_Unhex_l3 (bstr w)) (out, (pre.length : Int)) e ∧ e = (match unhexL l with | none => .inr ([], 3) | some r => .inl (out ++ r)) := by
  intro n
  induction n with
  | zero =>
    intro l pre out hn h _ _
    obtain rfl := List.eq_nil_of_length_eq_zero (Nat.le_zero.1 hn)
    refine ⟨_, .done ?_, rfl⟩
    unfold ref26_Unhex_l3
    rw [if_neg (by rw [size_bstr, h]; simp)]
    simp [unhexL]
  | succ n ih =>
    intro l pre out hn h h2 ho2
    match l, hn, h, h2, ho2 with
    | [], hn, h, h2, ho2 =>
      refine ⟨_, .done ?_, rfl⟩
      unfold ref26_Unhex_l3
      rw [if_neg (by rw [size_bstr, h]; simp)]
      simp [unhexL]
    | [x], hn, h, h2, ho2 => simp at h2
    | a :: b :: l, hn, h, h2, ho2 =>
      simp only [List.length_cons] at hn h2 ho2
      have hlen : w.length = pre.length + l.length + 2 := by rw [h]; simp; omega
      have s := seek_run ho hl (i := pre.length) (c1 := a) (c2 := b) (by rw [h]; simp) (by rw [h]; simp) (out := out) (by omega)
      have wi : IntKind.i64.wrap ((pre.length : Int) + 2) = ((pre ++ [a, b]).length : Int) := by rw [w_small (by omega) (by omega)]; simp
      have bad : (match hv a, hv b with | some x, some y => (out ++ [16 * x + y], true) | _, _ => (out, false)) = (out, false) → unhexL (a :: b :: l) = none → ∃ e, Loops (ref26_Unhex_l3 (bstr w)) (out, (pre.length : Int)) e ∧ e = (match unhexL (a :: b :: l) with | none => .inr ([], 3) | some r => .inl (out ++ r)) := by
        intro hs hu
        rw [hs] at s
        refine ⟨_, .done ?_, rfl⟩
        unfold ref26_Unhex_l3
        rw [if_pos (by rw [size_bstr, decide_eq_true_eq]; simp only; omega)]
        refine ⟨_, s, ?_⟩
        unfold ref26_Unhex_j4
        rw [if_pos (show (!false) = true from rfl), hu]
      cases v1 : hv a with
      | none => exact bad (by rw [v1]) (by simp [unhexL, v1])
      | some x =>
        cases v2 : hv b with
        | none => exact bad (by rw [v1, v2]) (by simp [unhexL, v1, v2])
        | some y =>
          rw [v1, v2] at s
          simp only at s
          obtain ⟨e, h3, h4⟩ := ih l (pre ++ [a, b]) (out ++ [16 * x + y]) (by omega) (by rw [h]; simp) (by omega) (by simp; omega)
          refine ⟨e, .next ?_ h3, ?_⟩
          · unfold ref26_Unhex_l3
            rw [if_pos (by rw [size_bstr, decide_eq_true_eq]; simp only; omega)]
            refine ⟨_, s, ?_⟩
            unfold ref26_Unhex_j4
            rw [if_neg (show ¬ ((!true) = true) by decide)]
            simp only
            rw [wi]
          · rw [h4]
            cases v3 : unhexL l with
            | none => simp [unhexL, v1, v2, v3]
            | some r => simp [unhexL, v1, v2, v3]
def unhexR (w : List Int) : List Int × Int := if w = [45] then ([], 0) else if w = [] then ([], 3) else match unhexL w with
  | none => ([], 3)
  | some r => (r, 0)
theorem unhexL_odd : ∀ (n : Nat) (l : List Int), l.length ≤ n → l.length % 2 = 1 → unhexL l = none
  | 0, l, h, h2 => by omega
  | n + 1, [], h, h2 => by simp at h2
  | n + 1, [x], h, h2 => rfl
  | n + 1, a :: b :: l, h, h2 => by
    simp only [List.length_cons] at h h2
    have := unhexL_odd n l (by omega) (by omega)
    simp only [unhexL, this]
    cases hv a <;> cases hv b <;> rfl
theorem bstr_ne {w v : List Int} (ho : Oct w) (hv : Oct v) (h : w ≠ v) : ¬ decide (bstr w = bstr v) = true := by
  rw [decide_eq_true_eq]; exact fun e => h (bs_inj ho hv e)
theorem runhex_ok {w : List Int} (ho : Oct w) (hl : w.length < 1000000) : ref26_Unhex (bstr w) (unhexR w) := by
  have h45 : Oct [45] := fun x hx => by simp at hx; omega
  have h0 : Oct [] := fun x hx => nomatch hx
  unfold ref26_Unhex unhexR
  by_cases e1 : w = [45]
  · rw [if_pos (by simp [e1]), if_pos e1]
  · rw [if_neg (bstr_ne ho h45 e1), if_neg e1]
    by_cases e2 : w = []
    · rw [if_pos (by simp [e2]), if_pos e2]
      unfold ref26_Unhex_j1; rw [if_pos rfl]
    · rw [if_neg (bstr_ne ho h0 e2), if_neg e2]
      unfold ref26_Unhex_j1
      have hm : ((bstr w).size : Int).tmod 2 = ((w.length % 2 : Nat) : Int) := by rw [size_bstr, Int.tmod_eq_emod_of_nonneg (by omega)]; rfl
      rw [hm]
      by_cases e3 : w.length % 2 = 1
      · rw [if_pos (by rw [decide_eq_true_eq]; omega), unhexL_odd w.length w (Nat.le_refl _) e3]
      · rw [if_neg (by rw [decide_eq_true_eq]; omega)]
        obtain ⟨e, h1, h2⟩ := unhex_run ho hl w.length w [] [] (Nat.le_refl _) rfl (by omega) (by simp)
        refine ⟨e, h1, ?_⟩
        rw [h2]
        cases unhexL w with
        | none => rfl
        | some r => rfl
end Go.Rel
/-! Plain laws: what a dump's text is parsed as. -/
namespace Go.Rel
open Go Go.Eng Go.Pl
theorem hv_cases (c : Int) : hv c = none ∨ ∃ d, hv c = some d ∧ 0 ≤ d ∧ d < 16 ∧ hexD d = c := by
  cases h : hv c with
  | none => exact .inl rfl
  | some d => exact .inr ⟨d, rfl, hv_some h⟩
theorem num2_fwd {a : Int} (h0 : 0 ≤ a) (h1 : a < 256) : numL 0 (hexN 2 a) = some a := by
  have e1 : hv (hexD (a / 16 ^ 1 % 16)) = some (a / 16 ^ 1 % 16) := hv_hexD (by omega) (by omega)
  have e0 : hv (hexD (a / 16 ^ 0 % 16)) = some (a / 16 ^ 0 % 16) := hv_hexD (by omega) (by omega)
  simp only [hexN, numL, e1, e0]
  congr 1
  omega
theorem num8_fwd {a : Int} (h0 : 0 ≤ a) (h1 : a < 4294967296) : numL 0 (hexN 8 a) = some a := by
  have e : ∀ k : Nat, hv (hexD (a / 16 ^ k % 16)) = some (a / 16 ^ k % 16) := fun k => hv_hexD (Int.emod_nonneg _ (by decide)) (Int.emod_lt_of_pos _ (by decide))
  simp only [hexN, numL, e]
  congr 1
  omega
theorem num2_back {w : List Int} {v : Int} (hl : w.length = 2) (h : numL 0 w = some v) : 0 ≤ v ∧ v < 256 ∧ w = hexN 2 v := by
  match w, hl with
  | [c1, c2], _ =>
    rcases hv_cases c1 with e | ⟨d1, e1, a1, b1, g1⟩
    · simp [numL, e] at h
    rcases hv_cases c2 with e | ⟨d2, e2, a2, b2, g2⟩
    · simp [numL, e, e1] at h
    simp only [numL, e1, e2, Option.some.injEq] at h
    have hv' : v = d1 * 16 + d2 := by omega
    refine ⟨by omega, by omega, ?_⟩
    have q1 : v / 16 ^ 1 % 16 = d1 := by omega
    have q2 : v / 16 ^ 0 % 16 = d2 := by omega
    simp only [hexN, q1, q2, g1, g2]
theorem num8_back {w : List Int} {v : Int} (hl : w.length = 8) (h : numL 0 w = some v) : 0 ≤ v ∧ v < 4294967296 ∧ w = hexN 8 v := by
  match w, hl with
  | [c1, c2, c3, c4, c5, c6, c7, c8], _ =>
    rcases hv_cases c1 with e | ⟨d1, e1, a1, b1, g1⟩
    · simp [numL, e] at h
    rcases hv_cases c2 with e | ⟨d2, e2, a2, b2, g2⟩
    · simp [numL, e, e1] at h
    rcases hv_cases c3 with e | ⟨d3, e3, a3, b3, g3⟩
    · simp [numL, e, e1, e2] at h
    rcases hv_cases c4 with e | ⟨d4, e4, a4, b4, g4⟩
    · simp [numL, e, e1, e2, e3] at h
    rcases hv_cases c5 with e | ⟨d5, e5, a5, b5, g5⟩
    · simp [numL, e, e1, e2, e3, e4] at h
    rcases hv_cases c6 with e | ⟨d6, e6, a6, b6, g6⟩
    · simp [numL, e, e1, e2, e3, e4, e5] at h
    rcases hv_cases c7 with e | ⟨d7, e7, a7, b7, g7⟩
    · simp [numL, e, e1, e2, e3, e4, e5, e6] at h
    rcases hv_cases c8 with e | ⟨d8, e8, a8, b8, g8⟩
    · simp [numL, e, e1, e2, e3, e4, e5, e6, e7] at h
    simp only [numL, e1, e2, e3, e4, e5, e6, e7, e8, Option.some.injEq] at h
    have hv' : v = d1 * 268435456 + d2 * 16777216 + d3 * 1048576 + d4 * 65536 + d5 * 4096 + d6 * 256 + d7 * 16 + d8 := by omega
    clear h
    refine ⟨by omega, by omega, ?_⟩
    have q1 : v / 16 ^ 7 % 16 = d1 := by omega
    have q2 : v / 16 ^ 6 % 16 = d2 := by omega
    have q3 : v / 16 ^ 5 % 16 = d3 := by omega
    have q4 : v / 16 ^ 4 % 16 = d4 := by omega
    have q5 : v / 16 ^ 3 % 16 = d5 := by omega
    have q6 : v / 16 ^ 2 % 16 = d6 := by omega
    have q7 : v / 16 ^ 1 % 16 = d7 := by omega
    have q8 : v / 16 ^ 0 % 16 = d8 := by omega
    simp only [hexN, q1, q2, q3, q4, q5, q6, q7, q8, g1, g2, g3, g4, g5, g6, g7, g8]
def byteW (w : List Int) : Option Int := if w.length = 2 then numL 0 w else none
def bytesW : List (List Int) → Option (List Int)
  | [] => some []
  | w :: ws => match byteW w, bytesW ws with
    | some b, some r => some (b :: r)
    | _, _ => none
/-- The place and the bytes of a line. -/
def rowL (p : List Int) : Option (Int × List Int) := match splitL 32 p with
  | [] => none
  | w0 :: ws => if ws = [] then none else if w0.length ≠ 8 then none else match numL 0 w0, bytesW ws with
    | some a, some bs => if bs.length ≤ 16 then some (a, bs) else none
    | _, _ => none
theorem row_part {w : List Int} (ho : Oct w) (hl : w.length < 1000000) {out : List Int} (hout : out.length < 1000000) : dump_row_l2 (bstr w) out (match byteW w with | some b => .inl (out ++ [b]) | none => .inr out) := by
  refine ⟨_, number_ok ho hl 2, ?_⟩
  unfold byteW numR
  cases h : numL 0 w with
  | none =>
    simp only
    rw [if_pos (show (!false) = true from rfl)]
    split <;> simp_all
  | some v =>
    simp only
    by_cases h2 : w.length = 2
    · obtain ⟨h3, h4, -⟩ := num2_back h2 h
      rw [if_pos h2, if_neg (by rw [h2]; decide), show IntKind.u8.wrap v = v by rw [w_u8]; omega]
      simp only [List.length_cons, List.length_nil]
      exact ⟨by omega, by omega, trivial⟩
    · rw [if_neg h2, if_pos (by rw [decide_eq_false (by omega)]; rfl)]
theorem row_run2 : ∀ (ws : List (List Int)) (out : List Int), (∀ w ∈ ws, Oct w ∧ w.length < 1000000) → out.length + ws.length < 1000000 → ∃ t, RunB dump_row_l2 (ws.map bstr) out t ∧ (match bytesW ws with | some r => t = .inl (out ++ r) | none => ∃ x, t = .inr x)
  | [], out, _, _ => ⟨_, .nil, by simp [bytesW]⟩
  | w :: ws, out, h, hl => by
    simp only [List.length_cons] at hl
    have h1 := row_part (h w List.mem_cons_self).1 (h w List.mem_cons_self).2 (out := out) (by omega)
    cases hb : byteW w with
    | none =>
      rw [hb] at h1
      exact ⟨_, .stop h1, by simp [bytesW, hb]⟩
    | some b =>
      rw [hb] at h1
      obtain ⟨t, h2, h3⟩ := row_run2 ws (out ++ [b]) (fun v hv => h v (List.mem_cons_of_mem _ hv)) (by simp; omega)
      refine ⟨t, .go h1 h2, ?_⟩
      simp only [bytesW, hb]
      cases hr : bytesW ws with
      | none => rw [hr] at h3; exact h3
      | some r => rw [hr] at h3; simpa using h3
theorem splitL_sub {c : Int} : ∀ {l : List Int}, ∀ w ∈ splitL c l, w.length ≤ l.length ∧ (∀ x ∈ w, x ∈ l)
  | [], w, h => by simp [splitL] at h; subst h; simp
  | x :: l, w, h => by
    unfold splitL at h
    split at h
    · rcases List.mem_cons.1 h with rfl | h
      · simp
      · have := splitL_sub (l := l) w h
        exact ⟨by simp; omega, fun y hy => List.mem_cons_of_mem _ (this.2 y hy)⟩
    · have hs := @splitL_sub c l
      cases hq : splitL c l with
      | nil => rw [hq] at h; simp [glue] at h; subst h; simp
      | cons p ps =>
        rw [hq] at h hs
        simp only [glue, List.mem_cons] at h
        rcases h with rfl | h
        · have := hs p List.mem_cons_self
          refine ⟨by simp; omega, fun y hy => ?_⟩
          simp only [List.cons_append, List.nil_append, List.mem_cons] at hy
          rcases hy with rfl | hy
          · exact List.mem_cons_self
          · exact List.mem_cons_of_mem _ (this.2 y hy)
        · have := hs w (List.mem_cons_of_mem _ h)
          exact ⟨by simp; omega, fun y hy => List.mem_cons_of_mem _ (this.2 y hy)⟩
theorem splitL_len (c : Int) : ∀ l : List Int, (splitL c l).length ≤ l.length + 1
  | [] => by simp [splitL]
  | x :: l => by
    have := splitL_len c l
    unfold splitL
    split
    · simp; omega
    · cases hq : splitL c l with
      | nil => simp [glue]
      | cons p ps => rw [hq] at this; simp [glue] at this ⊢; omega
theorem row_ok {p : List Int} (ho : Oct p) (hl : p.length < 100000) : ∃ r, dump_row (bstr p) r ∧ (match rowL p with | some (a, bs) => r = (a, bs, true) | none => r.2.2 = false) := by
  have h32 : (0 : Int) ≤ 32 ∧ (32 : Int) < 256 := by decide
  rcases first_at 32 p with h | ⟨w0, q, rfl, h⟩
  · refine ⟨(0, [], false), ⟨_, scut_no h32 ho h, _, number_ok ho (by omega) 8, ?_⟩, ?_⟩
    · have hb : dump_row_j1 (bstr p, bstr [], false) (numR p 8) true (0, [], false) := by unfold dump_row_j1; rw [if_pos rfl]
      by_cases hn : (numR p 8).2 = true
      · rw [if_neg (by rw [hn]; decide)]; simpa using hb
      · rw [if_pos (by simpa using hn)]; exact hb
    · rw [rowL, splitL_no h]; simp
  · have ho2 := oct_ap2 ho
    have hoq : Oct q := oct_tl2 ho2.2
    simp only [List.length_append, List.length_cons] at hl
    have hcut := scut_at h32 (p := w0) (q := q) (by simp only [List.length_append, List.length_cons]; omega) ho h
    have hnum := number_ok ho2.1 (by omega) 8
    have hrow : rowL (w0 ++ 32 :: q) = if w0.length ≠ 8 then none else match numL 0 w0, bytesW (splitL 32 q) with | some a, some bs => if bs.length ≤ 16 then some (a, bs) else none | _, _ => none := by
      rw [rowL, splitL_at h]; simp only; rw [if_neg (splitL_ne _ _)]
    have hbad : dump_row_j1 (bstr w0, bstr q, true) (numR w0 8) true (0, [], false) := by unfold dump_row_j1; rw [if_pos rfl]
    by_cases hn : (numR w0 8).2 = true
    · obtain ⟨a, ha, h8⟩ : ∃ a, numL 0 w0 = some a ∧ w0.length = 8 := by
        unfold numR at hn
        cases h9 : numL 0 w0 with
        | none => rw [h9] at hn; simp at hn
        | some a => rw [h9] at hn; simp only [decide_eq_true_eq] at hn; exact ⟨a, rfl, by omega⟩
      have hnr : numR w0 8 = (a, true) := by rw [numR, ha]; simp only; rw [h8]; rfl
      rw [hnr] at hnum hbad
      by_cases hq : q = []
      · subst hq
        refine ⟨(0, [], false), ⟨_, hcut, _, hnum, ?_⟩, ?_⟩
        · rw [if_neg (show ¬ ((!true) = true) by decide)]; simpa using hbad
        · rw [hrow]; simp [splitL, bytesW, byteW]
      · have hql : (splitL 32 q).length ≤ q.length + 1 := splitL_len _ _
        obtain ⟨t, h1, h2⟩ := row_run2 (splitL 32 q) [] (fun w hw => ⟨fun x hx => hoq x ((splitL_sub w hw).2 x hx), by have := (splitL_sub w hw).1; omega⟩) (by simp; omega)
        obtain ⟨rest, h3⟩ := split_itr h32 (by omega) hoq (run_yof h1)
        rw [hrow, if_neg (by omega), ha]
        have hne : ¬ (bstr q = bstr []) := fun e => hq (bs_inj hoq (fun x hx => nomatch hx) e)
        have mk : ∀ r, Aft (fun p48 : List Int => r = ((a : Int), p48, decide ((p48.length : Int) ≤ 16))) (fun _ => r = (0, [], false)) t → dump_row (bstr (w0 ++ 32 :: q)) r := by
          intro r hr
          refine ⟨_, hcut, _, hnum, ?_⟩
          rw [if_neg (show ¬ ((!true) = true) by decide)]
          simp only
          rw [decide_eq_false hne]
          unfold dump_row_j1
          rw [if_neg (by decide)]
          exact ⟨_, splitSeq_ok q 32, t, rest, h3, hr⟩
        cases hb : bytesW (splitL 32 q) with
        | none =>
          rw [hb] at h2
          obtain ⟨x, rfl⟩ := h2
          exact ⟨_, mk (0, [], false) rfl, rfl⟩
        | some bs =>
          rw [hb] at h2
          simp only at h2
          subst h2
          refine ⟨_, mk (a, bs, decide ((bs.length : Int) ≤ 16)) (by show _ = _; simp), ?_⟩
          simp only
          by_cases h16 : bs.length ≤ 16
          · rw [if_pos h16, decide_eq_true (by omega)]
          · rw [if_neg h16]; simp only; exact decide_eq_false (by omega)
    · refine ⟨(0, [], false), ⟨_, hcut, _, hnum, ?_⟩, ?_⟩
      · rw [if_pos (by simpa using hn)]; exact hbad
      · rw [hrow]
        by_cases h8 : w0.length = 8
        · rw [if_neg (by omega)]
          cases h9 : numL 0 w0 with
          | none => rfl
          | some a => exact absurd (by unfold numR; rw [h9]; simp only; rw [h8]; rfl) hn
        · rw [if_pos h8]
/-- The bytes that a dump's lines tell; the error. -/
def parseP : List Int → List (List Int) → List Int × Int
  | out, [] => (out, 0)
  | out, [p] => if p = [] then (out, 0) else ([], 4)
  | out, p :: q :: ps => match rowL p with
    | none => ([], 3)
    | some (a, bs) => if out.length % 16 ≠ 0 then ([], 3) else if a ≠ (out.length : Int) then ([], 5) else parseP (out ++ bs) (q :: ps)
theorem rowL_len {p : List Int} {a : Int} {bs : List Int} (h : rowL p = some (a, bs)) : bs.length ≤ 16 := by
  unfold rowL at h
  split at h
  · cases h
  · split at h
    · cases h
    · split at h
      · cases h
      · split at h
        · split at h
          · cases h; assumption
          · cases h
        · cases h
theorem parse_run : ∀ (ps : List (List Int)) (out : List Int), (∀ p ∈ ps, Oct p ∧ p.length < 100000 ∧ 10 ∉ p) → out.length + 16 * ps.length < 1000000 → ∃ t, RunB dump_Parse_l1 ((lnP ps).map bstr) out t ∧ (match t with | .inl o => parseP out ps = (o, 0) | .inr e => parseP out ps = ([], e.1))
  | [], out, _, _ => ⟨_, .nil, rfl⟩
  | [p], out, h, hl => by
    obtain ⟨h1, h2, h3⟩ := h p List.mem_cons_self
    by_cases h0 : p = []
    · subst h0; exact ⟨_, .nil, rfl⟩
    · refine ⟨.inr (4, out), ?_, by simp [parseP, h0]⟩
      rw [show lnP [p] = [p] by simp [lnP, h0]]
      refine .stop ⟨_, end_no (by omega) h1 h3, ?_⟩
      rw [if_pos (show (!false) = true from rfl)]
  | p :: q :: ps, out, h, hl => by
    obtain ⟨h1, h2, h3⟩ := h p List.mem_cons_self
    simp only [List.length_cons] at hl
    obtain ⟨r, hr1, hr2⟩ := row_ok h1 h2
    have hm : ((out.length : Int).tmod 16) = ((out.length % 16 : Nat) : Int) := by rw [Int.tmod_eq_emod_of_nonneg (by omega)]; rfl
    have hw : IntKind.u32.wrap (out.length : Int) = (out.length : Int) := w32_small (by omega) (by omega)
    have first : ∀ o, (if (!r.2.2) = true then dump_Parse_j2 out r true o else dump_Parse_j2 out r (!(decide (((out.length : Int).tmod 16) = 0))) o) → dump_Parse_l1 (bstr (p ++ [10])) out o := by
      intro o ho
      refine ⟨_, end_yes (by omega), ?_⟩
      rw [if_neg (show ¬ ((!true) = true) by decide)]
      exact ⟨r, hr1, ho⟩
    have j2t : dump_Parse_j2 out r true (.inr (3, out)) := by unfold dump_Parse_j2; rw [if_pos rfl]
    have hln : lnP (p :: q :: ps) = (p ++ [10]) :: lnP (q :: ps) := rfl
    rw [hln, List.map_cons]
    cases hrow : rowL p with
    | none =>
      rw [hrow] at hr2
      simp only at hr2
      refine ⟨.inr (3, out), .stop (first _ ?_), by simp [parseP, hrow]⟩
      rw [if_pos (by rw [hr2]; rfl)]; exact j2t
    | some ab =>
      obtain ⟨a, bs⟩ := ab
      rw [hrow] at hr2
      simp only at hr2
      subst hr2
      have hbl := rowL_len hrow
      by_cases h16 : out.length % 16 = 0
      · have hj : ¬ (!(decide (((out.length : Int).tmod 16) = 0))) = true := by rw [hm, h16]; decide
        have hj' : (!(decide (((out.length : Int).tmod 16) = 0))) = false := by rw [hm, h16]; decide
        by_cases ha : a = (out.length : Int)
        · obtain ⟨t, h4, h5⟩ := parse_run (q :: ps) (out ++ bs) (fun v hv => h v (List.mem_cons_of_mem _ hv)) (by simp only [List.length_append, List.length_cons]; omega)
          refine ⟨t, .go (first _ ?_) h4, ?_⟩
          · rw [if_neg (show ¬ ((!true) = true) by decide), hj']
            unfold dump_Parse_j2
            rw [if_neg (by decide), if_neg (by simp [hw, ha])]
            exact ⟨by simp only; omega, by simp only; omega, rfl⟩
          · have e : parseP out (p :: q :: ps) = parseP (out ++ bs) (q :: ps) := by
              rw [parseP, hrow]; simp only; rw [if_neg (by omega), if_neg (by simpa using ha)]
            rw [e]; exact h5
        · refine ⟨.inr (5, out), .stop (first _ ?_), by simp [parseP, hrow, h16, ha]⟩
          rw [if_neg (show ¬ ((!true) = true) by decide), hj']
          unfold dump_Parse_j2
          rw [if_neg (by decide), if_pos (by simp [hw, ha])]
      · refine ⟨.inr (3, out), .stop (first _ ?_), by simp [parseP, hrow, h16]⟩
        rw [if_neg (show ¬ ((!true) = true) by decide)]
        have : (!(decide (((out.length : Int).tmod 16) = 0))) = true := by rw [hm, decide_eq_false (by omega)]; rfl
        rw [this]; exact j2t
theorem splitL_no_mem (c : Int) : ∀ (l : List Int), ∀ w ∈ splitL c l, c ∉ w
  | [], w, h => by simp [splitL] at h; subst h; simp
  | x :: l, w, h => by
    have ih := splitL_no_mem c l
    unfold splitL at h
    split at h
    · rcases List.mem_cons.1 h with rfl | h
      · simp
      · exact ih w h
    · rename_i hx
      cases hq : splitL c l with
      | nil => rw [hq] at h; simp [glue] at h; subst h; simpa using fun e => hx e.symm
      | cons p ps =>
        rw [hq] at h ih
        simp only [glue, List.mem_cons] at h
        rcases h with rfl | h
        · have := ih p List.mem_cons_self
          simp only [List.cons_append, List.nil_append, List.mem_cons, not_or]
          exact ⟨fun e => hx e.symm, this⟩
        · exact ih w (List.mem_cons_of_mem _ h)
def parseB (l : List Int) : List Int × Int := parseP [] (splitL 10 l)
theorem parts_ok {l : List Int} (hl : l.length < 50000) (ho : Oct l) : ∀ p ∈ splitL 10 l, Oct p ∧ p.length < 100000 ∧ 10 ∉ p := fun p hp =>
  ⟨fun x hx => ho x ((splitL_sub p hp).2 x hx), by have := (splitL_sub p hp).1; omega, splitL_no_mem 10 l p hp⟩
theorem parse_ok {l : List Int} (hl : l.length < 50000) (ho : Oct l) : dump_Parse (bstr l) (parseB l) := by
  have hn := splitL_len 10 l
  obtain ⟨t, h1, h2⟩ := parse_run (splitL 10 l) [] (parts_ok hl ho) (by simp; omega)
  obtain ⟨rest, h3⟩ := lines_itr (by omega) ho (run_yof h1)
  refine ⟨_, lines_ok l, t, rest, h3, ?_⟩
  unfold parseB
  cases t with
  | inl o => show _ = _; exact h2
  | inr e => show _ = _; exact h2
end Go.Rel
/-! Plain laws: the document's parse of a dump's text, and its text. -/
namespace Go.Rel
open Go Go.Eng Go.Pl
def be4 (v : Int) : List Int := [v / 16777216, v / 65536 % 256, v / 256 % 256, v % 256]
theorem unhex8 {w : List Int} (hl : w.length = 8) : unhexR w = (match numL 0 w with | none => ([], 3) | some v => (be4 v, 0)) := by
  match w, hl with
  | [c1, c2, c3, c4, c5, c6, c7, c8], _ =>
    unfold unhexR
    rw [if_neg (by simp), if_neg (by simp)]
    rcases hv_cases c1 with e | ⟨d1, e1, a1, b1, -⟩
    · simp [numL, unhexL, e]
    rcases hv_cases c2 with e | ⟨d2, e2, a2, b2, -⟩
    · simp [numL, unhexL, e, e1]
    rcases hv_cases c3 with e | ⟨d3, e3, a3, b3, -⟩
    · simp [numL, unhexL, e, e1, e2]
    rcases hv_cases c4 with e | ⟨d4, e4, a4, b4, -⟩
    · simp [numL, unhexL, e, e1, e2, e3]
    rcases hv_cases c5 with e | ⟨d5, e5, a5, b5, -⟩
    · simp [numL, unhexL, e, e1, e2, e3, e4]
    rcases hv_cases c6 with e | ⟨d6, e6, a6, b6, -⟩
    · simp [numL, unhexL, e, e1, e2, e3, e4, e5]
    rcases hv_cases c7 with e | ⟨d7, e7, a7, b7, -⟩
    · simp [numL, unhexL, e, e1, e2, e3, e4, e5, e6]
    rcases hv_cases c8 with e | ⟨d8, e8, a8, b8, -⟩
    · simp [numL, unhexL, e, e1, e2, e3, e4, e5, e6, e7]
    simp only [numL, unhexL, e1, e2, e3, e4, e5, e6, e7, e8]
    generalize hv' : (((((((((0 * 16 + d1) % 4294967296) * 16 + d2) % 4294967296 * 16 + d3) % 4294967296 * 16 + d4) % 4294967296 * 16 + d5) % 4294967296 * 16 + d6) % 4294967296 * 16 + d7) % 4294967296 * 16 + d8) % 4294967296 = v
    have hv2 : v = d1 * 268435456 + d2 * 16777216 + d3 * 1048576 + d4 * 65536 + d5 * 4096 + d6 * 256 + d7 * 16 + d8 := by omega
    clear hv'
    have q1 : 16 * d1 + d2 = v / 16777216 := by omega
    have q2 : 16 * d3 + d4 = v / 65536 % 256 := by omega
    have q3 : 16 * d5 + d6 = v / 256 % 256 := by omega
    have q4 : 16 * d7 + d8 = v % 256 := by omega
    rw [q1, q2, q3, q4]; rfl
theorem be4_hex {v : Int} (h0 : 0 ≤ v) (h1 : v < 4294967296) : hexL (be4 v) = hexN 8 v := by
  have q1 : v / 16777216 / 16 = v / 16 ^ 7 % 16 := by omega
  have q2 : v / 16777216 % 16 = v / 16 ^ 6 % 16 := by omega
  have q3 : v / 65536 % 256 / 16 = v / 16 ^ 5 % 16 := by omega
  have q4 : v / 65536 % 256 % 16 = v / 16 ^ 4 % 16 := by omega
  have q5 : v / 256 % 256 / 16 = v / 16 ^ 3 % 16 := by omega
  have q6 : v / 256 % 256 % 16 = v / 16 ^ 2 % 16 := by omega
  have q7 : v % 256 / 16 = v / 16 ^ 1 % 16 := by omega
  have q8 : v % 256 % 16 = v / 16 ^ 0 % 16 := by omega
  simp only [hexL, be4, List.flatMap_cons, List.flatMap_nil, List.cons_append, List.nil_append, hexN, q1, q2, q3, q4, q5, q6, q7, q8]
theorem be4_byt {v : Int} (h0 : 0 ≤ v) (h1 : v < 4294967296) : Byt (be4 v) := by
  intro x hx
  simp only [be4, List.mem_cons, List.not_mem_nil, or_false] at hx
  omega
theorem place_ok {n : Int} (h0 : 0 ≤ n) (h1 : n < 1000000000) : ref29_place n (bstr (hexN 8 n)) := by
  refine ⟨bstr (hexN 8 n), ?_, rfl⟩
  have e : [(IntKind.u8.wrap (IntKind.i64.wrap (n.tdiv 16777216))), (IntKind.u8.wrap (IntKind.i64.wrap (n.tdiv 65536))), (IntKind.u8.wrap (IntKind.i64.wrap (n.tdiv 256))), (IntKind.u8.wrap n)] = be4 n := by
    rw [Int.tdiv_eq_ediv_of_nonneg h0, Int.tdiv_eq_ediv_of_nonneg h0, Int.tdiv_eq_ediv_of_nonneg h0, w_small (by omega) (by omega), w_small (by omega) (by omega), w_small (by omega) (by omega), w_u8, w_u8, w_u8, w_u8]
    unfold be4
    rw [show n / 16777216 % 256 = n / 16777216 by omega]
  rw [e, ← be4_hex h0 (by omega)]
  exact rhex26_ok (be4_byt h0 (by omega)) (by simp [be4]) (by simp [be4])
theorem hex8_inj {a b : Int} (a0 : 0 ≤ a) (a1 : a < 4294967296) (b0 : 0 ≤ b) (b1 : b < 4294967296) (h : bstr (hexN 8 a) = bstr (hexN 8 b)) : a = b := by
  have := bs_inj (hexN_byt 8 a) (hexN_byt 8 b) h
  have h1 := num8_fwd a0 a1
  rw [this, num8_fwd b0 b1] at h1
  cases h1; rfl
theorem unhexL_len : ∀ (n : Nat) (w r : List Int), w.length ≤ n → unhexL w = some r → w.length = 2 * r.length
  | 0, w, r, hn, h => by
    obtain rfl := List.eq_nil_of_length_eq_zero (Nat.le_zero.1 hn)
    simp [unhexL] at h; subst h; rfl
  | n + 1, [], r, hn, h => by simp [unhexL] at h; subst h; rfl
  | n + 1, [x], r, hn, h => by simp [unhexL] at h
  | n + 1, a :: b :: l, r, hn, h => by
    simp only [List.length_cons] at hn
    simp only [unhexL] at h
    split at h
    · rename_i r' _ _ hr
      cases h
      have := unhexL_len n l _ (by omega) hr
      simp only [List.length_cons]; omega
    · cases h
/-- A word: one byte, or none. -/
theorem unhex_word (w : List Int) : (∃ b, byteW w = some b ∧ unhexR w = ([b], 0)) ∨ (byteW w = none ∧ ((unhexR w).2 ≠ 0 ∨ (unhexR w).1.length ≠ 1)) := by
  by_cases h2 : w.length = 2
  · match w, h2 with
    | [c1, c2], _ =>
      unfold unhexR byteW
      rw [if_pos (show [c1, c2].length = 2 from rfl), if_neg (show ¬ [c1, c2] = [45] by simp), if_neg (show ¬ [c1, c2] = [] by simp)]
      rcases hv_cases c1 with e | ⟨d1, e1, a1, b1, -⟩
      · exact .inr ⟨by simp [numL, e], by simp [unhexL, e]⟩
      rcases hv_cases c2 with e | ⟨d2, e2, a2, b2, -⟩
      · exact .inr ⟨by simp [numL, e, e1], by simp [unhexL, e, e1]⟩
      refine .inl ⟨d1 * 16 + d2, ?_, ?_⟩
      · simp only [numL, e1, e2]; congr 1; omega
      · simp only [unhexL, e1, e2]; rw [show 16 * d1 + d2 = d1 * 16 + d2 by omega]
  · refine .inr ⟨by rw [byteW, if_neg h2], ?_⟩
    unfold unhexR
    by_cases h3 : w = [45]
    · rw [if_pos h3]; right; simp
    · rw [if_neg h3]
      by_cases h4 : w = []
      · rw [if_pos h4]; left; decide
      · rw [if_neg h4]
        cases h5 : unhexL w with
        | none => left; decide
        | some r =>
          right
          have := unhexL_len w.length w r (Nat.le_refl _) h5
          simp only; omega
theorem words_run {W : List (List Int)} (hW : ∀ w ∈ W, Oct w ∧ w.length < 1000000) (hWl : W.length < 1000000) : ∀ (ws pre : List (List Int)) (acc : List Int), W = pre ++ ws → acc.length ≤ pre.length → ∃ e, Loops (ref29_Parse_l5 (W.map bstr)) (acc, (pre.length : Int)) e ∧ e = (match bytesW ws with | some r => .inl (acc ++ r) | none => .inr ([], 3))
  | [], pre, acc, h, ha => by
    refine ⟨_, .done ?_, rfl⟩
    unfold ref29_Parse_l5
    rw [if_neg (by rw [h]; simp)]
    simp [bytesW]
  | w :: ws, pre, acc, h, ha => by
    have hlen : W.length = pre.length + ws.length + 1 := by rw [h]; simp; omega
    have hw := hW w (by rw [h]; simp)
    have hx : idx (W.map bstr) (pre.length : Int) (bstr w) := idx_at rfl (by rw [h]; simp)
    have first : ∀ o, (if (!(decide ((unhexR w).2 = 0))) = true then ref29_Parse_j6 (acc, (pre.length : Int)) (unhexR w) true o else ref29_Parse_j6 (acc, (pre.length : Int)) (unhexR w) (!(decide (((unhexR w).1.length : Int) = 1))) o) → ref29_Parse_l5 (W.map bstr) (acc, (pre.length : Int)) o := by
      intro o ho
      unfold ref29_Parse_l5
      rw [if_pos (by simp only [List.length_map, decide_eq_true_eq]; omega)]
      exact ⟨_, hx, _, runhex_ok hw.1 hw.2, ho⟩
    have bad : ref29_Parse_j6 (acc, (pre.length : Int)) (unhexR w) true (.inr (.inr ([], 3))) := by unfold ref29_Parse_j6; rw [if_pos rfl]
    rcases unhex_word w with ⟨b, h1, h2⟩ | ⟨h1, h2⟩
    · obtain ⟨e, h3, h4⟩ := words_run hW hWl ws (pre ++ [w]) (acc ++ [b]) (by rw [h]; simp) (by simp; omega)
      refine ⟨e, .next (first (.inl (acc ++ [b], ((pre ++ [w]).length : Int))) ?_) h3, ?_⟩
      · rw [h2, if_neg (show ¬ (!(decide ((0 : Int) = 0))) = true by decide)]
        unfold ref29_Parse_j6
        rw [if_neg (show ¬ (!(decide ((([b] : List Int).length : Int) = 1))) = true by simp)]
        refine ⟨b, idx_at (k := 0) rfl rfl, ?_, ?_, ?_⟩
        · simp only [List.length_cons, List.length_nil]; omega
        · simp only [List.length_cons, List.length_nil]; omega
        · simp only
          rw [w_small (by omega) (by omega)]; simp
      · rw [h4]
        simp only [bytesW, h1]
        cases bytesW ws with
        | none => rfl
        | some r => simp
    · refine ⟨_, .done (first (.inr (.inr ([], 3))) ?_), by simp [bytesW, h1]⟩
      by_cases h3 : (unhexR w).2 = 0
      · rw [if_neg (by rw [h3]; decide)]
        have h4 : ¬ (((unhexR w).1.length : Int) = 1) := by
          rcases h2 with h2 | h2
          · exact absurd h3 h2
          · omega
        rw [decide_eq_false h4]; exact bad
      · rw [if_pos (by rw [decide_eq_false h3]; rfl)]; exact bad
def rowRes (p out : List Int) (i : Int) : Sum (List Int × Int) (Sum (List Int) (List Int × Int)) := match rowL p with
  | none => .inr (.inr ([], 3))
  | some (a, bs) => if out.length % 16 ≠ 0 then .inr (.inr ([], 3)) else if a ≠ (out.length : Int) then .inr (.inr ([], 5)) else .inl (out ++ bs, i + 1)
theorem bytesW_len : ∀ {ws : List (List Int)} {bs : List Int}, bytesW ws = some bs → bs.length = ws.length
  | [], bs, h => by simp [bytesW] at h; subst h; rfl
  | w :: ws, bs, h => by
    simp only [bytesW] at h
    split at h
    · rename_i r _ hr; cases h; simp [bytesW_len hr]
    · cases h
theorem rrow_ok {p out : List Int} {i : Int} (ho : Oct p) (hl : p.length < 100000) (hout : out.length < 100000000) (i0 : 0 ≤ i) (i1 : i < 1000000000) :
    ∀ W, W = splitL 32 p → (if (decide (((W.map bstr).length : Int) < 2)) = true then (ref29_Parse_j3 (out, i) (W.map bstr) true (rowRes p out i)) else (if (decide (17 < ((W.map bstr).length : Int))) = true then (ref29_Parse_j3 (out, i) (W.map bstr) true (rowRes p out i)) else (∃ q97 : ByteArray, idx (W.map bstr) 0 q97 ∧ if (!(decide ((q97.size : Int) = 8))) = true then (ref29_Parse_j3 (out, i) (W.map bstr) true (rowRes p out i)) else (ref29_Parse_j3 (out, i) (W.map bstr) (!(decide (((out.length : Int).tmod 16) = 0))) (rowRes p out i))))) := by
  intro W hW
  have hsub : ∀ w ∈ W, Oct w ∧ w.length < 1000000 := fun w hw => by
    rw [hW] at hw
    exact ⟨fun x hx => ho x ((splitL_sub w hw).2 x hx), by have := (splitL_sub w hw).1; omega⟩
  have hWl : W.length < 1000000 := by have := splitL_len 32 p; rw [hW]; omega
  have j3t : rowRes p out i = .inr (.inr ([], 3)) → ref29_Parse_j3 (out, i) (W.map bstr) true (rowRes p out i) := by
    intro h; unfold ref29_Parse_j3; rw [if_pos rfl, h]
  have hm : ((out.length : Int).tmod 16) = ((out.length % 16 : Nat) : Int) := by rw [Int.tmod_eq_emod_of_nonneg (by omega)]; rfl
  match W, hW, hsub, hWl, j3t with
  | [], hW, _, _, _ => exact absurd hW.symm (splitL_ne _ _)
  | w0 :: ws, hW, hsub, hWl, j3t =>
    have hrow : rowL p = if ws = [] then none else if w0.length ≠ 8 then none else match numL 0 w0, bytesW ws with | some a, some bs => if bs.length ≤ 16 then some (a, bs) else none | _, _ => none := by
      rw [rowL, ← hW]
      first | done | rfl
    have no : rowL p = none → rowRes p out i = .inr (.inr ([], 3)) := fun h => by rw [rowRes, h]
    have ho0 := (hsub w0 List.mem_cons_self).1
    have hl0 := (hsub w0 List.mem_cons_self).2
    by_cases h1 : ws = []
    · rw [if_pos (by rw [h1]; simp)]
      exact j3t (no (by rw [hrow, if_pos h1]))
    · have hwl := List.length_pos_iff.2 h1
      rw [if_neg (by simp only [List.length_map, List.length_cons, decide_eq_true_eq]; omega)]
      by_cases h17 : 17 < (w0 :: ws).length
      · rw [if_pos (by simp only [List.length_map, decide_eq_true_eq]; omega)]
        refine j3t (no ?_)
        rw [hrow, if_neg h1]
        split
        · rfl
        · split
          · rename_i a bs _ hbs
            have := bytesW_len hbs
            simp only [List.length_cons] at h17
            rw [if_neg (by omega)]
          · rfl
      · rw [if_neg (by simp only [List.length_map, decide_eq_true_eq]; omega)]
        refine ⟨bstr w0, idx_at (k := 0) rfl rfl, ?_⟩
        by_cases h8 : w0.length = 8
        · rw [if_neg (by rw [size_bstr, h8]; decide), hm]
          by_cases h16 : out.length % 16 = 0
          · have hj : (!(decide (((out.length % 16 : Nat) : Int) = 0))) = false := by rw [h16]; decide
            rw [hj]
            unfold ref29_Parse_j3
            rw [if_neg (by decide)]
            refine ⟨bstr w0, idx_at (k := 0) rfl rfl, _, runhex_ok ho0 hl0, ?_⟩
            rw [unhex8 h8]
            cases hn : numL 0 w0 with
            | none =>
              simp only
              rw [if_pos (by decide), no (by rw [hrow, if_neg h1, if_neg (by omega), hn])]
            | some v =>
              obtain ⟨v0, v1, -⟩ := num8_back h8 hn
              simp only
              rw [if_neg (by decide)]
              obtain ⟨e, h3, h4⟩ := words_run hsub hWl ws [w0] [] rfl (by simp)
              refine ⟨e, h3, ?_⟩
              rw [h4]
              cases hb : bytesW ws with
              | none => show _ = _; rw [no (by rw [hrow, if_neg h1, if_neg (by omega), hn, hb])]
              | some bs =>
                have hbl := bytesW_len hb
                simp only [List.length_cons] at h17
                have hrl : rowL p = some (v, bs) := by rw [hrow, if_neg h1, if_neg (by omega), hn, hb]; simp only; rw [if_pos (by omega)]
                show ref29_Parse_j4 (out, i) (be4 v, 0) ([] ++ bs) (rowRes p out i)
                refine ⟨bstr (hexN 8 v), ?_, bstr (hexN 8 (out.length : Int)), place_ok (by simp only; omega) (by simp only; omega), ?_⟩
                · rw [← be4_hex v0 v1]; exact rhex26_ok (be4_byt v0 v1) (by simp [be4]) (by simp [be4])
                · rw [rowRes, hrl]
                  simp only
                  rw [if_neg (show ¬ out.length % 16 ≠ 0 by omega)]
                  by_cases hv' : v = (out.length : Int)
                  · rw [if_neg (by rw [hv']; simp), if_neg (by simpa using hv')]
                    refine ⟨by simp only [List.nil_append]; omega, by simp only [List.nil_append]; omega, ?_⟩
                    simp only [List.nil_append]
                    rw [w_small (by omega) (by omega)]
                  · rw [if_pos (by rw [decide_eq_false (fun e => hv' (hex8_inj v0 v1 (by omega) (by omega) e))]; rfl), if_pos hv']
          · have hj : (!(decide (((out.length % 16 : Nat) : Int) = 0))) = true := by rw [decide_eq_false (by omega)]; rfl
            rw [hj]
            refine j3t ?_
            rw [rowRes]
            split
            · rfl
            · rw [if_pos h16]
        · rw [if_pos (by rw [size_bstr, decide_eq_false (by omega)]; rfl)]
          exact j3t (no (by rw [hrow, if_neg h1, if_pos h8]))
theorem rparse_run {R : List (List Int)} (hR : ∀ p ∈ R, Oct p ∧ p.length < 100000) (hRl : R.length < 100000) : ∀ (ps pre : List (List Int)) (out : List Int), R = pre ++ ps → ps ≠ [] → out.length ≤ 16 * pre.length → ∃ e, Loops (ref29_Parse_l2 (R.map bstr)) (out, (pre.length : Int)) e ∧ e = (if (parseP out ps).2 = 0 then .inl (parseP out ps).1 else .inr (parseP out ps))
  | [], pre, out, h, hne, _ => absurd rfl hne
  | [p], pre, out, h, _, ho => by
    have hlen : R.length = pre.length + 1 := by rw [h]; simp
    have hx : idx (R.map bstr) (pre.length : Int) (bstr p) := idx_at rfl (by rw [h]; simp)
    have hp := (hR p (by rw [h]; simp)).1
    have first : ∀ o, (if (!(decide (bstr p = bstr []))) = true then o = .inr (.inr ([], 4)) else o = .inr (.inl out)) → ref29_Parse_l2 (R.map bstr) (out, (pre.length : Int)) o := by
      intro o ho'
      unfold ref29_Parse_l2
      simp only
      rw [if_pos (by simp only [List.length_map, decide_eq_true_eq]; omega), if_pos (by simp only [List.length_map, decide_eq_true_eq]; rw [w_small (by omega) (by omega)]; omega)]
      exact ⟨_, hx, ho'⟩
    by_cases h0 : p = []
    · refine ⟨_, .done (first (.inr (.inl out)) ?_), by simp [parseP, h0]⟩
      rw [if_neg (by rw [h0]; simp)]
    · refine ⟨_, .done (first (.inr (.inr ([], 4))) ?_), by simp [parseP, h0]⟩
      rw [if_pos (by rw [decide_eq_false (fun e => h0 (bs_inj hp (fun x hx => nomatch hx) e))]; rfl)]
  | p :: q :: ps, pre, out, h, _, ho => by
    have hlen : R.length = pre.length + ps.length + 2 := by rw [h]; simp; omega
    have hx : idx (R.map bstr) (pre.length : Int) (bstr p) := idx_at rfl (by rw [h]; simp)
    obtain ⟨hp, hpl⟩ := hR p (by rw [h]; simp)
    have first : ref29_Parse_l2 (R.map bstr) (out, (pre.length : Int)) (rowRes p out (pre.length : Int)) := by
      unfold ref29_Parse_l2
      simp only
      rw [if_pos (by simp only [List.length_map, decide_eq_true_eq]; omega), if_neg (by simp only [List.length_map, decide_eq_true_eq]; rw [w_small (by omega) (by omega)]; omega)]
      exact ⟨_, hx, _, rsplit_ok (by omega) hp, rrow_ok hp hpl (by omega) (by omega) (by omega) _ rfl⟩
    unfold rowRes at first
    cases hrow : rowL p with
    | none =>
      rw [hrow] at first
      exact ⟨_, .done first, by simp [parseP, hrow]⟩
    | some ab =>
      obtain ⟨a, bs⟩ := ab
      rw [hrow] at first
      simp only at first
      have hbl := rowL_len hrow
      by_cases h16 : out.length % 16 = 0
      · rw [if_neg (show ¬ out.length % 16 ≠ 0 by omega)] at first
        by_cases ha : a = (out.length : Int)
        · rw [if_neg (by simpa using ha)] at first
          obtain ⟨e, h3, h4⟩ := rparse_run hR hRl (q :: ps) (pre ++ [p]) (out ++ bs) (by rw [h]; simp) (by simp) (by simp; omega)
          have e1 : ((pre ++ [p]).length : Int) = (pre.length : Int) + 1 := by simp
          rw [e1] at h3
          refine ⟨e, .next first h3, ?_⟩
          rw [h4, show parseP out (p :: q :: ps) = parseP (out ++ bs) (q :: ps) by rw [parseP, hrow]; simp only; rw [if_neg (by omega), if_neg (by simpa using ha)]]
        · rw [if_pos ha] at first
          exact ⟨_, .done first, by simp [parseP, hrow, h16, ha]⟩
      · rw [if_pos h16] at first
        exact ⟨_, .done first, by simp [parseP, hrow, h16]⟩
theorem rparse_ok {l : List Int} (hl : l.length < 50000) (ho : Oct l) : ref29_Parse (bstr l) (parseB l) := by
  have hn := splitL_len 10 l
  have hp := parts_ok hl ho
  obtain ⟨e, h1, h2⟩ := rparse_run (R := splitL 10 l) (fun p hp' => ⟨(hp p hp').1, (hp p hp').2.1⟩) (by omega) (splitL 10 l) [] [] rfl (splitL_ne _ _) (by simp)
  refine ⟨_, rsplit_ok (by omega) ho, e, h1, ?_⟩
  rw [h2]
  unfold parseB
  by_cases h0 : (parseP [] (splitL 10 l)).2 = 0
  · rw [if_pos h0]
    show _ = _
    rw [← h0]
  · rw [if_neg h0]; rfl
end Go.Rel
/-! Plain laws: a dump's text and its bytes, to and fro. -/
namespace Go.Rel
open Go Go.Eng Go.Pl
theorem splitL_join {c : Int} : ∀ {l w0 : List Int} {ws : List (List Int)}, splitL c l = w0 :: ws → l = w0 ++ ws.flatMap (fun w => c :: w)
  | [], w0, ws, h => by simp [splitL] at h; obtain ⟨rfl, rfl⟩ := h; rfl
  | x :: l, w0, ws, h => by
    unfold splitL at h
    cases hq : splitL c l with
    | nil => exact absurd hq (splitL_ne _ _)
    | cons p ps =>
      have ih := splitL_join hq
      rw [hq] at h
      split at h
      · rename_i hx
        cases h
        rw [List.flatMap_cons, List.nil_append, List.cons_append, ← ih, hx]
      · simp only [glue, List.cons.injEq] at h
        obtain ⟨rfl, rfl⟩ := h
        simp only [List.cons_append, List.nil_append, ← ih]
theorem splitL_words {c : Int} : ∀ {ws : List (List Int)} {w0 : List Int}, c ∉ w0 → (∀ w ∈ ws, c ∉ w) → splitL c (w0 ++ ws.flatMap (fun w => c :: w)) = w0 :: ws
  | [], w0, h, _ => by rw [List.flatMap_nil, List.append_nil, splitL_no h]
  | w :: ws, w0, h, hs => by
    rw [List.flatMap_cons, List.cons_append, splitL_at h, splitL_words (hs w List.mem_cons_self) (fun v hv => hs v (List.mem_cons_of_mem _ hv))]
theorem hexD_gt {n : Int} (h0 : 0 ≤ n) : 48 ≤ hexD n := by unfold hexD; split <;> omega
theorem hexN_no {c : Int} (hc : c < 48) : ∀ (k : Nat) (a : Int), c ∉ hexN k a
  | 0, _ => by simp [hexN]
  | k + 1, a => by
    simp only [hexN, List.mem_cons, not_or]
    refine ⟨fun e => ?_, hexN_no hc k a⟩
    have := hexD_gt (n := a / 16 ^ k % 16) (Int.emod_nonneg _ (by decide))
    omega
theorem bytesW_back : ∀ {ws : List (List Int)} {bs : List Int}, bytesW ws = some bs → ws = bs.map (hexN 2) ∧ Byt bs
  | [], bs, h => by simp [bytesW] at h; subst h; exact ⟨rfl, fun x hx => nomatch hx⟩
  | w :: ws, bs, h => by
    simp only [bytesW] at h
    split at h
    · rename_i b r hb hr
      cases h
      obtain ⟨h1, h2⟩ := bytesW_back hr
      unfold byteW at hb
      split at hb
      · rename_i h3
        obtain ⟨b0, b1, rfl⟩ := num2_back h3 hb
        refine ⟨by rw [List.map_cons, ← h1], fun x hx => ?_⟩
        rcases List.mem_cons.1 hx with rfl | hx
        · exact ⟨b0, b1⟩
        · exact h2 x hx
      · cases hb
    · cases h
theorem bytesW_fwd : ∀ {bs : List Int}, Byt bs → bytesW (bs.map (hexN 2)) = some bs
  | [], _ => rfl
  | b :: bs, h => by
    have hb := h b List.mem_cons_self
    simp only [List.map_cons, bytesW, byteW, hexN_len]
    rw [if_pos trivial, num2_fwd hb.1 hb.2, bytesW_fwd (fun x hx => h x (List.mem_cons_of_mem _ hx))]
theorem flat_bytes (bs : List Int) : (bs.map (hexN 2)).flatMap (fun w => (32 : Int) :: w) = bs.flatMap byteT := by
  rw [List.flatMap_map]; rfl
def rowP (a : Int) (bs : List Int) : List Int := hexN 8 a ++ bs.flatMap byteT
theorem row_back {p : List Int} {a : Int} {bs : List Int} (h : rowL p = some (a, bs)) : p = rowP a bs ∧ Byt bs ∧ bs ≠ [] ∧ bs.length ≤ 16 := by
  have hl := rowL_len h
  unfold rowL at h
  split at h
  · cases h
  · rename_i w0 ws hs
    split at h
    · cases h
    · rename_i hne
      split at h
      · cases h
      · rename_i h8
        split at h
        · rename_i a' bs' ha hb
          split at h
          · cases h
            obtain ⟨h1, h2⟩ := bytesW_back hb
            obtain ⟨-, -, h3⟩ := num8_back (by omega) ha
            refine ⟨?_, h2, fun e => hne (by rw [h1, e]; rfl), hl⟩
            rw [splitL_join hs, h1, flat_bytes, rowP, ← h3]
          · cases h
        · cases h
theorem row_fwd {a : Int} {bs : List Int} (h0 : 0 ≤ a) (h1 : a < 4294967296) (hb : Byt bs) (hne : bs ≠ []) (hl : bs.length ≤ 16) : rowL (rowP a bs) = some (a, bs) := by
  have hs : splitL 32 (rowP a bs) = hexN 8 a :: bs.map (hexN 2) := by
    rw [rowP, ← flat_bytes]
    exact splitL_words (hexN_no (by decide) 8 a) (fun w hw => by
      obtain ⟨b, _, rfl⟩ := List.mem_map.1 hw
      exact hexN_no (by decide) 2 b)
  rw [rowL, hs]
  simp only
  rw [if_neg (by simpa using hne), if_neg (by rw [hexN_len]; decide), num8_fwd h0 h1, bytesW_fwd hb]
  simp only
  rw [if_pos hl]
theorem row_no10 (a : Int) (bs : List Int) : 10 ∉ rowP a bs := by
  simp only [rowP, List.mem_append, List.mem_flatMap, byteT, List.mem_cons, not_or, not_exists, not_and]
  refine ⟨hexN_no (by decide) 8 a, fun x _ => ⟨by decide, hexN_no (by decide) 2 x⟩⟩
theorem rowT_eq (a : Int) (bs : List Int) : rowT (a, bs) = rowP a bs ++ [10] := rfl
theorem rowsP_nil (n : Nat) : rowsP n [] = [] := by rw [rowsP, dif_pos rfl]
theorem rowsP_ne (n : Nat) {l : List Int} (h : l ≠ []) : rowsP n l = ((n : Int), l.take 16) :: rowsP (n + 16) (l.drop 16) := by rw [rowsP, dif_neg h]
theorem parse_back : ∀ (ps : List (List Int)) (out b : List Int) (p0 : List Int), parseP out (p0 :: ps) = (b, 0) → ∃ c, b = out ++ c ∧ Byt c ∧ (out.length % 16 ≠ 0 → c = [] ∧ p0 ++ ps.flatMap (fun w => 10 :: w) = []) ∧ (out.length % 16 = 0 → p0 ++ ps.flatMap (fun w => 10 :: w) = (rowsP out.length c).flatMap rowT)
  | [], out, b, p, h => by
    simp only [parseP] at h
    split at h
    · rename_i h0
      cases h
      exact ⟨[], by simp, (fun x hx => nomatch hx), fun _ => ⟨rfl, by simp [h0]⟩, fun _ => by simp [h0, rowsP_nil]⟩
    · cases h
  | q :: ps, out, b, p, h => by
    rw [parseP] at h
    split at h
    · cases h
    · rename_i a bs hrow
      obtain ⟨h1, h2, h3, h4⟩ := row_back hrow
      have hp := List.length_pos_iff.2 h3
      split at h
      · cases h
      · rename_i h16
        split at h
        · cases h
        · rename_i ha
          have ha : a = (out.length : Int) := by simpa using ha
          obtain ⟨c, h5, h6, h7, h8⟩ := parse_back ps (out ++ bs) b q h
          simp only [List.length_append] at h7 h8
          refine ⟨bs ++ c, by rw [h5, List.append_assoc], fun x hx => (List.mem_append.1 hx).elim (h2 x) (h6 x), fun e => absurd e (by omega), fun _ => ?_⟩
          have e : p ++ (q :: ps).flatMap (fun w => (10 : Int) :: w) = rowT ((out.length : Int), bs) ++ (q ++ ps.flatMap (fun w => (10 : Int) :: w)) := by
            rw [rowT_eq, ← ha, ← h1, List.flatMap_cons]; simp
          rw [e, rowsP_ne _ (by simp [h3])]
          by_cases hb : bs.length = 16
          · rw [h8 (by omega), List.take_left' hb, List.drop_left' hb, List.flatMap_cons, hb]
          · obtain ⟨rfl, h9⟩ := h7 (by omega)
            rw [h9, List.append_nil, List.append_nil, List.take_of_length_le (by omega), List.drop_eq_nil_of_le (by omega), rowsP_nil]
            simp
theorem parseB_back {l b : List Int} (h : parseB l = (b, 0)) : dumpT b = l ∧ Byt b := by
  unfold parseB at h
  cases hq : splitL 10 l with
  | nil => exact absurd hq (splitL_ne _ _)
  | cons p ps =>
    rw [hq] at h
    obtain ⟨c, h1, h2, -, h4⟩ := parse_back ps [] b p h
    simp only [List.nil_append] at h1
    subst h1
    refine ⟨?_, h2⟩
    rw [splitL_join hq, h4 (by simp)]; rfl
theorem parse_fwd : ∀ (n : Nat) (c out : List Int), c.length ≤ n → out.length % 16 = 0 → Byt c → out.length + c.length < 4294967296 → parseP out (splitL 10 ((rowsP out.length c).flatMap rowT)) = (out ++ c, 0)
  | n, [], out, _, _, _, _ => by rw [rowsP_nil]; simp [splitL, parseP]
  | 0, x :: c, out, h, _, _, _ => by simp at h
  | n + 1, x :: c, out, h, h16, hb, hl => by
    have hne : x :: c ≠ [] := by simp
    have ht : (x :: c).take 16 ≠ [] := by simp
    have htl : ((x :: c).take 16).length ≤ 16 := by rw [List.length_take]; omega
    rw [rowsP_ne _ hne, List.flatMap_cons, rowT_eq, List.append_assoc, List.cons_append, List.nil_append, splitL_at (row_no10 _ _)]
    have hrow := row_fwd (a := (out.length : Int)) (by omega) (by omega) (hb.take 16) ht htl
    cases hq : splitL 10 ((rowsP (out.length + 16) ((x :: c).drop 16)).flatMap rowT) with
    | nil => exact absurd hq (splitL_ne _ _)
    | cons q ps =>
      rw [parseP, hrow]
      simp only
      rw [if_neg (by omega), if_neg (by simp), ← hq]
      by_cases h17 : 16 ≤ (x :: c).length
      · have e : (out ++ (x :: c).take 16).length = out.length + 16 := by rw [List.length_append, List.length_take]; omega
        have := parse_fwd n ((x :: c).drop 16) (out ++ (x :: c).take 16) (by rw [List.length_drop]; simp only [List.length_cons] at h ⊢; omega) (by omega) (hb.drop 16) (by rw [e, List.length_drop]; omega)
        rw [e] at this
        rw [this, List.append_assoc, List.take_append_drop]
      · rw [List.drop_eq_nil_of_le (by omega), rowsP_nil, List.take_of_length_le (by omega)]
        simp [splitL, parseP]
theorem parseB_fwd {b : List Int} (hb : Byt b) (hl : b.length < 4294967296) : parseB (dumpT b) = (b, 0) := by
  have := parse_fwd b.length b [] (Nat.le_refl _) rfl hb (by simpa using hl)
  simpa [parseB, dumpT] using this
theorem dumpT_byt (b : List Int) : Byt (dumpT b) := by
  intro x hx
  simp only [dumpT, List.mem_flatMap] at hx
  obtain ⟨y, _, hy⟩ := hx
  exact rowT_byt y x hy
theorem dumpT_len {b : List Int} (hb : Byt b) : (dumpT b).length ≤ 57 * b.length := by
  obtain ⟨h1, h2⟩ := rowsP_ok b.length b 0 (Nat.le_refl _) hb
  have := dflat_len (l := rowsP 0 b) (fun x hx => (h1 x hx).2.2.2)
  unfold dumpT
  omega
/-! ### The document's text -/
def pieceB (b : List Int) (j : Nat) : List Int := (if j % 16 = 0 then hexN 8 (j : Int) else []) ++ byteT (b.getD j 0) ++ (if j % 16 = 15 ∨ j + 1 = b.length then [10] else [])
theorem piece_row {b : List Int} {a : Nat} (ha : a % 16 = 0) (hab : a < b.length) : ∀ k : Nat, k ≤ min 16 (b.length - a) → (List.range' a k).flatMap (pieceB b) = (if 0 < k then hexN 8 (a : Int) else []) ++ ((b.drop a).take k).flatMap byteT ++ (if k = min 16 (b.length - a) then [10] else [])
  | 0, _ => by
    rw [if_neg (by omega), if_neg (by omega)]; simp
  | k + 1, h => by
    have ih := piece_row ha hab k (by omega)
    rw [if_neg (show ¬ k = min 16 (b.length - a) by omega), List.append_nil] at ih
    have hk : k < (b.drop a).length := by rw [List.length_drop]; omega
    have hg : b.getD (a + k) 0 = (b.drop a)[k] := by rw [List.getD_eq_getElem?_getD, List.getElem?_eq_getElem (by omega), List.getElem_drop]; rfl
    have e3 : ((a + k) % 16 = 15 ∨ a + k + 1 = b.length) ↔ k + 1 = min 16 (b.length - a) := by omega
    have h1 : (if 0 < k + 1 then hexN 8 (a : Int) else []) = hexN 8 (a : Int) := if_pos (by omega)
    have h4 : (if (a + k) % 16 = 15 ∨ a + k + 1 = b.length then [(10 : Int)] else []) = if k + 1 = min 16 (b.length - a) then [10] else [] := by simp only [e3]
    have h2 : (if 0 < k then hexN 8 (a : Int) else []) ++ ((b.drop a).take k).flatMap byteT ++ (if (a + k) % 16 = 0 then hexN 8 ((a + k : Nat) : Int) else []) = hexN 8 (a : Int) ++ ((b.drop a).take k).flatMap byteT := by
      by_cases h0 : k = 0
      · subst h0
        rw [if_neg (show ¬ 0 < 0 by omega), if_pos (show (a + 0) % 16 = 0 by omega)]; simp
      · rw [if_pos (show 0 < k by omega), if_neg (show ¬ (a + k) % 16 = 0 by omega), List.append_nil]
    rw [List.range'_concat, Nat.one_mul, List.flatMap_append, ih, List.take_succ_eq_append_getElem hk, List.flatMap_append, h1]
    simp only [List.flatMap_cons, List.flatMap_nil, List.append_nil, pieceB]
    rw [hg, h4, ← List.append_assoc, ← List.append_assoc, h2, List.append_assoc (hexN 8 (a : Int))]
theorem pieces_all {b : List Int} : ∀ (n a : Nat), b.length ≤ a + n → a % 16 = 0 → (rowsP a (b.drop a)).flatMap rowT = (List.range' a (b.length - a)).flatMap (pieceB b)
  | 0, a, h, _ => by
    rw [List.drop_eq_nil_of_le (by omega), rowsP_nil, show b.length - a = 0 by omega]; simp
  | n + 1, a, h, ha => by
    by_cases hab : a < b.length
    · have hne : b.drop a ≠ [] := fun e => by have := congrArg List.length e; simp at this; omega
      have hr := piece_row ha hab (min 16 (b.length - a)) (Nat.le_refl _)
      rw [if_pos (by omega), if_pos rfl] at hr
      have ih := pieces_all (b := b) n (a + 16) (by omega) (by omega)
      rw [rowsP_ne _ hne, List.flatMap_cons, List.drop_drop, ih, rowT_eq, rowP]
      have ht : (b.drop a).take 16 = (b.drop a).take (min 16 (b.length - a)) := by
        by_cases h16 : 16 ≤ b.length - a
        · rw [Nat.min_eq_left h16]
        · rw [Nat.min_eq_right (by omega), List.take_of_length_le (by rw [List.length_drop]; omega), List.take_of_length_le (by rw [List.length_drop]; omega)]
      rw [ht, ← hr, ← List.flatMap_append]
      congr 1
      by_cases h16 : 16 ≤ b.length - a
      · rw [Nat.min_eq_left h16, show b.length - (a + 16) = b.length - a - 16 by omega, show a + 16 = a + 1 * 16 by omega, List.range'_append]
        congr 1
        omega
      · rw [Nat.min_eq_right (by omega), show b.length - (a + 16) = 0 by omega]; simp
    · rw [List.drop_eq_nil_of_le (by omega), rowsP_nil, show b.length - a = 0 by omega]; simp
theorem hex1 {c : Int} (h0 : 0 ≤ c) (h1 : c < 256) : hexL [c] = hexN 2 c := by
  have q1 : c / 16 = c / 16 ^ 1 % 16 := by omega
  have q2 : c % 16 = c / 16 ^ 0 % 16 := by omega
  simp only [hexL, List.flatMap_cons, List.flatMap_nil, List.append_nil, hexN, ← q2, ← q1]
theorem piece_len {b : List Int} (j : Nat) : (pieceB b j).length ≤ 12 := by
  have h2 : (byteT (b.getD j 0)).length = 3 := by simp [byteT, hexN_len]
  simp only [pieceB, List.length_append, h2]
  have h1 : (if j % 16 = 0 then hexN 8 (j : Int) else []).length ≤ 8 := by split <;> simp [hexN_len]
  have h3 : (if j % 16 = 15 ∨ j + 1 = b.length then [(10 : Int)] else []).length ≤ 1 := by split <;> simp
  omega
theorem pieces_len {b : List Int} : ∀ n : Nat, ((List.range' 0 n).flatMap (pieceB b)).length ≤ 12 * n
  | 0 => by simp
  | n + 1 => by
    rw [List.range'_concat, List.flatMap_append, List.length_append]
    have h1 := pieces_len (b := b) n
    have h2 := piece_len (b := b) (0 + 1 * n)
    simp only [List.flatMap_cons, List.flatMap_nil, List.append_nil]
    omega
theorem drtext_ok {b : List Int} (hb : Byt b) (hl : b.length < 1000000) : ref29_Text b (bstr (dumpT b)) := by
  have hall := pieces_all (b := b) b.length 0 (by omega) rfl
  rw [List.drop_zero, Nat.sub_zero] at hall
  refine ⟨bstr (dumpT b), ?_, rfl⟩
  rw [dumpT, hall]
  have := loops_count (step := ref29_Text_l2 b) (e := bstr ((List.range' 0 b.length).flatMap (pieceB b))) (fun k => (bstr ((List.range' 0 k).flatMap (pieceB b)), (k : Int))) b.length (fun k hk => by
    have hc := hb _ (List.getElem_mem hk)
    have hsz := pieces_len (b := b) k
    have hg : b.getD k 0 = b[k] := by rw [List.getD_eq_getElem?_getD, List.getElem?_eq_getElem hk]; rfl
    have wi : IntKind.i64.wrap ((k : Int) + 1) = ((k + 1 : Nat) : Int) := by rw [w_small (by omega) (by omega)]; rfl
    have hm : (k : Int).tmod 16 = ((k % 16 : Nat) : Int) := by rw [Int.tmod_eq_emod_of_nonneg (by omega)]; rfl
    have hsl : (b.drop (k : Int).toNat).take ((((k + 1 : Nat) : Int)) - (k : Int)).toNat = [b[k]] := by
      rw [Int.toNat_natCast, show (((k + 1 : Nat) : Int) - (k : Int)).toNat = 1 by omega, List.drop_eq_getElem_cons hk]; rfl
    have fin : ∀ (s pre : List Int), pre.length ≤ 12 * k + 8 → s = pre ++ byteT (b.getD k 0) ++ (if k % 16 = 15 ∨ k + 1 = b.length then [10] else []) → ref29_Text_j4 b (bstr ((List.range' 0 k).flatMap (pieceB b)), (k : Int)) (bstr pre) (.inl (bstr s, ((k + 1 : Nat) : Int))) := by
      intro s pre hpre hs
      unfold ref29_Text_j4
      simp only
      rw [wi, hsl]
      have hp : ((pre ++ [32]) ++ hexN 2 b[k]).length ≤ 12 * k + 11 := by simp only [List.length_append, hexN_len, List.length_cons, List.length_nil]; omega
      refine ⟨by rw [size_bstr, size_bstr]; simp only [List.length_cons, List.length_nil]; omega, by omega, by omega, by omega, bstr (hexN 2 b[k]), by rw [← hex1 hc.1 hc.2]; exact rhex26_ok (fun x hx => by simp at hx; subst hx; exact hc) (by simp) (by simp), ?_, ?_⟩
      · rw [← bstr_append, size_bstr, size_bstr]; simp only [List.length_append, hexN_len, List.length_cons, List.length_nil]; omega
      · have j5 : ∀ x : Bool, (x = true ↔ (k % 16 = 15 ∨ k + 1 = b.length)) → ref29_Text_j5 (bstr ((List.range' 0 k).flatMap (pieceB b)), (k : Int)) (bstr pre) (bstr (hexN 2 b[k])) x (.inl (bstr s, ((k + 1 : Nat) : Int))) := by
          intro x hx
          unfold ref29_Text_j5
          rw [← bstr_append, ← bstr_append]
          by_cases hxx : x = true
          · rw [if_pos hxx]
            refine ⟨by rw [size_bstr, size_bstr]; simp only [List.length_cons, List.length_nil]; omega, ?_⟩
            unfold ref29_Text_j3
            simp only
            rw [wi, ← bstr_append, hs, if_pos (hx.1 hxx), hg]
            simp [byteT]
          · rw [if_neg hxx]
            unfold ref29_Text_j3
            simp only
            rw [wi, hs, if_neg (fun e => hxx (hx.2 e)), hg]
            simp [byteT]
        rw [hm]
        by_cases h15 : k % 16 = 15
        · rw [if_pos (by rw [h15]; decide)]
          exact j5 true (by simp [h15])
        · rw [if_neg (by rw [decide_eq_true_eq]; omega)]
          refine j5 _ ?_
          rw [decide_eq_true_eq, w_small (by omega) (by omega)]
          omega
    unfold ref29_Text_l2
    simp only
    rw [if_pos (by simpa using hk), hm, List.range'_concat, List.flatMap_append]
    simp only [List.flatMap_cons, List.flatMap_nil, List.append_nil, Nat.one_mul, Nat.zero_add]
    by_cases h0 : k % 16 = 0
    · rw [if_pos (by rw [h0]; decide)]
      refine ⟨bstr (hexN 8 (k : Int)), place_ok (by omega) (by omega), by rw [size_bstr, size_bstr, hexN_len]; omega, ?_⟩
      rw [← bstr_append]
      refine fin _ _ (by simp only [List.length_append, hexN_len]; omega) ?_
      rw [pieceB, if_pos h0]; simp
    · rw [if_neg (by rw [decide_eq_true_eq]; omega)]
      refine fin _ _ (by omega) ?_
      rw [pieceB, if_neg h0]; simp) (by
    unfold ref29_Text_l2
    rw [if_neg (by simp)])
  simpa using this
end Go.Rel
/-! Plain law: the bytes of any text. -/
namespace Go.Rel
open Go Go.Eng Go.Pl
theorem parseP_len : ∀ (ps : List (List Int)) (out : List Int), (parseP out ps).1.length ≤ out.length + 16 * ps.length
  | [], out => by simp [parseP]
  | [p], out => by unfold parseP; split <;> simp
  | p :: q :: ps, out => by
    rw [parseP]
    split
    · simp
    · rename_i a bs h
      have := rowL_len h
      split
      · simp
      · split
        · simp
        · have := parseP_len (q :: ps) (out ++ bs)
          simp only [List.length_append, List.length_cons] at this ⊢
          omega
theorem dumpParses_true {s : ByteArray} : law29_DumpParses s true := by
  have h800 := ext_min s 800
  rw [show ((800 : Nat) : Int) = 800 from rfl] at h800
  have hsz := ext_size s 800
  unfold law29_DumpParses
  rw [h800]
  refine ⟨by omega, by omega, ?_⟩
  generalize s.extract 0 800 = t at hsz
  have hl : (bints t).length ≤ 800 := by rw [bints_size]; exact hsz
  have ho : Oct (bints t) := bints_byt t
  have hp := parse_ok (l := bints t) (by omega) ho
  have hr := rparse_ok (l := bints t) (by omega) ho
  rw [bstr_bints] at hp hr
  refine ⟨_, hp, _, hr, true, known29_ok, ?_⟩
  have hpl := parseP_len (splitL 10 (bints t)) []
  have hsl := splitL_len 10 (bints t)
  rw [if_pos rfl, if_pos (by simp)]
  refine ⟨_, same_ok (by unfold parseB; simp only [List.length_nil] at hpl; omega), ?_⟩
  rw [if_pos (by simp)]
  by_cases h0 : (parseB (bints t)).2 = 0
  · rw [if_neg (by simp [h0])]
    obtain ⟨h1, h2⟩ := parseB_back (l := bints t) (b := (parseB (bints t)).1) (by rw [← h0])
    refine ⟨_, dtext_ok h2 (by unfold parseB; simp only [List.length_nil] at hpl; omega), ?_⟩
    show true = _
    rw [h1, bstr_bints]; simp
  · rw [if_pos (by simp [h0])]; rfl
theorem dumpParses_claim {s : ByteArray} (_h0 : StrOk s) : law29_DumpParses s true := dumpParses_true
end Go.Rel
