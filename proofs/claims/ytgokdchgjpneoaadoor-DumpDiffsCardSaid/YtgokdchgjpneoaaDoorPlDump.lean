import Derived.Test.YtgokdchgjpneoaaDoorPlFramePacks
import Derived.Test.YtgokdchgjpneoaaDoorPlFrameStream
import Derived.Test.YtgokdchgjpneoaaDoorPlEvent
/-! Plain laws: what a dump tells. -/
namespace Go.Rel
open Go Go.Eng Go.Pl
theorem stop_run29 {X : Type} {B : X → Int → Sum Int Int → Prop} {stop : Int} (hB : ∀ x s, 0 ≤ s → s < 1099511627776 → B x s (if s = stop then .inr s else .inl (s + 1))) : ∀ (xs : List X) (s : Int), 0 ≤ s → s + xs.length < 1099511627776 → ∃ t, RunB B xs s t ∧ (t = .inl (s + xs.length) ∨ t = .inr stop)
  | [], s, _, _ => ⟨_, .nil, .inl (by simp)⟩
  | x :: xs, s, h0, h1 => by
    simp only [List.length_cons] at h1
    have := hB x s h0 (by omega)
    by_cases h : s = stop
    · rw [if_pos h] at this; rw [h] at this ⊢; exact ⟨_, .stop this, .inr rfl⟩
    · rw [if_neg h] at this
      obtain ⟨t, h2, h3⟩ := stop_run29 hB xs (s + 1) (by omega) (by omega)
      refine ⟨t, .go this h2, ?_⟩
      rcases h3 with h3 | h3
      · left; rw [h3]; simp only [List.length_cons]; congr 1; omega
      · exact .inr h3
/-! ### Segments, and where they stand -/
theorem split2_ok {b : List Int} (hl : b.length < 1073741824) : ∃ rest, ref06_Split b ((segP 0 [] b).map (·.2), (segP 0 [] b).map (·.1), rest) := by
  have key := loops_inv (step := ref06_Split_l2 b) (s := ([], [], [], 0)) (fun k (s : List (List Int) × List Int × List Int × Int) => s.2.2.2 = (k : Int) ∧ s.1 ++ (segP k s.2.2.1 (b.drop k)).map (·.2) = (segP 0 [] b).map (·.2) ∧ s.2.1 ++ (segP k s.2.2.1 (b.drop k)).map (·.1) = (segP 0 [] b).map (·.1) ∧ s.1.length ≤ k ∧ s.2.1.length ≤ k ∧ s.2.2.1.length ≤ k) (fun e => e.1 = (segP 0 [] b).map (·.2) ∧ e.2.1 = (segP 0 [] b).map (·.1)) b.length ⟨rfl, by simp, by simp, by simp, by simp, by simp⟩ ?_ ?_
  · obtain ⟨⟨l, ps, rest⟩, h1, h2, h3⟩ := key
    simp only at h2 h3
    subst h2 h3
    exact ⟨rest, _, h1, rfl⟩
  · rintro k ⟨out, ps, now, i⟩ hk ⟨h1, h2, h6, h3, h4, h5⟩
    simp only at h1 h2 h3 h4 h5 h6
    subst h1
    left
    have wi : IntKind.i64.wrap ((k : Int) + 1) = ((k + 1 : Nat) : Int) := by rw [w_small (by omega) (by omega)]; rfl
    rw [List.drop_eq_getElem_cons hk] at h2 h6
    simp only [segP] at h2 h6
    by_cases h0 : b[k] = 0
    · rw [if_neg (by simpa using h0)] at h2 h6
      by_cases hn : now = []
      · rw [if_pos hn] at h2 h6
        subst hn
        refine ⟨(out, ps, [], ((k + 1 : Nat) : Int)), ?_, rfl, h2, h6, by simp only; omega, by simp only; omega, by simp⟩
        unfold ref06_Split_l2
        simp only
        rw [if_pos (by simp; omega)]
        refine ⟨b[k], idx_of hk, ?_⟩
        rw [if_neg (by simp [h0]), if_neg (by simp)]
        unfold ref06_Split_j4 ref06_Split_j3
        simp only
        rw [wi]
      · rw [if_neg hn] at h2 h6
        have hnl : 0 < now.length := List.length_pos_iff.2 hn
        refine ⟨(out ++ [now], ps ++ [(k : Int) - (now.length : Int)], [], ((k + 1 : Nat) : Int)), ?_, rfl, by simpa using h2, by simpa using h6, by simp; omega, by simp; omega, by simp⟩
        unfold ref06_Split_l2
        simp only
        rw [if_pos (by simp; omega)]
        refine ⟨b[k], idx_of hk, ?_⟩
        rw [if_neg (by simp [h0]), if_pos (by simp; omega), w_small (n := (k : Int) - (now.length : Int)) (by omega) (by omega)]
        simp only [List.length_cons, List.length_nil]
        refine ⟨by omega, by omega, by omega, by omega, ?_⟩
        unfold ref06_Split_j4 ref06_Split_j3
        simp only
        rw [wi]
    · rw [if_pos h0] at h2 h6
      refine ⟨(out, ps, now ++ [b[k]], ((k + 1 : Nat) : Int)), ?_, rfl, h2, h6, by simp only; omega, by simp only; omega, by simp; omega⟩
      unfold ref06_Split_l2
      simp only
      rw [if_pos (by simp; omega)]
      refine ⟨b[k], idx_of hk, ?_⟩
      rw [if_pos (by simpa using h0)]
      simp only [List.length_cons, List.length_nil]
      refine ⟨b[k], idx_of hk, by omega, by omega, ?_⟩
      unfold ref06_Split_j3
      simp only
      rw [wi]
  · rintro ⟨out, ps, now, i⟩ ⟨h1, h2, h6, _⟩
    simp only at h1 h2 h6
    refine ⟨(out, ps, now), ?_, by simpa [segP] using h2, by simpa [segP] using h6⟩
    unfold ref06_Split_l2
    rw [if_neg (by simp [h1])]
theorem segP_pos : ∀ (l : List Int) (i : Nat) (now : List Int), now.length ≤ i → ∀ x ∈ segP i now l, 0 ≤ x.1 ∧ x.1 ≤ (i : Int) + l.length
  | [], i, now, _, x, hx => by simp [segP] at hx
  | c :: l, i, now, hn, x, hx => by
    unfold segP at hx
    simp only [List.length_cons]
    split at hx
    · have := segP_pos l (i + 1) (now ++ [c]) (by simp; omega) x hx; omega
    · split at hx
      · have := segP_pos l (i + 1) [] (by simp) x hx; omega
      · rcases List.mem_cons.1 hx with rfl | hx
        · simp only; omega
        · have := segP_pos l (i + 1) [] (by simp) x hx; omega
/-- A segment that may be told of. -/
def SegOk (x : Int × List Int) : Prop := Byt x.2 ∧ x.2.length < 100000 ∧ 0 ≤ x.1 ∧ x.1 < 1000000
theorem segs_ok {b : List Int} (hb : Byt b) (hl : b.length < 100000) : ∀ x ∈ segP 0 [] b, SegOk x := by
  intro x hx
  have h1 := segP_byt b 0 [] hb (fun y hy => nomatch hy) x hx
  have h2 : x.2.length ≤ ((segP 0 [] b).map (fun x => x.2.length)).sum := mem_le_sum (List.mem_map_of_mem hx)
  have h3 := segP_sum b 0 []
  have h4 := segP_pos b 0 [] (by simp) x hx
  simp at h3
  exact ⟨h1, by omega, by omega, by omega⟩
/-- What is told of a segment. -/
def descL (x : Int × List Int) : List Int := decI x.1 ++ [32] ++ (if (unpB x.2).2 = 0 then frameLn (unpB x.2).1 else wordE (unpB x.2).2)
theorem unp_fine {s : List Int} (hs : Byt s) (h : (unpB s).2 = 0) : HdOk (unpB s).1.1 ∧ (unpB s).1.2.length < 1048576 := by
  obtain ⟨h1, h2, -, -⟩ := unp_back hs h
  obtain ⟨h3, -, h4⟩ := frameE_ok h1
  obtain ⟨a1, a2, a3, a4, a5, a6, a7, a8⟩ := headE_ok h3
  refine ⟨⟨ok_lit _ (by omega) (by omega), ok_lit _ (by omega) (by omega), ⟨?_, ?_⟩, ok_lit _ (by omega) (by omega), ok_lit _ (by omega) (by omega)⟩, by omega⟩
  · show (0 : Int) ≤ _; omega
  · show _ ≤ (4294967295 : Int); omega
theorem frameLn_len {f : Fm} (ok : HdOk f.1) (hl : f.2.length < 1048576) : (frameLn f).length ≤ 300 := by
  have hh := headLn_len ok
  have l1 := decI_len (ok_lit (f.2.length : Int) (by omega) (by omega))
  simp only [frameLn, List.length_append, List.length_cons, List.length_nil]; omega
/-- The two ways of one segment, each said by its own code. -/
theorem tail_len {x : Int × List Int} (hx : SegOk x) : (decI x.1).length ≤ 21 ∧ (unpB x.2).2 = 0 → (frameLn (unpB x.2).1).length ≤ 300 := fun h => frameLn_len (unp_fine hx.1 h.2).1 (unp_fine hx.1 h.2).2
theorem each_itr {b : List Int} (hb : Byt b) (hl : b.length < 100000) : Itr (dump_Each_1 b) ((segP 0 [] b).map fun x => ((x.2.length : Int), bstr (descL x))) := by
  intro S Y s s' hr
  obtain ⟨t, ht1, ht2⟩ := fnew_ok
  have go : ∀ (xs : List (Int × List Int)) (s : S), (∀ x ∈ xs, SegOk x) → Run Y (xs.map fun x => ((x.2.length : Int), bstr (descL x))) s s' → ∃ t', RunB (dump_Each_1_l1 S Y t) xs s t' ∧ (t' = .inl s' ∨ t' = .inr s') := by
    intro xs
    induction xs with
    | nil => intro s _ h; cases h; exact ⟨_, .nil, .inl rfl⟩
    | cons x xs ih =>
      intro s hx h
      have hx1 := hx x List.mem_cons_self
      obtain ⟨h1, h2, h3, h4⟩ := hx1
      have oi : IntOk .i64 x.1 := ok_lit _ (by omega) (by omega)
      have ld := decI_len oi
      have stp : ∀ y u, Y ((x.2.length : Int), bstr (descL x)) s (y, u) → dump_Each_1_l1 S Y t x s (if y = true then .inl u else .inr u) := by
        intro y u hy
        have j2 : ∀ w : List Int, w.length ≤ 300 → descL x = decI x.1 ++ [32] ++ w → dump_Each_1_j2 S Y x (s, bstr w) (if y = true then .inl u else .inr u) := by
          intro w hw hd
          rw [hd, bstr_append, bstr_append] at hy
          refine ⟨_, snum_ok oi, fin_app _ _ (by simp only [List.length_cons, List.length_nil]; omega), by rw [← bstr_append]; exact fin_app _ _ (by simp only [List.length_append, List.length_cons, List.length_nil]; omega), y, u, hy, ?_⟩
          cases y with
          | true => rw [if_neg (by decide)]; rfl
          | false => rw [if_pos (by decide)]; rfl
        refine ⟨_, unpack_ok ht2 h1 (by omega), _, eword_ok _, ?_⟩
        by_cases he : (unpB x.2).2 = 0
        · rw [if_pos (by simpa using he)]
          obtain ⟨f1, f2⟩ := unp_fine h1 he
          exact ⟨_, (fline_ok f1 f2).1, j2 _ (frameLn_len f1 f2) (by rw [descL, if_pos he])⟩
        · rw [if_neg (by simpa using he)]
          have := wordE_len (unpB x.2).2
          exact j2 _ (by omega) (by rw [descL, if_neg he])
      simp only [List.map_cons] at h
      cases h with
      | go h h' =>
        obtain ⟨t', h3, h4⟩ := ih _ (fun z hz => hx z (List.mem_cons_of_mem _ hz)) h'
        exact ⟨t', .go (stp true _ h) h3, h4⟩
      | stop h => exact ⟨_, .stop (stp false _ h), .inr rfl⟩
  obtain ⟨t', h1, h2⟩ := go _ s (segs_ok hb hl) hr
  refine ⟨t, ht1, _, rfl, t', (), segments_ok (by omega) _ _ _ _ (run_yof h1), ?_⟩
  rcases h2 with rfl | rfl <;> rfl
def descsB (b : List Int) : List ByteArray := (segP 0 [] b).map fun x => bstr (descL x)
theorem foldl_snoc {X Z : Type} (g : X → Z) : ∀ (p : List X) (l : List Z), p.foldl (fun s x => s ++ [g x]) l = l ++ p.map g
  | [], l => by simp
  | x :: p, l => by simp only [List.foldl_cons]; rw [foldl_snoc g p]; simp
theorem describe_ok {b : List Int} (hb : Byt b) (hl : b.length < 100000) : dump_Describe b (descsB b) := by
  have hn : (segP 0 [] b).length < 100000 := by have := (segP_sum b 0 []).2; omega
  have hf : (((segP 0 [] b).map fun x => ((x.2.length : Int), bstr (descL x))).foldl (fun (s : List ByteArray) (x : Int × ByteArray) => s ++ [x.2]) []) = descsB b := by
    rw [foldl_snoc]; simp [descsB]
  refine ⟨_, rfl, .inl (descsB b), (), each_itr hb hl _ _ _ _ (run_yof ?_), rfl⟩
  rw [← hf]
  refine runB_fold _ _ _ (fun p x q e => ?_)
  have hp : p.length < 100000 := by
    have := congrArg List.length e
    simp at this; omega
  rw [foldl_snoc]
  unfold dump_Describe_l1
  simp only [List.nil_append, List.length_map, List.length_cons, List.length_nil]
  exact ⟨by omega, by omega, trivial⟩
theorem rdescribe_ok {b : List Int} (hb : Byt b) (hl : b.length < 100000) : ref29_Describe b (descsB b, (segP 0 [] b).map fun x => (x.2.length : Int)) := by
  obtain ⟨rest, hs⟩ := split2_ok (b := b) (by omega)
  have hok := segs_ok hb hl
  have hn : (segP 0 [] b).length < 100000 := by have := (segP_sum b 0 []).2; omega
  refine ⟨_, hs, (descsB b, (segP 0 [] b).map fun x => (x.2.length : Int)), ?_, by show _ = _; rfl⟩
  unfold descsB
  generalize segP 0 [] b = L at hok hn
  refine loops_count (step := ref29_Describe_l2 (L.map (·.2), L.map (·.1), rest)) (fun k => ((L.take k).map fun x => bstr (descL x), (L.take k).map fun x => (x.2.length : Int), (k : Int))) L.length (fun k hk => ?_) ?_
  · obtain ⟨h1, h2, h3, h4⟩ := hok _ (List.getElem_mem hk)
    have oi : IntOk .i64 L[k].1 := ok_lit _ (by omega) (by omega)
    have ld := decI_len oi
    have j3 : ∀ w : List Int, w.length ≤ 300 → descL L[k] = decI L[k].1 ++ [32] ++ w → ref29_Describe_j3 (L.map (·.2), L.map (·.1), rest) ((L.take k).map fun x => bstr (descL x), (L.take k).map fun x => (x.2.length : Int), (k : Int)) (bstr w) (.inl ((L.take (k + 1)).map fun x => bstr (descL x), (L.take (k + 1)).map fun x => (x.2.length : Int), ((k + 1 : Nat) : Int))) := by
      intro w hw hd
      refine ⟨L[k].1, idx_at rfl (by simp [hk]), _, digits_ok oi, fin_app _ _ (by simp only [List.length_cons, List.length_nil]; omega), by rw [← bstr_append]; exact fin_app _ _ (by simp only [List.length_append, List.length_cons, List.length_nil]; omega), ?_⟩
      simp only [List.length_map, List.length_take, List.length_cons, List.length_nil]
      refine ⟨by omega, by omega, L[k].2, idx_at rfl (by simp [hk]), by omega, by omega, ?_⟩
      rw [w_small (by omega) (by omega), take_map (fun x : Int × List Int => bstr (descL x)) hk, take_map (fun x : Int × List Int => (x.2.length : Int)) hk, hd, bstr_append, bstr_append]; rfl
    unfold ref29_Describe_l2
    simp only
    rw [if_pos (by simp; omega)]
    refine ⟨L[k].2, idx_at rfl (by simp [hk]), _, runpack_ok h1 (by omega), _, reword_ok _, ?_⟩
    by_cases he : (unpB L[k].2).2 = 0
    · rw [if_pos (by simpa using he)]
      obtain ⟨f1, f2⟩ := unp_fine h1 he
      exact ⟨_, (fline_ok f1 f2).2, j3 _ (frameLn_len f1 f2) (by rw [descL, if_pos he])⟩
    · rw [if_neg (by simpa using he)]
      have := wordE_len (unpB L[k].2).2
      exact j3 _ (by omega) (by rw [descL, if_neg he])
  · unfold ref29_Describe_l2
    simp only
    rw [if_neg (by simp), List.take_length]
theorem lines25_ok {l : List ByteArray} (hl : l.length < 4611686018427387904) : law25_Lines l l true := by
  unfold law25_Lines
  rw [if_neg (by simp)]
  refine ⟨.inl (), loops_count (step := law25_Lines_l2 l l) (fun k => (k : Int)) l.length (fun k hk => ?_) ?_, rfl⟩
  · unfold law25_Lines_l2
    rw [if_pos (by simpa using hk)]
    refine ⟨l[k], idx_of hk, l[k], idx_of hk, ?_⟩
    rw [if_neg (by simp), w_small (by omega) (by omega)]; rfl
  · unfold law25_Lines_l2
    rw [if_neg (by simp)]
/-! ### Dumps -/
def hexN : Nat → Int → List Int
  | 0, _ => []
  | k + 1, a => hexD (a / 16 ^ k % 16) :: hexN k a
theorem hexN_len : ∀ (k : Nat) (a : Int), (hexN k a).length = k
  | 0, _ => rfl
  | k + 1, a => by simp [hexN, hexN_len k a]
theorem hexD_byt {n : Int} (h0 : 0 ≤ n) (h1 : n < 16) : 0 ≤ hexD n ∧ hexD n < 256 := by unfold hexD; split <;> omega
theorem hexN_byt : ∀ (k : Nat) (a : Int), Byt (hexN k a)
  | 0, _ => fun x hx => nomatch hx
  | k + 1, a => fun x hx => by
    rcases List.mem_cons.1 hx with rfl | hx
    · exact hexD_byt (Int.emod_nonneg _ (by decide)) (Int.emod_lt_of_pos _ (by decide))
    · exact hexN_byt k a x hx
theorem nib_ok {a : Int} (h0 : 0 ≤ a) (h1 : a < 4294967296) {k : Nat} (hk : k < 8) : iand .u32 (ishr .u32 a (4 * (k : Int))) 15 = a / 16 ^ k % 16 := by
  have e : a = B (bw a) := (B_bw h0 h1).symm
  have h2 := ishr_B (bw a) (s := 4 * (k : Int)) (4 * k) (by omega) (by omega)
  rw [← e] at h2
  rw [h2, show (15 : Int) = B (15#32) from rfl, iand_B]
  unfold B
  rw [BitVec.toNat_and, show (15#32).toNat = 2 ^ 4 - 1 from rfl, Nat.and_two_pow_sub_one_eq_mod, BitVec.toNat_ushiftRight, Nat.shiftRight_eq_div_pow, Nat.pow_mul]
  have h3 : ((bw a).toNat : Int) = a := e.symm
  rw [Int.natCast_emod, Int.natCast_ediv, h3]
  simp
theorem wbyte_ok {s : Bool × List Int} {c : Int} (h : s.2.length < 1000000000) : strings_Builder_WriteByte s c ((), true, s.2 ++ [c]) :=
  ⟨_, rfl, by simp only [List.length_cons, List.length_nil]; omega, by simp only [List.length_cons, List.length_nil]; omega, rfl⟩
theorem put_run {a : Int} (h0 : 0 ≤ a) (h1 : a < 4294967296) : ∀ (k : Nat) (s : Bool × List Int), k ≤ 8 → s.2.length + k < 1000000000 → Loops (dump_Text_1_l1 a) ((k : Int) - 1, s.1, s.2) (s.1 || decide (0 < k), s.2 ++ hexN k a)
  | 0, s, _, _ => by
    refine .done ?_
    unfold dump_Text_1_l1
    rw [if_neg (show ¬ decide (0 ≤ ((0 : Nat) : Int) - 1) = true by decide)]
    simp [hexN]
  | k + 1, s, hk, hl => by
    have ih := put_run h0 h1 k (true, s.2 ++ [hexD (a / 16 ^ k % 16)]) (by omega) (by simp; omega)
    have w4 : IntKind.i64.wrap (4 * (k : Int)) = 4 * (k : Int) := w_small (by omega) (by omega)
    rw [show ((k + 1 : Nat) : Int) - 1 = (k : Int) by omega]
    have e : (s.1 || decide (0 < k + 1), s.2 ++ hexN (k + 1) a) = ((true, s.2 ++ [hexD (a / 16 ^ k % 16)]).1 || decide (0 < k), (true, s.2 ++ [hexD (a / 16 ^ k % 16)]).2 ++ hexN k a) := by simp [hexN]
    rw [e]
    refine .next ?_ ih
    unfold dump_Text_1_l1
    rw [if_pos (by simp)]
    simp only
    rw [w4, nib_ok h0 h1 (by omega)]
    refine ⟨by omega, _, hex_at (Int.emod_nonneg _ (by decide)) (Int.emod_lt_of_pos _ (by decide)), _, wbyte_ok (by simp only; omega), ?_⟩
    rw [w_small (by omega) (by omega)]
theorem put_ok {a : Int} (h0 : 0 ≤ a) (h1 : a < 4294967296) {k : Nat} {n : Int} (hn : n = (k : Int)) (s : Bool × List Int) (hk : k ≤ 8) (hl : s.2.length + k < 1000000000) : dump_Text_1 a n s (s.1 || decide (0 < k), s.2 ++ hexN k a) := by
  subst hn
  refine ⟨_, ?_, rfl⟩
  rw [w_small (by omega) (by omega)]
  exact put_run h0 h1 k s hk hl
def rowsP (at_ : Nat) (l : List Int) : List (Int × List Int) := if _h : l = [] then [] else ((at_ : Int), l.take 16) :: rowsP (at_ + 16) (l.drop 16)
termination_by l.length
decreasing_by have := List.length_pos_iff.2 _h; rw [List.length_drop]; omega
theorem rows_itr {b : List Int} (hl : b.length < 1000000000) : Itr (dump_Rows_1 b) (rowsP 0 b) := by
  intro S Y s s' hr
  refine ⟨(s', ()), ?_, rfl⟩
  have key : ∀ (m a : Nat) (s : S), b.length ≤ a + m → a < 1000000100 → Run Y (rowsP a (b.drop a)) s s' → Loops (dump_Rows_1_l1 S Y b) (s, (a : Int)) (s', ()) := by
    intro m
    induction m with
    | zero =>
      intro a s hm ha hr
      rw [rowsP, dif_pos (List.drop_eq_nil_of_le (by omega))] at hr
      cases hr
      refine .done ?_
      unfold dump_Rows_1_l1
      rw [if_neg (by simp; omega)]
    | succ m ih =>
      intro a s hm ha hr
      by_cases hab : a < b.length
      · have hne : b.drop a ≠ [] := fun h => by have := congrArg List.length h; simp at this; omega
        rw [rowsP, dif_neg hne, List.drop_drop] at hr
        have e1 : IntKind.i64.wrap ((a : Int) + 16) = ((a + 16 : Nat) : Int) := by rw [w_small (by omega) (by omega)]; rfl
        have e2 : (b.drop (a : Int).toNat).take (((min ((a + 16 : Nat) : Int) (b.length : Int)) : Int) - (a : Int)).toNat = (b.drop a).take 16 := by
          rw [Int.toNat_natCast]
          by_cases h : a + 16 ≤ b.length
          · rw [show (min ((a + 16 : Nat) : Int) (b.length : Int) - (a : Int)).toNat = 16 by omega]
          · rw [List.take_of_length_le (by rw [List.length_drop]; omega), List.take_of_length_le (by rw [List.length_drop]; omega)]
        have e3 : ((b.drop a).take 16).length ≤ 16 := by rw [List.length_take]; omega
        have stp : ∀ y u, Y ((a : Int), (b.drop a).take 16) s (y, u) → dump_Rows_1_l1 S Y b (s, (a : Int)) (if y = true then .inl (u, ((a + 16 : Nat) : Int)) else .inr (u, ())) := by
          intro y u hy
          unfold dump_Rows_1_l1
          rw [if_pos (by simpa using hab)]
          simp only
          rw [e1, e2]
          simp only [List.length_nil, List.nil_append]
          refine ⟨by omega, by omega, by omega, by omega, by omega, by omega, by omega, y, u, hy, ?_⟩
          cases y with
          | true => rw [if_neg (by decide)]; rfl
          | false => rw [if_pos (by decide)]; rfl
        cases hr with
        | go h h' => exact .next (stp true _ h) (ih (a + 16) _ (by omega) (by omega) h')
        | stop h => exact .done (stp false _ h)
      · rw [rowsP, dif_pos (List.drop_eq_nil_of_le (by omega))] at hr
        cases hr
        refine .done ?_
        unfold dump_Rows_1_l1
        rw [if_neg (by simp; omega)]
  exact key b.length 0 s (by omega) (by omega) hr
def byteT (c : Int) : List Int := 32 :: hexN 2 c
def rowT (x : Int × List Int) : List Int := hexN 8 x.1 ++ x.2.flatMap byteT ++ [10]
def dumpT (b : List Int) : List Int := (rowsP 0 b).flatMap rowT
theorem rowsP_ok : ∀ (n : Nat) (l : List Int) (a : Nat), l.length ≤ n → Byt l → (∀ x ∈ rowsP a l, 0 ≤ x.1 ∧ x.1 ≤ (a : Int) + l.length ∧ Byt x.2 ∧ x.2.length ≤ 16) ∧ (rowsP a l).length ≤ l.length
  | 0, l, a, h, _ => by
    rw [rowsP, dif_pos (List.eq_nil_of_length_eq_zero (by omega))]; simp
  | n + 1, l, a, h, hb => by
    by_cases hn : l = []
    · rw [rowsP, dif_pos hn]; simp
    · have hp := List.length_pos_iff.2 hn
      obtain ⟨h1, h2⟩ := rowsP_ok n (l.drop 16) (a + 16) (by rw [List.length_drop]; omega) (hb.drop 16)
      rw [List.length_drop] at h2
      rw [rowsP, dif_neg hn]
      refine ⟨fun x hx => ?_, by simp only [List.length_cons]; omega⟩
      rcases List.mem_cons.1 hx with rfl | hx
      · exact ⟨by simp only; omega, by simp only; omega, hb.take 16, by simp only [List.length_take]; omega⟩
      · obtain ⟨k1, k2, k3, k4⟩ := h1 x hx
        rw [List.length_drop] at k2
        by_cases h16 : 16 ≤ l.length
        · exact ⟨k1, by omega, k3, k4⟩
        · rw [List.drop_eq_nil_of_le (by omega), rowsP, dif_pos rfl] at hx
          exact nomatch hx
theorem byteT_len (l : List Int) : (l.flatMap byteT).length = 3 * l.length := by
  induction l with
  | nil => rfl
  | cons x l ih => rw [List.flatMap_cons, List.length_append, ih]; simp [byteT, hexN_len]; omega
theorem rowT_len {x : Int × List Int} (h : x.2.length ≤ 16) : (rowT x).length ≤ 57 := by
  simp only [rowT, List.length_append, hexN_len, byteT_len, List.length_cons, List.length_nil]; omega
theorem rowT_byt (x : Int × List Int) : Byt (rowT x) := by
  intro c hc
  simp only [rowT, List.mem_append, List.mem_flatMap, byteT, List.mem_cons, List.not_mem_nil, or_false] at hc
  rcases hc with (hc | ⟨y, _, hc | hc⟩) | hc
  · exact hexN_byt _ _ c hc
  · omega
  · exact hexN_byt _ _ c hc
  · omega
theorem dflat_len {l : List (Int × List Int)} (h : ∀ x ∈ l, x.2.length ≤ 16) : (l.flatMap rowT).length ≤ 57 * l.length := by
  induction l with
  | nil => simp
  | cons x l ih =>
    have h1 := rowT_len (h x List.mem_cons_self)
    have h2 := ih (fun y hy => h y (List.mem_cons_of_mem _ hy))
    rw [List.flatMap_cons, List.length_append, List.length_cons]; omega
theorem fold_rows : ∀ (p : List (Int × List Int)) (s : Bool × List Int), (p.foldl (fun (s : Bool × List Int) x => (true, s.2 ++ rowT x)) s).2 = s.2 ++ p.flatMap rowT
  | [], s => by simp
  | x :: p, s => by simp only [List.foldl_cons]; rw [fold_rows p]; simp
theorem row_run {x : Int × List Int} (h0 : 0 ≤ x.1) (h1 : x.1 < 100000000) (hx : Byt x.2) (hl : x.2.length ≤ 16) {s : Bool × List Int} (hs : s.2.length < 100000000) : dump_Text_l1 x s (.inl (true, s.2 ++ rowT x)) := by
  have w : IntKind.u32.wrap x.1 = x.1 := w32_small h0 (by omega)
  refine ⟨_, by rw [w]; exact put_ok h0 (by omega) (k := 8) rfl s (by omega) (by omega), (true, s.2 ++ hexN 8 x.1 ++ x.2.flatMap byteT), ?_, ?_⟩
  · have := loops_count (step := dump_Text_l3 x) (e := (true, s.2 ++ hexN 8 x.1 ++ x.2.flatMap byteT)) (fun k => ((k : Int), true, s.2 ++ hexN 8 x.1 ++ (x.2.take k).flatMap byteT)) x.2.length (fun k hk => by
      have hlen : ((x.2.take k).flatMap byteT).length ≤ 48 := by rw [byteT_len, List.length_take]; omega
      have hb := hx _ (List.getElem_mem hk)
      unfold dump_Text_l3
      rw [if_pos (by simpa using hk)]
      refine ⟨x.2[k], idx_of hk, _, wbyte_ok (by simp only [List.length_append, hexN_len]; omega), ?_⟩
      have w2 : IntKind.u32.wrap x.2[k] = x.2[k] := w32_small (by omega) (by omega)
      refine ⟨_, by rw [w2]; exact put_ok (by omega) (by omega) (k := 2) rfl _ (by omega) (by simp only [List.length_append, hexN_len, List.length_cons, List.length_nil]; omega), ?_⟩
      rw [w_small (by omega) (by omega), List.take_succ_eq_append_getElem hk, List.flatMap_append]
      simp [byteT]) (by
      unfold dump_Text_l3
      rw [if_neg (by simp), List.take_length])
    simpa using this
  · refine ⟨_, wbyte_ok (by simp only [List.length_append, hexN_len, byteT_len]; omega), ?_⟩
    simp [rowT]
theorem dtext_ok {b : List Int} (hb : Byt b) (hl : b.length < 1000000) : dump_Text b (bstr (dumpT b)) := by
  obtain ⟨hr, hn⟩ := rowsP_ok b.length b 0 (Nat.le_refl _) hb
  have hrun : RunB dump_Text_l1 (rowsP 0 b) (false, []) (.inl ((rowsP 0 b).foldl (fun (s : Bool × List Int) x => (true, s.2 ++ rowT x)) (false, []))) := by
    refine runB_fold _ _ _ (fun p x q e => ?_)
    have hm : ∀ y, y ∈ p ++ x :: q → y ∈ rowsP 0 b := fun y hy => by rw [e]; exact hy
    obtain ⟨k1, k2, k3, k4⟩ := hr x (hm x (by simp))
    have hp : (p.flatMap rowT).length ≤ 57 * p.length := dflat_len (fun y hy => (hr y (hm y (by simp [hy]))).2.2.2)
    have hpl : p.length ≤ (rowsP 0 b).length := by rw [e]; simp
    exact row_run k1 (by omega) k3 k4 (by rw [fold_rows]; simp only [List.nil_append]; omega)
  refine ⟨_, rfl, _, (), rows_itr (by omega) _ _ _ _ (run_yof hrun), _, ⟨?_, rfl⟩, ?_⟩
  · rw [fold_rows]
    intro x hx
    simp only [List.nil_append, List.mem_flatMap] at hx
    obtain ⟨y, _, hy⟩ := hx
    have := rowT_byt y x hy
    exact ⟨by show (0 : Int) ≤ x; omega, by show x ≤ (255 : Int); omega⟩
  · rw [fold_rows]; rfl
theorem known29_ok : law29_known true := by
  have h1 : descsB [3, 3, 0] = [bstr [48, 32, 115, 116, 117, 102, 102]] := by rfl
  have h2 : dumpT [0, 255] = [48, 48, 48, 48, 48, 48, 48, 48, 32, 48, 48, 32, 102, 102, 10] := by
    simp [dumpT, rowsP, rowT, byteT, hexN, hexD]
  have hb : Byt [3, 3, 0] := by intro x hx; simp at hx; omega
  have hb2 : Byt [0, 255] := by intro x hx; simp at hx; omega
  refine ⟨_, describe_ok hb (by simp), _, dtext_ok hb2 (by simp), ?_⟩
  rw [h1, h2, if_pos (by simp), if_pos (by simp)]
  exact ⟨_, idx_at (k := 0) rfl rfl, by show true = _; simp⟩
end Go.Rel
