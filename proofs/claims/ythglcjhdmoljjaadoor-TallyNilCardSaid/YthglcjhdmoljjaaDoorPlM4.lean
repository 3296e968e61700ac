import Derived.Test.YthglcjhdmoljjaaDoorPlM3
/-! Plain laws: a field's value is read. -/
namespace Go.Rel
open Go Go.Eng Go.Pl
/-! ### Numbers between commas -/
/-! ### Points -/
/-! ### Bytes -/
end Go.Rel
/-! Plain laws: the message of a line. -/
namespace Go.Rel
open Go Go.Eng Go.Pl
/-! ### Field by field -/
end Go.Rel
/-! Plain laws: the chapter's examples of lines. -/
namespace Go.Rel
open Go Go.Eng Go.Pl
end Go.Rel
/-! Plain laws: a message's line, parsed; to and fro. -/
namespace Go.Rel
open Go Go.Eng Go.Pl
theorem kinds_itr : Itr field_Kinds_1 [(1, bstr (wordL 1)), (2, bstr (wordL 2)), (3, bstr (wordL 3)), (4, bstr (wordL 4)), (5, bstr (wordL 5))] := by
  intro S Y s s' hr
  have key : ∀ (m : Nat) (k : Nat) (s : S), k + m = 6 → 1 ≤ k → Run Y ((List.range' k m).map fun k : Nat => ((k : Int), bstr (wordL (k : Int)))) s s' → Loops (field_Kinds_1_l1 S Y) (s, (k : Int)) (s', ()) := by
    intro m
    induction m with
    | zero =>
      intro k s hk _ hr
      cases hr
      refine .done ?_
      unfold field_Kinds_1_l1
      rw [if_neg (by rw [decide_eq_true_eq]; simp only; omega)]
    | succ m ih =>
      intro k s hk h1 hr
      rw [List.range'_succ, List.map_cons] at hr
      have stp : ∀ y u, Y ((k : Int), bstr (wordL (k : Int))) s (y, u) → field_Kinds_1_l1 S Y (s, (k : Int)) (if y = true then .inl (u, ((k + 1 : Nat) : Int)) else .inr (u, ())) := by
        intro y u hy
        unfold field_Kinds_1_l1
        simp only
        rw [if_pos (by rw [decide_eq_true_eq]; omega)]
        refine ⟨_, fword_ok _, y, u, hy, ?_⟩
        cases y with
        | true => rw [if_neg (by decide), if_pos rfl, w_small (by omega) (by omega)]; rfl
        | false => rw [if_pos (by decide), if_neg (by decide)]
      cases hr with
      | go a b => exact .next (stp true _ a) (ih (k + 1) _ (by omega) (by omega) b)
      | stop a => exact .done (stp false _ a)
  exact ⟨_, key 5 1 s rfl (by decide) hr, rfl⟩
/-! ### Bounds -/
structure Small (m : Mg) : Prop where
  p : m.2.2.1.length ≤ 200000
  c : m.2.2.2.1.length ≤ 200000
  t : m.2.2.2.2.1.size ≤ 200000
  g : m.2.2.2.2.2.size ≤ 200000
/-! ### Both parse alike -/
end Go.Rel
/-! Plain laws: what a dump tells. -/
namespace Go.Rel
open Go Go.Eng Go.Pl
/-! ### Segments, and where they stand -/
theorem lines25_ok {l : List ByteArray} (hl : l.length < 4611686018427387904) : law25_Lines l l true := by
  unfold law25_Lines
  rw [if_neg (by simp)]
  refine ⟨.inl (), loops_count (step := law25_Lines_l2 l l) (fun k => (k : Int)) l.length (fun k hk => ?_) ?_, rfl⟩
  · unfold law25_Lines_l2
    rw [if_pos (by simpa using hk)]
    refine ⟨l[k], idx_of hk, l[k], idx_of hk, ?_⟩
    rw [if_neg (by simp), w_small (by omega) (by omega)]; rfl
  · unfold law25_Lines_l2
    rw [if_neg (by simp)]
/-! ### Dumps -/
end Go.Rel
/-! Plain laws: tallies: what they count. -/
namespace Go.Rel
open Go Go.Eng Go.Pl
abbrev Tl := Int × Int × List Int × List (Int × Int)
/-! ### What is counted -/
def cD (l : List Ev) : Nat := l.countP fun e => decide (e.1 = 1)
def cV (l : List Ev) : Nat := l.countP fun e => decide (e.1 = 3)
def cK (k : Nat) (l : List Ev) : Nat := l.countP fun e => decide (e.1 = 1 ∧ e.2.2.2.2.1 = (k : Int) ∧ 1 ≤ k ∧ k ≤ 5)
def cX (x : Int) (l : List Ev) : Nat := l.countP fun e => decide (e.1 = 2 ∧ e.2.2.2.1 = x)
structure MRep (m : List (Int × Int)) (f : Int → Nat) : Prop where
  nod : (m.map (·.1)).Nodup
  keys : ∀ p ∈ m, IntOk .i64 p.1
  get : ∀ x, mget m x = if f x = 0 then none else some ((f x : Nat) : Int)
structure Rep (t : Tl) (l : List Ev) : Prop where
  d : t.1 = (cD l : Nat)
  v : t.2.1 = (cV l : Nat)
  k : ∀ k, k < 6 → t.2.2.1.getD k 0 = ((cK k l : Nat) : Int)
  m : MRep t.2.2.2 (fun x => cX x l)
theorem skeys_perm (m : List (Int × Int)) : (skeys m).Perm (m.map (·.1)) := List.mergeSort_perm _ _
/-! ### Events are counted -/
def kindsE (l : List Int) (k : Int) : List Int := n6 (putN 6 0 (n6 l) k.toNat (IntKind.i64.wrap ((n6 l).getD k.toNat 0 + 1)))
def addE (t : Tl) (e : Ev) : Tl :=
  if e.1 = 1 then (IntKind.i64.wrap (t.1 + 1), t.2.1, if 1 ≤ e.2.2.2.2.1 ∧ e.2.2.2.2.1 ≤ 5 then kindsE t.2.2.1 e.2.2.2.2.1 else n6 t.2.2.1, t.2.2.2)
  else if e.1 = 2 then (t.1, t.2.1, n6 t.2.2.1, mput t.2.2.2 e.2.2.2.1 (IntKind.i64.wrap (((mget t.2.2.2 e.2.2.2.1).getD 0) + 1)))
  else if e.1 = 3 then (t.1, IntKind.i64.wrap (t.2.1 + 1), n6 t.2.2.1, t.2.2.2)
  else (t.1, t.2.1, n6 t.2.2.1, t.2.2.2)
def fin6 (t : Tl) : Tl := (t.1, t.2.1, n6 t.2.2.1, t.2.2.2)
def stT (i : Int) (t : Tl) : Int × Int × Int × Int × Int × Int × Int × Int × Int × (List (Int × Int)) := (i, t.1, t.2.1, t.2.2.1.getD 0 0, t.2.2.1.getD 1 0, t.2.2.1.getD 2 0, t.2.2.1.getD 3 0, t.2.2.1.getD 4 0, t.2.2.1.getD 5 0, t.2.2.2)
theorem wordL_nil (k : Int) : bstr (wordL k) = bstr [] ↔ ¬ (1 ≤ k ∧ k ≤ 5) := by
  by_cases h1 : k = 1
  · subst h1; simp [wordL]; decide
  by_cases h2 : k = 2
  · subst h2; simp [wordL]; decide
  by_cases h3 : k = 3
  · subst h3; simp [wordL]; decide
  by_cases h4 : k = 4
  · subst h4; simp [wordL]; decide
  by_cases h5 : k = 5
  · subst h5; simp [wordL]; decide
  · simp [wordL, h1, h2, h3, h4, h5]; omega
theorem add_run (L : List Ev) (hL : L.length < 4611686018427387904) : ∀ (l pre : List Ev) (t : Tl), L = pre ++ l → Loops (tally_Tally_Add_l1 L) (stT (pre.length : Int) t) (fin6 (l.foldl addE t))
  | [], pre, t, h => by
    refine .done ?_
    unfold tally_Tally_Add_l1
    rw [if_neg (by simp [stT, h])]
    rfl
  | e :: l, pre, t, h => by
    have hlen : L.length = pre.length + l.length + 1 := by rw [h]; simp; omega
    have hi := add_run L hL l (pre ++ [e]) (addE t e) (by rw [h]; simp)
    refine .next ?_ hi
    have hat : L[pre.length]? = some e := by rw [h]; simp
    unfold tally_Tally_Add_l1
    rw [if_pos (by simp [stT]; omega)]
    refine ⟨e, ⟨by simp [stT], by simpa [stT] using hat⟩, ?_⟩
    simp only [List.length_append, List.length_cons, List.length_nil, Nat.zero_add]
    by_cases h1 : e.1 = 1
    · rw [if_pos (decide_eq_true h1)]
      refine ⟨_, fword_ok _, ?_⟩
      by_cases hk : 1 ≤ e.2.2.2.2.1 ∧ e.2.2.2.2.1 ≤ 5
      · rw [if_neg (by rw [decide_eq_true_eq, wordL_nil]; exact fun h => h hk)]
        refine ⟨by omega, by omega, by omega, by omega, ?_⟩
        unfold tally_Tally_Add_j2 addE
        simp only [if_pos h1, if_pos hk]
        rw [show (stT (pre.length : Int) t).1 = (pre.length : Int) from rfl, len_wrap (by omega)]
        rfl
      · rw [if_pos (by rw [decide_eq_true_eq, wordL_nil]; exact hk)]
        unfold tally_Tally_Add_j2 addE
        simp only [if_pos h1, if_neg hk]
        rw [show (stT (pre.length : Int) t).1 = (pre.length : Int) from rfl, len_wrap (by omega)]
        rfl
    · rw [if_neg (by simpa using h1)]
      by_cases h2 : e.1 = 2
      · rw [if_pos (decide_eq_true h2)]
        unfold tally_Tally_Add_j2 addE
        simp only [if_neg h1, if_pos h2]
        rw [show (stT (pre.length : Int) t).1 = (pre.length : Int) from rfl, len_wrap (by omega)]
        rfl
      · rw [if_neg (by simpa using h2)]
        by_cases h3 : e.1 = 3
        · rw [if_pos (decide_eq_true h3)]
          unfold tally_Tally_Add_j2 addE
          simp only [if_neg h1, if_neg h2, if_pos h3]
          rw [show (stT (pre.length : Int) t).1 = (pre.length : Int) from rfl, len_wrap (by omega)]
          rfl
        · rw [if_neg (by simpa using h3)]
          unfold tally_Tally_Add_j2 addE
          simp only [if_neg h1, if_neg h2, if_neg h3]
          rw [show (stT (pre.length : Int) t).1 = (pre.length : Int) from rfl, len_wrap (by omega)]
          rfl
theorem add_ok {L : List Ev} (hL : L.length < 4611686018427387904) (t : Tl) : tally_Tally_Add t L (fin6 (L.foldl addE t)) := ⟨_, add_run L hL L [] t rfl, rfl⟩
/-! ### The errors, in order -/
theorem errors_itr {c : Tl} {S : Type} {Y : (Int × Int) → S → Bool × S → Prop} {s s' : S} (hk : ∀ p ∈ c.2.2.2, IntOk .i64 p.1) (hn : c.2.2.2.length < 1000000) (hr : Run Y ((skeys c.2.2.2).map fun k => (k, (mget c.2.2.2 k).getD 0)) s s') : tally_Tally_Errors_1 c S Y s (s', c) := by
  have hl : (skeys c.2.2.2).length < 1000000 := by rw [(skeys_perm _).length_eq, List.length_map]; exact hn
  refine ⟨hk, by omega, (s', c), ?_, rfl⟩
  have key : ∀ (l pre : List Int) (s : S), skeys c.2.2.2 = pre ++ l → Run Y (l.map fun k => (k, (mget c.2.2.2 k).getD 0)) s s' → Loops (tally_Tally_Errors_1_l1 S Y c) (s, (pre.length : Int)) (s', c) := by
    intro l
    induction l with
    | nil =>
      intro pre s h hr
      cases hr
      refine .done ?_
      unfold tally_Tally_Errors_1_l1
      rw [if_neg (by rw [h]; simp)]
    | cons x l ih =>
      intro pre s h hr
      have hlen : (skeys c.2.2.2).length = pre.length + l.length + 1 := by rw [h]; simp; omega
      have hi := ih (pre ++ [x])
      simp only [List.length_append, List.length_cons, List.length_nil, Nat.zero_add] at hi
      have hat : (skeys c.2.2.2)[pre.length]? = some x := by rw [h]; simp
      have stp : ∀ o y u, Y (x, (mget c.2.2.2 x).getD 0) s (y, u) → (if (!y) = true then o = .inr (u, c) else o = .inl (u, ((pre.length + 1 : Nat) : Int))) → tally_Tally_Errors_1_l1 S Y c (s, (pre.length : Int)) o := by
        intro o y u hy ho
        unfold tally_Tally_Errors_1_l1
        rw [if_pos (by simp; omega)]
        refine ⟨x, ⟨by simp, by simpa using hat⟩, y, u, hy, ?_⟩
        simp only [len_wrap (show pre.length < 4611686018427387904 by omega)]
        exact ho
      cases hr with
      | go h1 h2 => exact .next (stp _ _ _ h1 (by simp)) (hi _ (by rw [h]; simp) h2)
      | stop h1 => exact .done (stp _ _ _ h1 (by simp))
  exact key _ [] s rfl hr
/-! ### The chapter's example -/
def t25 : Tl := (1, 0, [0, 0, 1, 0, 0, 0], [(11, 2)])
theorem known25_ok : law25_known true := by
  have hd : event_Delivery 1 1 (2, List.replicate 6 0, [], [], bstr [], bstr []) (1, 1, 1, 0, (2, List.replicate 6 0, [], [], bstr [], bstr [])) := deliv_ok 1 1 (m := (2, List.replicate 6 0, [], [], bstr [], bstr [])) (by decide) (by decide)
  refine ⟨_, rfl, _, hd, _, rfl, _, rfl, t25, ?_, ?_⟩
  · have := add_ok (L := [(1, 1, 1, 0, (2, List.replicate 6 0, [], [], bstr [], bstr [])), (2, 0, 0, 11, zM), (2, 0, 0, 11, zM)]) (by decide) (0, 0, [0, 0, 0, 0, 0, 0], [])
    exact this
  · refine ⟨([bstr [100, 101, 108, 105, 118, 101, 114, 101, 100, 32, 49], bstr [104, 111, 108, 100, 32, 49], bstr [114, 101, 106, 101, 99, 116, 32, 115, 117, 109, 32, 50], bstr [101, 118, 105, 99, 116, 101, 100, 32, 48]], t25), ?_, true, lines25_ok (by decide), rfl⟩
    refine ⟨_, snum_ok (ok_lit 1 (by decide) (by decide)), by rw [size_bstr, size_bstr]; decide, _, rfl, ?_⟩
    refine ⟨.inl [bstr [100, 101, 108, 105, 118, 101, 114, 101, 100, 32, 49], bstr [104, 111, 108, 100, 32, 49]], (), kinds_itr _ _ _ _ (run_yof ?_), ?_⟩
    · have no : ∀ (k : Int) (w : ByteArray) (s : List ByteArray), 0 ≤ k → k < 6 → t25.2.2.1.getD k.toNat 0 = 0 → tally_Tally_Lines_l1 t25 (k, w) s (.inl s) := by
        intro k w s h0 h6 hz
        exact ⟨h0, h6, by rw [if_neg (by rw [decide_eq_true_eq]; show ¬ (0 < t25.2.2.1.getD k.toNat 0); rw [hz]; decide)]⟩
      rw [← bstr_append]
      refine .go (no 1 _ _ (by decide) (by decide) rfl) (.go (s1 := [bstr [100, 101, 108, 105, 118, 101, 114, 101, 100, 32, 49], bstr [104, 111, 108, 100, 32, 49]]) ⟨by decide, by decide, ?_⟩ (.go (no 3 _ _ (by decide) (by decide) rfl) (.go (no 4 _ _ (by decide) (by decide) rfl) (.go (no 5 _ _ (by decide) (by decide) rfl) .nil))))
      rw [if_pos (by decide)]
      refine ⟨by rw [size_bstr, size_bstr]; decide, _, snum_ok (ok_lit 1 (by decide) (by decide)), by rw [ByteArray.size_append, size_bstr, size_bstr, size_bstr]; decide, by decide, by decide, ?_⟩
      rw [← bstr_append, ← bstr_append]; rfl
    · refine ⟨_, rfl, .inl [bstr [100, 101, 108, 105, 118, 101, 114, 101, 100, 32, 49], bstr [104, 111, 108, 100, 32, 49], bstr [114, 101, 106, 101, 99, 116, 32, 115, 117, 109, 32, 50]], t25, errors_itr (by decide) (by decide) (run_yof ?_), ?_⟩
      · have hs : skeys t25.2.2.2 = [11] := by unfold skeys t25; simp
        rw [hs]
        refine .go ⟨_, eword_ok 11, ?_⟩ .nil
        refine ⟨by rw [size_bstr, size_bstr]; decide, by rw [ByteArray.size_append, size_bstr, size_bstr, size_bstr]; decide, _, snum_ok (ok_lit 2 (by decide) (by decide)), by rw [ByteArray.size_append, ByteArray.size_append, size_bstr, size_bstr, size_bstr, size_bstr]; decide, by decide, by decide, ?_⟩
        rw [← bstr_append, ← bstr_append, ← bstr_append]; rfl
      · refine ⟨_, snum_ok (ok_lit 0 (by decide) (by decide)), by rw [size_bstr, size_bstr]; decide, by decide, by decide, ?_⟩
        rw [← bstr_append]; rfl
/-! ### A list of events, cut -/
theorem cut25_ok (l : List Ev) : law25_cut l ((l.take 40).map cutE) := by
  refine ⟨(l.take 40).map cutE, ?_, rfl⟩
  have := loops_count (step := law25_cut_l2 l) (e := (l.take 40).map cutE) (fun k => (((l.take k).map cutE), (k : Int))) (min l.length 40) (fun k hk => by
    have hk1 : k < l.length := by omega
    unfold law25_cut_l2
    rw [if_pos (by simpa using hk1)]
    unfold law25_cut_j3
    rw [if_pos (by simp; omega)]
    refine ⟨l[k], idx_of hk1, _, ecut_ok _, ?_⟩
    simp only [List.length_map, List.length_take, List.length_cons, List.length_nil]
    refine ⟨by omega, by omega, ?_⟩
    rw [len_wrap (by omega), map_take_snoc _ _ hk1]) (by
    have hf : ∀ b, b = false → law25_cut_j3 l ((l.take (min l.length 40)).map cutE, ((min l.length 40 : Nat) : Int)) b (.inr ((l.take 40).map cutE)) := by
      rintro b rfl
      unfold law25_cut_j3
      rw [if_neg (by simp)]
      show Sum.inr ((l.take 40).map cutE) = Sum.inr ((l.take (min l.length 40)).map cutE)
      by_cases h : l.length ≤ 40
      · rw [Nat.min_eq_left h, List.take_length, List.take_of_length_le h]
      · rw [Nat.min_eq_right (by omega)]
    unfold law25_cut_l2
    by_cases h : l.length ≤ 40
    · rw [if_neg (by simp; omega)]; exact hf _ rfl
    · rw [if_pos (by simp; omega)]; exact hf _ (decide_eq_false (by simp; omega)))
  simpa using this
theorem tallyNil_true (l : List Ev) (k : Int) : law25_TallyNil l k true := by
  refine ⟨_, cut25_ok l, (), rfl, _, rfl, (), rfl, _, rfl, .inl 0, (), rfl, true, known25_ok, ?_⟩
  rw [if_pos (by decide)]
  refine ⟨0, rfl, ?_⟩
  rw [if_pos (by decide)]
  refine ⟨0, ⟨_, rfl, .inl 0, (), rfl, rfl⟩, ?_⟩
  rw [if_pos (by decide)]
  refine ⟨0, rfl, ?_⟩
  rw [if_pos (by decide)]
  refine ⟨0, rfl, ?_⟩
  rw [if_pos (by decide)]
  refine ⟨0, rfl, ?_⟩
  rw [if_pos (by decide), if_pos (by decide)]
  refine ⟨[], rfl, ?_⟩
  rw [if_pos (by decide)]
  exact ⟨(), rfl, rfl⟩
theorem tallyNil_claim {l : List Ev} {k : Int} (_h0 : ListOk (fun e : Ev => EvRaw e) l) (_h1 : IntOk .i64 k) : law25_TallyNil l k true := tallyNil_true l k
end Go.Rel
