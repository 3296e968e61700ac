import Derived.Test.YthglcjhdmoljjaaDoorPlM3
/-! Plain laws: a field's value is read. -/
namespace Go.Rel
open Go Go.Eng Go.Pl
/-! ### Numbers between commas -/
/-! ### Points -/
/-! ### Bytes -/
end Go.Rel
/-! Plain laws: the message of a line. -/
namespace Go.Rel
open Go Go.Eng Go.Pl
/-! ### Field by field -/
end Go.Rel
/-! Plain laws: the chapter's examples of lines. -/
namespace Go.Rel
open Go Go.Eng Go.Pl
end Go.Rel
/-! Plain laws: a message's line, parsed; to and fro. -/
namespace Go.Rel
open Go Go.Eng Go.Pl
theorem kinds_itr : Itr field_Kinds_1 [(1, bstr (wordL 1)), (2, bstr (wordL 2)), (3, bstr (wordL 3)), (4, bstr (wordL 4)), (5, bstr (wordL 5))] := by
  intro S Y s s' hr
  have key : ∀ (m : Nat) (k : Nat) (s : S), k + m = 6 → 1 ≤ k → Run Y ((List.range' k m).map fun k : Nat => ((k : Int), bstr (wordL (k : Int)))) s s' → Loops (field_Kinds_1_l1 S Y) (s, (k : Int)) (s', ()) := by
    intro m
    induction m with
    | zero =>
      intro k s hk _ hr
      cases hr
      refine .done ?_
      unfold field_Kinds_1_l1
      rw [if_neg (by rw [decide_eq_true_eq]; simp only; omega)]
    | succ m ih =>
      intro k s hk h1 hr
      rw [List.range'_succ, List.map_cons] at hr
      have stp : ∀ y u, Y ((k : Int), bstr (wordL (k : Int))) s (y, u) → field_Kinds_1_l1 S Y (s, (k : Int)) (if y = true then .inl (u, ((k + 1 : Nat) : Int)) else .inr (u, ())) := by
        intro y u hy
        unfold field_Kinds_1_l1
        simp only
        rw [if_pos (by rw [decide_eq_true_eq]; omega)]
        refine ⟨_, fword_ok _, y, u, hy, ?_⟩
        cases y with
        | true => rw [if_neg (by decide), if_pos rfl, w_small (by omega) (by omega)]; rfl
        | false => rw [if_pos (by decide), if_neg (by decide)]
      cases hr with
      | go a b => exact .next (stp true _ a) (ih (k + 1) _ (by omega) (by omega) b)
      | stop a => exact .done (stp false _ a)
  exact ⟨_, key 5 1 s rfl (by decide) hr, rfl⟩
/-! ### Bounds -/
structure Small (m : Mg) : Prop where
  p : m.2.2.1.length ≤ 200000
  c : m.2.2.2.1.length ≤ 200000
  t : m.2.2.2.2.1.size ≤ 200000
  g : m.2.2.2.2.2.size ≤ 200000
/-! ### Both parse alike -/
end Go.Rel
/-! Plain laws: what a dump tells. -/
namespace Go.Rel
open Go Go.Eng Go.Pl
/-! ### Segments, and where they stand -/
theorem lines25_ok {l : List ByteArray} (hl : l.length < 4611686018427387904) : law25_Lines l l true := by
  unfold law25_Lines
  rw [if_neg (by simp)]
  refine ⟨.inl (), loops_count (step := law25_Lines_l2 l l) (fun k => (k : Int)) l.length (fun k hk => ?_) ?_, rfl⟩
  · unfold law25_Lines_l2
    rw [if_pos (by simpa using hk)]
    refine ⟨l[k], idx_of hk, l[k], idx_of hk, ?_⟩
    rw [if_neg (by simp), w_small (by omega) (by omega)]; rfl
  · unfold law25_Lines_l2
    rw [if_neg (by simp)]
/-! ### Dumps -/
end Go.Rel
/-! Plain laws: tallies: what they count. -/
namespace Go.Rel
open Go Go.Eng Go.Pl
abbrev Tl := Int × Int × List Int × List (Int × Int)
/-! ### What is counted -/
def cD (l : List Ev) : Nat := l.countP fun e => decide (e.1 = 1)
def cV (l : List Ev) : Nat := l.countP fun e => decide (e.1 = 3)
def cR (l : List Ev) : Nat := l.countP fun e => decide (e.1 = 2)
def cK (k : Nat) (l : List Ev) : Nat := l.countP fun e => decide (e.1 = 1 ∧ e.2.2.2.2.1 = (k : Int) ∧ 1 ≤ k ∧ k ≤ 5)
def cX (x : Int) (l : List Ev) : Nat := l.countP fun e => decide (e.1 = 2 ∧ e.2.2.2.1 = x)
structure MRep (m : List (Int × Int)) (f : Int → Nat) : Prop where
  nod : (m.map (·.1)).Nodup
  keys : ∀ p ∈ m, IntOk .i64 p.1
  get : ∀ x, mget m x = if f x = 0 then none else some ((f x : Nat) : Int)
structure Rep (t : Tl) (l : List Ev) : Prop where
  d : t.1 = (cD l : Nat)
  v : t.2.1 = (cV l : Nat)
  k : ∀ k, k < 6 → t.2.2.1.getD k 0 = ((cK k l : Nat) : Int)
  m : MRep t.2.2.2 (fun x => cX x l)
theorem mput_keys (a q : Int) : ∀ m : List (Int × Int), (mput m a q).map (·.1) = if a ∈ m.map (·.1) then m.map (·.1) else m.map (·.1) ++ [a]
  | [] => rfl
  | p :: m => by
    by_cases h : a = p.1
    · simp [mput, h]
    · have := mput_keys a q m
      by_cases hm : a ∈ m.map (·.1)
      · simp only [mput, if_neg h, List.map_cons, this, List.mem_cons, hm, or_true, if_true]
      · rw [if_neg hm] at this
        have hn : ¬ a ∈ p.1 :: m.map (·.1) := by simp only [List.mem_cons, not_or]; exact ⟨h, hm⟩
        simp only [mput, if_neg h, List.map_cons, this, if_neg hn, List.cons_append]
theorem mget_mem : ∀ {m : List (Int × Int)} {x : Int}, mget m x = none ↔ x ∉ m.map (·.1)
  | [], _ => by simp [mget]
  | p :: m, x => by
    by_cases h : x = p.1
    · simp [mget, h]
    · show (if x = p.1 then some p.2 else mget m x) = none ↔ _
      rw [if_neg h, mget_mem (m := m)]; simp [h]
theorem mrep_put {m : List (Int × Int)} {f : Int → Nat} {a : Int} {q : Nat} (h : MRep m f) (ha : IntOk .i64 a) (hq : 0 < q) : MRep (mput m a (q : Int)) (fun x => if x = a then q else f x) := by
  refine ⟨?_, fun p hp => ?_, fun x => ?_⟩
  · rw [mput_keys]
    split
    · exact h.nod
    · next hn => exact List.nodup_append.2 ⟨h.nod, by simp, fun x hx y hy e => by simp at hy; subst hy; subst e; exact hn hx⟩
  · have : p.1 ∈ (mput m a (q : Int)).map (·.1) := List.mem_map_of_mem hp
    rw [mput_keys] at this
    have h2 : p.1 ∈ m.map (·.1) ∨ p.1 = a := by
      split at this
      · exact .inl this
      · simpa using this
    rcases h2 with h2 | h2
    · obtain ⟨p', hp', e⟩ := List.mem_map.1 h2; rw [← e]; exact h.keys p' hp'
    · rw [h2]; exact ha
  · rw [mget_mput]
    by_cases hx : x = a
    · simp [hx]; omega
    · simp only [if_neg hx, h.get]
theorem mrep_ext {m : List (Int × Int)} {f f' : Int → Nat} (h : MRep m f) (e : ∀ x, f x = f' x) : MRep m f' := by
  obtain rfl : f = f' := funext e; exact h
theorem skeys_perm (m : List (Int × Int)) : (skeys m).Perm (m.map (·.1)) := List.mergeSort_perm _ _
theorem skeys_nodup {m : List (Int × Int)} {f : Int → Nat} (h : MRep m f) : (skeys m).Nodup := (skeys_perm m).nodup_iff.2 h.nod
theorem skeys_mem {m : List (Int × Int)} {f : Int → Nat} (h : MRep m f) (x : Int) : x ∈ skeys m ↔ f x ≠ 0 := by
  rw [(skeys_perm m).mem_iff]
  have h1 := h.get x
  have h2 := mget_mem (m := m) (x := x)
  by_cases h0 : f x = 0
  · rw [if_pos h0] at h1
    simp only [ne_eq, h0, not_true_eq_false, iff_false]
    exact h2.1 h1
  · rw [if_neg h0] at h1
    simp only [ne_eq, h0, not_false_eq_true, iff_true]
    exact Classical.byContradiction fun hn => by rw [h2.2 hn] at h1; cases h1
/-! ### Events are counted -/
def kindsE (l : List Int) (k : Int) : List Int := n6 (putN 6 0 (n6 l) k.toNat (IntKind.i64.wrap ((n6 l).getD k.toNat 0 + 1)))
def addE (t : Tl) (e : Ev) : Tl :=
  if e.1 = 1 then (IntKind.i64.wrap (t.1 + 1), t.2.1, if 1 ≤ e.2.2.2.2.1 ∧ e.2.2.2.2.1 ≤ 5 then kindsE t.2.2.1 e.2.2.2.2.1 else n6 t.2.2.1, t.2.2.2)
  else if e.1 = 2 then (t.1, t.2.1, n6 t.2.2.1, mput t.2.2.2 e.2.2.2.1 (IntKind.i64.wrap (((mget t.2.2.2 e.2.2.2.1).getD 0) + 1)))
  else if e.1 = 3 then (t.1, IntKind.i64.wrap (t.2.1 + 1), n6 t.2.2.1, t.2.2.2)
  else (t.1, t.2.1, n6 t.2.2.1, t.2.2.2)
def fin6 (t : Tl) : Tl := (t.1, t.2.1, n6 t.2.2.1, t.2.2.2)
def stT (i : Int) (t : Tl) : Int × Int × Int × Int × Int × Int × Int × Int × Int × (List (Int × Int)) := (i, t.1, t.2.1, t.2.2.1.getD 0 0, t.2.2.1.getD 1 0, t.2.2.1.getD 2 0, t.2.2.1.getD 3 0, t.2.2.1.getD 4 0, t.2.2.1.getD 5 0, t.2.2.2)
theorem wordL_nil (k : Int) : bstr (wordL k) = bstr [] ↔ ¬ (1 ≤ k ∧ k ≤ 5) := by
  by_cases h1 : k = 1
  · subst h1; simp [wordL]; decide
  by_cases h2 : k = 2
  · subst h2; simp [wordL]; decide
  by_cases h3 : k = 3
  · subst h3; simp [wordL]; decide
  by_cases h4 : k = 4
  · subst h4; simp [wordL]; decide
  by_cases h5 : k = 5
  · subst h5; simp [wordL]; decide
  · simp [wordL, h1, h2, h3, h4, h5]; omega
theorem add_run (L : List Ev) (hL : L.length < 4611686018427387904) : ∀ (l pre : List Ev) (t : Tl), L = pre ++ l → Loops (tally_Tally_Add_l1 L) (stT (pre.length : Int) t) (fin6 (l.foldl addE t))
  | [], pre, t, h => by
    refine .done ?_
    unfold tally_Tally_Add_l1
    rw [if_neg (by simp [stT, h])]
    rfl
  | e :: l, pre, t, h => by
    have hlen : L.length = pre.length + l.length + 1 := by rw [h]; simp; omega
    have hi := add_run L hL l (pre ++ [e]) (addE t e) (by rw [h]; simp)
    refine .next ?_ hi
    have hat : L[pre.length]? = some e := by rw [h]; simp
    unfold tally_Tally_Add_l1
    rw [if_pos (by simp [stT]; omega)]
    refine ⟨e, ⟨by simp [stT], by simpa [stT] using hat⟩, ?_⟩
    simp only [List.length_append, List.length_cons, List.length_nil, Nat.zero_add]
    by_cases h1 : e.1 = 1
    · rw [if_pos (decide_eq_true h1)]
      refine ⟨_, fword_ok _, ?_⟩
      by_cases hk : 1 ≤ e.2.2.2.2.1 ∧ e.2.2.2.2.1 ≤ 5
      · rw [if_neg (by rw [decide_eq_true_eq, wordL_nil]; exact fun h => h hk)]
        refine ⟨by omega, by omega, by omega, by omega, ?_⟩
        unfold tally_Tally_Add_j2 addE
        simp only [if_pos h1, if_pos hk]
        rw [show (stT (pre.length : Int) t).1 = (pre.length : Int) from rfl, len_wrap (by omega)]
        rfl
      · rw [if_pos (by rw [decide_eq_true_eq, wordL_nil]; exact hk)]
        unfold tally_Tally_Add_j2 addE
        simp only [if_pos h1, if_neg hk]
        rw [show (stT (pre.length : Int) t).1 = (pre.length : Int) from rfl, len_wrap (by omega)]
        rfl
    · rw [if_neg (by simpa using h1)]
      by_cases h2 : e.1 = 2
      · rw [if_pos (decide_eq_true h2)]
        unfold tally_Tally_Add_j2 addE
        simp only [if_neg h1, if_pos h2]
        rw [show (stT (pre.length : Int) t).1 = (pre.length : Int) from rfl, len_wrap (by omega)]
        rfl
      · rw [if_neg (by simpa using h2)]
        by_cases h3 : e.1 = 3
        · rw [if_pos (decide_eq_true h3)]
          unfold tally_Tally_Add_j2 addE
          simp only [if_neg h1, if_neg h2, if_pos h3]
          rw [show (stT (pre.length : Int) t).1 = (pre.length : Int) from rfl, len_wrap (by omega)]
          rfl
        · rw [if_neg (by simpa using h3)]
          unfold tally_Tally_Add_j2 addE
          simp only [if_neg h1, if_neg h2, if_neg h3]
          rw [show (stT (pre.length : Int) t).1 = (pre.length : Int) from rfl, len_wrap (by omega)]
          rfl
theorem add_ok {L : List Ev} (hL : L.length < 4611686018427387904) (t : Tl) : tally_Tally_Add t L (fin6 (L.foldl addE t)) := ⟨_, add_run L hL L [] t rfl, rfl⟩
/-! ### The errors, in order -/
theorem errors_itr {c : Tl} {S : Type} {Y : (Int × Int) → S → Bool × S → Prop} {s s' : S} (hk : ∀ p ∈ c.2.2.2, IntOk .i64 p.1) (hn : c.2.2.2.length < 1000000) (hr : Run Y ((skeys c.2.2.2).map fun k => (k, (mget c.2.2.2 k).getD 0)) s s') : tally_Tally_Errors_1 c S Y s (s', c) := by
  have hl : (skeys c.2.2.2).length < 1000000 := by rw [(skeys_perm _).length_eq, List.length_map]; exact hn
  refine ⟨hk, by omega, (s', c), ?_, rfl⟩
  have key : ∀ (l pre : List Int) (s : S), skeys c.2.2.2 = pre ++ l → Run Y (l.map fun k => (k, (mget c.2.2.2 k).getD 0)) s s' → Loops (tally_Tally_Errors_1_l1 S Y c) (s, (pre.length : Int)) (s', c) := by
    intro l
    induction l with
    | nil =>
      intro pre s h hr
      cases hr
      refine .done ?_
      unfold tally_Tally_Errors_1_l1
      rw [if_neg (by rw [h]; simp)]
    | cons x l ih =>
      intro pre s h hr
      have hlen : (skeys c.2.2.2).length = pre.length + l.length + 1 := by rw [h]; simp; omega
      have hi := ih (pre ++ [x])
      simp only [List.length_append, List.length_cons, List.length_nil, Nat.zero_add] at hi
      have hat : (skeys c.2.2.2)[pre.length]? = some x := by rw [h]; simp
      have stp : ∀ o y u, Y (x, (mget c.2.2.2 x).getD 0) s (y, u) → (if (!y) = true then o = .inr (u, c) else o = .inl (u, ((pre.length + 1 : Nat) : Int))) → tally_Tally_Errors_1_l1 S Y c (s, (pre.length : Int)) o := by
        intro o y u hy ho
        unfold tally_Tally_Errors_1_l1
        rw [if_pos (by simp; omega)]
        refine ⟨x, ⟨by simp, by simpa using hat⟩, y, u, hy, ?_⟩
        simp only [len_wrap (show pre.length < 4611686018427387904 by omega)]
        exact ho
      cases hr with
      | go h1 h2 => exact .next (stp _ _ _ h1 (by simp)) (hi _ (by rw [h]; simp) h2)
      | stop h1 => exact .done (stp _ _ _ h1 (by simp))
  exact key _ [] s rfl hr
/-! ### The chapter's example -/
def t25 : Tl := (1, 0, [0, 0, 1, 0, 0, 0], [(11, 2)])
theorem known25_ok : law25_known true := by
  have hd : event_Delivery 1 1 (2, List.replicate 6 0, [], [], bstr [], bstr []) (1, 1, 1, 0, (2, List.replicate 6 0, [], [], bstr [], bstr [])) := deliv_ok 1 1 (m := (2, List.replicate 6 0, [], [], bstr [], bstr [])) (by decide) (by decide)
  refine ⟨_, rfl, _, hd, _, rfl, _, rfl, t25, ?_, ?_⟩
  · have := add_ok (L := [(1, 1, 1, 0, (2, List.replicate 6 0, [], [], bstr [], bstr [])), (2, 0, 0, 11, zM), (2, 0, 0, 11, zM)]) (by decide) (0, 0, [0, 0, 0, 0, 0, 0], [])
    exact this
  · refine ⟨([bstr [100, 101, 108, 105, 118, 101, 114, 101, 100, 32, 49], bstr [104, 111, 108, 100, 32, 49], bstr [114, 101, 106, 101, 99, 116, 32, 115, 117, 109, 32, 50], bstr [101, 118, 105, 99, 116, 101, 100, 32, 48]], t25), ?_, true, lines25_ok (by decide), rfl⟩
    refine ⟨_, snum_ok (ok_lit 1 (by decide) (by decide)), by rw [size_bstr, size_bstr]; decide, _, rfl, ?_⟩
    refine ⟨.inl [bstr [100, 101, 108, 105, 118, 101, 114, 101, 100, 32, 49], bstr [104, 111, 108, 100, 32, 49]], (), kinds_itr _ _ _ _ (run_yof ?_), ?_⟩
    · have no : ∀ (k : Int) (w : ByteArray) (s : List ByteArray), 0 ≤ k → k < 6 → t25.2.2.1.getD k.toNat 0 = 0 → tally_Tally_Lines_l1 t25 (k, w) s (.inl s) := by
        intro k w s h0 h6 hz
        exact ⟨h0, h6, by rw [if_neg (by rw [decide_eq_true_eq]; show ¬ (0 < t25.2.2.1.getD k.toNat 0); rw [hz]; decide)]⟩
      rw [← bstr_append]
      refine .go (no 1 _ _ (by decide) (by decide) rfl) (.go (s1 := [bstr [100, 101, 108, 105, 118, 101, 114, 101, 100, 32, 49], bstr [104, 111, 108, 100, 32, 49]]) ⟨by decide, by decide, ?_⟩ (.go (no 3 _ _ (by decide) (by decide) rfl) (.go (no 4 _ _ (by decide) (by decide) rfl) (.go (no 5 _ _ (by decide) (by decide) rfl) .nil))))
      rw [if_pos (by decide)]
      refine ⟨by rw [size_bstr, size_bstr]; decide, _, snum_ok (ok_lit 1 (by decide) (by decide)), by rw [ByteArray.size_append, size_bstr, size_bstr, size_bstr]; decide, by decide, by decide, ?_⟩
      rw [← bstr_append, ← bstr_append]; rfl
    · refine ⟨_, rfl, .inl [bstr [100, 101, 108, 105, 118, 101, 114, 101, 100, 32, 49], bstr [104, 111, 108, 100, 32, 49], bstr [114, 101, 106, 101, 99, 116, 32, 115, 117, 109, 32, 50]], t25, errors_itr (by decide) (by decide) (run_yof ?_), ?_⟩
      · have hs : skeys t25.2.2.2 = [11] := by unfold skeys t25; simp
        rw [hs]
        refine .go ⟨_, eword_ok 11, ?_⟩ .nil
        refine ⟨by rw [size_bstr, size_bstr]; decide, by rw [ByteArray.size_append, size_bstr, size_bstr, size_bstr]; decide, _, snum_ok (ok_lit 2 (by decide) (by decide)), by rw [ByteArray.size_append, ByteArray.size_append, size_bstr, size_bstr, size_bstr, size_bstr]; decide, by decide, by decide, ?_⟩
        rw [← bstr_append, ← bstr_append, ← bstr_append]; rfl
      · refine ⟨_, snum_ok (ok_lit 0 (by decide) (by decide)), by rw [size_bstr, size_bstr]; decide, by decide, by decide, ?_⟩
        rw [← bstr_append]; rfl
/-! ### A list of events, cut -/
theorem cut25_ok (l : List Ev) : law25_cut l ((l.take 40).map cutE) := by
  refine ⟨(l.take 40).map cutE, ?_, rfl⟩
  have := loops_count (step := law25_cut_l2 l) (e := (l.take 40).map cutE) (fun k => (((l.take k).map cutE), (k : Int))) (min l.length 40) (fun k hk => by
    have hk1 : k < l.length := by omega
    unfold law25_cut_l2
    rw [if_pos (by simpa using hk1)]
    unfold law25_cut_j3
    rw [if_pos (by simp; omega)]
    refine ⟨l[k], idx_of hk1, _, ecut_ok _, ?_⟩
    simp only [List.length_map, List.length_take, List.length_cons, List.length_nil]
    refine ⟨by omega, by omega, ?_⟩
    rw [len_wrap (by omega), map_take_snoc _ _ hk1]) (by
    have hf : ∀ b, b = false → law25_cut_j3 l ((l.take (min l.length 40)).map cutE, ((min l.length 40 : Nat) : Int)) b (.inr ((l.take 40).map cutE)) := by
      rintro b rfl
      unfold law25_cut_j3
      rw [if_neg (by simp)]
      show Sum.inr ((l.take 40).map cutE) = Sum.inr ((l.take (min l.length 40)).map cutE)
      by_cases h : l.length ≤ 40
      · rw [Nat.min_eq_left h, List.take_length, List.take_of_length_le h]
      · rw [Nat.min_eq_right (by omega)]
    unfold law25_cut_l2
    by_cases h : l.length ≤ 40
    · rw [if_neg (by simp; omega)]; exact hf _ rfl
    · rw [if_pos (by simp; omega)]; exact hf _ (decide_eq_false (by simp; omega)))
  simpa using this
end Go.Rel
/-! Plain law: tallies of parts, merged, are the tally of all. -/
namespace Go.Rel
open Go Go.Eng Go.Pl
theorem putN_getD {n : Nat} {xs : List Int} {q : Nat} {v : Int} {j : Nat} (hj : j < n) : (putN n 0 xs q v).getD j 0 = if j = q then v else xs.getD j 0 := by
  unfold putN
  rw [List.getD_eq_getElem?_getD, List.getElem?_map, List.getElem?_range hj]
  rfl
theorem n6_getD {l : List Int} {j : Nat} (hj : j < 6) : (n6 l).getD j 0 = l.getD j 0 := by
  unfold n6
  match j, hj with
  | 0, _ => rfl
  | 1, _ => rfl
  | 2, _ => rfl
  | 3, _ => rfl
  | 4, _ => rfl
  | 5, _ => rfl
  | j + 6, h => omega
theorem n6_ext {a b : List Int} (h : ∀ j, j < 6 → a.getD j 0 = b.getD j 0) : n6 a = n6 b := by
  unfold n6; rw [h 0 (by omega), h 1 (by omega), h 2 (by omega), h 3 (by omega), h 4 (by omega), h 5 (by omega)]
theorem rep_fin {t : Tl} {l : List Ev} (h : Rep t l) : Rep (fin6 t) l := ⟨h.d, h.v, fun k hk => by show (n6 t.2.2.1).getD k 0 = _; rw [n6_getD hk]; exact h.k k hk, h.m⟩
theorem cX_one (x : Int) (l : List Ev) (e : Ev) : cX x (l ++ [e]) = cX x l + if e.1 = 2 ∧ e.2.2.2.1 = x then 1 else 0 := by
  unfold cX; rw [List.countP_append, List.countP_singleton]; simp
theorem cK_one (k : Nat) (l : List Ev) (e : Ev) : cK k (l ++ [e]) = cK k l + if e.1 = 1 ∧ e.2.2.2.2.1 = (k : Int) ∧ 1 ≤ k ∧ k ≤ 5 then 1 else 0 := by
  unfold cK; rw [List.countP_append, List.countP_singleton]; simp
theorem cD_one (l : List Ev) (e : Ev) : cD (l ++ [e]) = cD l + if e.1 = 1 then 1 else 0 := by
  unfold cD; rw [List.countP_append, List.countP_singleton]; simp
theorem cV_one (l : List Ev) (e : Ev) : cV (l ++ [e]) = cV l + if e.1 = 3 then 1 else 0 := by
  unfold cV; rw [List.countP_append, List.countP_singleton]; simp
theorem cD_le (l : List Ev) : cD l ≤ l.length := List.countP_le_length
theorem cV_le (l : List Ev) : cV l ≤ l.length := List.countP_le_length
theorem cK_le (k : Nat) (l : List Ev) : cK k l ≤ l.length := List.countP_le_length
theorem cX_le (x : Int) (l : List Ev) : cX x l ≤ l.length := List.countP_le_length
theorem rep_add {t : Tl} {l : List Ev} {e : Ev} (h : Rep t l) (he : IntOk .i64 e.2.2.2.1) (hl : l.length < 1000000) : Rep (addE t e) (l ++ [e]) := by
  have hD := cD_le l
  have hV := cV_le l
  have hx := cX_le e.2.2.2.1 l
  have same : e.1 ≠ 2 → MRep t.2.2.2 (fun x => cX x (l ++ [e])) := fun h2 => mrep_ext h.m (fun x => by rw [cX_one, if_neg (fun hh => h2 hh.1)]; rfl)
  have samek : ∀ k : Nat, k < 6 → (¬ (e.1 = 1 ∧ e.2.2.2.2.1 = (k : Int) ∧ 1 ≤ k ∧ k ≤ 5)) → (n6 t.2.2.1).getD k 0 = ((cK k (l ++ [e]) : Nat) : Int) := fun k hk hn => by rw [n6_getD hk, h.k k hk, cK_one, if_neg hn, Nat.add_zero]
  unfold addE
  by_cases h1 : e.1 = 1
  · rw [if_pos h1]
    refine ⟨?_, ?_, fun k hk => ?_, same (by omega)⟩
    · simp only [h.d, cD_one, if_pos h1]; rw [w_small (by omega) (by omega)]; push_cast; rfl
    · simp only [h.v, cV_one, if_neg (show ¬ e.1 = 3 by omega), Nat.add_zero]
    · simp only
      split
      · next hw =>
        unfold kindsE
        rw [n6_getD hk, putN_getD hk]
        have hkn : e.2.2.2.2.1.toNat < 6 := by omega
        have hck := cK_le e.2.2.2.2.1.toNat l
        by_cases hkk : k = e.2.2.2.2.1.toNat
        · rw [if_pos hkk, n6_getD hkn, h.k _ hkn, cK_one, if_pos ⟨h1, by omega, by omega, by omega⟩, ← hkk, w_small (by rw [← hkk] at hck; omega) (by rw [← hkk] at hck; omega)]; push_cast; rfl
        · rw [if_neg hkk]; exact samek k hk (fun hh => hkk (by omega))
      · next hw => exact samek k hk (fun hh => hw (by omega))
  · rw [if_neg h1]
    by_cases h2 : e.1 = 2
    · rw [if_pos h2]
      refine ⟨?_, ?_, fun k hk => samek k hk (fun hh => h1 hh.1), ?_⟩
      · simp only [h.d, cD_one, if_neg h1, Nat.add_zero]
      · simp only [h.v, cV_one, if_neg (show ¬ e.1 = 3 by omega), Nat.add_zero]
      · have hv : IntKind.i64.wrap (((mget t.2.2.2 e.2.2.2.1).getD 0) + 1) = ((cX e.2.2.2.1 l + 1 : Nat) : Int) := by
          rw [h.m.get]
          by_cases h0 : cX e.2.2.2.1 l = 0
          · rw [if_pos h0, h0]; rfl
          · rw [if_neg h0]; simp only [Option.getD_some]; rw [w_small (by omega) (by omega)]; push_cast; rfl
        simp only [hv]
        refine mrep_ext (mrep_put h.m he (by omega)) (fun x => ?_)
        rw [cX_one]
        by_cases hx : x = e.2.2.2.1
        · rw [if_pos hx, if_pos ⟨h2, hx.symm⟩, hx]
        · rw [if_neg hx, if_neg (fun hh => hx hh.2.symm), Nat.add_zero]
    · rw [if_neg h2]
      by_cases h3 : e.1 = 3
      · rw [if_pos h3]
        refine ⟨?_, ?_, fun k hk => samek k hk (fun hh => h1 hh.1), same h2⟩
        · simp only [h.d, cD_one, if_neg h1, Nat.add_zero]
        · simp only [h.v, cV_one, if_pos h3]; rw [w_small (by omega) (by omega)]; push_cast; rfl
      · rw [if_neg h3]
        refine ⟨?_, ?_, fun k hk => samek k hk (fun hh => h1 hh.1), same h2⟩
        · simp only [h.d, cD_one, if_neg h1, Nat.add_zero]
        · simp only [h.v, cV_one, if_neg h3, Nat.add_zero]
theorem rep_foldl : ∀ (l : List Ev) {t : Tl} {l0 : List Ev}, Rep t l0 → (∀ e ∈ l, IntOk .i64 e.2.2.2.1) → l0.length + l.length < 1000000 → Rep (l.foldl addE t) (l0 ++ l)
  | [], t, l0, h, _, _ => by simpa using h
  | e :: l, t, l0, h, he, hl => by
    simp only [List.length_cons] at hl
    have := rep_foldl l (rep_add h (he e (by simp)) (by omega)) (fun e' h' => he e' (by simp [h'])) (by simp; omega)
    simpa using this
def new25 : Tl := (0, 0, [0, 0, 0, 0, 0, 0], [])
theorem rep_new : Rep new25 [] := ⟨rfl, rfl, fun k hk => by match k, hk with | 0, _ => rfl | 1, _ => rfl | 2, _ => rfl | 3, _ => rfl | 4, _ => rfl | 5, _ => rfl | k + 6, h => omega, ⟨by simp [new25], by simp [new25], fun x => rfl⟩⟩
theorem add_rep {L : List Ev} (hL : L.length < 1000000) (he : ∀ e ∈ L, IntOk .i64 e.2.2.2.1) : ∃ t, tally_Tally_Add new25 L t ∧ Rep t L :=
  ⟨_, add_ok (by omega) new25, rep_fin (by have := rep_foldl L rep_new he (by simpa using hL); simpa using this)⟩
/-! ### All rejects -/
theorem rej_sum (b : List Ev) : ∀ ks : List Int, ks.Nodup → (ks.map fun k => cX k b).sum ≤ cR b := by
  intro ks hn
  induction b with
  | nil => 
    have : ks.map (fun k => cX k []) = ks.map (fun _ => 0) := List.map_congr_left fun k _ => rfl
    rw [this]
    have : ∀ l : List Int, (l.map fun _ => 0).sum = 0 := fun l => by induction l with | nil => rfl | cons x l ih => simp [ih]
    rw [this]; exact Nat.zero_le _
  | cons e b ih =>
    have hc : ∀ k, cX k (e :: b) = cX k b + if e.1 = 2 ∧ e.2.2.2.1 = k then 1 else 0 := fun k => by unfold cX; rw [List.countP_cons]; simp
    have hr : cR (e :: b) = cR b + if e.1 = 2 then 1 else 0 := by unfold cR; rw [List.countP_cons]; simp
    have hs : ∀ l : List Int, l.Nodup → (l.map fun k => cX k (e :: b)).sum ≤ (l.map fun k => cX k b).sum + if e.1 = 2 ∧ e.2.2.2.1 ∈ l then 1 else 0 := by
      intro l
      induction l with
      | nil => intro _; simp
      | cons k l ihl =>
        intro hn
        have hn' := List.nodup_cons.1 hn
        have := ihl hn'.2
        simp only [List.map_cons, List.sum_cons, hc k]
        by_cases h2 : e.1 = 2
        · by_cases hk : e.2.2.2.1 = k
          · have : ¬ e.2.2.2.1 ∈ l := by rw [hk]; exact hn'.1
            simp only [h2, hk, true_and, if_true, List.mem_cons, true_or] at *
            simp only [this, if_false] at *
            omega
          · simp only [h2, hk, true_and, if_false, List.mem_cons, false_or] at *
            omega
        · simp only [h2, false_and, if_false] at *
          omega
    have := hs ks hn
    rw [hr]
    by_cases h2 : e.1 = 2
    · rw [if_pos h2]
      split at this <;> omega
    · rw [if_neg h2]
      rw [if_neg (fun hh => h2 hh.1)] at this
      omega
theorem len_sum : ∀ {f : Int → Nat} (l : List Int), (∀ k ∈ l, f k ≠ 0) → l.length ≤ (l.map f).sum
  | _, [], _ => by simp
  | f, k :: l, h => by
    have := len_sum l (fun k' h' => h k' (by simp [h']))
    have := h k (by simp)
    simp only [List.map_cons, List.sum_cons, List.length_cons]; omega
theorem cR_le (l : List Ev) : cR l ≤ l.length := List.countP_le_length
/-! ### Merged -/
def mergeF (s : List (Int × Int)) (x : Int × Int) : List (Int × Int) := mput s x.1 (IntKind.i64.wrap (((mget s x.1).getD 0) + x.2))
theorem merge_rep {m2 : List (Int × Int)} {f2 : Int → Nat} (h2 : MRep m2 f2) : ∀ (ks : List Int) (s : List (Int × Int)) (f1 : Int → Nat), ks.Nodup → (∀ k ∈ ks, f2 k ≠ 0 ∧ IntOk .i64 k ∧ f1 k + f2 k < 1000000) → MRep s f1 →
    MRep ((ks.map fun k => (k, (mget m2 k).getD 0)).foldl mergeF s) (fun x => f1 x + if x ∈ ks then f2 x else 0)
  | [], s, f1, _, _, h1 => mrep_ext h1 (fun x => by simp)
  | k :: ks, s, f1, hn, hk, h1 => by
    have ⟨hk1, hk2, hk3⟩ := hk k (by simp)
    have hn' := List.nodup_cons.1 hn
    have hv : mergeF s (k, (mget m2 k).getD 0) = mput s k ((f1 k + f2 k : Nat) : Int) := by
      unfold mergeF
      simp only [h2.get, if_neg hk1, h1.get, Option.getD_some]
      by_cases h0 : f1 k = 0
      · rw [if_pos h0, h0]; simp only [Option.getD_none]; rw [w_small (by omega) (by omega)]; simp
      · rw [if_neg h0]; simp only [Option.getD_some]; rw [w_small (by omega) (by omega)]; push_cast; rfl
    have hp : MRep (mput s k ((f1 k + f2 k : Nat) : Int)) (fun x => if x = k then f1 k + f2 k else f1 x) := mrep_put h1 hk2 (by omega)
    have := merge_rep h2 ks _ _ hn'.2 (fun k' h' => by
      have ⟨a, b, c⟩ := hk k' (by simp [h'])
      refine ⟨a, b, ?_⟩
      rw [if_neg (fun e : k' = k => hn'.1 (e ▸ h'))]; exact c) hp
    simp only [List.map_cons, List.foldl_cons, hv]
    refine mrep_ext this (fun x => ?_)
    by_cases hx : x = k
    · subst hx
      rw [if_pos rfl, if_neg hn'.1, if_pos (by simp)]; omega
    · simp only [hx, if_false, List.mem_cons, false_or]
theorem merge_l3 (x : List Int) (y : Tl) : Loops (tally_Tally_Merge_l3 y) (0, x.getD 0 0, x.getD 1 0, x.getD 2 0, x.getD 3 0, x.getD 4 0, x.getD 5 0)
    (IntKind.i64.wrap (x.getD 0 0 + y.2.2.1.getD 0 0), IntKind.i64.wrap (x.getD 1 0 + y.2.2.1.getD 1 0), IntKind.i64.wrap (x.getD 2 0 + y.2.2.1.getD 2 0), IntKind.i64.wrap (x.getD 3 0 + y.2.2.1.getD 3 0), IntKind.i64.wrap (x.getD 4 0 + y.2.2.1.getD 4 0), IntKind.i64.wrap (x.getD 5 0 + y.2.2.1.getD 5 0)) := by
  generalize x.getD 0 0 = x0
  generalize x.getD 1 0 = x1
  generalize x.getD 2 0 = x2
  generalize x.getD 3 0 = x3
  generalize x.getD 4 0 = x4
  generalize x.getD 5 0 = x5
  have st : ∀ (n : Nat) (a0 a1 a2 a3 a4 a5 : Int) (b0 b1 b2 b3 b4 b5 : Int), n < 6 →
      (∀ j, j < 6 → (if j = n then IntKind.i64.wrap (([a0, a1, a2, a3, a4, a5].getD n 0) + (y.2.2.1.getD n 0)) else [a0, a1, a2, a3, a4, a5].getD j 0) = [b0, b1, b2, b3, b4, b5].getD j 0) →
      tally_Tally_Merge_l3 y ((n : Int), a0, a1, a2, a3, a4, a5) (.inl (((n + 1 : Nat) : Int), b0, b1, b2, b3, b4, b5)) := by
    intro n a0 a1 a2 a3 a4 a5 b0 b1 b2 b3 b4 b5 h1 hj
    unfold tally_Tally_Merge_l3
    rw [if_pos (by simp; omega)]
    refine ⟨by simp, by simp; omega, by simp, by simp; omega, by simp, by simp; omega, ?_⟩
    simp only [Int.toNat_natCast, len_wrap (show n < 4611686018427387904 by omega)]
    rw [putN_getD (by omega), putN_getD (by omega), putN_getD (by omega), putN_getD (by omega), putN_getD (by omega), putN_getD (by omega), hj 0 (by omega), hj 1 (by omega), hj 2 (by omega), hj 3 (by omega), hj 4 (by omega), hj 5 (by omega)]
    rfl
  have six : ∀ {P : Nat → Prop}, P 0 → P 1 → P 2 → P 3 → P 4 → P 5 → ∀ j, j < 6 → P j := fun {P} p0 p1 p2 p3 p4 p5 j hj => by
    match j, hj with | 0, _ => exact p0 | 1, _ => exact p1 | 2, _ => exact p2 | 3, _ => exact p3 | 4, _ => exact p4 | 5, _ => exact p5 | j + 6, h => omega
  generalize h0 : IntKind.i64.wrap (x0 + y.2.2.1.getD 0 0) = w0
  generalize h1 : IntKind.i64.wrap (x1 + y.2.2.1.getD 1 0) = w1
  generalize h2 : IntKind.i64.wrap (x2 + y.2.2.1.getD 2 0) = w2
  generalize h3 : IntKind.i64.wrap (x3 + y.2.2.1.getD 3 0) = w3
  generalize h4 : IntKind.i64.wrap (x4 + y.2.2.1.getD 4 0) = w4
  generalize h5 : IntKind.i64.wrap (x5 + y.2.2.1.getD 5 0) = w5
  refine .next (st 0 x0 x1 x2 x3 x4 x5 w0 x1 x2 x3 x4 x5 (by decide) (six h0 rfl rfl rfl rfl rfl)) ?_
  refine .next (st 1 w0 x1 x2 x3 x4 x5 w0 w1 x2 x3 x4 x5 (by decide) (six rfl h1 rfl rfl rfl rfl)) ?_
  refine .next (st 2 w0 w1 x2 x3 x4 x5 w0 w1 w2 x3 x4 x5 (by decide) (six rfl rfl h2 rfl rfl rfl)) ?_
  refine .next (st 3 w0 w1 w2 x3 x4 x5 w0 w1 w2 w3 x4 x5 (by decide) (six rfl rfl rfl h3 rfl rfl)) ?_
  refine .next (st 4 w0 w1 w2 w3 x4 x5 w0 w1 w2 w3 w4 x5 (by decide) (six rfl rfl rfl rfl h4 rfl)) ?_
  refine .next (st 5 w0 w1 w2 w3 w4 x5 w0 w1 w2 w3 w4 w5 (by decide) (six rfl rfl rfl rfl rfl h5)) ?_
  refine .done ?_
  unfold tally_Tally_Merge_l3
  rw [if_neg (by simp)]
theorem cX_app (x : Int) (a b : List Ev) : cX x (a ++ b) = cX x a + cX x b := List.countP_append
theorem merge_ok {x y : Tl} {a b : List Ev} (hx : Rep x a) (hy : Rep y b) (hl : a.length + b.length < 10000) : ∃ z, tally_Tally_Merge x y z ∧ Rep z (a ++ b) := by
  have hlen : y.2.2.2.length < 1000000 := by
    have h1 : (y.2.2.2.map (·.1)).length ≤ b.length := by
      have h2 := len_sum (f := fun k => cX k b) (y.2.2.2.map (·.1)) (fun k hk => (skeys_mem hy.m k).1 ((skeys_perm _).mem_iff.2 hk))
      have h3 := rej_sum b _ hy.m.nod
      have h4 := cR_le b
      omega
    rw [List.length_map] at h1; omega
  have hm := merge_rep hy.m (skeys y.2.2.2) x.2.2.2 (fun k => cX k a) (skeys_nodup hy.m) (fun k hk => by
    refine ⟨(skeys_mem hy.m k).1 hk, ?_, ?_⟩
    · obtain ⟨p, hp, e⟩ := List.mem_map.1 ((skeys_perm _).mem_iff.1 hk); rw [← e]; exact hy.m.keys p hp
    · have := cX_le k a; have := cX_le k b; omega) hx.m
  refine ⟨_, ⟨y, rfl, _, merge_l3 x.2.2.1 y, _, rfl, .inl (((skeys y.2.2.2).map fun k => (k, (mget y.2.2.2 k).getD 0)).foldl mergeF x.2.2.2), y, errors_itr hy.m.keys hlen (run_yof (runB_fold mergeF _ _ (fun p x q _ => rfl))), rfl⟩, ?_⟩
  have hD1 := cD_le a; have hD2 := cD_le b; have hV1 := cV_le a; have hV2 := cV_le b
  refine ⟨?_, ?_, fun k hk => ?_, ?_⟩
  · simp only [hx.d, hy.d]; rw [w_small (by omega) (by omega)]; unfold cD; rw [List.countP_append]; push_cast; rfl
  · simp only [hx.v, hy.v]; rw [w_small (by omega) (by omega)]; unfold cV; rw [List.countP_append]; push_cast; rfl
  · have e : ∀ j, j < 6 → IntKind.i64.wrap (x.2.2.1.getD j 0 + y.2.2.1.getD j 0) = ((cK j (a ++ b) : Nat) : Int) := fun j hj => by
      have := cK_le j a; have := cK_le j b
      rw [hx.k j hj, hy.k j hj, w_small (by omega) (by omega)]; unfold cK; rw [List.countP_append]; push_cast; rfl
    match k, hk with
    | 0, _ => exact e 0 (by omega)
    | 1, _ => exact e 1 (by omega)
    | 2, _ => exact e 2 (by omega)
    | 3, _ => exact e 3 (by omega)
    | 4, _ => exact e 4 (by omega)
    | 5, _ => exact e 5 (by omega)
    | k + 6, h => omega
  · refine mrep_ext hm (fun k => ?_)
    rw [cX_app]
    by_cases h : k ∈ skeys y.2.2.2
    · rw [if_pos h]
    · rw [if_neg h]
      have : cX k b = 0 := Classical.byContradiction fun h0 => h ((skeys_mem hy.m k).2 h0)
      rw [this]
/-! ### The same -/
theorem mdel_lt {m : List (Int × Int)} {p : Int × Int} (h : p ∈ m) : (mdel m p.1).length < m.length := by
  unfold mdel
  rw [List.length_filter_lt_length_iff_exists]
  exact ⟨p, h, by simp⟩
theorem mget_of_mem : ∀ {m : List (Int × Int)} {p : Int × Int}, (m.map (·.1)).Nodup → p ∈ m → mget m p.1 = some p.2
  | q :: m, p, hn, hp => by
    simp only [List.map_cons, List.nodup_cons] at hn
    show (if p.1 = q.1 then some q.2 else mget m p.1) = _
    rcases List.mem_cons.1 hp with rfl | hp
    · rw [if_pos rfl]
    · rw [if_neg (fun e => hn.1 (by rw [← e]; exact List.mem_map_of_mem hp))]
      exact mget_of_mem hn.2 hp
theorem equal_ok {m m' : List (Int × Int)} {f : Int → Nat} (h : MRep m f) (h' : MRep m' f) : maps_Equal_map_api_Errno_int_map_api_Errno_int_api_Errno_int m m' true := by
  have hlen : m.length = m'.length := by
    have : (m.map (·.1)).Perm (m'.map (·.1)) := (List.perm_ext_iff_of_nodup h.nod h'.nod).2 fun x => by
      rw [← (skeys_perm m).mem_iff, ← (skeys_perm m').mem_iff, skeys_mem h, skeys_mem h']
    simpa using this.length_eq
  unfold maps_Equal_map_api_Errno_int_map_api_Errno_int_api_Errno_int
  rw [if_neg (by simp [hlen])]
  have key : ∀ (n : Nat) (s : List (Int × Int)), s.length ≤ n → (∀ p ∈ s, p ∈ m) → LoopsD (fun (s_ : List (Int × Int)) (c_ : Option (Int × Int)) => mopt s_ c_) (maps_Equal_map_api_Errno_int_map_api_Errno_int_api_Errno_int_l2 m') (fun e7 : Sum Unit Bool => Aft (fun p20 => maps_Equal_map_api_Errno_int_map_api_Errno_int_api_Errno_int_j1 p20 true) (fun p21 => true = p21) e7) s := by
    intro n
    induction n with
    | zero =>
      intro s hs _
      obtain rfl : s = [] := List.eq_nil_of_length_eq_zero (by omega)
      refine .mk (fun _ => .inr (.inl ())) (fun c hc => ?_) (fun c e _ he => ?_) (fun c s' _ he => by cases he)
      · cases c with
        | none => exact ⟨fun _ => rfl, fun _ h => by cases h⟩
        | some p => exact absurd hc (by simp [mopt])
      · cases he; exact rfl
    | succ n ih =>
      intro s hs hin
      refine .mk (fun c => match c with | none => .inr (.inl ()) | some p => .inl (mdel s p.1)) (fun c hc => ?_) (fun c e _ he => ?_) (fun c s' hc he => ?_)
      · cases c with
        | none => exact ⟨fun _ => rfl, fun _ h => by cases h⟩
        | some p =>
          refine ⟨fun h => (by cases h), fun q hq => ?_⟩
          cases hq
          have hp := mget_of_mem h.nod (hin p hc)
          have hf := h.get p.1
          rw [hp] at hf
          by_cases h0 : f p.1 = 0
          · rw [if_pos h0] at hf; cases hf
          · rw [if_neg h0] at hf
            have hp2 : p.2 = (f p.1 : Nat) := Option.some.inj hf
            have hg := h'.get p.1
            rw [if_neg h0] at hg
            simp only [hg, Option.isSome_some, Bool.not_true, Bool.false_eq_true, if_false, Option.getD_some, hp2, decide_true]
            unfold maps_Equal_map_api_Errno_int_map_api_Errno_int_api_Errno_int_j3
            rw [if_neg (by decide)]
      · cases c with
        | none => cases he; exact rfl
        | some p => cases he
      · cases c with
        | none => cases he
        | some p =>
          cases he
          have := mdel_lt hc
          exact ih _ (by omega) (fun q hq => hin q (List.mem_filter.1 hq).1)
  exact key _ m (Nat.le_refl _) (fun p hp => hp)
theorem same_cond {t t' : Tl} {l l' : List Ev} (h : Rep t l) (h' : Rep t' l') (hp : l.Perm l') : (((decide (t.1 = t'.1)) && (decide (t.2.1 = t'.2.1))) && (eqN 6 0 t.2.2.1 t'.2.2.1)) = true := by
  have e1 : t.1 = t'.1 := by rw [h.d, h'.d]; unfold cD; rw [hp.countP_eq]
  have e2 : t.2.1 = t'.2.1 := by rw [h.v, h'.v]; unfold cV; rw [hp.countP_eq]
  have e3 : n6 t.2.2.1 = n6 t'.2.2.1 := n6_ext fun j hj => by rw [h.k j hj, h'.k j hj]; unfold cK; rw [hp.countP_eq]
  rw [eqN6, e1, e2, e3]; simp
theorem tsame_ok {t t' : Tl} {l l' : List Ev} (h : Rep t l) (h' : Rep t' l') (hp : l.Perm l') : tally_Same t t' true := by
  refine ⟨true, fun _ => equal_ok h.m (mrep_ext h'.m fun x => by unfold cX; rw [hp.countP_eq]), ?_⟩
  rw [same_cond h h' hp]; rfl
theorem all_le (b : List Ev) : cD b + cR b + cV b ≤ b.length := by
  induction b with
  | nil => simp [cD, cR, cV]
  | cons e b ih =>
    unfold cD cR cV at *
    simp only [List.countP_cons, List.length_cons, decide_eq_true_eq]
    by_cases h1 : e.1 = 1
    · rw [if_pos h1, if_neg (by omega), if_neg (by omega)]; omega
    · rw [if_neg h1]
      by_cases h2 : e.1 = 2
      · rw [if_pos h2, if_neg (by omega)]; omega
      · rw [if_neg h2]; split <;> omega
/-! ### The law -/
theorem rejected_ok {t : Tl} {b : List Ev} (h : Rep t b) (hb : b.length < 10000) : ∃ n : Nat, tally_Tally_Rejected t ((n : Int), t) ∧ n ≤ cR b := by
  have hlen : t.2.2.2.length < 1000000 := by
    have h2 := len_sum (f := fun k => cX k b) (t.2.2.2.map (·.1)) (fun k hk => (skeys_mem h.m k).1 ((skeys_perm _).mem_iff.2 hk))
    have h3 := rej_sum b _ h.m.nod
    have h4 := cR_le b
    rw [List.length_map] at h2; omega
  have hs := rej_sum b _ (skeys_nodup h.m)
  have hcr := cR_le b
  have run : ∀ (ks : List Int) (a : Nat), (∀ k ∈ ks, cX k b ≠ 0) → a + (ks.map fun k => cX k b).sum < 1000000 → RunB tally_Tally_Rejected_l1 (ks.map fun k => (k, (mget t.2.2.2 k).getD 0)) ((a : Nat) : Int) (.inl (((a + (ks.map fun k => cX k b).sum : Nat) : Int))) := by
    intro ks
    induction ks with
    | nil => intro a _ _; exact .nil
    | cons k ks ih =>
      intro a hk ha
      simp only [List.map_cons, List.sum_cons] at ha ⊢
      refine .go (s1 := ((a + cX k b : Nat) : Int)) ?_ ?_
      · show Sum.inl _ = _
        have := h.m.get k
        simp only [if_neg (hk k (by simp))] at this
        simp only [this, Option.getD_some]
        rw [w_small (by omega) (by omega)]; push_cast; rfl
      · rw [← Nat.add_assoc]
        exact ih (a + cX k b) (fun k' h' => hk k' (by simp [h'])) (by omega)
  refine ⟨((skeys t.2.2.2).map fun k => cX k b).sum, ⟨_, rfl, _, t, errors_itr h.m.keys hlen (run_yof (run _ 0 (fun k hk => (skeys_mem h.m k).1 hk) (by omega))), ?_⟩, hs⟩
  show _ = _
  rw [Nat.zero_add]
theorem tallyMerges_true {A B : List Ev} (hA : ∀ e ∈ A, IntOk .i64 e.2.2.2.1) (hB : ∀ e ∈ B, IntOk .i64 e.2.2.2.1) : law25_TallyMerges A B true := by
  refine ⟨_, cut25_ok A, _, cut25_ok B, ?_⟩
  have la : ((A.take 40).map cutE).length ≤ 40 := by simp; omega
  have lb : ((B.take 40).map cutE).length ≤ 40 := by simp; omega
  have ha : ∀ e ∈ (A.take 40).map cutE, IntOk .i64 e.2.2.2.1 := fun e he => by
    obtain ⟨e', h1, rfl⟩ := List.mem_map.1 he; exact hA e' (List.mem_of_mem_take h1)
  have hb : ∀ e ∈ (B.take 40).map cutE, IntOk .i64 e.2.2.2.1 := fun e he => by
    obtain ⟨e', h1, rfl⟩ := List.mem_map.1 he; exact hB e' (List.mem_of_mem_take h1)
  generalize (A.take 40).map cutE = a at *
  generalize (B.take 40).map cutE = b at *
  obtain ⟨x, x1, x2⟩ := add_rep (L := a) (by omega) ha
  obtain ⟨y, y1, y2⟩ := add_rep (L := b) (by omega) hb
  obtain ⟨al, al1, al2⟩ := add_rep (L := a ++ b) (by simp; omega) (fun e he => by rcases List.mem_append.1 he with h | h; exact ha e h; exact hb e h)
  obtain ⟨tu, tu1, tu2⟩ := add_rep (L := b ++ a) (by simp; omega) (fun e he => by rcases List.mem_append.1 he with h | h; exact hb e h; exact ha e h)
  obtain ⟨tw, tw1, tw2⟩ := add_rep (L := b ++ b) (by simp; omega) (fun e he => by rcases List.mem_append.1 he with h | h; exact hb e h; exact hb e h)
  obtain ⟨z, z1, z2⟩ := merge_ok x2 y2 (by omega)
  obtain ⟨n, n1, n2⟩ := rejected_ok y2 (by omega)
  obtain ⟨z', z1', z2'⟩ := merge_ok (rep_fin y2) (rep_fin y2) (by omega)
  refine ⟨new25, rfl, new25, rfl, new25, rfl, new25, rfl, new25, rfl, x, x1, y, y1, by simp; omega, by simp; omega, by simp; omega, by simp; omega, al, by simpa using al1, by simp; omega, by simp; omega, by simp; omega, by simp; omega, tu, by simpa using tu1, by simp; omega, by simp; omega, by simp; omega, by simp; omega, tw, by simpa using tw1, z, z1, (), rfl, true, tsame_ok z2 al2 (List.Perm.refl _), ?_⟩
  rw [if_neg (by decide)]
  refine ⟨true, tsame_ok al2 tu2 List.perm_append_comm, ?_⟩
  rw [if_neg (by decide)]
  refine ⟨_, rfl, _, n1, _, rfl, ?_⟩
  have hall := all_le b
  have e0 : decide ((b.length : Int) < IntKind.i64.wrap (IntKind.i64.wrap (y.1 + (n : Int)) + y.2.1)) = false := by
    have e1 : IntKind.i64.wrap (y.1 + (n : Int)) = (cD b : Int) + n := by rw [y2.d, w_small (by omega) (by omega)]
    rw [e1, y2.v, w_small (by omega) (by omega)]
    exact decide_eq_false (by omega)
  show law25_TallyMerges_j1 tw z (decide ((b.length : Int) < IntKind.i64.wrap (IntKind.i64.wrap (y.1 + (n : Int)) + y.2.1)), _) true
  rw [e0]
  unfold law25_TallyMerges_j1
  rw [if_neg (by simp)]
  refine ⟨z', z1', true, known25_ok, ?_⟩
  rw [if_pos rfl]
  refine ⟨true, tsame_ok z2' tw2 (List.Perm.refl _), ?_⟩
  rw [if_pos rfl]
  refine ⟨new25, rfl, true, ⟨new25, rfl, tsame_ok rep_new rep_new (List.Perm.refl _)⟩, ?_⟩
  rw [if_pos rfl]
  exact ⟨z, rfl, true, tsame_ok z2 z2 (List.Perm.refl _), rfl⟩
theorem tallyMerges_claim {a b : List Ev} (h0 : ListOk (fun e : Ev => EvRaw e) a) (h1 : ListOk (fun e : Ev => EvRaw e) b) : law25_TallyMerges a b true := tallyMerges_true (fun e he => (evIn (h0.1 e he)).err) (fun e he => (evIn (h1.1 e he)).err)
end Go.Rel
