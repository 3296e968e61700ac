import Derived.Test.YtgokdchgjpneoaaDoorPlChk
import Derived.Test.YtgokdchgjpneoaaDoorPlI
/-! Plain laws: the line of a message: the program's and the document's. -/
namespace Go.Rel
open Go Go.Eng Go.Pl

theorem bstr_bints (s : ByteArray) : bstr (bints s) = s := by
  have h : ∀ (l : List UInt8) (t : ByteArray), (l.map fun b => (b.toNat : Int)).foldl (fun r n => r.push (UInt8.ofNat n.toNat)) t = ⟨t.data ++ l.toArray⟩ := by
    intro l
    induction l with
    | nil => intro t; simp
    | cons b l ih =>
      intro t
      rw [List.map_cons, List.foldl_cons, ih]
      apply ByteArray.ext
      apply Array.ext'
      simp [ByteArray.push]
  have := h s.data.toList ByteArray.empty
  unfold bstr bints
  rw [this]
  apply ByteArray.ext
  apply Array.ext'
  simp [ByteArray.empty, ByteArray.emptyWithCapacity]
  rfl
theorem bints_byt (s : ByteArray) : ∀ x ∈ bints s, 0 ≤ x ∧ x < 256 := by
  intro x hx
  unfold bints at hx
  obtain ⟨b, _, rfl⟩ := List.mem_map.1 hx
  have := b.toNat_lt
  omega
/-- Texts with signs between. -/
def joinL (sep : List Int) : List (List Int) → List Int
  | [] => []
  | [x] => x
  | x :: y :: l => x ++ sep ++ joinL sep (y :: l)
theorem joinS_bstr (sep : List Int) : ∀ ls : List (List Int), joinS (ls.map bstr) (bstr sep) = bstr (joinL sep ls)
  | [] => rfl
  | [x] => rfl
  | x :: y :: l => by
    have := joinS_bstr sep (y :: l)
    simp only [List.map_cons] at this
    simp only [List.map_cons, joinS, joinL, bstr_append]
    rw [this]
theorem joinL_cons (sep x : List Int) {l : List (List Int)} (h : l ≠ []) : joinL sep (x :: l) = x ++ sep ++ joinL sep l := by
  cases l with
  | nil => exact absurd rfl h
  | cons y l => rfl
theorem joinL_snoc (sep : List Int) : ∀ (l : List (List Int)) (x : List Int), joinL sep (l ++ [x]) = if l = [] then x else joinL sep l ++ sep ++ x
  | [], x => rfl
  | [y], x => by simp [joinL]
  | y :: z :: l, x => by
    have := joinL_snoc sep (z :: l) x
    rw [if_neg (List.cons_ne_nil _ _)] at this ⊢
    show y ++ sep ++ joinL sep (z :: l ++ [x]) = (y ++ sep ++ joinL sep (z :: l)) ++ sep ++ x
    rw [this]
    simp only [List.append_assoc]
theorem joinL_len (sep : List Int) (n : Nat) : ∀ (l : List (List Int)), (∀ x ∈ l, x.length ≤ n) → (joinL sep l).length ≤ l.length * (n + sep.length)
  | [], _ => by simp [joinL]
  | [x], h => by have := h x (by simp); simp [joinL]; omega
  | x :: y :: l, h => by
    have h1 := h x (by simp)
    have h2 := joinL_len sep n (y :: l) (fun z hz => h z (by simp only [List.mem_cons] at hz ⊢; right; exact hz))
    simp only [joinL, List.length_append]
    rw [List.length_cons, Nat.add_mul]; omega
def hexD (n : Int) : Int := if n < 10 then 48 + n else 87 + n
def hexL (l : List Int) : List Int := l.flatMap fun c => [hexD (c / 16), hexD (c % 16)]
def hexV (s : ByteArray) : List Int := if s = bstr [] then [45] else hexL (bints s)
theorem hexL_len (l : List Int) : (hexL l).length = 2 * l.length := by
  induction l with
  | nil => rfl
  | cons x l ih => simp [hexL] at ih ⊢; omega
theorem hexL_snoc (l : List Int) (x : Int) : hexL (l ++ [x]) = hexL l ++ [hexD (x / 16), hexD (x % 16)] := by simp [hexL]
def digs : List Int := [48, 49, 50, 51, 52, 53, 54, 55, 56, 57, 97, 98, 99, 100, 101, 102]
theorem digs_at : ∀ i : Nat, i < 16 → digs[i]? = some (hexD i) := by decide
theorem digs_lit : bints (bstr [48, 49, 50, 51, 52, 53, 54, 55, 56, 57, 97, 98, 99, 100, 101, 102]) = digs := rfl
theorem iand_15 {a : Int} (h0 : 0 ≤ a) (h1 : a < 256) : iand .u8 a 15 = a % 16 := by
  obtain ⟨n, rfl⟩ := Int.eq_ofNat_of_zero_le h0
  have h2 : n < 2 ^ 8 := by omega
  have : (BitVec.ofInt 8 (n : Int) &&& BitVec.ofInt 8 15).toNat = n % 16 := by
    rw [BitVec.toNat_and]
    have e1 : (BitVec.ofInt 8 (n : Int)).toNat = n := by rw [BitVec.ofInt_natCast, BitVec.toNat_ofNat, Nat.mod_eq_of_lt h2]
    have e2 : (BitVec.ofInt 8 (15 : Int)).toNat = 2 ^ 4 - 1 := by decide
    rw [e1, e2, Nat.and_two_pow_sub_one_eq_mod]
  show IntKind.u8.wrap (((BitVec.ofInt 8 (n : Int) &&& BitVec.ofInt 8 15).toNat : Nat) : Int) = _
  rw [this, w_u8]; omega
theorem ishr_4 (a : Int) : ishr .u8 a 4 = a / 16 := by
  show a.fdiv (2 ^ min (4 : Int).toNat 8) = _
  rw [show min (4 : Int).toNat 8 = 4 from rfl, Int.fdiv_eq_ediv_of_nonneg _ (by decide)]; rfl
theorem hex_at {q : Int} (h0 : 0 ≤ q) (h1 : q < 16) : idx (bints (bstr [48, 49, 50, 51, 52, 53, 54, 55, 56, 57, 97, 98, 99, 100, 101, 102])) q (hexD q) := by
  rw [digs_lit]
  have := digs_at q.toNat (by omega)
  rw [show ((q.toNat : Nat) : Int) = q by omega] at this
  exact ⟨h0, this⟩
theorem bints_size (s : ByteArray) : (bints s).length = s.size := len_bints s
theorem shex_ok {s : ByteArray} (h : s.size < 1000000) : say_hex s (bstr (hexV s)) := by
  unfold say_hex hexV
  by_cases he : s = bstr []
  · rw [if_pos (by simpa using he), if_pos he]
  · rw [if_neg (by simpa using he), if_neg he]
    refine ⟨by omega, hexL (bints s), ?_, rfl⟩
    have := loops_count (step := say_hex_l2 s) (e := hexL (bints s)) (fun k => (hexL ((bints s).take k), (k : Int))) (bints s).length (fun k hk => by
      have hb := bints_byt s _ (List.getElem_mem hk)
      have hsz := bints_size s
      unfold say_hex_l2
      rw [if_pos (by simpa using hk)]
      refine ⟨_, idx_of hk, hexD ((bints s)[k] / 16), ?_, hexD ((bints s)[k] % 16), ?_, ?_⟩
      · rw [ishr_4]; exact hex_at (by omega) (by omega)
      · rw [iand_15 hb.1 hb.2]; exact hex_at (by omega) (by omega)
      · simp only [hexL_len, List.length_take, List.length_cons, List.length_nil]
        refine ⟨by omega, by omega, ?_⟩
        rw [len_wrap (by omega), List.take_succ_eq_append_getElem hk, hexL_snoc]) (by
      unfold say_hex_l2
      rw [if_neg (by simp)]
      simp)
    simpa [hexL] using this
theorem rdigit_ok {n : Int} (h0 : 0 ≤ n) (h1 : n < 16) : ref20_digit n (hexD n) := by
  unfold ref20_digit hexD
  by_cases h : n < 10
  · rw [if_pos (by simpa using h), if_pos h, w_u8]; omega
  · rw [if_neg (by simpa using h), if_neg h, w_u8]; omega
theorem rhex_ok {s : ByteArray} (h : s.size < 1000000) : ref20_hex s (bstr (hexV s)) := by
  unfold ref20_hex hexV
  by_cases he : s = bstr []
  · rw [if_pos (by simpa using he), if_pos he]
  · rw [if_neg (by simpa using he), if_neg he]
    refine ⟨bstr (hexL (bints s)), ?_, rfl⟩
    have hsz := bints_size s
    have := loops_count (step := ref20_hex_l2 s) (e := bstr (hexL (bints s))) (fun k => (bstr (hexL ((bints s).take k)), (k : Int))) (bints s).length (fun k hk => by
      have hb := bints_byt s _ (List.getElem_mem hk)
      unfold ref20_hex_l2
      rw [if_pos (by simp only [decide_eq_true_eq]; omega)]
      refine ⟨_, idx_of hk, hexD ((bints s)[k] / 16), ?_, _, idx_of hk, hexD ((bints s)[k] % 16), ?_, ?_⟩
      · rw [Int.tdiv_eq_ediv_of_nonneg hb.1, w_u8, show (bints s)[k] / 16 % 256 = (bints s)[k] / 16 by omega]; exact rdigit_ok (by omega) (by omega)
      · rw [Int.tmod_eq_emod_of_nonneg hb.1]; exact rdigit_ok (by omega) (by omega)
      · simp only [size_bstr, hexL_len, List.length_take, List.length_cons, List.length_nil]
        refine ⟨by omega, ?_⟩
        rw [len_wrap (by omega), List.take_succ_eq_append_getElem hk, hexL_snoc, bstr_append]) (by
      unfold ref20_hex_l2
      rw [if_neg (by simp only [decide_eq_true_eq]; omega)]
      simp)
    simpa [hexL] using this
def ptL (p : Int × Int) : List Int := decI p.1 ++ [44] ++ decI p.2
def valueL (m : Mg) (f : Fd) : List Int :=
  if f.2.1 = 3 then joinL [59] (m.2.2.1.map ptL) else if f.2.1 = 4 then joinL [44] (m.2.2.2.1.map decI) else if f.2.1 = 5 then hexV m.2.2.2.2.1 else if f.2.1 = 6 then hexV m.2.2.2.2.2 else decI (m.2.1.getD f.2.2.1.toNat 0)
structure MgOk (m : Mg) : Prop where
  kind : IntOk .i64 m.1
  six : m.2.1.length = 6
  num : ∀ x ∈ m.2.1, IntOk .i64 x
  path : ∀ p ∈ m.2.2.1, IntOk .i64 p.1 ∧ IntOk .i64 p.2
  cells : ∀ x ∈ m.2.2.2.1, IntOk .i64 x
  lpath : m.2.2.1.length ≤ 1000
  lcells : m.2.2.2.1.length ≤ 1000
  ltext : m.2.2.2.2.1.size ≤ 1000
  ltag : m.2.2.2.2.2.size ≤ 1000
theorem MgOk.at {m : Mg} (ok : MgOk m) (p : Nat) : IntOk .i64 (m.2.1.getD p 0) := by
  rw [List.getD_eq_getElem?_getD]
  cases h : m.2.1[p]? with
  | none => exact ⟨by decide, by decide⟩
  | some x => exact ok.num x (List.mem_of_getElem? h)
theorem hexV_len {s : ByteArray} {n : Nat} (h : s.size ≤ n) : (hexV s).length ≤ 2 * n + 1 := by
  unfold hexV; split
  · simp
  · rw [hexL_len, bints_size]; omega
theorem ptL_len {p : Int × Int} (h : IntOk .i64 p.1 ∧ IntOk .i64 p.2) : (ptL p).length ≤ 43 := by
  have h1 := decI_len h.1
  have h2 := decI_len h.2
  simp only [ptL, List.length_append, List.length_cons, List.length_nil]; omega
theorem valueL_len {m : Mg} (ok : MgOk m) (f : Fd) : (valueL m f).length ≤ 100000 := by
  unfold valueL
  split
  · have := joinL_len [59] 43 (m.2.2.1.map ptL) (fun x hx => by obtain ⟨p, hp, rfl⟩ := List.mem_map.1 hx; exact ptL_len (ok.path p hp))
    have := ok.lpath
    simp only [List.length_map, List.length_cons, List.length_nil] at *; omega
  split
  · have := joinL_len [44] 43 (m.2.2.2.1.map decI) (fun x hx => by obtain ⟨p, hp, rfl⟩ := List.mem_map.1 hx; have := decI_len (ok.cells p hp); omega)
    have := ok.lcells
    simp only [List.length_map, List.length_cons, List.length_nil] at *; omega
  split
  · have := hexV_len ok.ltext; omega
  split
  · have := hexV_len ok.ltag; omega
  · have := decI_len (ok.at f.2.2.1.toNat); omega
theorem snum_ok {n : Int} (h : IntOk .i64 n) : say_Number n (bstr (decI n)) := ⟨_, itoa_ok h, rfl⟩
theorem map_take_snoc {α β : Type} (g : α → β) (l : List α) {k : Nat} (hk : k < l.length) : (l.take (k + 1)).map g = (l.take k).map g ++ [g l[k]] := by
  rw [List.take_succ_eq_append_getElem hk, List.map_append]; rfl
theorem svalue_ok {m : Mg} (ok : MgOk m) {f : Fd} (hf : fdOk f) : say_value m f (bstr (valueL m f)) := by
  have hvl := valueL_len ok f
  obtain ⟨_, _, hf⟩ := hf
  unfold say_value
  simp only [decide_eq_true_eq]
  unfold valueL at hvl ⊢
  have fin : ∀ a b : List Int, a.length + b.length < 1000000 → (bstr a).size + (bstr b).size < 4611686018427387904 := by
    intro a b hab; rw [size_bstr, size_bstr]; omega
  by_cases h3 : f.2.1 = 3
  · rw [if_pos h3] at hvl ⊢
    rw [if_pos h3]
    have hlp := ok.lpath
    refine ⟨(m.2.2.1.map ptL).map bstr, ?_, ?_⟩
    · have := loops_count (step := say_value_l2 m) (e := (m.2.2.1.map ptL).map bstr) (fun k => ((m.2.2.1.take k).map (fun p => bstr (ptL p)), (k : Int))) m.2.2.1.length (fun k hk => by
        have hp := ok.path _ (List.getElem_mem hk)
        have l1 := decI_len hp.1
        have l2 := decI_len hp.2
        unfold say_value_l2
        rw [if_pos (by simpa using hk)]
        refine ⟨_, idx_of hk, _, snum_ok hp.1, fin _ _ (by simp; omega), _, snum_ok hp.2, by rw [← bstr_append]; exact fin _ _ (by simp; omega), ?_⟩
        simp only [List.length_map, List.length_take, List.length_cons, List.length_nil]
        refine ⟨by omega, by omega, ?_⟩
        rw [len_wrap (by omega), map_take_snoc _ _ hk, ptL, bstr_append, bstr_append]) (by
        unfold say_value_l2
        rw [if_neg (by simp)]
        simp)
      simpa using this
    · refine ⟨_, ⟨by simp; omega, ?_, rfl⟩, ?_⟩
      · rw [joinS_bstr, size_bstr]; omega
      · rw [joinS_bstr]
  rw [if_neg h3] at hvl ⊢
  rw [if_neg h3]
  by_cases h4 : f.2.1 = 4
  · rw [if_pos h4] at hvl ⊢
    rw [if_pos h4]
    have hlp := ok.lcells
    refine ⟨(m.2.2.2.1.map decI).map bstr, ?_, ?_⟩
    · have := loops_count (step := say_value_l4 m) (e := (m.2.2.2.1.map decI).map bstr) (fun k => ((m.2.2.2.1.take k).map (fun p => bstr (decI p)), (k : Int))) m.2.2.2.1.length (fun k hk => by
        have hp := ok.cells _ (List.getElem_mem hk)
        unfold say_value_l4
        rw [if_pos (by simpa using hk)]
        refine ⟨_, idx_of hk, _, snum_ok hp, ?_⟩
        simp only [List.length_map, List.length_take, List.length_cons, List.length_nil]
        refine ⟨by omega, by omega, ?_⟩
        rw [len_wrap (by omega), map_take_snoc _ _ hk]) (by
        unfold say_value_l4
        rw [if_neg (by simp)]
        simp)
      simpa using this
    · refine ⟨_, ⟨by simp; omega, ?_, rfl⟩, ?_⟩
      · rw [joinS_bstr, size_bstr]; omega
      · rw [joinS_bstr]
  rw [if_neg h4] at hvl ⊢
  rw [if_neg h4]
  by_cases h5 : f.2.1 = 5
  · rw [if_pos h5, if_pos h5]; have := ok.ltext; exact ⟨_, shex_ok (by omega), rfl⟩
  rw [if_neg h5, if_neg h5]
  by_cases h6 : f.2.1 = 6
  · rw [if_pos h6, if_pos h6]; have := ok.ltag; exact ⟨_, shex_ok (by omega), rfl⟩
  rw [if_neg h6, if_neg h6]
  exact ⟨by omega, by omega, _, snum_ok (ok.at _), rfl⟩
def wordL (k : Int) : List Int := if k = 1 then [109, 111, 118, 101] else if k = 2 then [104, 111, 108, 100] else if k = 3 then [103, 114, 97, 110, 116] else if k = 4 then [112, 111, 115, 101] else if k = 5 then [102, 97, 117, 108, 116] else []
theorem fword_ok (k : Int) : field_Word k (bstr (wordL k)) := by
  unfold field_Word wordL
  simp only [decide_eq_true_eq]
  repeat' (first | rfl | split)
theorem rword_ok {k : Int} (h : IntOk .i64 k) : ref16_Word k (bstr (wordL k)) := by
  unfold ref16_Word ref16_Word_j1 wordL
  have ⟨h0, h1⟩ := ok_i64 h
  by_cases hk : k < 1
  · rw [if_pos (by simpa using hk), if_pos rfl, if_neg (by omega), if_neg (by omega), if_neg (by omega), if_neg (by omega), if_neg (by omega)]
  · rw [if_neg (by simpa using hk)]
    by_cases hk5 : 5 < k
    · rw [if_pos (by simpa using hk5), if_neg (by omega), if_neg (by omega), if_neg (by omega), if_neg (by omega), if_neg (by omega)]
    · rw [if_neg (by simpa using hk5), w_small (by omega) (by omega)]
      have : k = 1 ∨ k = 2 ∨ k = 3 ∨ k = 4 ∨ k = 5 := by omega
      rcases this with rfl | rfl | rfl | rfl | rfl <;> exact ⟨_, ⟨by decide, rfl⟩, rfl⟩
def partL (m : Mg) (f : Fd) : List Int := [32] ++ bints f.1 ++ [32] ++ valueL m f
def bodyL (m : Mg) (fs : List Fd) : List Int := fs.flatMap (partL m)
def lineL (m : Mg) : List Int := if checkB m = 0 then wordL m.1 ++ bodyL m (fieldsB m.1) else []
theorem wordL_len (k : Int) : (wordL k).length ≤ 5 := by unfold wordL; repeat' (first | decide | split)
theorem partL_len {m : Mg} (ok : MgOk m) {f : Fd} (hf : fdOk f) : (partL m f).length ≤ 100020 := by
  have := valueL_len ok f
  have := hf.2.1
  have := bints_size f.1
  simp only [partL, List.length_append, List.length_cons, List.length_nil]; omega
theorem bodyL_len {m : Mg} (ok : MgOk m) : ∀ {fs : List Fd}, (∀ f ∈ fs, fdOk f) → (bodyL m fs).length ≤ fs.length * 100020
  | [], _ => by simp [bodyL]
  | f :: l, h => by
    have h1 := partL_len ok (h f (by simp))
    have h2 := bodyL_len ok (fs := l) (fun g hg => h g (by simp [hg]))
    simp only [bodyL, List.flatMap_cons, List.length_append, List.length_cons] at *
    omega
theorem all_itr (k : Int) : Itr (field_All_1 k 2) (fieldsB k) := by
  intro S Y s s' hr
  refine ⟨_, fields_ok k, (s', ()), ?_, rfl⟩
  have hfd := fields_fd k
  have hfl := fields_len k
  generalize fieldsB k = fs at *
  have key : ∀ (l pre : List Fd) (s : S), fs = pre ++ l → Run Y l s s' → Loops (field_All_1_l1 S Y 2 fs) (s, (pre.length : Int)) (s', ()) := by
    intro l
    induction l with
    | nil =>
      intro pre s h hr
      cases hr
      refine .done ?_
      unfold field_All_1_l1
      rw [if_neg (by rw [h]; simp)]
    | cons f l ih =>
      intro pre s h hr
      have hlen : fs.length = pre.length + l.length + 1 := by rw [h]; simp; omega
      have hat : fs[pre.length]? = some f := by rw [h]; simp
      have hf := (hfd f (by rw [h]; simp)).1
      have st : ∀ o, (∃ y u, Y f s (y, u) ∧ if (!y) = true then o = .inr (u, ()) else o = .inl (u, ((pre.length + 1 : Nat) : Int))) → field_All_1_l1 S Y 2 fs (s, (pre.length : Int)) o := by
        rintro o ⟨y, u, hy, ho⟩
        unfold field_All_1_l1
        rw [if_pos (by simp; omega)]
        refine ⟨f, idx_at rfl hat, ?_⟩
        rw [if_neg (by simp; omega)]
        refine ⟨y, u, hy, ?_⟩
        unfold field_All_1_j2
        rw [len_wrap (by omega)]; exact ho
      cases hr with
      | go hy hr =>
        have := ih (pre ++ [f]) _ (by rw [h]; simp) hr
        rw [List.length_append] at this
        exact .next (st _ ⟨true, _, hy, by rw [if_neg (by simp)]; rfl⟩) this
      | stop hy => exact .done (st _ ⟨false, _, hy, by rw [if_pos (show (!false) = true from rfl)]⟩)
  exact key fs [] s rfl hr
theorem sline_ok {m : Mg} (ok : MgOk m) : say_Line m (bstr (lineL m)) := by
  have h1 := ok.lpath
  have h2 := ok.lcells
  refine ⟨_, mcheck_ok (by omega) (by omega), ?_⟩
  unfold lineL
  by_cases hc : checkB m = 0
  · rw [if_neg (by simpa using hc), if_pos hc]
    refine ⟨_, fword_ok m.1, _, rfl, ?_⟩
    have hfl := fields_len m.1
    have hfd := fields_fd m.1
    have hwl := wordL_len m.1
    have run := runB_fold (B := say_Line_l1 m) (E := Unit) (fun s f => s ++ bstr (partL m f)) (fieldsB m.1) (bstr (wordL m.1)) (fun p x q e => by
      have hx := hfd x (by rw [e]; simp)
      have hv := valueL_len ok x
      have hn := hx.2.1
      have hb := bodyL_len ok (fs := p) (fun f hf => hfd f (by rw [e]; simp [hf]))
      have hp : p.length ≤ 6 := by rw [e] at hfl; simp at hfl; omega
      have hs : p.foldl (fun s f => s ++ bstr (partL m f)) (bstr (wordL m.1)) = bstr (wordL m.1 ++ bodyL m p) := by
        have : ∀ (p : List Fd) (w : List Int), p.foldl (fun s f => s ++ bstr (partL m f)) (bstr w) = bstr (w ++ bodyL m p) := by
          intro p
          induction p with
          | nil => intro w; simp [bodyL]
          | cons f p ih => intro w; rw [List.foldl_cons, ← bstr_append, ih]; simp [bodyL]
        exact this p _
      have hbn : bstr (bints x.1) = x.1 := bstr_bints x.1
      rw [hs]
      unfold say_Line_l1
      have e1 : (bstr [32] ++ x.1) ++ bstr [32] = bstr ([32] ++ bints x.1 ++ [32]) := by rw [bstr_append, bstr_append, hbn]
      have e2 : bstr ([32] ++ bints x.1 ++ [32]) ++ bstr (valueL m x) = bstr (partL m x) := by rw [← bstr_append]; rfl
      have e3 : (bstr [32] ++ x.1).size = 1 + x.1.size := by rw [ByteArray.size_append, size_bstr]; rfl
      have hbx := bints_size x.1
      refine ⟨by rw [size_bstr]; simp; omega, by rw [e3, size_bstr]; simp; omega, _, svalue_ok ok hx, ?_, ?_, ?_⟩
      · rw [e1, size_bstr, size_bstr]; simp; omega
      · rw [e1, e2, size_bstr, size_bstr]
        have := partL_len ok hx
        simp only [List.length_append]; omega
      · rw [e1, e2])
    refine ⟨_, (), all_itr m.1 _ _ _ _ (run_yof run), ?_⟩
    show _ = _
    have : ∀ (p : List Fd) (w : List Int), p.foldl (fun s f => s ++ bstr (partL m f)) (bstr w) = bstr (w ++ bodyL m p) := by
      intro p
      induction p with
      | nil => intro w; simp [bodyL]
      | cons f p ih => intro w; rw [List.foldl_cons, ← bstr_append, ih]; simp [bodyL]
    rw [this]
  · rw [if_pos (by simpa using hc), if_neg hc]
theorem rline_ok {m : Mg} (ok : MgOk m) : ref20_Line (ofM m) (bstr (lineL m)) := by
  have h1 := ok.lpath
  have h2 := ok.lcells
  have h3 := ok.ltext
  have h4 := ok.ltag
  refine ⟨_, rcheck_ok (by omega) (by omega) (by omega) (by omega), ?_⟩
  unfold lineL
  by_cases hc : checkB m = 0
  · rw [if_neg (by simpa using hc), if_pos hc]
    refine ⟨_, rword_ok ok.kind, _, rfields_ok m.1, bstr (wordL m.1 ++ bodyL m (fieldsB m.1)), ?_, rfl⟩
    have hfl := fields_len m.1
    have hfd := fields_fd m.1
    have hwl := wordL_len m.1
    generalize fieldsB m.1 = fs at *
    have fin : ∀ a b : List Int, a.length + b.length < 1000000000 → (bstr a).size + (bstr b).size < 4611686018427387904 := by
      intro a b hab; rw [size_bstr, size_bstr]; omega
    have := loops_count (step := ref20_Line_l2 (ofM m) fs) (e := bstr (wordL m.1 ++ bodyL m fs)) (fun k => (bstr (wordL m.1 ++ bodyL m (fs.take k)), (k : Int))) fs.length (fun k hk => by
      have hx := hfd _ (List.getElem_mem hk)
      have hi : idx fs (k : Int) fs[k] := idx_of hk
      have hb := bodyL_len ok (fs := fs.take k) (fun f hf => hfd f (List.mem_of_mem_take hf))
      have hsn : bodyL m (fs.take (k + 1)) = bodyL m (fs.take k) ++ partL m fs[k] := by rw [List.take_succ_eq_append_getElem hk]; simp only [bodyL, List.flatMap_append, List.flatMap_cons, List.flatMap_nil, List.append_nil]
      have hbl : (fs.take k).length ≤ 6 := by rw [List.length_take]; omega
      have hv := valueL_len ok fs[k]
      have j3 : ∀ v, v = bstr (valueL m fs[k]) → ref20_Line_j3 fs (bstr (wordL m.1 ++ bodyL m (fs.take k)), (k : Int)) v (.inl (bstr (wordL m.1 ++ bodyL m (fs.take (k + 1))), ((k + 1 : Nat) : Int))) := by
        rintro v rfl
        have hn := hx.2.1
        have hbx := bints_size fs[k].1
        have hbn : bstr (bints fs[k].1) = fs[k].1 := bstr_bints _
        unfold ref20_Line_j3
        simp only
        refine ⟨fin _ _ (by simp only [List.length_append, List.length_cons, List.length_nil]; omega), fs[k], hi, ?_⟩
        rw [← hbn]
        simp only [← bstr_append]
        refine ⟨fin _ _ (by simp only [List.length_append, List.length_cons, List.length_nil]; omega), fin _ _ (by simp only [List.length_append, List.length_cons, List.length_nil]; omega), fin _ _ (by simp only [List.length_append, List.length_cons, List.length_nil]; omega), ?_⟩
        rw [len_wrap (by omega), hsn, partL]
        simp [List.append_assoc]
      unfold ref20_Line_l2
      rw [if_pos (by simpa using hk)]
      refine ⟨_, hi, ?_⟩
      obtain ⟨_, _, hx⟩ := hx
      simp only [decide_eq_true_eq]
      unfold valueL at j3 hv
      generalize hfk : fs[k] = f at *
      by_cases h3' : f.2.1 = 3
      · rw [if_pos h3']
        rw [if_pos h3'] at j3 hv
        refine ⟨_, ?_, j3 _ rfl⟩
        have := loops_count (step := ref20_Line_l4 (ofM m)) (e := bstr (joinL [59] (m.2.2.1.map ptL))) (fun k => (bstr (joinL [59] ((m.2.2.1.take k).map ptL)), (k : Int))) m.2.2.1.length (fun q hq => by
          have hp := ok.path _ (List.getElem_mem hq)
          have l1 := decI_len hp.1
          have l2 := decI_len hp.2
          have hjl := joinL_len [59] 43 ((m.2.2.1.take q).map ptL) (fun x hx => by obtain ⟨p, hp, rfl⟩ := List.mem_map.1 hx; exact ptL_len (ok.path p (List.mem_of_mem_take hp)))
          simp only [List.length_map, List.length_take, List.length_cons, List.length_nil] at hjl
          have hix : idx (ofM m).2.2.1 (q : Int) (ofP m.2.2.1[q]) := idx_at rfl (by simp [ofM, hq])
          have j5 : ∀ w : List Int, w.length < 100000 → (if q = 0 then w = [] else w = joinL [59] ((m.2.2.1.take q).map ptL) ++ [59]) → ∀ s, s.2 = (q : Int) → ref20_Line_j5 (ofM m) s (bstr w) (.inl (bstr (joinL [59] ((m.2.2.1.take (q + 1)).map ptL)), ((q + 1 : Nat) : Int))) := by
            intro w hwl hw s hs
            unfold ref20_Line_j5
            rw [hs]
            have e : joinL [59] ((m.2.2.1.take (q + 1)).map ptL) = w ++ ptL m.2.2.1[q] := by
              rw [map_take_snoc _ _ hq, joinL_snoc]
              by_cases h0 : q = 0
              · subst h0; rw [if_pos rfl] at hw; subst hw; simp
              · rw [if_neg h0] at hw; subst hw; rw [if_neg (by simp; exact ⟨h0, by intro e; rw [e] at hq; simp at hq⟩)]
            refine ⟨_, hix, bstr (decI m.2.2.1[q].1), digits_ok hp.1, fin _ _ (by omega), ?_⟩
            simp only [← bstr_append]
            refine ⟨fin _ _ (by simp only [List.length_append, List.length_cons, List.length_nil]; omega), _, hix, bstr (decI m.2.2.1[q].2), digits_ok hp.2, ?_⟩
            simp only [← bstr_append]
            refine ⟨fin _ _ (by simp only [List.length_append, List.length_cons, List.length_nil]; omega), ?_⟩
            rw [len_wrap (by omega), e, ptL]; simp [List.append_assoc]
          unfold ref20_Line_l4
          rw [if_pos (by simpa [ofM] using hq)]
          by_cases h0 : q = 0
          · subst h0; rw [if_neg (by simp)]; exact j5 [] (by simp) (by rw [if_pos rfl]) _ rfl
          · rw [if_pos (by simp; omega)]
            refine ⟨fin _ _ (by simp only [List.length_cons, List.length_nil]; omega), ?_⟩
            rw [← bstr_append]
            exact j5 _ (by simp only [List.length_append, List.length_cons, List.length_nil]; omega) (by rw [if_neg h0]) _ rfl) (by
          unfold ref20_Line_l4
          rw [if_neg (by simp [ofM])]
          simp)
        simpa [joinL] using this
      rw [if_neg h3']
      rw [if_neg h3'] at j3 hv
      by_cases h4' : f.2.1 = 4
      · rw [if_pos h4']
        rw [if_pos h4'] at j3 hv
        refine ⟨_, ?_, j3 _ rfl⟩
        have := loops_count (step := ref20_Line_l6 (ofM m)) (e := bstr (joinL [44] (m.2.2.2.1.map decI))) (fun k => (bstr (joinL [44] ((m.2.2.2.1.take k).map decI)), (k : Int))) m.2.2.2.1.length (fun q hq => by
          have hp := ok.cells _ (List.getElem_mem hq)
          have l1 := decI_len hp
          have hjl := joinL_len [44] 43 ((m.2.2.2.1.take q).map decI) (fun x hx => by obtain ⟨p, hp, rfl⟩ := List.mem_map.1 hx; have := decI_len (ok.cells p (List.mem_of_mem_take hp)); omega)
          simp only [List.length_map, List.length_take, List.length_cons, List.length_nil] at hjl
          have hix : idx (ofM m).2.2.2.1 (q : Int) m.2.2.2.1[q] := idx_of hq
          have j5 : ∀ w : List Int, w.length < 100000 → (if q = 0 then w = [] else w = joinL [44] ((m.2.2.2.1.take q).map decI) ++ [44]) → ∀ s, s.2 = (q : Int) → ref20_Line_j7 (ofM m) s (bstr w) (.inl (bstr (joinL [44] ((m.2.2.2.1.take (q + 1)).map decI)), ((q + 1 : Nat) : Int))) := by
            intro w hwl hw s hs
            unfold ref20_Line_j7
            rw [hs]
            have e : joinL [44] ((m.2.2.2.1.take (q + 1)).map decI) = w ++ decI m.2.2.2.1[q] := by
              rw [map_take_snoc _ _ hq, joinL_snoc]
              by_cases h0 : q = 0
              · subst h0; rw [if_pos rfl] at hw; subst hw; simp
              · rw [if_neg h0] at hw; subst hw; rw [if_neg (by simp; exact ⟨h0, by intro e; rw [e] at hq; simp at hq⟩)]
            refine ⟨_, hix, _, digits_ok hp, fin _ _ (by omega), ?_⟩
            rw [len_wrap (by omega), e, bstr_append]
          unfold ref20_Line_l6
          rw [if_pos (by simpa [ofM] using hq)]
          by_cases h0 : q = 0
          · subst h0; rw [if_neg (by simp)]; exact j5 [] (by simp) (by rw [if_pos rfl]) _ rfl
          · rw [if_pos (by simp; omega)]
            refine ⟨fin _ _ (by simp only [List.length_cons, List.length_nil]; omega), ?_⟩
            rw [← bstr_append]
            exact j5 _ (by simp only [List.length_append, List.length_cons, List.length_nil]; omega) (by rw [if_neg h0]) _ rfl) (by
          unfold ref20_Line_l6
          rw [if_neg (by simp [ofM])]
          simp)
        simpa [joinL] using this
      rw [if_neg h4']
      rw [if_neg h4'] at j3 hv
      by_cases h5' : f.2.1 = 5
      · rw [if_pos h5']
        rw [if_pos h5'] at j3
        exact ⟨_, rhex_ok (by simp only [ofM]; omega), j3 _ rfl⟩
      rw [if_neg h5']
      rw [if_neg h5'] at j3
      by_cases h6' : f.2.1 = 6
      · rw [if_pos h6']
        rw [if_pos h6'] at j3
        exact ⟨_, rhex_ok (by simp only [ofM]; omega), j3 _ rfl⟩
      rw [if_neg h6']
      rw [if_neg h6'] at j3
      exact ⟨_, hi, by omega, by omega, _, digits_ok (ok.at _), j3 _ rfl⟩) (by
      unfold ref20_Line_l2
      rw [if_neg (by simp)]
      simp)
    simp only [bodyL, List.take_zero, List.flatMap_nil, List.append_nil] at this
    exact this
  · rw [if_pos (by simpa using hc), if_neg hc]
end Go.Rel
