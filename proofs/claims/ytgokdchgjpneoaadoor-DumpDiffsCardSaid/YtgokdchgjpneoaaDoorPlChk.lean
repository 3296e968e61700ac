import Derived.Test.YtgokdchgjpneoaaDoorPlEq
/-! Plain laws: what is wrong with a message: the program's answer and the document's. -/
namespace Go.Rel
open Go Go.Eng Go.Pl

def sortN (f : Fd) : Prop := f.2.1 ≠ 3 ∧ f.2.1 ≠ 4 ∧ f.2.1 ≠ 5 ∧ f.2.1 ≠ 6
instance (f : Fd) : Decidable (sortN f) := by unfold sortN; infer_instance
def hasS (l : List Fd) (s : Int) : Bool := l.any fun f => decide (f.2.1 = s)
def hasN (l : List Fd) (p : Nat) : Bool := l.any fun f => decide (sortN f ∧ f.2.2.1.toNat = p)
def zN (l : List Fd) (N : List Int) (p : Nat) : Int := if hasN l p = true then 0 else N.getD p 0
def leftB (l : List Fd) (m : Mg) : Mg :=
  (m.1, [zN l m.2.1 0, zN l m.2.1 1, zN l m.2.1 2, zN l m.2.1 3, zN l m.2.1 4, zN l m.2.1 5], if hasS l 3 = true then [] else m.2.2.1, if hasS l 4 = true then [] else m.2.2.2.1, if hasS l 5 = true then bstr [] else m.2.2.2.2.1, if hasS l 6 = true then bstr [] else m.2.2.2.2.2)
theorem hasS_snoc (l : List Fd) (f : Fd) (s : Int) : hasS (l ++ [f]) s = (hasS l s || decide (f.2.1 = s)) := by simp [hasS]
theorem hasN_snoc (l : List Fd) (f : Fd) (p : Nat) : hasN (l ++ [f]) p = (hasN l p || decide (sortN f ∧ f.2.2.1.toNat = p)) := by simp [hasN]
theorem zN_same {l : List Fd} {f : Fd} (h : ¬ sortN f) (N : List Int) (p : Nat) : zN (l ++ [f]) N p = zN l N p := by
  unfold zN; rw [hasN_snoc, decide_eq_false (fun hh => h hh.1), Bool.or_false]
theorem zN_put {l : List Fd} {f : Fd} (h : sortN f) (N : List Int) {p : Nat} (hp : p < 6) : (putN 6 0 [zN l N 0, zN l N 1, zN l N 2, zN l N 3, zN l N 4, zN l N 5] f.2.2.1.toNat 0).getD p 0 = zN (l ++ [f]) N p := by
  rw [putN_getD hp]
  have e : [zN l N 0, zN l N 1, zN l N 2, zN l N 3, zN l N 4, zN l N 5].getD p 0 = zN l N p := by
    match p, hp with
    | 0, _ => rfl
    | 1, _ => rfl
    | 2, _ => rfl
    | 3, _ => rfl
    | 4, _ => rfl
    | 5, _ => rfl
  rw [e]
  unfold zN
  rw [hasN_snoc]
  by_cases hq : p = f.2.2.1.toNat
  · rw [if_pos hq, decide_eq_true ⟨h, hq.symm⟩]; simp
  · rw [if_neg hq, decide_eq_false (fun hh => hq hh.2.symm), Bool.or_false]
theorem without_ok (l : List Fd) (m : Mg) {f : Fd} (ok : fdOk f) : msg_without (leftB l m) f (leftB (l ++ [f]) m) := by
  obtain ⟨_, _, ok⟩ := ok
  unfold msg_without
  simp only [decide_eq_true_eq]
  have no : ∀ {s : Int}, f.2.1 ≠ s → hasS (l ++ [f]) s = hasS l s := fun h => by rw [hasS_snoc, decide_eq_false h, Bool.or_false]
  have yes : ∀ {s : Int}, f.2.1 = s → hasS (l ++ [f]) s = true := fun h => by rw [hasS_snoc, decide_eq_true h, Bool.or_true]
  by_cases h3 : f.2.1 = 3
  · rw [if_pos h3]
    have hs : ¬ sortN f := fun h => h.1 h3
    unfold msg_without_j1 leftB
    simp only [zN_same hs, yes h3, no (s := 4) (by omega), no (s := 5) (by omega), no (s := 6) (by omega), List.getD_cons_zero, List.getD_cons_succ, if_true]
  rw [if_neg h3]
  by_cases h4 : f.2.1 = 4
  · rw [if_pos h4]
    have hs : ¬ sortN f := fun h => h.2.1 h4
    unfold msg_without_j1 leftB
    simp only [zN_same hs, yes h4, no h3, no (s := 5) (by omega), no (s := 6) (by omega), List.getD_cons_zero, List.getD_cons_succ, if_true]
  rw [if_neg h4]
  by_cases h5 : f.2.1 = 5
  · rw [if_pos h5]
    have hs : ¬ sortN f := fun h => h.2.2.1 h5
    unfold msg_without_j1 leftB
    simp only [zN_same hs, yes h5, no h3, no h4, no (s := 6) (by omega), List.getD_cons_zero, List.getD_cons_succ, if_true]
  rw [if_neg h5]
  by_cases h6 : f.2.1 = 6
  · rw [if_pos h6]
    have hs : ¬ sortN f := fun h => h.2.2.2 h6
    unfold msg_without_j1 leftB
    simp only [zN_same hs, yes h6, no h3, no h4, no h5, List.getD_cons_zero, List.getD_cons_succ, if_true]
  rw [if_neg h6]
  have hs : sortN f := ⟨h3, h4, h5, h6⟩
  refine ⟨by omega, by omega, ?_⟩
  unfold msg_without_j1 leftB
  simp only [no h3, no h4, no h5, no h6]
  rw [zN_put hs m.2.1 (p := 0) (by omega), zN_put hs m.2.1 (p := 1) (by omega), zN_put hs m.2.1 (p := 2) (by omega), zN_put hs m.2.1 (p := 3) (by omega), zN_put hs m.2.1 (p := 4) (by omega), zN_put hs m.2.1 (p := 5) (by omega)]
theorem leftB_nil (m : Mg) : leftB [] m = (m.1, n6 m.2.1, m.2.2) := rfl

/-- The first field that is wrong. -/
def firstW (m : Mg) : List Fd → Int
  | [] => 0
  | f :: l => if wrongB m f ≠ 0 then wrongB m f else firstW m l
abbrev Ex := Int × Int × Int × Int × Int × Int × Int × Int × List (Int × Int) × List Int × ByteArray × ByteArray
def exB (e : Int) (x : Mg) : Ex := (e, x.1, x.2.1.getD 0 0, x.2.1.getD 1 0, x.2.1.getD 2 0, x.2.1.getD 3 0, x.2.1.getD 4 0, x.2.1.getD 5 0, x.2.2.1, x.2.2.2.1, x.2.2.2.2.1, x.2.2.2.2.2)
def stB (e i : Int) (x : Mg) : Int × Ex := (e, i, x.1, x.2.1.getD 0 0, x.2.1.getD 1 0, x.2.1.getD 2 0, x.2.1.getD 3 0, x.2.1.getD 4 0, x.2.1.getD 5 0, x.2.2.1, x.2.2.2.1, x.2.2.2.2.1, x.2.2.2.2.2)
theorem check_run (m : Mg) (fs : List Fd) (hfs : fs.length < 100) (hok : ∀ f ∈ fs, fdOk f) : ∀ (l pre : List Fd) (e : Int), fs = pre ++ l → ∃ ex, Loops (msg_Check_l3 m fs) (stB e (pre.length : Int) (leftB pre m)) ex ∧ (firstW m l ≠ 0 → ex.1 = firstW m l) ∧ (firstW m l = 0 → ex = exB (if l = [] then e else 0) (leftB fs m))
  | [], pre, e, h => by
    refine ⟨exB e (leftB fs m), .done ?_, fun h => absurd rfl h, fun _ => by rw [if_pos rfl]⟩
    rw [List.append_nil] at h
    unfold msg_Check_l3
    rw [if_neg (by rw [h]; simp [stB])]
    rw [h]; rfl
  | f :: l, pre, e, h => by
    have hlen : fs.length = pre.length + l.length + 1 := by rw [h]; simp; omega
    have hat : fs[pre.length]? = some f := by rw [h]; simp
    have hw := len_wrap (n := pre.length) (by omega)
    have hf := hok f (by rw [h]; simp)
    by_cases hz : wrongB m f = 0
    · obtain ⟨ex, h1, h2, h3⟩ := check_run m fs hfs hok l (pre ++ [f]) 0 (by rw [h]; simp)
      simp only [firstW, hz, ne_eq, not_true, if_false]
      refine ⟨ex, .next ?_ h1, h2, fun hh => ?_⟩
      · unfold msg_Check_l3
        rw [if_pos (by simp [stB]; omega)]
        refine ⟨f, idx_at rfl hat, 0, by rw [← hz]; exact wrong_fd m hf, ?_⟩
        rw [if_neg (by simp)]
        refine ⟨leftB (pre ++ [f]) m, without_ok pre m hf, ?_⟩
        simp only [stB, List.length_append, List.length_cons, List.length_nil]
        rw [hw]
      · rw [h3 hh]; split <;> rfl
    · simp only [firstW, ne_eq, hz, not_false_iff, if_true]
      refine ⟨exB (wrongB m f) (leftB pre m), .done ?_, fun _ => rfl, fun hh => hh.elim⟩
      unfold msg_Check_l3
      rw [if_pos (by simp [stB]; omega)]
      refine ⟨f, idx_at rfl hat, _, wrong_fd m hf, ?_⟩
      rw [if_pos (by simpa using hz)]
      rfl
def zeroM (k : Int) : Mg := (k, List.replicate 6 0, [], [], bstr [], bstr [])
def checkB (m : Mg) : Int := if fieldsB m.1 = [] then 9 else if firstW m (fieldsB m.1) ≠ 0 then firstW m (fieldsB m.1) else if sameB (leftB (fieldsB m.1) m) (zeroM m.1) = true then 0 else 3
theorem len_if {α : Type} {c : Prop} [Decidable c] {l : List α} {n : Nat} (h : l.length < n) (hn : 0 < n) : (if c then [] else l).length < n := by split <;> simp [h, hn]
theorem mcheck_ok {m : Mg} (hp : m.2.2.1.length < 4611686018427387904) (hc : m.2.2.2.1.length < 4611686018427387904) : msg_Check m (checkB m) := by
  obtain ⟨ex, h1, h2, h3⟩ := check_run m (fieldsB m.1) (by have := fields_len m.1; omega) (fields_fd m.1) (fieldsB m.1) [] 9 rfl
  refine ⟨_, fields_ok m.1, ex, h1, ?_⟩
  unfold checkB msg_Check_j1
  by_cases hl : fieldsB m.1 = []
  · rw [if_pos hl]
    have : firstW m (fieldsB m.1) = 0 := by rw [hl]; rfl
    have hx := h3 this
    rw [if_pos hl] at hx
    rw [hx, if_neg (by simp [exB])]
    unfold msg_Check_j2
    rw [if_neg (by simp)]; rfl
  · rw [if_neg hl]
    by_cases hf : firstW m (fieldsB m.1) = 0
    · rw [if_neg (c := firstW m (fieldsB m.1) ≠ 0) (by simpa using hf)]
      have hx := h3 hf
      rw [if_neg hl] at hx
      rw [hx, if_pos (c := (decide ((exB 0 (leftB (fieldsB m.1) m)).1 = 0)) = true) (by simp [exB])]
      refine ⟨sameB (leftB (fieldsB m.1) m) (zeroM m.1), msame_ok (a := leftB (fieldsB m.1) m) (b := zeroM m.1) (len_if hp (by decide)) (len_if hc (by decide)), ?_⟩
      unfold msg_Check_j2
      cases hs : sameB (leftB (fieldsB m.1) m) (zeroM m.1) <;> rfl
    · rw [if_pos (c := firstW m (fieldsB m.1) ≠ 0) hf, if_neg (c := (decide (ex.1 = 0)) = true) (by rw [h2 hf]; simpa using hf)]
      unfold msg_Check_j2
      rw [if_neg (by simp), h2 hf]

/-! The document's check. -/
theorem rtext_ok (s : ByteArray) (most : Int) (hs : s.size < 4611686018427387904) : ref17_text s most (textB s 0 most) := by
  unfold ref17_text textB
  by_cases h : manyB s.size 0 most = 0
  · rw [if_neg (by have := manyB_zero h; simp; omega), if_pos h]
    refine ⟨_, loops_first (fun k => (k : Int)) (textBad s) () s.size (fun k hk => ?_) ?_, aft_err fun _ => rfl⟩
    · have hw := len_wrap (n := k) (by omega)
      have hk' : k < (bints s).length := by rw [len_bints]; exact hk
      have hx := idx_of hk'
      have hg : (bints s).getD k 0 = (bints s)[k] := by simp [List.getD_eq_getElem?_getD, hk']
      have st : ∀ o, (if (bints s)[k] < 32 ∨ 126 < (bints s)[k] then o = .inr (.inr 19) else o = .inl ((k + 1 : Nat) : Int)) → ref17_text_l2 s (k : Int) o := by
        intro o ho
        unfold ref17_text_l2
        rw [if_pos (by simp only [decide_eq_true_eq]; omega)]
        refine ⟨_, hx, ?_⟩
        by_cases h1 : (bints s)[k] < 32
        · rw [if_pos (.inl h1)] at ho; rw [if_pos (by simpa using h1)]; unfold ref17_text_j3; rw [if_pos rfl]; exact ho
        · rw [if_neg (by simpa using h1)]
          refine ⟨_, hx, ?_⟩
          unfold ref17_text_j3
          by_cases h2 : 126 < (bints s)[k]
          · rw [if_pos (.inr h2)] at ho; rw [if_pos (by simpa using h2)]; exact ho
          · rw [if_neg (not_or.2 ⟨h1, h2⟩)] at ho; rw [if_neg (by simpa using h2), hw]; exact ho
      unfold textBad
      rw [hg]
      by_cases hb : (bints s)[k] < 32 ∨ 126 < (bints s)[k]
      · simp only [if_pos hb]; exact ⟨fun e he => (by cases he; exact st _ (by rw [if_pos hb])), fun he => by cases he⟩
      · simp only [if_neg hb]; exact ⟨fun e he => (by cases he), fun _ => st _ (by rw [if_neg hb])⟩
    · unfold ref17_text_l2
      rw [if_neg (by simp)]
  · rw [if_neg h]
    have hn : ¬ ((s.size : Int) < 0) := by omega
    unfold manyB at h ⊢
    rw [if_neg hn] at h ⊢
    by_cases h2 : most < (s.size : Int)
    · rw [if_pos (by simpa using h2), if_pos h2]
    · rw [if_neg h2] at h; exact absurd rfl h
theorem rcells_ok (l : List Int) (hl : l.length < 4611686018427387904) : ref17_cells l (cellsB l 1 32) := by
  unfold ref17_cells cellsB manyB
  simp only [decide_eq_true_eq]
  by_cases h0 : (l.length : Int) = 0
  · rw [if_pos h0, if_neg (by rw [if_pos (by omega)]; decide), if_pos (by omega)]
  rw [if_neg h0, if_neg (c := (l.length : Int) < 1) (by omega)]
  by_cases h1 : 32 < (l.length : Int)
  · rw [if_pos h1, if_pos h1, if_neg (by decide)]
  rw [if_neg h1, if_neg h1, if_pos rfl]
  refine ⟨_, loops_first (fun k => (k : Int)) (cellsBad l) () l.length (fun k hk => ?_) ?_, aft_err fun _ => rfl⟩
  · have hw := len_wrap (n := k) (by omega)
    have hx := idx_of hk
    have hg : l.getD k 0 = l[k] := by simp [List.getD_eq_getElem?_getD, hk]
    have st : ∀ o, (if l[k] < 0 ∨ 65535 < l[k] then o = .inr (.inr 5) else if 0 < k ∧ l.getD k 0 ≤ l.getD (k - 1) 0 then o = .inr (.inr 3) else o = .inl ((k + 1 : Nat) : Int)) → ref17_cells_l2 l (k : Int) o := by
      intro o ho
      unfold ref17_cells_l2
      rw [if_pos (by simpa using hk)]
      refine ⟨_, hx, ?_⟩
      by_cases h2 : l[k] < 0
      · rw [if_pos (.inl h2)] at ho; rw [if_pos (by simpa using h2)]; unfold ref17_cells_j3; rw [if_pos rfl]; exact ho
      · rw [if_neg (by simpa using h2)]
        refine ⟨_, hx, ?_⟩
        unfold ref17_cells_j3
        by_cases h3 : 65535 < l[k]
        · rw [if_pos (.inr h3)] at ho; rw [if_pos (by simpa using h3)]; exact ho
        · rw [if_neg (not_or.2 ⟨h2, h3⟩)] at ho
          rw [if_neg (by simpa using h3)]
          by_cases hk0 : 0 < k
          · have hx2 : idx l (IntKind.i64.wrap ((k : Int) - 1)) l[k - 1] := by rw [w_small (by omega) (by omega)]; exact idx_at (k := k - 1) (by omega) (by simp [show k - 1 < l.length by omega])
            refine ⟨_, fun _ => hx, _, fun _ => hx2, ?_⟩
            have hg2 : l.getD (k - 1) 0 = l[k - 1] := by simp [List.getD_eq_getElem?_getD, show k - 1 < l.length by omega]
            rw [hg, hg2] at ho
            have hd : decide ((0 : Int) < (k : Int)) = true := by simpa using hk0
            rw [hd, Bool.true_and]
            by_cases h4 : l[k] ≤ l[k - 1]
            · rw [if_pos ⟨hk0, h4⟩] at ho; rw [if_pos (by simpa using h4)]; exact ho
            · rw [if_neg (fun h => h4 h.2)] at ho; rw [if_neg (by simpa using h4), hw]; exact ho
          · refine ⟨0, fun h => absurd h (by simpa using hk0), 0, fun h => absurd h (by simpa using hk0), ?_⟩
            rw [if_neg (fun h => hk0 h.1)] at ho
            rw [if_neg (by simp; omega), hw]; exact ho
    unfold cellsBad
    rw [hg]
    rw [hg] at st
    by_cases hb : l[k] < 0 ∨ 65535 < l[k]
    · simp only [if_pos hb]; exact ⟨fun e he => (by cases he; exact st _ (by rw [if_pos hb])), fun he => by cases he⟩
    · simp only [if_neg hb] at st ⊢
      by_cases hd : 0 < k ∧ l[k] ≤ l.getD (k - 1) 0
      · simp only [if_pos hd] at st ⊢; exact ⟨fun e he => (by cases he; exact st _ rfl), fun he => by cases he⟩
      · simp only [if_neg hd] at st ⊢; exact ⟨fun e he => (by cases he), fun _ => st _ rfl⟩
  · unfold ref17_cells_l2
    rw [if_neg (by simp)]
theorem rpath_ok (l : List (Int × Int)) (hl : l.length < 4611686018427387904) : ref17_path (l.map ofP) (pathB l 1 16) := by
  unfold ref17_path pathB manyB
  simp only [decide_eq_true_eq, List.length_map]
  by_cases h0 : (l.length : Int) = 0
  · rw [if_pos h0, if_neg (by rw [if_pos (by omega)]; decide), if_pos (by omega)]
  rw [if_neg h0, if_neg (c := (l.length : Int) < 1) (by omega)]
  by_cases h1 : 16 < (l.length : Int)
  · rw [if_pos h1, if_pos h1, if_neg (by decide)]
  rw [if_neg h1, if_neg h1, if_pos rfl]
  refine ⟨_, loops_first (fun k => (k : Int)) (pathBad l) () l.length (fun k hk => ?_) ?_, aft_err fun _ => rfl⟩
  · have hw := len_wrap (n := k) (by omega)
    have hx : idx (l.map ofP) (k : Int) (ofP l[k]) := idx_at rfl (by simp [hk])
    generalize l[k] = p at *
    have st : ∀ o, (if 1000000 < max p.1 p.2 ∨ min p.1 p.2 < -1000000 then o = .inr (.inr 5) else o = .inl ((k + 1 : Nat) : Int)) → ref17_path_l2 (l.map ofP) (k : Int) o := by
      intro o ho
      unfold ref17_path_l2
      rw [if_pos (by simpa using hk)]
      have s5 : ∀ (i : Int) (b : Bool) o', (if b = true then o' = .inr (.inr 5) else o' = .inl (i + 1)) → 0 ≤ i → i < 2 → ref17_path_j5 i b o' := by
        intro i b o' h h0 h2; unfold ref17_path_j5; rw [w_small (by omega) (by omega)]; exact h
      have sl : ∀ (i : Int) (v : Int), 0 ≤ i → i < 2 → (ofP p).getD i.toNat 0 = v → ∀ o', (if v < -1000000 ∨ 1000000 < v then o' = .inr (.inr 5) else o' = .inl (i + 1)) → ref17_path_l4 (l.map ofP) (k : Int) i o' := by
        intro i v h0 h2 hv o' ho'
        unfold ref17_path_l4
        rw [if_pos (by simpa using h2)]
        refine ⟨_, hx, h0, h2, ?_⟩
        rw [hv]
        by_cases h3 : v < -1000000
        · rw [if_pos (by simpa using h3)]; rw [if_pos (.inl h3)] at ho'; exact s5 i true o' (by rw [if_pos rfl]; exact ho') h0 h2
        · rw [if_neg (by simpa using h3)]
          refine ⟨_, hx, h0, h2, ?_⟩
          rw [hv]
          refine s5 i _ o' ?_ h0 h2
          by_cases h4 : 1000000 < v
          · rw [if_pos (.inr h4)] at ho'; rw [if_pos (by simpa using h4)]; exact ho'
          · rw [if_neg (not_or.2 ⟨h3, h4⟩)] at ho'; rw [if_neg (by simpa using h4)]; exact ho'
      by_cases ha : p.1 < -1000000 ∨ 1000000 < p.1
      · rw [if_pos (by omega)] at ho
        exact ⟨.inr 5, .done (sl 0 p.1 (by omega) (by omega) rfl _ (by rw [if_pos ha])), ho⟩
      · by_cases hb : p.2 < -1000000 ∨ 1000000 < p.2
        · rw [if_pos (by omega)] at ho
          exact ⟨.inr 5, .next (sl 0 p.1 (by omega) (by omega) rfl _ (by rw [if_neg ha]; rfl)) (.done (sl 1 p.2 (by omega) (by omega) rfl _ (by rw [if_pos hb]))), ho⟩
        · rw [if_neg (by omega)] at ho
          refine ⟨.inl (), .next (sl 0 p.1 (by omega) (by omega) rfl _ (by rw [if_neg ha]; rfl)) (.next (sl 1 p.2 (by omega) (by omega) rfl _ (by rw [if_neg hb])) (.done ?_)), ?_⟩
          · unfold ref17_path_l4; rw [if_neg (by decide)]
          · show ref17_path_j3 _ () _; unfold ref17_path_j3; rw [hw]; exact ho
    have hpb : pathBad l k = if 1000000 < max p.1 p.2 ∨ min p.1 p.2 < -1000000 then some 5 else none := by
      unfold pathBad
      have : l[k]? = some p := by
        have := hx.2
        rw [List.getElem?_map] at this
        obtain ⟨u, hu, he⟩ := Option.map_eq_some_iff.1 this
        rw [show ((k : Int).toNat) = k by omega] at hu
        rw [hu, ofP_inj he]
      rw [this]
    rw [hpb]
    by_cases hb : 1000000 < max p.1 p.2 ∨ min p.1 p.2 < -1000000
    · simp only [if_pos hb]; exact ⟨fun e he => (by cases he; exact st _ (by rw [if_pos hb])), fun he => by cases he⟩
    · simp only [if_neg hb]; exact ⟨fun e he => (by cases he), fun _ => st _ (by rw [if_neg hb])⟩
  · unfold ref17_path_l2
    rw [if_neg (by simp)]

def stR (i : Int) (l : List Fd) : Int × Bool × Bool × Bool × Bool × Bool × Bool × Bool × Bool × Bool × Bool × Bool × Bool × Bool :=
  (i, hasS l 0, hasS l 1, hasS l 2, hasS l 3, hasS l 4, hasS l 5, hasS l 6, hasN l 0, hasN l 1, hasN l 2, hasN l 3, hasN l 4, hasN l 5)
theorem putS_ok (l : List Fd) (f : Fd) (h0 : 0 ≤ f.2.1) (j : Nat) (hj : j < 7) : (putN 7 false [hasS l 0, hasS l 1, hasS l 2, hasS l 3, hasS l 4, hasS l 5, hasS l 6] f.2.1.toNat true).getD j false = hasS (l ++ [f]) (j : Int) := by
  rw [putN_getD hj]
  have e : [hasS l 0, hasS l 1, hasS l 2, hasS l 3, hasS l 4, hasS l 5, hasS l 6].getD j false = hasS l (j : Int) := by
    match j, hj with
    | 0, _ => rfl
    | 1, _ => rfl
    | 2, _ => rfl
    | 3, _ => rfl
    | 4, _ => rfl
    | 5, _ => rfl
    | 6, _ => rfl
  rw [e, hasS_snoc]
  by_cases hq : j = f.2.1.toNat
  · rw [if_pos hq, decide_eq_true (by omega)]; simp
  · rw [if_neg hq, decide_eq_false (by omega)]; simp
theorem nN_same {l : List Fd} {f : Fd} (h : ¬ sortN f) (p : Nat) : hasN (l ++ [f]) p = hasN l p := by rw [hasN_snoc, decide_eq_false (fun hh => h hh.1), Bool.or_false]
theorem nN_put {l : List Fd} {f : Fd} (h : sortN f) {p : Nat} (hp : p < 6) : (putN 6 false [hasN l 0, hasN l 1, hasN l 2, hasN l 3, hasN l 4, hasN l 5] f.2.2.1.toNat true).getD p false = hasN (l ++ [f]) p := by
  rw [putN_getD hp]
  have e : [hasN l 0, hasN l 1, hasN l 2, hasN l 3, hasN l 4, hasN l 5].getD p false = hasN l p := by
    match p, hp with
    | 0, _ => rfl
    | 1, _ => rfl
    | 2, _ => rfl
    | 3, _ => rfl
    | 4, _ => rfl
    | 5, _ => rfl
  rw [e, hasN_snoc]
  by_cases hq : p = f.2.2.1.toNat
  · rw [if_pos hq, decide_eq_true ⟨h, hq.symm⟩]; simp
  · rw [if_neg hq, decide_eq_false (fun hh => hq hh.2.symm), Bool.or_false]
abbrev SB := Bool × Bool × Bool × Bool × Bool × Bool × Bool × Bool × Bool × Bool × Bool × Bool × Bool
theorem rj7_ok (l : List Fd) (f : Fd) (hl : l.length < 100) (h0 : 0 ≤ f.2.1) (e : Int) {o : Sum (Int × SB) (Sum SB Int)} (ho : if e ≠ 0 then o = .inr (.inr e) else o = .inl (stR ((l.length + 1 : Nat) : Int) (l ++ [f]))) :
    ref17_Check_j7 (stR (l.length : Int) l) f (e, hasN (l ++ [f]) 0, hasN (l ++ [f]) 1, hasN (l ++ [f]) 2, hasN (l ++ [f]) 3, hasN (l ++ [f]) 4, hasN (l ++ [f]) 5) o := by
  unfold ref17_Check_j7
  by_cases he : e = 0
  · rw [if_neg (by simpa using he)]
    rw [if_neg (by simpa using he)] at ho
    simp only [stR]
    rw [putS_ok l f h0 0 (by omega), putS_ok l f h0 1 (by omega), putS_ok l f h0 2 (by omega), putS_ok l f h0 3 (by omega), putS_ok l f h0 4 (by omega), putS_ok l f h0 5 (by omega), putS_ok l f h0 6 (by omega), len_wrap (by omega)]
    exact ho
  · rw [if_pos (by simpa using he)]
    rw [if_pos he] at ho; exact ho
theorem rcheck_run (m : Mg) (hp : m.2.2.1.length < 4611686018427387904) (hc : m.2.2.2.1.length < 4611686018427387904) (ht : m.2.2.2.2.1.size < 4611686018427387904) (hg : m.2.2.2.2.2.size < 4611686018427387904) (fs : List Fd) (hfs : fs.length < 100) (hok : ∀ f ∈ fs, fdOk f) : ∀ (l pre : List Fd), fs = pre ++ l →
    Loops (ref17_Check_l6 (ofM m) fs) (stR (pre.length : Int) pre) (if firstW m l ≠ 0 then .inr (firstW m l) else .inl (stR 0 fs).2)
  | [], pre, h => by
    rw [List.append_nil] at h
    refine .done ?_
    unfold ref17_Check_l6
    rw [if_neg (by rw [h]; simp [stR]), h]
    rfl
  | f :: l, pre, h => by
    have hlen : fs.length = pre.length + l.length + 1 := by rw [h]; simp; omega
    have hat : fs[pre.length]? = some f := by rw [h]; simp
    have hx : idx fs (pre.length : Int) f := idx_at rfl hat
    have hf := hok f (by rw [h]; simp)
    have rest := rcheck_run m hp hc ht hg fs hfs hok l (pre ++ [f]) (by rw [h]; simp)
    have st : ∀ o, (if wrongB m f ≠ 0 then o = .inr (.inr (wrongB m f)) else o = .inl (stR ((pre.length + 1 : Nat) : Int) (pre ++ [f]))) → ref17_Check_l6 (ofM m) fs (stR (pre.length : Int) pre) o := by
      intro o ho
      obtain ⟨_, _, ok⟩ := hf
      unfold ref17_Check_l6
      rw [if_pos (by simp [stR]; omega)]
      refine ⟨f, hx, by omega, by omega, f, hx, ?_⟩
      simp only [decide_eq_true_eq]
      by_cases h3 : f.2.1 = 3
      · rw [if_pos h3]
        have hs : ¬ sortN f := fun h => h.1 h3
        have hw : wrongB m f = pathB m.2.2.1 1 16 := by unfold wrongB; rw [if_pos h3, show f.2.2.2.1 = 1 by omega, show f.2.2.2.2.1 = 16 by omega]
        refine ⟨_, rpath_ok _ hp, ?_⟩
        have := rj7_ok pre f (by omega) (by omega) (pathB m.2.2.1 1 16) (by rw [← hw]; exact ho)
        simp only [nN_same hs] at this; exact this
      rw [if_neg h3]
      by_cases h4 : f.2.1 = 4
      · rw [if_pos h4]
        have hs : ¬ sortN f := fun h => h.2.1 h4
        have hw : wrongB m f = cellsB m.2.2.2.1 1 32 := by unfold wrongB; rw [if_neg h3, if_pos h4, show f.2.2.2.1 = 1 by omega, show f.2.2.2.2.1 = 32 by omega]
        refine ⟨_, rcells_ok _ hc, ?_⟩
        have := rj7_ok pre f (by omega) (by omega) (cellsB m.2.2.2.1 1 32) (by rw [← hw]; exact ho)
        simp only [nN_same hs] at this; exact this
      rw [if_neg h4]
      by_cases h5 : f.2.1 = 5
      · rw [if_pos h5]
        have hs : ¬ sortN f := fun h => h.2.2.1 h5
        have hw : wrongB m f = textB m.2.2.2.2.1 0 64 := by unfold wrongB; rw [if_neg h3, if_neg h4, if_pos h5, show f.2.2.2.1 = 0 by omega, show f.2.2.2.2.1 = 64 by omega]
        refine ⟨_, rtext_ok _ _ ht, ?_⟩
        have := rj7_ok pre f (by omega) (by omega) (textB m.2.2.2.2.1 0 64) (by rw [← hw]; exact ho)
        simp only [nN_same hs] at this; exact this
      rw [if_neg h5]
      by_cases h6 : f.2.1 = 6
      · rw [if_pos h6]
        have hs : ¬ sortN f := fun h => h.2.2.2 h6
        have hw : wrongB m f = textB m.2.2.2.2.2 0 16 := by unfold wrongB; rw [if_neg h3, if_neg h4, if_neg h5, if_pos h6, show f.2.2.2.1 = 0 by omega, show f.2.2.2.2.1 = 16 by omega]
        refine ⟨_, rtext_ok _ _ hg, ?_⟩
        have := rj7_ok pre f (by omega) (by omega) (textB m.2.2.2.2.2 0 16) (by rw [← hw]; exact ho)
        simp only [nN_same hs] at this; exact this
      rw [if_neg h6]
      have hs : sortN f := ⟨h3, h4, h5, h6⟩
      have hw : wrongB m f = if numBad m f then 5 else 0 := by unfold wrongB; rw [if_neg h3, if_neg h4, if_neg h5, if_neg h6]
      refine ⟨f, hx, by omega, by omega, f, hx, by omega, by omega, f, hx, f, fun _ => hx, fun _ => by omega, fun _ => by omega, f, fun _ => hx, ?_⟩
      have key := fun e he => rj7_ok pre f (by omega) (by omega) e (o := o) he
      simp only [← nN_put hs (p := 0) (by omega), ← nN_put hs (p := 1) (by omega), ← nN_put hs (p := 2) (by omega), ← nN_put hs (p := 3) (by omega), ← nN_put hs (p := 4) (by omega), ← nN_put hs (p := 5) (by omega)] at key
      by_cases hb : numBad m f
      · rw [if_pos hb] at hw
        rw [if_pos (by
          rcases hb with hb | hb
          · have : (ofM m).2.1.getD f.2.2.1.toNat 0 < f.2.2.2.1 := hb
            rw [decide_eq_true this, Bool.true_or]
          · have : f.2.2.2.2.1 < (ofM m).2.1.getD f.2.2.1.toNat 0 := hb
            rw [decide_eq_true this, Bool.or_true])]
        exact key 5 (by rw [hw] at ho; exact ho)
      · rw [if_neg hb] at hw
        have hb2 := not_or.1 hb
        rw [if_neg (by
          have h1 : ¬ (ofM m).2.1.getD f.2.2.1.toNat 0 < f.2.2.2.1 := hb2.1
          have h2 : ¬ f.2.2.2.2.1 < (ofM m).2.1.getD f.2.2.1.toNat 0 := hb2.2
          rw [decide_eq_false h1, decide_eq_false h2]; decide)]
        exact key 0 (by rw [hw] at ho; exact ho)
    simp only [List.length_append, List.length_cons, List.length_nil, Nat.zero_add] at rest
    by_cases hz : wrongB m f = 0
    · simp only [firstW, hz, ne_eq, not_true, if_false]
      exact .next (st _ (by rw [if_neg (by simpa using hz)])) rest
    · simp only [firstW, ne_eq, hz, not_false_iff, if_true]
      exact .done (st _ (by rw [if_pos hz]))
theorem len_dec (n : Nat) (p : Prop) [Decidable p] (h : n = 0 ↔ p) [Decidable (0 < (n : Int))] : decide (0 < (n : Int)) = !decide p := by
  by_cases hp : p
  · rw [decide_eq_true hp, decide_eq_false (by have := h.2 hp; omega)]; rfl
  · rw [decide_eq_false hp, decide_eq_true (by have : n ≠ 0 := fun e => hp (h.1 e)
                                               omega)]; rfl
theorem j2_ok (a : Mr) (s : SB) (r : Int) (p3 p4 p5 p6 : Bool) (h3 : decide (0 < (a.2.2.1.length : Int)) = !p3) (h4 : decide (0 < (a.2.2.2.1.length : Int)) = !p4) (h5 : decide (a.2.2.2.2.1 = bstr []) = p5) (h6 : decide (a.2.2.2.2.2 = bstr []) = p6)
    (hr : r = if ((!s.2.2.2.1 && !p3) || (!s.2.2.2.2.1 && !p4) || (!s.2.2.2.2.2.1 && !p5) || (!s.2.2.2.2.2.2.1 && !p6)) = true then 3 else 0) : ref17_Check_j2 a s () r := by
  obtain ⟨b0, b1, b2, b3, b4, b5, b6, b7⟩ := s
  unfold ref17_Check_j2 ref17_Check_j3
  simp only at hr ⊢
  rw [h3, h4, h5, h6]
  subst hr
  cases b3 <;> cases b4 <;> cases b5 <;> cases b6 <;> cases p3 <;> cases p4 <;> cases p5 <;> cases p6 <;> exact rfl
theorem rcheck_ok {m : Mg} (hp : m.2.2.1.length < 4611686018427387904) (hc : m.2.2.2.1.length < 4611686018427387904) (ht : m.2.2.2.2.1.size < 4611686018427387904) (hg : m.2.2.2.2.2.size < 4611686018427387904) : ref17_Check (ofM m) (checkB m) := by
  refine ⟨_, rfields_ok m.1, ?_⟩
  unfold checkB
  by_cases hl : fieldsB m.1 = []
  · rw [hl, if_pos (by simp), if_pos rfl]
  · rw [if_neg hl, if_neg (by simp; exact hl)]
    have run := rcheck_run m hp hc ht hg (fieldsB m.1) (by have := fields_len m.1; omega) (fields_fd m.1) (fieldsB m.1) [] rfl
    by_cases hf : firstW m (fieldsB m.1) = 0
    · rw [if_neg (c := firstW m (fieldsB m.1) ≠ 0) (by simpa using hf)] at run ⊢
      refine ⟨_, run, ?_⟩
      show ref17_Check_j1 (ofM m) (stR 0 (fieldsB m.1)).2 _
      generalize fieldsB m.1 = fs at *
      let bad : Nat → Option Int := fun k => if hasN fs k = false ∧ m.2.1.getD k 0 ≠ 0 then some 3 else none
      refine ⟨_, loops_first (fun k => (k : Int)) bad () 6 (fun k hk => ?_) ?_, ?_⟩
      · have st : ∀ o, (if hasN fs k = false ∧ m.2.1.getD k 0 ≠ 0 then o = .inr (.inr 3) else o = .inl ((k + 1 : Nat) : Int)) → ref17_Check_l4 (ofM m) (stR 0 fs).2 (k : Int) o := by
          intro o ho
          unfold ref17_Check_l4
          rw [if_pos (by simp; omega)]
          refine ⟨by omega, by omega, ?_⟩
          have e : [hasN fs 0, hasN fs 1, hasN fs 2, hasN fs 3, hasN fs 4, hasN fs 5].getD (k : Int).toNat false = hasN fs k := by
            match k, hk with
            | 0, _ => rfl
            | 1, _ => rfl
            | 2, _ => rfl
            | 3, _ => rfl
            | 4, _ => rfl
            | 5, _ => rfl
          have j5 : ∀ b : Bool, (if b = true then o = .inr (.inr 3) else o = .inl ((k + 1 : Nat) : Int)) → ref17_Check_j5 (k : Int) b o := by
            intro b hb; unfold ref17_Check_j5; rw [len_wrap (by omega)]; exact hb
          split
          · rename_i hb
            have hb : (!hasN fs k) = true := by rw [← e]; exact hb
            have hn : hasN fs k = false := by simpa using hb
            refine ⟨by omega, by omega, j5 _ ?_⟩
            show if (!decide (m.2.1.getD k 0 = 0)) = true then _ else _
            by_cases hz : m.2.1.getD k 0 = 0
            · rw [if_neg (fun h => h.2 hz)] at ho; rw [if_neg (by rw [decide_eq_true hz]; simp)]; exact ho
            · rw [if_pos ⟨hn, hz⟩] at ho; rw [if_pos (by simpa using hz)]; exact ho
          · rename_i hb
            have hb : ¬ (!hasN fs k) = true := by rw [← e]; exact hb
            have hn : hasN fs k = true := by simpa using hb
            rw [if_neg (by simp [hn])] at ho; exact j5 false (by simpa using ho)
        show (∀ e, (if hasN fs k = false ∧ m.2.1.getD k 0 ≠ 0 then some 3 else none) = some e → _) ∧ ((if hasN fs k = false ∧ m.2.1.getD k 0 ≠ 0 then some 3 else none) = none → _)
        by_cases hb : hasN fs k = false ∧ m.2.1.getD k 0 ≠ 0
        · rw [if_pos hb]; exact ⟨fun e he => (by cases he; exact st _ (by rw [if_pos hb])), fun he => by cases he⟩
        · rw [if_neg hb]; exact ⟨fun e he => (by cases he), fun _ => st _ (by rw [if_neg hb])⟩
      · unfold ref17_Check_l4
        rw [if_neg (by decide)]
      · have hz : ∀ k, bad k = none ↔ zN fs m.2.1 k = 0 := by
          intro k
          show (if hasN fs k = false ∧ m.2.1.getD k 0 ≠ 0 then some 3 else none) = none ↔ (if hasN fs k = true then 0 else m.2.1.getD k 0) = 0
          cases hasN fs k with
          | true => simp
          | false => by_cases h0 : m.2.1.getD k 0 = 0 <;> simp
        have hsame : sameB (leftB fs m) (zeroM m.1) = true ↔ ((∀ k, k < 6 → zN fs m.2.1 k = 0) ∧ (hasS fs 3 = true ∨ m.2.2.1 = []) ∧ (hasS fs 4 = true ∨ m.2.2.2.1 = []) ∧ (hasS fs 5 = true ∨ m.2.2.2.2.1 = bstr []) ∧ (hasS fs 6 = true ∨ m.2.2.2.2.2 = bstr [])) := by
          unfold sameB leftB zeroM
          rw [decide_eq_true_eq]
          have h1 : ∀ {α : Type} (b : Bool) (x z : α), ((if b = true then z else x) = z) ↔ (b = true ∨ x = z) := by
            intro α b x z; cases b <;> simp
          simp only [n6, List.getD_cons_zero, List.getD_cons_succ, Prod.mk.injEq, true_and, h1, List.cons.injEq, and_true]
          constructor
          · rintro ⟨⟨a0, a1, a2, a3, a4, a5⟩, b⟩
            refine ⟨fun k hk => ?_, b⟩
            match k, hk with
            | 0, _ => exact a0
            | 1, _ => exact a1
            | 2, _ => exact a2
            | 3, _ => exact a3
            | 4, _ => exact a4
            | 5, _ => exact a5
          · rintro ⟨a, b⟩
            exact ⟨⟨a 0 (by omega), a 1 (by omega), a 2 (by omega), a 3 (by omega), a 4 (by omega), a 5 (by omega)⟩, b⟩
        cases hfe : firstE () bad 6 with
        | inl u =>
          have hall : ∀ k, k < 6 → zN fs m.2.1 k = 0 := fun k hk => (hz k).1 (firstE_some hfe k hk)
          refine j2_ok (ofM m) _ _ (decide (m.2.2.1 = [])) (decide (m.2.2.2.1 = [])) (decide (m.2.2.2.2.1 = bstr [])) (decide (m.2.2.2.2.2 = bstr [])) (len_dec _ _ (by simp [ofM])) (len_dec _ _ (by simp [ofM])) rfl rfl ?_
          simp only [stR]
          by_cases hs : sameB (leftB fs m) (zeroM m.1) = true
          · rw [if_pos hs]
            obtain ⟨_, c3, c4, c5, c6⟩ := hsame.1 hs
            refine (if_neg ?_).symm
            rcases c3 with c3 | c3 <;> rcases c4 with c4 | c4 <;> rcases c5 with c5 | c5 <;> rcases c6 with c6 | c6 <;> simp [c3, c4, c5, c6]
          · rw [if_neg hs]
            refine (if_pos ?_).symm
            by_cases c3 : hasS fs 3 = true ∨ m.2.2.1 = []
            · by_cases c4 : hasS fs 4 = true ∨ m.2.2.2.1 = []
              · by_cases c5 : hasS fs 5 = true ∨ m.2.2.2.2.1 = bstr []
                · by_cases c6 : hasS fs 6 = true ∨ m.2.2.2.2.2 = bstr []
                  · exact absurd (hsame.2 ⟨hall, c3, c4, c5, c6⟩) hs
                  · simp only [not_or, Bool.not_eq_true] at c6; simp [c6]
                · simp only [not_or, Bool.not_eq_true] at c5; simp [c5]
              · simp only [not_or, Bool.not_eq_true] at c4; simp [c4]
            · simp only [not_or, Bool.not_eq_true] at c3; simp [c3]
        | inr e =>
          have he : e = 3 := by
            unfold firstE at hfe
            cases hfs : (List.range 6).findSome? bad with
            | none => rw [hfs] at hfe; cases hfe
            | some e' =>
              rw [hfs] at hfe; cases hfe
              obtain ⟨k, _, hk⟩ := List.exists_of_findSome?_eq_some hfs
              have hk : (if hasN fs k = false ∧ m.2.1.getD k 0 ≠ 0 then some 3 else none) = some e := hk
              split at hk
              · cases hk; rfl
              · cases hk
          subst he
          show _ = _
          rw [if_neg]
          intro hd
          have hd := (hsame.1 hd).1
          rw [firstE_none (fun k hk => (hz k).2 (hd k hk))] at hfe
          cases hfe
    · rw [if_pos (c := firstW m (fieldsB m.1) ≠ 0) hf] at run ⊢
      exact ⟨_, run, rfl⟩
end Go.Rel
