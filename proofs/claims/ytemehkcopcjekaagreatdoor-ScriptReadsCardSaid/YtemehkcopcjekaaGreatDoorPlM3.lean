import Derived.Test.YtemehkcopcjekaaGreatDoorURel
import Derived.Test.YtemehkcopcjekaaGreatDoorPlM2
/-! Plain laws: an item's line, to and fro. -/
namespace Go.Rel
open Go Go.Eng Go.Pl
theorem unhexL_back : ∀ {l r : List Int}, unhexL l = some r → hexL r = l ∧ Oct r
 | [], r, h => by simp [unhexL] at h; subst h; exact ⟨rfl, fun x hx => nomatch hx⟩
 | [x], r, h => by simp [unhexL] at h
 | a :: b :: l, r, h => by
  simp only [unhexL] at h
  cases hqa : hv a with
  | none => rw [hqa] at h; simp at h
  | some x =>
   cases hqb : hv b with
   | none => rw [hqa, hqb] at h; simp at h
   | some y =>
    cases hr : unhexL l with
    | none => rw [hqa, hqb, hr] at h; simp at h
    | some r' =>
     rw [hqa, hqb, hr] at h
     simp only [Option.some.injEq] at h
     subst h
     obtain ⟨h1, h2⟩ := unhexL_back hr
     have hx := hv_some hqa
     have hy := hv_some hqb
     refine ⟨?_, fun z hz => ?_⟩
     ·rw [show hexL ((16 * x + y) :: r') = hexD ((16 * x + y) / 16) :: hexD ((16 * x + y) % 16) :: hexL r' from rfl, h1, show (16 * x + y) / 16 = x by omega, show (16 * x + y) % 16 = y by omega, hx.2.2, hy.2.2]
     ·rcases List.mem_cons.1 hz with rfl | hz
      ·omega
      ·exact h2 z hz
theorem unhexR_back {w b : List Int} (h : unhexR w = (b, 0)) : hexE b = w ∧ Oct b := by
 unfold unhexR at h
 split at h
 ·rename_i h1
  simp only [Prod.mk.injEq, and_true] at h
  subst h
  exact ⟨h1.symm, fun x hx => nomatch hx⟩
 ·split at h
  ·simp at h
  ·rename_i h1 h2
   cases hr : unhexL w with
   | none => rw [hr] at h; simp at h
   | some r =>
    rw [hr] at h
    simp only [Prod.mk.injEq, and_true] at h
    subst h
    obtain ⟨h3, h4⟩ := unhexL_back hr
    refine ⟨?_, h4⟩
    unfold hexE
    rw [if_neg (fun e => h2 (by rw [← h3, e]; rfl)), h3]
theorem noiseB_back {l : List Int} (hl : l.length ≤ 1000) {it : It} (h : noiseB l = (it, 0)) : ItOk it ∧ (1 ≤ it.1 ∧ it.1 ≤ 4) ∧ lineN it = l := by
 unfold noiseB at h
 split at h
 ·simp at h
 ·rename_i w0 ws hq
  have hj := spl_join hq
  split at h
  ·simp at h
  ·rename_i h0
   have hw := kindN_word h0
   have hi : ∀ n : Int, 0 ≤ n → n ≤ 4 → IntOk .i64 n := fun n h0 h1 => ⟨by show (-9223372036854775808 : Int) ≤ n; omega, by show n ≤ 9223372036854775807; omega⟩
   have hk := kindN_rng w0
   split at h
   ·simp at h
   ·rename_i h1
    generalize kindN w0 = k at *
    unfold numN at h
    split at h
    ·rename_i w
     split at h
     ·rename_i h4
      subst h4
      split at h
      ·rename_i he
       simp only [Prod.mk.injEq, and_true] at h
       subst h
       obtain ⟨e1, e2⟩ := unhexR_back (w := w) (b := (unhexR w).1) (by rw [← he])
       have hll : (hexE (unhexR w).1).length ≤ l.length := by rw [e1, hj]; simp; omega
       refine ⟨⟨hi 4 (by decide) (by decide), hi 0 (by decide) (by decide), hi 0 (by decide) (by decide), hi 0 (by decide) (by decide), e2, ?_⟩, ⟨show (1 : Int) ≤ 4 by decide, show (4 : Int) ≤ 4 by decide⟩, ?_⟩
       ·show (unhexR w).1.length ≤ 1000
        unfold hexE at hll
        split at hll
        ·rename_i h0; rw [h0]; simp
        ·rw [hexL_len] at hll; omega
       ·rw [lineN_4 rfl, hj]
        simp only
        rw [e1, ← hw]; simp [wordN]
      ·rename_i he; simp only [Prod.mk.injEq] at h; exact absurd h.2 he
     ·rename_i h4
      split at h
      ·rename_i he
       simp only [Prod.mk.injEq, and_true] at h
       subst h
       obtain ⟨e1, o1⟩ := rdB_back (l := w) (n := (rdB w).1) (by rw [← he])
       have hk1 : k = 1 := by
        simp only [List.length_singleton, ne_eq, Decidable.not_not] at h1
        rcases hk with h | h | h | h | h
        ·exact absurd h h0
        ·exact h
        ·rw [h] at h1; exact absurd h1 (by decide)
        ·rw [h] at h1; exact absurd h1 (by decide)
        ·exact absurd h h4
       subst hk1
       refine ⟨⟨hi 1 (by decide) (by decide), o1, hi 0 (by decide) (by decide), hi 0 (by decide) (by decide), (fun x hx => nomatch hx), by simp⟩, ⟨show (1 : Int) ≤ 1 by decide, show (1 : Int) ≤ 4 by decide⟩, ?_⟩
       rw [lineN_1 rfl, hj]
       simp only
       rw [e1, ← hw]; simp [wordN]
      ·rename_i he; simp only [Prod.mk.injEq] at h; exact absurd h.2 he
    ·rename_i w1 w2 w3
     split at h
     ·rename_i he; simp only [Prod.mk.injEq] at h; exact absurd h.2 he
     split at h
     ·rename_i he; simp only [Prod.mk.injEq] at h; exact absurd h.2 he
     split at h
     ·rename_i he; simp only [Prod.mk.injEq] at h; exact absurd h.2 he
     rename_i g1 g2 g3
     simp only [ne_eq, Decidable.not_not] at g1 g2 g3
     simp only [Prod.mk.injEq, and_true] at h
     subst h
     obtain ⟨e1, o1⟩ := rdB_back (l := w1) (n := (rdB w1).1) (by rw [← g1])
     obtain ⟨e2, o2⟩ := rdB_back (l := w2) (n := (rdB w2).1) (by rw [← g2])
     obtain ⟨e3, o3⟩ := rdB_back (l := w3) (n := (rdB w3).1) (by rw [← g3])
     have hk23 : k = 2 ∨ k = 3 := by
      simp only [List.length_cons, List.length_nil, ne_eq, Decidable.not_not] at h1
      rcases hk with h | h | h | h | h
      ·exact absurd h h0
      ·rw [h] at h1; exact absurd h1 (by decide)
      ·exact .inl h
      ·exact .inr h
      ·rw [h] at h1; exact absurd h1 (by decide)
     refine ⟨⟨hi k (by omega) (by omega), o1, o2, o3, (fun x hx => nomatch hx), by simp⟩, ⟨show 1 ≤ k by omega, show k ≤ 4 by omega⟩, ?_⟩
     rw [lineN_23 hk23, hj]
     simp only
     rw [e1, e2, e3, hw]; simp
    ·simp at h
theorem lineN_len {it : It} (h : ItOk it) : (lineN it).length ≤ 3000 := by
 have hd1 := decI_len h.r
 have hd2 := decI_len h.a
 have hd3 := decI_len h.n
 have hl := h.l
 have hx := hexE_len it.2.2.2.2
 have hw := wordN_len it.1
 by_cases h4 : it.1 = 4
 ·rw [lineN_4 h4]; simp [junkL]; omega
 by_cases h1 : it.1 = 1
 ·rw [lineN_1 h1]; simp [wholeL]; omega
 by_cases h23 : it.1 = 2 ∨ it.1 = 3
 ·rw [lineN_23 h23]; simp; omega
 ·rw [lineN_no (by omega)]; simp
end Go.Rel
/-! Plain laws: what items let arrive. -/
namespace Go.Rel
open Go Go.Eng Go.Pl
structure RowsOk (sent : List (List Int)) : Prop where
 n : sent.length ≤ 100
 l : ∀ r ∈ sent, r.length ≤ 2000
/-! ### One by one -/
theorem isame_ok (x : It) (h : x.2.2.2.2.length < 1000000) : ref26_Same x x true := by
 unfold ref26_Same
 rw [if_pos (by simp), if_pos (by simp), if_pos (by simp), if_pos (by simp)]
 refine ⟨_, nsame_ok (by (try simp only [Prod.t4]); omega), ?_⟩
 show true = _
 simp
end Go.Rel
/-! Plain laws: a script's steps: what is wrong with one, its line. -/
namespace Go.Rel
open Go Go.Eng Go.Pl
theorem dn {p : Prop} [Decidable p] (h : ¬ p) : ¬ decide p = true := by rw [decide_eq_true_eq]; exact h
theorem nd {p : Prop} [Decidable p] (h : ¬ p) : (!decide p) = true := by rw [decide_eq_false h]; rfl
theorem np {p : Prop} [Decidable p] (h : p) : ¬ (!decide p) = true := by rw [decide_eq_true h]; decide
abbrev Stp := Int × Mg × It × List Int
abbrev ofZ (s : Stp) : Int × Mr × It × List Int := (s.1, ofM s.2.1, s.2.2.1, s.2.2.2)
def bigN (n : Int) : Bool := decide (n < 0 ∨ 1000 < n)
def sizesE (l : List Int) : Int := if 16 < l.length then 6 else if l.any bigN = true then 5 else 0
def checkZ (s : Stp) : Int := if s.1 = 1 then checkB s.2.1 else if s.1 = 2 then (if 1 ≤ s.2.2.1.1 ∧ s.2.2.1.1 ≤ 4 then 0 else 9) else if s.1 = 4 then sizesE s.2.2.2 else if s.1 = 3 ∨ s.1 = 5 ∨ s.1 = 6 then 0 else 9
def sendZ : List Int := [115, 101, 110, 100]
def allZ : List Int := [97, 108, 108]
def chunkZ : List Int := [99, 104, 117, 110, 107]
def stateZ : List Int := [115, 116, 97, 116, 101]
def tallyZ : List Int := [116, 97, 108, 108, 121]
def wordZ (k : Int) : List Int := if k = 1 then sendZ else if k = 3 then allZ else if k = 4 then chunkZ else if k = 5 then stateZ else if k = 6 then tallyZ else []
def lineZ (s : Stp) : List Int := if checkZ s ≠ 0 then [] else if s.1 = 1 then sendZ ++ 32 :: lineL s.2.1 else if s.1 = 2 then lineN s.2.2.1 else if s.1 = 4 then chunkZ ++ s.2.2.2.flatMap (fun n => 32 :: decI n) else wordZ s.1
structure StpOk (s : Stp) : Prop where
 m : MgOk s.2.1
 i : ItOk s.2.2.1
 z : ∀ n ∈ s.2.2.2, IntOk .i64 n
 l : s.2.2.2.length ≤ 1000
theorem zword_ok (k : Int) : script_word k (bstr (wordZ k)) := by
 unfold script_word wordZ
 by_cases h1 : k = 1
 ·rw [if_pos (by simpa using h1), if_pos h1]; rfl
 rw [if_neg (by simpa using h1), if_neg h1]
 by_cases h3 : k = 3
 ·rw [if_pos (by simpa using h3), if_pos h3]; rfl
 rw [if_neg (by simpa using h3), if_neg h3]
 by_cases h4 : k = 4
 ·rw [if_pos (by simpa using h4), if_pos h4]; rfl
 rw [if_neg (by simpa using h4), if_neg h4]
 by_cases h5 : k = 5
 ·rw [if_pos (by simpa using h5), if_pos h5]; rfl
 rw [if_neg (by simpa using h5), if_neg h5]
 by_cases h6 : k = 6
 ·rw [if_pos (by simpa using h6), if_pos h6]; rfl
 rw [if_neg (by simpa using h6), if_neg h6]
theorem big_ok (n : Int) : script_Check_1 n (bigN n) := by
 unfold script_Check_1 script_Check_1_j1 bigN
 by_cases h : n < 0
 ·rw [if_pos (by simpa using h)]; simp [h]
 ·rw [if_neg (by simpa using h)]; simp [h]
theorem any_take {l : List Int} {k : Nat} (hk : k < l.length) : (l.take (k + 1)).any bigN = ((l.take k).any bigN || bigN l[k]) := by
 rw [List.take_succ_eq_append_getElem hk, List.any_append]; simp
theorem any_big {l : List Int} {k : Nat} (hk : k < l.length) (h : bigN l[k] = true) : l.any bigN = true := List.any_eq_true.2 ⟨_, List.getElem_mem hk, h⟩
theorem contains_ok {l : List Int} (hl : l.length < 4611686018427387904) : slices_ContainsFunc_int_int__script_Check_1 l (l.any bigN) := by
 obtain ⟨e, h1, h2⟩ := loops_inv (step := slices_IndexFunc_int_int__script_Check_1_l2 l) (s := 0) (fun k s => s = (k : Int) ∧ (l.take k).any bigN = false) (fun e => (e = .inl () ∧ l.any bigN = false) ∨ ∃ k : Nat, e = .inr (k : Int) ∧ l.any bigN = true) l.length ⟨rfl, rfl⟩ (by
  rintro k s hk ⟨rfl, h⟩
  have hst : ∀ o, (∃ r10 : Bool, script_Check_1 l[k] r10 ∧ if r10 = true then (o = .inr (.inr (k : Int))) else (o = .inl (IntKind.i64.wrap ((k : Int) + 1)))) → slices_IndexFunc_int_int__script_Check_1_l2 l (k : Int) o := by
   intro o ho
   unfold slices_IndexFunc_int_int__script_Check_1_l2
   rw [if_pos (by rw [decide_eq_true_eq]; omega)]
   exact ⟨l[k], idx_of hk, ho⟩
  cases hb : bigN l[k] with
  | true => exact .inr ⟨_, hst _ ⟨true, by rw [← hb]; exact big_ok _, by rw [if_pos rfl]⟩, .inr ⟨k, rfl, any_big hk hb⟩⟩
  | false =>
   refine .inl ⟨((k + 1 : Nat) : Int), hst _ ⟨false, by rw [← hb]; exact big_ok _, ?_⟩, rfl, by rw [any_take hk, h, hb]; rfl⟩
   rw [if_neg (by decide), w_small (by omega) (by omega)]; rfl) (by
  rintro s ⟨rfl, h⟩
  rw [List.take_length] at h
  refine ⟨.inl (), ?_, .inl ⟨rfl, h⟩⟩
  unfold slices_IndexFunc_int_int__script_Check_1_l2
  rw [if_neg (by simp)])
 rcases h2 with ⟨rfl, h⟩ | ⟨k, rfl, h⟩
 ·exact ⟨-1, ⟨_, h1, rfl⟩, by rw [h]; rfl⟩
 ·exact ⟨(k : Int), ⟨_, h1, rfl⟩, by rw [h]; simp⟩
theorem rsizes_ok {a : Int × Mr × It × List Int} (hl : a.2.2.2.length < 4611686018427387904) (h4 : a.1 = 4) : Loops (ref27_Check_l5 a) 0 (if a.2.2.2.any bigN = true then .inr 5 else .inl ()) := by
 obtain ⟨e, h1, h2⟩ := loops_inv (step := ref27_Check_l5 a) (s := 0) (fun k s => s = (k : Int) ∧ (a.2.2.2.take k).any bigN = false) (fun e => e = if a.2.2.2.any bigN = true then .inr 5 else .inl ()) a.2.2.2.length ⟨rfl, rfl⟩ (by
  rintro k s hk ⟨rfl, h⟩
  have hst : ∀ o, ref27_Check_j7 (k : Int) (bigN a.2.2.2[k]) o → ref27_Check_l5 a (k : Int) o := by
   intro o ho
   unfold ref27_Check_l5
   rw [if_pos (by rw [decide_eq_true_eq]; omega)]
   unfold ref27_Check_j6
   rw [if_pos (by simpa using h4)]
   refine ⟨_, idx_of hk, ?_⟩
   by_cases hn : a.2.2.2[k] < 0
   ·rw [if_pos (by simpa using hn)]
    rw [show bigN a.2.2.2[k] = true by simp [bigN, hn]] at ho; exact ho
   ·rw [if_neg (by simpa using hn)]
    refine ⟨_, idx_of hk, ?_⟩
    rw [show decide (1000 < a.2.2.2[k]) = bigN a.2.2.2[k] by simp [bigN, hn]]; exact ho
  cases hb : bigN a.2.2.2[k] with
  | true =>
   refine .inr ⟨_, hst _ ?_, rfl⟩
   rw [hb, if_pos (any_big hk hb)]
   unfold ref27_Check_j7
   rw [if_pos rfl]
  | false =>
   refine .inl ⟨((k + 1 : Nat) : Int), hst _ ?_, rfl, by rw [any_take hk, h, hb]; rfl⟩
   rw [hb]
   unfold ref27_Check_j7
   rw [if_neg (by decide), w_small (by omega) (by omega)]; rfl) (by
  rintro s ⟨rfl, h⟩
  rw [List.take_length] at h
  refine ⟨_, ?_, rfl⟩
  rw [if_neg (by rw [h]; decide)]
  unfold ref27_Check_l5
  rw [if_neg (by simp)]
  unfold ref27_Check_j6
  rw [if_neg (by decide)])
 subst h2
 exact h1
theorem lineN_nil (it : It) : decide (lineN it = []) = !decide (1 ≤ it.1 ∧ it.1 ≤ 4) := by
 by_cases h : 1 ≤ it.1 ∧ it.1 ≤ 4
 ·have hn : lineN it ≠ [] := by
   by_cases h4 : it.1 = 4
   ·rw [lineN_4 h4]; simp
   by_cases h1 : it.1 = 1
   ·rw [lineN_1 h1]; simp
   ·rw [lineN_23 (by omega)]; simp
  simp [hn, h]
 ·rw [lineN_no h]; simp [h]
theorem zcheck_ok {s : Stp} (ok : StpOk s) : script_Check s (checkZ s) := by
 have hm1 := ok.m.lpath
 have hm2 := ok.m.lcells
 have hl := ok.l
 unfold script_Check checkZ
 by_cases h1 : s.1 = 1
 ·rw [if_pos (decide_eq_true h1), if_pos h1]
  exact ⟨_, mcheck_ok (by omega) (by omega), rfl⟩
 rw [if_neg (dn h1), if_neg h1]
 by_cases h2 : s.1 = 2
 ·rw [if_pos (decide_eq_true h2), if_pos h2]
  refine ⟨_, nline_ok ok.i, ?_⟩
  rw [bs_nil, lineN_nil]
  by_cases h : 1 ≤ s.2.2.1.1 ∧ s.2.2.1.1 ≤ 4
  ·rw [if_pos h, if_neg (by simp [h])]; rfl
  ·rw [if_neg h, if_pos (nd h)]
 rw [if_neg (dn h2), if_neg h2]
 by_cases h4 : s.1 = 4
 ·rw [if_pos (decide_eq_true h4), if_pos h4]
  unfold sizesE
  by_cases h16 : 16 < s.2.2.2.length
  ·rw [if_pos (by rw [decide_eq_true_eq]; omega), if_pos h16]
  ·rw [if_neg (by rw [decide_eq_true_eq]; omega), if_neg h16]
   refine ⟨_, contains_ok (by omega), ?_⟩
   cases s.2.2.2.any bigN with
   | true => rw [if_pos rfl, if_pos rfl]
   | false => rw [if_neg (by decide), if_neg (by decide)]; rfl
 rw [if_neg (dn h4), if_neg h4]
 by_cases h3 : s.1 = 3
 ·rw [if_pos (decide_eq_true h3), if_pos (.inl h3), h3]; rfl
 rw [if_neg (dn h3)]
 by_cases h5 : s.1 = 5
 ·rw [if_pos (decide_eq_true h5), if_pos (.inr (.inl h5)), h5]; rfl
 rw [if_neg (dn h5)]
 by_cases h6 : s.1 = 6
 ·rw [if_pos (.inr (.inr h6)), h6]; rfl
 ·rw [if_neg (by omega)]
  unfold script_Check_j2
  rw [if_neg (dn h6)]
theorem sizes_zero {s : Stp} (h4 : s.1 = 4) (h : checkZ s = 0) : s.2.2.2.length ≤ 16 ∧ ∀ n ∈ s.2.2.2, bigN n = false := by
 unfold checkZ sizesE at h
 rw [if_neg (by omega), if_neg (by omega), if_pos h4] at h
 split at h
 ·omega
 ·rename_i h16
  split at h
  ·omega
  ·rename_i hb
   refine ⟨by omega, fun n hn => ?_⟩
   cases hc : bigN n with
   | false => rfl
   | true => exact absurd (List.any_eq_true.2 ⟨n, hn, hc⟩) hb
def numsZ (l : List Int) : List Int := chunkZ ++ l.flatMap (fun n => 32 :: decI n)
theorem numsZ_take {l : List Int} {k : Nat} (hk : k < l.length) : numsZ (l.take (k + 1)) = numsZ (l.take k) ++ 32 :: decI l[k] := by
 unfold numsZ
 rw [List.take_succ_eq_append_getElem hk, List.flatMap_append]; simp
theorem numsZ_len : ∀ {l : List Int}, (∀ n ∈ l, IntOk .i64 n) → (l.flatMap (fun n => 32 :: decI n)).length ≤ 22 * l.length
 | [], _ => by simp
 | n :: l, h => by
  have ih := numsZ_len (l := l) (fun x hx => h x (List.mem_cons_of_mem _ hx))
  have hd := decI_len (h n List.mem_cons_self)
  rw [List.flatMap_cons, List.length_append, List.length_cons, List.length_cons]; omega
theorem numsZ_tlen {l : List Int} (h : ∀ n ∈ l, IntOk .i64 n) (hl : l.length ≤ 16) (k : Nat) : (numsZ (l.take k)).length ≤ 400 := by
 have := numsZ_len (l := l.take k) (fun n hn => h n (List.mem_of_mem_take hn))
 rw [List.length_take] at this
 unfold numsZ
 rw [List.length_append, show chunkZ.length = 5 from rfl]; omega
theorem znums_ok {s : Stp} (hz : ∀ n ∈ s.2.2.2, IntOk .i64 n) (hl : s.2.2.2.length ≤ 16) : Loops (script_Line_l2 s) (bstr chunkZ, 0) (bstr (numsZ s.2.2.2)) := by
 have := loops_count (step := script_Line_l2 s) (e := bstr (numsZ s.2.2.2)) (fun k => (bstr (numsZ (s.2.2.2.take k)), (k : Int))) s.2.2.2.length (fun k hk => by
  have ht := numsZ_tlen hz hl k
  have ho := hz _ (List.getElem_mem hk)
  have hd := decI_len ho
  unfold script_Line_l2
  simp only
  rw [if_pos (by rw [decide_eq_true_eq]; omega)]
  refine ⟨_, idx_of hk, _, snum_ok ho, by rw [size_bstr, size_bstr, List.length_singleton]; omega, by rw [ByteArray.size_append, size_bstr, size_bstr, size_bstr, List.length_singleton]; omega, ?_⟩
  rw [← bstr_append, ← bstr_append, w_small (by omega) (by omega), numsZ_take hk]; rfl) (by
  unfold script_Line_l2
  simp only
  rw [if_neg (by simp), List.take_length])
 simpa [numsZ] using this
theorem lineL_small {m : Mg} (ok : MgOk m) : (lineL m).length < 1000000 := by
 have c1 := ok.lpath
 have c2 := ok.lcells
 have c3 := ok.ltext
 have c4 := ok.ltag
 unfold lineL
 split
 ·have hv : ∀ f : Fd, (valueL m f).length ≤ 60000 := by
   intro f
   unfold valueL
   split
   ·have := joinL_len [59] 43 (m.2.2.1.map ptL) (fun x hx => by obtain ⟨p, hp, rfl⟩ := List.mem_map.1 hx; exact ptL_len (ok.path p hp))
    simp only [List.length_map, List.length_cons, List.length_nil] at *; omega
   split
   ·have := joinL_len [44] 43 (m.2.2.2.1.map decI) (fun x hx => by obtain ⟨p, hp, rfl⟩ := List.mem_map.1 hx; have := decI_len (ok.cells p hp); omega)
    simp only [List.length_map, List.length_cons, List.length_nil] at *; omega
   split
   ·have := hexV_len c3; omega
   split
   ·have := hexV_len c4; omega
   ·have := decI_len (ok.at f.2.2.1.toNat); omega
  have hb : ∀ fs : List Fd, (∀ f ∈ fs, fdOk f) → (bodyL m fs).length ≤ fs.length * 60020 := by
   intro fs
   induction fs with
   | nil => intro _; simp [bodyL]
   | cons f fs ih =>
    intro hf
    have i := ih (fun g hg => hf g (List.mem_cons_of_mem _ hg))
    have := hv f
    have hn := (hf f (by simp)).2.1
    have hbs := bints_size f.1
    simp only [bodyL, List.flatMap_cons, List.length_append, List.length_cons, partL, List.length_nil] at i ⊢
    omega
  have := hb _ (fields_fd m.1)
  have := fields_len m.1
  have := wordL_len m.1
  rw [List.length_append]; omega
 ·simp
theorem lineZ_no {s : Stp} (h : ¬ checkZ s = 0) : lineZ s = [] := if_pos h
theorem lineZ_1 {s : Stp} (h : checkZ s = 0) (h1 : s.1 = 1) : lineZ s = sendZ ++ 32 :: lineL s.2.1 := by
 unfold lineZ; rw [if_neg (fun e => e h), if_pos h1]
theorem lineZ_2 {s : Stp} (h : checkZ s = 0) (h2 : s.1 = 2) : lineZ s = lineN s.2.2.1 := by
 unfold lineZ; rw [if_neg (fun e => e h), if_neg (by omega), if_pos h2]
theorem lineZ_4 {s : Stp} (h : checkZ s = 0) (h4 : s.1 = 4) : lineZ s = numsZ s.2.2.2 := by
 unfold lineZ; rw [if_neg (fun e => e h), if_neg (by omega), if_neg (by omega), if_pos h4]; rfl
theorem lineZ_k {s : Stp} (h : checkZ s = 0) (h1 : ¬ s.1 = 1) (h2 : ¬ s.1 = 2) (h4 : ¬ s.1 = 4) : lineZ s = wordZ s.1 := by
 unfold lineZ; rw [if_neg (fun e => e h), if_neg h1, if_neg h2, if_neg h4]
theorem zline_ok {s : Stp} (ok : StpOk s) : script_Line s (bstr (lineZ s)) := by
 refine ⟨_, zcheck_ok ok, ?_⟩
 by_cases h : checkZ s = 0
 ·rw [if_neg (np h)]
  by_cases h1 : s.1 = 1
  ·rw [lineZ_1 h h1, if_pos (decide_eq_true h1)]
   have hll := lineL_small ok.m
   refine ⟨_, sline_ok ok.m, by rw [size_bstr, size_bstr]; simp only [List.length_cons, List.length_nil]; omega, ?_⟩
   rw [← bstr_append]; rfl
  rw [if_neg (dn h1)]
  by_cases h2 : s.1 = 2
  ·rw [lineZ_2 h h2, if_pos (decide_eq_true h2)]
   exact ⟨_, nline_ok ok.i, rfl⟩
  rw [if_neg (dn h2)]
  by_cases h4 : s.1 = 4
  ·rw [lineZ_4 h h4, if_pos (decide_eq_true h4)]
   exact ⟨_, znums_ok ok.z (sizes_zero h4 h).1, rfl⟩
  ·rw [lineZ_k h h1 h2 h4, if_neg (dn h4)]
   exact ⟨_, zword_ok _, rfl⟩
 ·rw [lineZ_no h, if_pos (nd h)]
end Go.Rel
/-! Plain laws: the step of a line. -/
namespace Go.Rel
open Go Go.Eng Go.Pl
def noS : Stp := (0, zM, noI, [])
def kindZ (w : List Int) : Int := if w = sendZ then 1 else if w = allZ then 3 else if w = chunkZ then 4 else if w = stateZ then 5 else if w = tallyZ then 6 else 0
def restZ : List (List Int) → List Int
 | [] => []
 | u :: us => u ++ us.flatMap fun w => 32 :: w
def parseZ (l : List Int) : Stp × Int := match splitL 32 l with
 | [] => (noS, 9)
 | w :: ws =>
  if kindZ w = 1 then (if (parseS (restZ ws)).2 = 0 then ((1, (parseS (restZ ws)).1, noI, []), 0) else (noS, (parseS (restZ ws)).2))
  else if kindZ w = 4 then (if (numsR ws []).2 = 0 then (if sizesE (numsR ws []).1 = 0 then ((4, zM, noI, (numsR ws []).1), 0) else (noS, sizesE (numsR ws []).1)) else (noS, (numsR ws []).2))
  else if kindZ w = 0 then (if (noiseB l).2 = 0 then ((2, zM, (noiseB l).1, []), 0) else (noS, (noiseB l).2))
  else (if ws = [] then ((kindZ w, zM, noI, []), 0) else (noS, 3))
theorem oct_wordZ (k : Int) : Oct (wordZ k) := by unfold wordZ; repeat' (first | decide | split)
theorem kindZ_rng (w : List Int) : kindZ w = 0 ∨ kindZ w = 1 ∨ kindZ w = 3 ∨ kindZ w = 4 ∨ kindZ w = 5 ∨ kindZ w = 6 := by
 unfold kindZ; repeat' split
 all_goals simp
theorem zk_step {P : List ByteArray} {w : List Int} {n : Int} (k : Nat) (h1 : 1 ≤ k) (h6 : k ≤ 6) (hx : P[0]? = some (bstr w)) (ho : Oct w) : script_parse_l5 P ((k : Int), n) (.inl (((k + 1 : Nat) : Int), if wordZ (k : Int) = w ∧ wordZ (k : Int) ≠ [] then (k : Int) else n)) := by
 unfold script_parse_l5
 simp only
 rw [if_pos (by rw [decide_eq_true_eq]; omega)]
 refine ⟨_, zword_ok (k : Int), ?_⟩
 rw [bs_nil]
 unfold script_parse_j7 script_parse_j6
 simp only
 rw [w_small (by omega) (by omega)]
 by_cases hn : wordZ (k : Int) = []
 ·rw [if_neg (np hn), if_neg (by decide), if_neg (fun h => h.2 hn)]; rfl
 ·rw [if_pos (nd hn)]
  refine ⟨_, idx_at (k := 0) rfl hx, ?_⟩
  by_cases h : wordZ (k : Int) = w
  ·rw [if_pos (by rw [h]; simp), if_pos ⟨h, hn⟩]; rfl
  ·rw [if_neg (bstr_ne (oct_wordZ _) ho h), if_neg (fun q => h q.1)]; rfl
theorem zk_run {P : List ByteArray} {w : List Int} (hx : P[0]? = some (bstr w)) (ho : Oct w) : Loops (script_parse_l5 P) (1, 0) (kindZ w) := by
 have e : kindZ w = (if wordZ ((6 : Nat) : Int) = w ∧ wordZ ((6 : Nat) : Int) ≠ [] then ((6 : Nat) : Int) else if wordZ ((5 : Nat) : Int) = w ∧ wordZ ((5 : Nat) : Int) ≠ [] then ((5 : Nat) : Int) else if wordZ ((4 : Nat) : Int) = w ∧ wordZ ((4 : Nat) : Int) ≠ [] then ((4 : Nat) : Int) else if wordZ ((3 : Nat) : Int) = w ∧ wordZ ((3 : Nat) : Int) ≠ [] then ((3 : Nat) : Int) else if wordZ ((2 : Nat) : Int) = w ∧ wordZ ((2 : Nat) : Int) ≠ [] then ((2 : Nat) : Int) else if wordZ ((1 : Nat) : Int) = w ∧ wordZ ((1 : Nat) : Int) ≠ [] then ((1 : Nat) : Int) else 0) := by
  have c6 : wordZ ((6 : Nat) : Int) = tallyZ := rfl
  have c5 : wordZ ((5 : Nat) : Int) = stateZ := rfl
  have c4 : wordZ ((4 : Nat) : Int) = chunkZ := rfl
  have c3 : wordZ ((3 : Nat) : Int) = allZ := rfl
  have c2 : wordZ ((2 : Nat) : Int) = [] := rfl
  have c1 : wordZ ((1 : Nat) : Int) = sendZ := rfl
  rw [c6, c5, c4, c3, c2, c1]
  unfold kindZ
  by_cases h1 : w = sendZ
  ·subst h1; decide
  by_cases h3 : w = allZ
  ·subst h3; decide
  by_cases h4 : w = chunkZ
  ·subst h4; decide
  by_cases h5 : w = stateZ
  ·subst h5; decide
  by_cases h6 : w = tallyZ
  ·subst h6; decide
  rw [if_neg h1, if_neg h3, if_neg h4, if_neg h5, if_neg h6, if_neg (fun q => h6 q.1.symm), if_neg (fun q => h5 q.1.symm), if_neg (fun q => h4 q.1.symm), if_neg (fun q => h3 q.1.symm), if_neg (fun q => q.2 rfl), if_neg (fun q => h1 q.1.symm)]
 rw [e]
 refine .next (zk_step 1 (by decide) (by decide) hx ho) (.next (zk_step 2 (by decide) (by decide) hx ho) (.next (zk_step 3 (by decide) (by decide) hx ho) (.next (zk_step 4 (by decide) (by decide) hx ho) (.next (zk_step 5 (by decide) (by decide) hx ho) (.next (zk_step 6 (by decide) (by decide) hx ho) (.done ?_))))))
 unfold script_parse_l5
 rw [if_neg (by simp)]
theorem zchunk_run {P : List (List Int)} (hP : ∀ w ∈ P, w.length < 1000000 ∧ Oct w) (hl : P.length < 1000000) : ∀ (ws pre : List (List Int)) (acc : List Int), P = pre ++ ws → acc.length ≤ pre.length → ∃ e, Loops (script_chunk_l2 (P.map bstr)) ((pre.length : Int), acc) e ∧ (((numsR ws acc).2 = 0 ∧ e = .inl (numsR ws acc).1) ∨ ((numsR ws acc).2 ≠ 0 ∧ ∃ x, e = .inr (x, (numsR ws acc).2)))
 | [], pre, acc, h, hc => by
  refine ⟨_, .done ?_, .inl ⟨rfl, rfl⟩⟩
  unfold script_chunk_l2
  rw [if_neg (by rw [List.length_map, h]; simp)]
  rfl
 | w :: ws, pre, acc, h, hc => by
  have hlen : P.length = pre.length + ws.length + 1 := by rw [h]; simp; omega
  obtain ⟨h1, h2⟩ := hP w (by rw [h]; simp)
  have hx : idx (P.map bstr) (pre.length : Int) (bstr w) := idx_at rfl (by rw [h]; simp)
  unfold numsR
  by_cases hr : (rdB w).2 = 0
  ·rw [if_pos hr]
   obtain ⟨e, ih, g⟩ := zchunk_run hP hl ws (pre ++ [w]) (acc ++ [(rdB w).1]) (by rw [h]; simp) (by simp; omega)
   refine ⟨e, .next (s' := (((pre ++ [w]).length : Int), acc ++ [(rdB w).1])) ?_ ih, g⟩
   unfold script_chunk_l2
   rw [if_pos (by rw [List.length_map, decide_eq_true_eq]; simp only; omega)]
   refine ⟨_, hx, _, sread_ok (by omega) h2, ?_⟩
   rw [if_neg (by simp [hr])]
   simp only [List.length_singleton]
   refine ⟨by omega, by omega, ?_⟩
   rw [w_small (by omega) (by omega)]; simp
  ·rw [if_neg hr]
   refine ⟨.inr ((4, (0, [0, 0, 0, 0, 0, 0], [], [], (bstr []), (bstr [])), (0, 0, 0, 0, []), acc), (rdB w).2), .done ?_, .inr ⟨hr, _, rfl⟩⟩
   unfold script_chunk_l2
   rw [if_pos (by rw [List.length_map, decide_eq_true_eq]; simp only; omega)]
   refine ⟨_, hx, _, sread_ok (by omega) h2, ?_⟩
   rw [if_pos (by simpa using hr)]
theorem numsR_cnt : ∀ (ws : List (List Int)) (acc : List Int), (numsR ws acc).1.length ≤ acc.length + ws.length := numsR_len
theorem numsR_int {ws : List (List Int)} (h : (numsR ws []).2 = 0) : ∀ n ∈ (numsR ws []).1, IntOk .i64 n := by
 obtain ⟨ns, h1, _, h3⟩ := numsR_back h
 rw [h1, List.nil_append]; exact h3
theorem noI_ok : ItOk noI := ⟨by decide, by decide, by decide, by decide, by decide, by decide⟩
theorem sz_ok {ns : List Int} (h : ∀ n ∈ ns, IntOk .i64 n) (hl : ns.length ≤ 1000) : StpOk (4, zM, noI, ns) := ⟨zM_ok, noI_ok, h, hl⟩
theorem zcheck4_ok {ns : List Int} (hl : ns.length < 4611686018427387904) : script_Check (4, zM, noI, ns) (sizesE ns) := by
 unfold script_Check
 rw [if_neg (by simp), if_neg (by simp), if_pos (by simp)]
 unfold sizesE
 by_cases h16 : 16 < ns.length
 ·rw [if_pos (by rw [decide_eq_true_eq]; simp only; omega), if_pos h16]
 ·rw [if_neg (by rw [decide_eq_true_eq]; simp only; omega), if_neg h16]
  refine ⟨_, contains_ok (by simpa using hl), ?_⟩
  simp only
  cases ns.any bigN with
  | true => rw [if_pos rfl, if_pos rfl]
  | false => rw [if_neg (by decide), if_neg (by decide)]; rfl
theorem rzcheck4_ok {ns : List Int} (hl : ns.length < 4611686018427387904) : ref27_Check (ofZ (4, zM, noI, ns)) (sizesE ns) := by
 unfold ref27_Check
 rw [if_neg (by simp)]
 unfold ref27_Check_j1
 rw [if_neg (by simp), if_neg (by simp), if_neg (by simp)]
 unfold ref27_Check_j2
 rw [if_neg (by simp), if_pos (by simp)]
 unfold ref27_Check_j3 sizesE
 by_cases h16 : 16 < ns.length
 ·rw [if_pos (by rw [decide_eq_true_eq]; simp only; omega), if_pos h16]
 ·rw [if_neg (by rw [decide_eq_true_eq]; simp only; omega), if_neg h16]
  refine ⟨_, rsizes_ok hl rfl, ?_⟩
  show Aft _ _ (if ns.any bigN = true then _ else _)
  cases ns.any bigN with
  | true => rw [if_pos rfl, if_pos rfl]; rfl
  | false => rw [if_neg (by decide), if_neg (by decide)]; rfl
theorem zchunk_ok {ws : List (List Int)} (hP : ∀ w ∈ ws, w.length < 1000000 ∧ Oct w) (hl : ws.length < 1000000) : ∃ x e, script_chunk (ws.map bstr) (x, e) ∧ (if (numsR ws []).2 = 0 then e = sizesE (numsR ws []).1 ∧ x = (4, zM, noI, (numsR ws []).1) else e = (numsR ws []).2) := by
 obtain ⟨e, h1, h2⟩ := zchunk_run hP (by omega) ws [] [] rfl (Nat.le_refl _)
 have hc := numsR_cnt ws []
 rcases h2 with ⟨h, rfl⟩ | ⟨h, x, rfl⟩
 ·refine ⟨(4, zM, noI, (numsR ws []).1), sizesE (numsR ws []).1, ⟨_, h1, ?_⟩, by rw [if_pos h]; exact ⟨rfl, rfl⟩⟩
  exact ⟨_, zcheck4_ok (by simp only [List.length_nil] at hc; omega), rfl⟩
 ·exact ⟨x, (numsR ws []).2, ⟨_, h1, rfl⟩, by rw [if_neg h]⟩
theorem rzchunk_run {P : List (List Int)} (hP : ∀ w ∈ P, w.length < 1000000 ∧ Oct w) (hl : P.length < 1000000) : ∀ (ws pre : List (List Int)) (acc : List Int), P = pre ++ ws → acc.length ≤ pre.length → Loops (ref27_Parse_l4 (P.map bstr)) ((pre.length : Int), acc) (if (numsR ws acc).2 = 0 then .inl (numsR ws acc).1 else .inr (ofZ noS, (numsR ws acc).2))
 | [], pre, acc, h, hc => by
  refine .done ?_
  unfold ref27_Parse_l4
  rw [if_neg (by rw [List.length_map, h]; simp)]
  simp [numsR]
 | w :: ws, pre, acc, h, hc => by
  have hlen : P.length = pre.length + ws.length + 1 := by rw [h]; simp; omega
  obtain ⟨h1, h2⟩ := hP w (by rw [h]; simp)
  have hx : idx (P.map bstr) (pre.length : Int) (bstr w) := idx_at rfl (by rw [h]; simp)
  unfold numsR
  by_cases hr : (rdB w).2 = 0
  ·rw [if_pos hr]
   have ih := rzchunk_run hP hl ws (pre ++ [w]) (acc ++ [(rdB w).1]) (by rw [h]; simp) (by simp; omega)
   refine .next (s' := (((pre ++ [w]).length : Int), acc ++ [(rdB w).1])) ?_ ih
   unfold ref27_Parse_l4
   rw [if_pos (by rw [List.length_map, decide_eq_true_eq]; simp only; omega)]
   refine ⟨_, hx, _, rread_ok (by omega) h2, ?_⟩
   rw [if_neg (by simp [hr])]
   simp only [List.length_singleton]
   refine ⟨by omega, by omega, ?_⟩
   rw [w_small (by omega) (by omega)]; simp
  ·rw [if_neg hr, if_neg hr]
   refine .done ?_
   unfold ref27_Parse_l4
   rw [if_pos (by rw [List.length_map, decide_eq_true_eq]; simp only; omega)]
   refine ⟨_, hx, _, rread_ok (by omega) h2, ?_⟩
   rw [if_pos (by simpa using hr)]; rfl
theorem parseS_six {l : List Int} (hl : l.length < 100000) (ho : Oct l) : (parseS l).1.2.1.length = 6 := by
 have hsub := @spl_sub 32 l
 unfold parseS
 split
 ·rfl
 ·rename_i w0 ws hq
  rw [hq] at hsub
  have hs : ∀ w ∈ w0 :: ws, w.length < 100000 ∧ Oct w := fun w hm => by
   have := hsub w hm
   exact ⟨by omega, fun x hx => ho x (this.2 x hx)⟩
  split
  ·rfl
  ·obtain ⟨t, _, g2⟩ := prog_run (fieldsB (kindW w0)) ws (kM (kindW w0)) rfl (fun w hm => hs w (List.mem_cons_of_mem _ hm)) (fields_fd _)
   rcases g2 with ⟨ws', m', k1, _, k3⟩ | ⟨e, x, m', k1, _⟩
   ·rw [k1]
    simp only
    split
    ·rfl
    ·split
     ·exact k3
     ·rfl
   ·rw [k1]; rfl
theorem zj3_msg {m : Mg} (h : m.2.1.length = 6) (e : Int) : script_parse_j3 (e, 1, m.1, (m.2.1.getD 0 0), (m.2.1.getD 1 0), (m.2.1.getD 2 0), (m.2.1.getD 3 0), (m.2.1.getD 4 0), (m.2.1.getD 5 0), m.2.2.1, m.2.2.2.1, m.2.2.2.2.1, m.2.2.2.2.2, 0, 0, 0, 0, []) ((1, m, noI, []), e) := by
 unfold script_parse_j3
 simp only
 rw [readB_six h]; rfl
theorem rest_of {w : List Int} {ws : List (List Int)} {l : List Int} (h : splitL 32 l = w :: ws) : (ws = [] ∧ l = w ∧ (32 : Int) ∉ w) ∨ (ws ≠ [] ∧ l = w ++ 32 :: restZ ws ∧ (32 : Int) ∉ w) := by
 have hj := spl_join h
 have hn := spl_no 32 l w (by rw [h]; exact List.mem_cons_self)
 cases ws with
 | nil => exact .inl ⟨rfl, by simpa using hj, hn⟩
 | cons u us =>
  refine .inr ⟨by simp, ?_, hn⟩
  rw [hj]; simp [restZ]
theorem zcut_ok {w : List Int} {ws : List (List Int)} {l : List Int} (h : splitL 32 l = w :: ws) (hl : l.length < 1000000) (ho : Oct l) : ∃ p b, strings_Cut (bstr l) (bstr [32]) (p, bstr (restZ ws), b) := by
 rcases rest_of h with ⟨rfl, rfl, hn⟩ | ⟨_, rfl, hn⟩
 ·exact ⟨_, _, scut_no (by decide) ho hn⟩
 ·exact ⟨_, _, scut_at (by decide) (by omega) ho hn⟩
theorem rest_len {w : List Int} {ws : List (List Int)} {l : List Int} (h : splitL 32 l = w :: ws) (ho : Oct l) : (restZ ws).length ≤ l.length ∧ Oct (restZ ws) := by
 rcases rest_of h with ⟨rfl, rfl, hn⟩ | ⟨_, rfl, hn⟩
 ·exact ⟨by simp [restZ], fun x hx => by simp [restZ] at hx⟩
 ·exact ⟨by simp; omega, fun x hx => ho x (by simp [hx])⟩
theorem zparse_ok {l : List Int} (hl : l.length < 100000) (ho : Oct l) : script_Parse (bstr l) (parseZ l) := by
  have hlen := spl_len 32 l
  have hne := splitL_ne 32 l
  have hg := gatherS (B := script_parse_l1) (fun x s hs => by
    unfold script_parse_l1
    simp only [List.length_singleton]
    exact ⟨by omega, by omega, trivial⟩) (splitL 32 l) 0 [] (by simp only [List.length_nil]; omega)
  rw [List.nil_append] at hg
  have hsub := @spl_sub 32 l
  have key : ∀ x e, script_parse (bstr l) (x, e) → (parseZ l).2 = e → (e = 0 → x = (parseZ l).1) → (e ≠ 0 → (parseZ l).1 = noS) → script_Parse (bstr l) (parseZ l) := by
    intro x e h1 h2 h3 h4
    refine ⟨_, h1, ?_⟩
    by_cases h : e = 0
    · rw [if_neg (np h), h3 h]
      exact Prod.ext rfl (by rw [h2, h])
    · rw [if_pos (nd h)]
      exact Prod.ext (by rw [h4 h]; rfl) h2
  cases hq : splitL 32 l with
  | nil => exact absurd hq hne
  | cons w ws =>
    rw [hq] at hsub hlen hg
    have hs : ∀ u ∈ w :: ws, u.length < 1000000 ∧ Oct u := fun u hm => by
      have := hsub u hm
      exact ⟨by omega, fun x hx => ho x (this.2 x hx)⟩
    simp only [List.length_cons] at hlen
    obtain ⟨hrl, hro⟩ := rest_len hq ho
    have go : ∀ x e, script_parse_j2 (bstr l) ((w :: ws).map bstr) (kindZ w) (x, e) → script_parse (bstr l) (x, e) := fun x e h =>
      ⟨_, words_ok _, .inl ((w :: ws).map bstr), (), words_itr (by omega) ho _ _ _ _ (run_yof (by rw [hq]; exact hg)), ⟨_, zk_run rfl (hs w (by simp)).2, h⟩⟩
    have hpz : parseZ l = if kindZ w = 1 then (if (parseS (restZ ws)).2 = 0 then ((1, (parseS (restZ ws)).1, noI, []), 0) else (noS, (parseS (restZ ws)).2))
        else if kindZ w = 4 then (if (numsR ws []).2 = 0 then (if sizesE (numsR ws []).1 = 0 then ((4, zM, noI, (numsR ws []).1), 0) else (noS, sizesE (numsR ws []).1)) else (noS, (numsR ws []).2))
        else if kindZ w = 0 then (if (noiseB l).2 = 0 then ((2, zM, (noiseB l).1, []), 0) else (noS, (noiseB l).2))
        else (if ws = [] then ((kindZ w, zM, noI, []), 0) else (noS, 3)) := by unfold parseZ; rw [hq]
    by_cases h1 : kindZ w = 1
    · rw [if_pos h1] at hpz
      obtain ⟨p, b, hc⟩ := zcut_ok hq (by omega) ho
      refine key (1, (parseS (restZ ws)).1, noI, []) (parseS (restZ ws)).2 (go _ _ ?_) ?_ ?_ ?_
      · rw [h1]
        unfold script_parse_j2
        rw [if_pos (by decide)]
        exact ⟨_, hc, _, sparse_ok (by omega) hro, zj3_msg (parseS_six (by omega) hro) _⟩
      · rw [hpz]; split <;> simp_all
      · intro h; rw [hpz, if_pos h]
      · intro h; rw [hpz, if_neg h]
    rw [if_neg h1] at hpz
    by_cases h4 : kindZ w = 4
    · rw [if_pos h4] at hpz
      obtain ⟨x, e, g1, g2⟩ := zchunk_ok (ws := ws) (fun u hu => hs u (List.mem_cons_of_mem _ hu)) (by omega)
      refine key x e (go _ _ ?_) ?_ ?_ ?_
      · rw [h4]
        unfold script_parse_j2
        rw [if_neg (by decide), if_pos (by decide)]
        refine ⟨by simp; omega, by omega, (x, e), ?_, rfl⟩
        have e1 : ((((w :: ws).map bstr).drop (1 : Int).toNat).take (((((w :: ws).map bstr).length : Int) : Int) - 1).toNat) = ws.map bstr := by
          rw [List.map_cons, List.length_cons, List.length_map, show (1 : Int).toNat = 1 from rfl, List.drop_succ_cons, List.drop_zero]
          exact List.take_of_length_le (by simp)
        rw [e1]; exact g1
      · by_cases h : (numsR ws []).2 = 0
        · rw [if_pos h] at hpz g2
          rw [hpz, g2.1]; split <;> simp_all
        · rw [if_neg h] at hpz g2
          rw [hpz, g2]
      · intro he
        by_cases h : (numsR ws []).2 = 0
        · rw [if_pos h] at hpz g2
          rw [hpz, if_pos (by rw [← g2.1]; exact he), g2.2]
        · rw [if_neg h] at g2
          exact absurd (by rw [← g2]; exact he) h
      · intro he
        by_cases h : (numsR ws []).2 = 0
        · rw [if_pos h] at hpz g2
          rw [hpz, if_neg (by rw [← g2.1]; exact he)]
        · rw [if_neg h] at hpz; rw [hpz]
    rw [if_neg h4] at hpz
    by_cases h0 : kindZ w = 0
    · rw [if_pos h0] at hpz
      refine key (2, zM, (noiseB l).1, []) (noiseB l).2 (go _ _ ?_) ?_ ?_ ?_
      · rw [h0]
        unfold script_parse_j2
        rw [if_neg (by decide), if_neg (by decide), if_neg (by decide), if_neg (by decide)]
        unfold script_parse_j4
        rw [if_neg (by decide)]
        exact ⟨_, nparse_ok (by omega) ho, rfl⟩
      · rw [hpz]; split <;> simp_all
      · intro h; rw [hpz, if_pos h]
      · intro h; rw [hpz, if_neg h]
    rw [if_neg h0] at hpz
    have hk : kindZ w = 3 ∨ kindZ w = 5 ∨ kindZ w = 6 := by
      rcases kindZ_rng w with h | h | h | h | h | h
      · exact absurd h h0
      · exact absurd h h1
      · exact .inl h
      · exact absurd h h4
      · exact .inr (.inl h)
      · exact .inr (.inr h)
    have j4 : script_parse_j4 (bstr l) ((w :: ws).map bstr) (kindZ w) true ((kindZ w, zM, noI, []), if ws = [] then 0 else 3) := by
      unfold script_parse_j4
      rw [if_pos rfl]
      by_cases hw : ws = []
      · subst hw
        rw [if_neg (by simp), if_pos rfl]; rfl
      · have := List.length_pos_iff.2 hw
        rw [if_pos (by rw [decide_eq_true_eq, List.length_map, List.length_cons]; omega), if_neg hw]; rfl
    refine key (kindZ w, zM, noI, []) (if ws = [] then 0 else 3) (go _ _ ?_) ?_ ?_ ?_
    · unfold script_parse_j2
      rw [if_neg (dn h1), if_neg (dn h4)]
      rcases hk with h | h | h
      · rw [if_pos (decide_eq_true h), decide_eq_true h]; exact j4
      · rw [if_neg (dn (by omega)), if_pos (decide_eq_true h), decide_eq_true h]; exact j4
      · rw [if_neg (dn (by omega)), if_neg (dn (by omega)), decide_eq_true h]; exact j4
    · rw [hpz]; split <;> rfl
    · intro h
      by_cases hw : ws = []
      · rw [hpz, if_pos hw]
      · rw [if_neg hw] at h; exact absurd h (by decide)
    · intro h
      by_cases hw : ws = []
      · rw [if_pos hw] at h; exact absurd rfl h
      · rw [hpz, if_neg hw]
theorem rzparse_ok {l : List Int} (hl : l.length < 100000) (ho : Oct l) : ref27_Parse (bstr l) (ofZ (parseZ l).1, (parseZ l).2) := by
  have hlen := spl_len 32 l
  have hne := splitL_ne 32 l
  have hsub := @spl_sub 32 l
  refine ⟨_, rsplit_ok (c := 32) (by omega) ho, ?_⟩
  cases hq : splitL 32 l with
  | nil => exact absurd hq hne
  | cons w ws =>
    rw [hq] at hsub hlen
    have hs : ∀ u ∈ w :: ws, u.length < 1000000 ∧ Oct u := fun u hm => by
      have := hsub u hm
      exact ⟨by omega, fun x hx => ho x (this.2 x hx)⟩
    simp only [List.length_cons] at hlen
    obtain ⟨hrl, hro⟩ := rest_len hq ho
    have how := (hs w (by simp)).2
    have hpz : parseZ l = if kindZ w = 1 then (if (parseS (restZ ws)).2 = 0 then ((1, (parseS (restZ ws)).1, noI, []), 0) else (noS, (parseS (restZ ws)).2))
        else if kindZ w = 4 then (if (numsR ws []).2 = 0 then (if sizesE (numsR ws []).1 = 0 then ((4, zM, noI, (numsR ws []).1), 0) else (noS, sizesE (numsR ws []).1)) else (noS, (numsR ws []).2))
        else if kindZ w = 0 then (if (noiseB l).2 = 0 then ((2, zM, (noiseB l).1, []), 0) else (noS, (noiseB l).2))
        else (if ws = [] then ((kindZ w, zM, noI, []), 0) else (noS, 3)) := by unfold parseZ; rw [hq]
    refine ⟨bstr w, idx_at (k := 0) rfl rfl, ?_⟩
    have dec : ∀ v : List Int, Oct v → decide (bstr w = bstr v) = decide (w = v) := fun v hv => by
      by_cases h : w = v
      · rw [h]; simp
      · have := bstr_ne how hv h
        rw [decide_eq_false h]; simpa using this
    rw [show bstr [115, 101, 110, 100] = bstr sendZ from rfl, show bstr [97, 108, 108] = bstr allZ from rfl, show bstr [115, 116, 97, 116, 101] = bstr stateZ from rfl, show bstr [116, 97, 108, 108, 121] = bstr tallyZ from rfl, dec sendZ (by decide), dec allZ (by decide), dec stateZ (by decide), dec tallyZ (by decide)]
    by_cases h1 : w = sendZ
    · have hk : kindZ w = 1 := by rw [h1]; decide
      rw [if_pos hk] at hpz
      rw [if_pos (decide_eq_true h1)]
      have j1 : ref27_Parse_j1 (bstr (restZ ws)) (ofZ (parseZ l).1, (parseZ l).2) := by
        refine ⟨_, rsparse_ok (by omega) hro, ?_⟩
        by_cases h : (parseS (restZ ws)).2 = 0
        · rw [if_neg (np h), hpz, if_pos h]; rfl
        · rw [if_pos (nd h), hpz, if_neg h]; rfl
      rcases rest_of hq with ⟨rfl, e, _⟩ | ⟨hw, e, _⟩
      · rw [if_neg (by simp)]; exact j1
      · have := List.length_pos_iff.2 hw
        have e5 : (bstr l).extract (5 : Int).toNat (bstr l).size = bstr (restZ ws) := by
          rw [ext_bstr, size_bstr, List.take_length, e, h1]; rfl
        rw [if_pos (by rw [decide_eq_true_eq, List.length_map, List.length_cons]; omega), e5]
        refine ⟨?_, j1⟩
        rw [size_bstr, e, h1]
        simp only [sendZ, List.length_append, List.length_cons, List.length_nil]; omega
    rw [if_neg (dn h1)]
    -- one word
    have one : kindZ w = 3 ∨ kindZ w = 5 ∨ kindZ w = 6 → ref27_Parse_j2 (bstr l) ((w :: ws).map bstr) (bstr w) true (ofZ (parseZ l).1, (parseZ l).2) := by
      intro hk
      rw [if_neg (by omega), if_neg (by omega), if_neg (by omega)] at hpz
      unfold ref27_Parse_j2
      rw [if_pos rfl]
      by_cases hw : ws = []
      · rw [if_pos hw] at hpz
        subst hw
        rw [if_neg (by simp)]
        refine ⟨bstr w, idx_at (k := 0) rfl rfl, ?_⟩
        rw [show bstr [97, 108, 108] = bstr allZ from rfl, show bstr [115, 116, 97, 116, 101] = bstr stateZ from rfl, dec allZ (by decide), hpz]
        by_cases h3 : w = allZ
        · rw [if_pos (decide_eq_true h3), h3]; rfl
        rw [if_neg (dn h3)]
        refine ⟨bstr w, idx_at (k := 0) rfl rfl, ?_⟩
        rw [dec stateZ (by decide)]
        by_cases h5 : w = stateZ
        · rw [if_pos (decide_eq_true h5), h5]; rfl
        rw [if_neg (dn h5)]
        have h6 : kindZ w = 6 := by
          unfold kindZ at hk ⊢
          rw [if_neg h1, if_neg h3, if_neg h5] at hk ⊢
          by_cases h4 : w = chunkZ
          · rw [if_pos h4] at hk; omega
          · rw [if_neg h4] at hk ⊢
            by_cases h6 : w = tallyZ
            · rw [if_pos h6]
            · rw [if_neg h6] at hk; omega
        rw [h6]; rfl
      · have := List.length_pos_iff.2 hw
        rw [if_neg hw] at hpz
        rw [if_pos (by rw [decide_eq_true_eq, List.length_map, List.length_cons]; omega), hpz]; rfl
    by_cases h3 : w = allZ
    · rw [if_pos (decide_eq_true h3), decide_eq_true h3]; exact one (.inl (by rw [h3]; decide))
    rw [if_neg (dn h3)]
    by_cases h5 : w = stateZ
    · rw [if_pos (decide_eq_true h5), decide_eq_true h5]; exact one (.inr (.inl (by rw [h5]; decide)))
    rw [if_neg (dn h5)]
    by_cases h6 : w = tallyZ
    · rw [decide_eq_true h6]; exact one (.inr (.inr (by rw [h6]; decide)))
    rw [decide_eq_false h6]
    unfold ref27_Parse_j2
    rw [if_neg (by decide), show bstr [99, 104, 117, 110, 107] = bstr chunkZ from rfl, dec chunkZ (by decide)]
    by_cases h4 : w = chunkZ
    · have hk : kindZ w = 4 := by rw [h4]; decide
      rw [if_neg (by omega), if_pos hk] at hpz
      rw [if_pos (decide_eq_true h4)]
      refine ⟨_, rzchunk_run (P := w :: ws) hs (by simp; omega) ws [w] [] rfl (by simp), ?_⟩
      by_cases h : (numsR ws []).2 = 0
      · rw [if_pos h] at hpz ⊢
        have hc := numsR_cnt ws []
        have hz := rzcheck4_ok (ns := (numsR ws []).1) (by simp only [List.length_nil] at hc; omega)
        show ref27_Parse_j3 _ _
        refine ⟨_, hz, ?_⟩
        by_cases he : sizesE (numsR ws []).1 = 0
        · rw [if_neg (np he), hpz, if_pos he]; rfl
        · rw [if_pos (nd he), hpz, if_neg he]
          exact ⟨_, hz, rfl⟩
      · rw [if_neg h] at hpz ⊢
        show _ = _
        rw [hpz]
    rw [if_neg (dn h4)]
    have hk : kindZ w = 0 := by unfold kindZ; rw [if_neg h1, if_neg h3, if_neg h4, if_neg h5, if_neg h6]
    rw [if_neg (by omega), if_neg (by omega), if_pos hk] at hpz
    refine ⟨_, rnparse_ok (by omega) ho, ?_⟩
    by_cases h : (noiseB l).2 = 0
    · rw [if_neg (np h), hpz, if_pos h]; rfl
    · rw [if_pos (nd h), hpz, if_neg h]; rfl
end Go.Rel
/-! Plain laws: rooms on the wire. -/
namespace Go.Rel
open Go Go.Eng Go.Pl
end Go.Rel
/-! Plain laws: settings. -/
namespace Go.Rel
open Go Go.Eng Go.Pl
def linkL : List Int := [108, 105, 110, 107]
def sndB (s : Int × Int × Int) : Int := if s.1 ≠ 1 ∧ s.1 ≠ 2 then 10 else if s.2.1 < 16 ∨ 257 < s.2.1 then 5 else 0
def rcvB (r : Int × Int) : Int := if r.2 < 1 ∨ 16 < r.2 then 5 else 0
theorem csnd_ok (s : Int × Int × Int) : conf_CheckSender s (sndB s) := by
 unfold conf_CheckSender conf_CheckSender_j1 conf_CheckSender_j2 sndB
 by_cases h1 : s.1 = 1 <;> by_cases h2 : s.1 = 2 <;> by_cases h3 : s.2.1 < 16 <;> by_cases h4 : 257 < s.2.1 <;> simp [h1, h2, h3, h4] <;> omega
theorem rsnd_ok (s : Int × Int × Int) : ref21_Sender s (sndB s) := by
 unfold ref21_Sender ref21_Sender_j1 ref21_Sender_j2 sndB
 by_cases h1 : s.1 = 1 <;> by_cases h2 : s.1 = 2 <;> by_cases h3 : s.2.1 < 16 <;> by_cases h4 : 257 < s.2.1 <;> simp [h1, h2, h3, h4] <;> omega
theorem crcv_ok (r : Int × Int) : conf_CheckReceiver r (rcvB r) := by
 unfold conf_CheckReceiver conf_CheckReceiver_j1 rcvB
 by_cases h3 : r.2 < 1 <;> by_cases h4 : 16 < r.2 <;> simp [h3, h4]
theorem rrcv_ok (r : Int × Int) : ref21_Receiver r (rcvB r) := by
 unfold ref21_Receiver ref21_Receiver_j1 rcvB
 by_cases h3 : r.2 < 1 <;> by_cases h4 : 16 < r.2 <;> simp [h3, h4]
/-! ### Lines -/
def numsC (s : Int × Int × Int) (r : Int × Int) : List Int := [s.1, s.2.1, s.2.2, r.1, r.2]
def lineC (s : Int × Int × Int) (r : Int × Int) : List Int := linkL ++ (numsC s r).flatMap fun n => 32 :: decI n
structure SOk (s : Int × Int × Int) (r : Int × Int) : Prop where
 v : IntOk .i64 s.1
 m : IntOk .i64 s.2.1
 a : 0 ≤ s.2.2 ∧ s.2.2 ≤ 4294967295
 b : 0 ≤ r.1 ∧ r.1 ≤ 4294967295
 n : IntOk .i64 r.2
theorem i64_of {n : Int} (h : 0 ≤ n ∧ n ≤ 4294967295) : IntOk .i64 n := ⟨by show (-9223372036854775808 : Int) ≤ n; omega, by show n ≤ 9223372036854775807; omega⟩
theorem SOk.all {s : Int × Int × Int} {r : Int × Int} (h : SOk s r) : ∀ n ∈ numsC s r, IntOk .i64 n := by
 intro n hn
 simp only [numsC, List.mem_cons, List.not_mem_nil, or_false] at hn
 rcases hn with rfl | rfl | rfl | rfl | rfl
 ·exact h.v
 ·exact h.m
 ·exact i64_of h.a
 ·exact i64_of h.b
 ·exact h.n
theorem cline_loop {a0 : Int × Int × Int} {a1 : Int × Int} (ns : List Int) (hl : ns.length = 5) (hns : [a0.1, a0.2.1, (IntKind.i64.wrap a0.2.2), (IntKind.i64.wrap a1.1), a1.2] = ns) (hok : ∀ n ∈ ns, IntOk .i64 n) : ∀ (rest pre acc : List Int), ns = pre ++ rest → acc.length + 22 * rest.length < 1000 →
    Loops (conf_Line_l3 a0 a1) (bstr acc, (pre.length : Int)) (bstr (acc ++ rest.flatMap fun n => 32 :: decI n))
  | [], pre, acc, h, _ => by
    refine .done ?_
    unfold conf_Line_l3
    simp only
    rw [if_neg (by have := congrArg List.length h; rw [List.append_nil] at this; rw [decide_eq_true_eq]; omega), List.flatMap_nil, List.append_nil]
  | n :: rest, pre, acc, h, hb => by
    simp only [List.length_cons] at hb
    have hn : IntOk .i64 n := hok n (by rw [h]; simp)
    have hd := decI_len hn
    have hlen : pre.length + rest.length + 1 = 5 := by rw [← hl, h]; simp; omega
    have ih := cline_loop ns hl hns hok rest (pre ++ [n]) (acc ++ 32 :: decI n) (by rw [h]; simp) (by rw [List.length_append, List.length_cons]; omega)
    rw [List.flatMap_cons, ← List.append_assoc]
    refine .next ?_ ih
    unfold conf_Line_l3
    simp only
    rw [if_pos (by rw [decide_eq_true_eq]; omega), hns]
    refine ⟨by omega, by omega, bstr (decI n), ?_, ?_, ?_, ?_⟩
    · have hg : ns.getD pre.length 0 = n := by rw [h, List.getD_eq_getElem?_getD, List.getElem?_append_right (Nat.le_refl _)]; simp
      rw [Int.toNat_natCast, hg]; exact ⟨_, itoa_ok hn, rfl⟩
    · rw [size_bstr, size_bstr, List.length_singleton]; omega
    · rw [ByteArray.size_append, size_bstr, size_bstr, size_bstr, List.length_singleton]; omega
    · rw [← bstr_append, ← bstr_append, w_small (by omega) (by omega)]; simp
theorem cline_ok {s : Int × Int × Int} {r : Int × Int} (h : SOk s r) : conf_Line s r (bstr (if sndB s = 0 ∧ rcvB r = 0 then lineC s r else [])) := by
 refine ⟨_, csnd_ok s, ?_⟩
 by_cases h1 : sndB s = 0
 ·rw [if_neg (by simpa using h1)]
  refine ⟨_, crcv_ok r, ?_⟩
  unfold conf_Line_j1
  by_cases h2 : rcvB r = 0
  ·rw [if_neg (by simpa using h2), if_pos ⟨h1, h2⟩]
   have ha := h.a
   have hb := h.b
   refine ⟨_, cline_loop (numsC s r) rfl (by rw [w_small (by omega) (by omega), w_small (by omega) (by omega)]; rfl) h.all (numsC s r) [] linkL rfl (by simp [numsC, linkL]), rfl⟩
  ·rw [if_pos (by simpa using h2), if_neg (fun h => h2 h.2)]
 ·rw [if_pos (by simpa using h1), if_neg (fun h => h1 h.1)]
  unfold conf_Line_j1
  rw [if_pos rfl]
/-! ### A line is parsed -/
abbrev CR := (Int × Int × Int) × (Int × Int) × Int
def noC (e : Int) : CR := ((0, 0, 0), (0, 0), e)
def endC (a b c d e : Int) : CR := if c < 0 ∨ 4294967295 < c ∨ d < 0 ∨ 4294967295 < d then noC 5 else if sndB (a, b, c) ≠ 0 then noC (sndB (a, b, c)) else if rcvB (d, e) ≠ 0 then noC (rcvB (d, e)) else ((a, b, c), (d, e), 0)
def numsB (w1 w2 w3 w4 w5 : List Int) : CR := if (rdB w1).2 ≠ 0 then noC (rdB w1).2 else if (rdB w2).2 ≠ 0 then noC (rdB w2).2 else if (rdB w3).2 ≠ 0 then noC (rdB w3).2 else if (rdB w4).2 ≠ 0 then noC (rdB w4).2 else if (rdB w5).2 ≠ 0 then noC (rdB w5).2 else endC (rdB w1).1 (rdB w2).1 (rdB w3).1 (rdB w4).1 (rdB w5).1
def confB (l : List Int) : CR := match splitL 32 l with
 | [w0, w1, w2, w3, w4, w5] => if w0 = linkL then numsB w1 w2 w3 w4 w5 else noC 3
 | _ => noC 3
theorem gather {B : Int × ByteArray → List ByteArray → Sum (List ByteArray) Unit → Prop} (hB : ∀ x s, s.length < 1000000000 → B x s (.inl (s ++ [x.2]))) : ∀ (ws : List (List Int)) (a : Nat) (s : List ByteArray), s.length + ws.length < 1000000000 → RunB B (wrdsP a ws) s (.inl (s ++ ws.map bstr))
 | [], a, s, _ => by rw [List.map_nil, List.append_nil]; exact .nil
 | w :: ws, a, s, h => by
  simp only [List.length_cons] at h
  have ih := gather hB ws (a + w.length + 1) (s ++ [bstr w]) (by simp; omega)
  rw [List.map_cons, show s ++ bstr w :: ws.map bstr = s ++ [bstr w] ++ ws.map bstr by simp]
  exact .go (hB _ _ (by omega)) ih
section
variable {P : List ByteArray} {w : List Int} {e a b c d f a' b' c' d' f' : Int}
theorem put5_0 (v : Int) : putN 5 0 [a, b, c, d, f] 0 v = [v, b, c, d, f] := rfl
theorem put5_1 (v : Int) : putN 5 0 [a, b, c, d, f] 1 v = [a, v, c, d, f] := rfl
theorem put5_2 (v : Int) : putN 5 0 [a, b, c, d, f] 2 v = [a, b, v, d, f] := rfl
theorem put5_3 (v : Int) : putN 5 0 [a, b, c, d, f] 3 v = [a, b, c, v, f] := rfl
theorem put5_4 (v : Int) : putN 5 0 [a, b, c, d, f] 4 v = [a, b, c, d, v] := rfl
theorem cs_go (i : Nat) (hi : i < 5) (hx : P[i + 1]? = some (bstr w)) (hl : w.length < 1000000000) (ho : Oct w) (hr : (rdB w).2 = 0) (hp : putN 5 0 [a, b, c, d, f] i (rdB w).1 = [a', b', c', d', f']) : conf_Parse_l6 P (e, (i : Int), a, b, c, d, f) (.inl (0, ((i + 1 : Nat) : Int), a', b', c', d', f')) := by
 unfold conf_Parse_l6
 simp only
 rw [if_pos (by rw [decide_eq_true_eq]; omega), w_small (by omega) (by omega)]
 refine ⟨bstr w, idx_at (k := i + 1) (by omega) hx, rdB w, sread_ok hl ho, by omega, by omega, ?_⟩
 rw [if_neg (by simp [hr]), Int.toNat_natCast, hp, hr]
 rfl
theorem cs_no (i : Nat) (hi : i < 5) (hx : P[i + 1]? = some (bstr w)) (hl : w.length < 1000000000) (ho : Oct w) (hr : (rdB w).2 ≠ 0) : ∃ y, conf_Parse_l6 P (e, (i : Int), a, b, c, d, f) (.inr ((rdB w).2, y)) := by
 refine ⟨((putN 5 0 [a, b, c, d, f] (i : Int).toNat (rdB w).1).getD 0 0, (putN 5 0 [a, b, c, d, f] (i : Int).toNat (rdB w).1).getD 1 0, (putN 5 0 [a, b, c, d, f] (i : Int).toNat (rdB w).1).getD 2 0, (putN 5 0 [a, b, c, d, f] (i : Int).toNat (rdB w).1).getD 3 0, (putN 5 0 [a, b, c, d, f] (i : Int).toNat (rdB w).1).getD 4 0), ?_⟩
 unfold conf_Parse_l6
 simp only
 rw [if_pos (by rw [decide_eq_true_eq]; omega), w_small (by omega) (by omega)]
 refine ⟨bstr w, idx_at (k := i + 1) (by omega) hx, rdB w, sread_ok hl ho, by omega, by omega, ?_⟩
 rw [if_pos (by simpa using hr)]
 try rfl
theorem cj3_no {y : Int × Int × Int × Int × Int} (he : e ≠ 0) : conf_Parse_j3 (e, y) (noC e) := by
 refine ⟨_, rfl, _, rfl, ?_⟩
 simp only
 rw [if_pos (by simpa using he)]
 unfold conf_Parse_j4
 rw [if_pos (by simpa using he)]; rfl
theorem cj3_ok : conf_Parse_j3 (0, a, b, c, d, f) (endC a b c d f) := by
 refine ⟨_, rfl, _, rfl, ?_⟩
 simp only
 rw [if_neg (by decide)]
 have w1 : ∀ n : Int, IntKind.i64.wrap (IntKind.u32.wrap n) = n % 4294967296 := fun n => by rw [w_u32, w_small (by omega) (by omega)]
 simp only [w1]
 unfold endC
 have five : ∀ x y, conf_Parse_j5 (0, a, b, c, d, f) x y true (noC 5) := fun x y => by
  unfold conf_Parse_j5
  rw [if_pos rfl]
  unfold conf_Parse_j4
  rw [if_pos (by decide)]; rfl
 by_cases h1 : c < 0 ∨ 4294967295 < c
 ·rw [if_pos (by rw [decide_eq_false (by omega)]; rfl), if_pos (by omega)]
  exact five _ _
 ·rw [if_neg (by rw [decide_eq_true (by omega)]; decide)]
  by_cases h2 : d < 0 ∨ 4294967295 < d
  ·rw [decide_eq_false (show ¬ d % 4294967296 = d by omega), if_pos (by omega)]
   exact five _ _
  ·rw [decide_eq_true (show d % 4294967296 = d by omega), if_neg (by omega)]
   unfold conf_Parse_j5
   rw [if_neg (by decide)]
   simp only
   rw [show IntKind.u32.wrap c = c by rw [w_u32]; omega, show IntKind.u32.wrap d = d by rw [w_u32]; omega]
   refine ⟨_, csnd_ok _, ?_⟩
   by_cases h3 : sndB (a, b, c) = 0
   ·rw [if_pos (by simpa using h3), if_neg (by simpa using h3)]
    refine ⟨_, crcv_ok _, ?_⟩
    unfold conf_Parse_j4
    by_cases h4 : rcvB (d, f) = 0
    ·rw [if_neg (by simpa using h4), if_neg (by simpa using h4)]
    ·rw [if_pos (by simpa using h4), if_pos (by simpa using h4)]; rfl
   ·rw [if_neg (by simpa using h3), if_pos (by simpa using h3)]
    unfold conf_Parse_j4
    rw [if_pos (by simpa using h3)]; rfl
theorem cs_end : conf_Parse_l6 P (e, ((5 : Nat) : Int), a, b, c, d, f) (.inr (e, a, b, c, d, f)) := by
 unfold conf_Parse_l6
 rw [if_neg (by simp)]
theorem rs_go (i : Nat) (hi : i < 5) (hx : P[i + 1]? = some (bstr w)) (hl : w.length < 1000000000) (ho : Oct w) (hr : (rdB w).2 = 0) (hp : putN 5 0 [a, b, c, d, f] i (rdB w).1 = [a', b', c', d', f']) : ref21_Parse_l4 P ((i : Int), a, b, c, d, f) (.inl (((i + 1 : Nat) : Int), a', b', c', d', f')) := by
 unfold ref21_Parse_l4
 simp only
 rw [if_pos (by rw [decide_eq_true_eq]; omega), w_small (by omega) (by omega)]
 refine ⟨bstr w, idx_at (k := i + 1) (by omega) hx, rdB w, rread_ok hl ho, ?_⟩
 rw [if_neg (by simp [hr])]
 refine ⟨by omega, by omega, ?_⟩
 rw [Int.toNat_natCast, hp]
 rfl
theorem rs_no (i : Nat) (hi : i < 5) (hx : P[i + 1]? = some (bstr w)) (hl : w.length < 1000000000) (ho : Oct w) (hr : (rdB w).2 ≠ 0) : ref21_Parse_l4 P ((i : Int), a, b, c, d, f) (.inr (.inr (noC (rdB w).2))) := by
 unfold ref21_Parse_l4
 simp only
 rw [if_pos (by rw [decide_eq_true_eq]; omega), w_small (by omega) (by omega)]
 refine ⟨bstr w, idx_at (k := i + 1) (by omega) hx, rdB w, rread_ok hl ho, ?_⟩
 rw [if_pos (by simpa using hr)]; rfl
theorem rs_end : ref21_Parse_l4 P (((5 : Nat) : Int), a, b, c, d, f) (.inr (.inl (a, b, c, d, f))) := by
 unfold ref21_Parse_l4
 rw [if_neg (by simp)]
theorem rj2_ok : ref21_Parse_j2 (a, b, c, d, f) (endC a b c d f) := by
 unfold ref21_Parse_j2 endC
 simp only
 have five : ref21_Parse_j3 (a, b, c, d, f) true (noC 5) := by unfold ref21_Parse_j3; rw [if_pos rfl]; rfl
 by_cases h1 : c < 0
 ·rw [if_pos (by simpa using h1), if_pos (by omega)]; exact five
 rw [if_neg (by simpa using h1)]
 by_cases h2 : 4294967295 < c
 ·rw [if_pos (by simpa using h2), if_pos (by omega)]; exact five
 rw [if_neg (by simpa using h2)]
 by_cases h3 : d < 0
 ·rw [if_pos (by simpa using h3), if_pos (by omega)]; exact five
 rw [if_neg (by simpa using h3)]
 by_cases h4 : 4294967295 < d
 ·rw [decide_eq_true h4, if_pos (by omega)]; exact five
 rw [decide_eq_false h4, if_neg (by omega)]
 unfold ref21_Parse_j3
 rw [if_neg (by decide)]
 simp only
 rw [show IntKind.u32.wrap c = c by rw [w_u32]; omega, show IntKind.u32.wrap d = d by rw [w_u32]; omega]
 refine ⟨_, rsnd_ok _, ?_⟩
 by_cases h5 : sndB (a, b, c) = 0
 ·rw [if_neg (by simpa using h5), if_neg (by simpa using h5)]
  refine ⟨_, rrcv_ok _, ?_⟩
  by_cases h6 : rcvB (d, f) = 0
  ·rw [if_neg (by simpa using h6), if_neg (by simpa using h6)]
  ·rw [if_pos (by simpa using h6), if_pos (by simpa using h6)]
   exact ⟨_, rrcv_ok _, rfl⟩
 ·rw [if_pos (by simpa using h5), if_pos (by simpa using h5)]
  exact ⟨_, rsnd_ok _, rfl⟩
end
theorem cparse_ok {l : List Int} (hl : l.length < 1000000) (ho : Oct l) : conf_Parse (bstr l) (confB l) := by
 have hlen := spl_len 32 l
 have hg := gather (B := conf_Parse_l1) (fun x s hs => by
  unfold conf_Parse_l1
  simp only [List.length_singleton]
  exact ⟨by omega, by omega, trivial⟩) (splitL 32 l) 0 [] (by simp only [List.length_nil]; omega)
 rw [List.nil_append] at hg
 have hsub := @spl_sub 32 l
 refine ⟨_, words_ok _, _, (), words_itr (by omega) ho _ _ _ _ (run_yof hg), ?_⟩
 show (if _ then _ else _)
 rw [List.length_map]
 unfold confB
 by_cases h6 : (splitL 32 l).length = 6
 ·obtain ⟨w0, w1, w2, w3, w4, w5, hw⟩ : ∃ w0 w1 w2 w3 w4 w5, splitL 32 l = [w0, w1, w2, w3, w4, w5] := by
   match splitL 32 l, h6 with
   | [w0, w1, w2, w3, w4, w5], _ => exact ⟨_, _, _, _, _, _, rfl⟩
  rw [hw] at hsub ⊢
  have hs : ∀ w ∈ [w0, w1, w2, w3, w4, w5], w.length < 1000000000 ∧ Oct w := fun w hm => by
   have := hsub w hm
   exact ⟨by omega, fun x hx => ho x (this.2 x hx)⟩
  rw [if_neg (by simp)]
  refine ⟨bstr w0, idx_at (k := 0) rfl rfl, ?_⟩
  unfold conf_Parse_j2
  simp only
  by_cases h0 : w0 = linkL
  ·rw [if_pos h0, h0, decide_eq_true (show bstr linkL = bstr [108, 105, 110, 107] from rfl), if_neg (by decide)]
   obtain ⟨q1, q2, q3, q4, q5⟩ : (w1.length < 1000000000 ∧ Oct w1) ∧ (w2.length < 1000000000 ∧ Oct w2) ∧ (w3.length < 1000000000 ∧ Oct w3) ∧ (w4.length < 1000000000 ∧ Oct w4) ∧ (w5.length < 1000000000 ∧ Oct w5) := ⟨hs w1 (by simp), hs w2 (by simp), hs w3 (by simp), hs w4 (by simp), hs w5 (by simp)⟩
   unfold numsB
   by_cases h1 : (rdB w1).2 = 0
   ·rw [if_neg (by simpa using h1)]
    have g1 := cs_go (P := [w0, w1, w2, w3, w4, w5].map bstr) (e := 0) (a := 0) (b := 0) (c := 0) (d := 0) (f := 0) 0 (by decide) (w := w1) rfl q1.1 q1.2 h1 (put5_0 _)
    by_cases h2 : (rdB w2).2 = 0
    ·rw [if_neg (by simpa using h2)]
     have g2 := cs_go (P := [w0, w1, w2, w3, w4, w5].map bstr) (e := 0) (a := (rdB w1).1) (b := 0) (c := 0) (d := 0) (f := 0) 1 (by decide) (w := w2) rfl q2.1 q2.2 h2 (put5_1 _)
     by_cases h3 : (rdB w3).2 = 0
     ·rw [if_neg (by simpa using h3)]
      have g3 := cs_go (P := [w0, w1, w2, w3, w4, w5].map bstr) (e := 0) (a := (rdB w1).1) (b := (rdB w2).1) (c := 0) (d := 0) (f := 0) 2 (by decide) (w := w3) rfl q3.1 q3.2 h3 (put5_2 _)
      by_cases h4 : (rdB w4).2 = 0
      ·rw [if_neg (by simpa using h4)]
       have g4 := cs_go (P := [w0, w1, w2, w3, w4, w5].map bstr) (e := 0) (a := (rdB w1).1) (b := (rdB w2).1) (c := (rdB w3).1) (d := 0) (f := 0) 3 (by decide) (w := w4) rfl q4.1 q4.2 h4 (put5_3 _)
       by_cases h5 : (rdB w5).2 = 0
       ·rw [if_neg (by simpa using h5)]
        have g5 := cs_go (P := [w0, w1, w2, w3, w4, w5].map bstr) (e := 0) (a := (rdB w1).1) (b := (rdB w2).1) (c := (rdB w3).1) (d := (rdB w4).1) (f := 0) 4 (by decide) (w := w5) rfl q5.1 q5.2 h5 (put5_4 _)
        exact ⟨_, .next g1 (.next g2 (.next g3 (.next g4 (.next g5 (.done cs_end))))), cj3_ok⟩
       ·rw [if_pos (by simpa using h5)]
        obtain ⟨y, g5⟩ := cs_no (P := [w0, w1, w2, w3, w4, w5].map bstr) (e := 0) (a := (rdB w1).1) (b := (rdB w2).1) (c := (rdB w3).1) (d := (rdB w4).1) (f := 0) 4 (by decide) (w := w5) rfl q5.1 q5.2 h5
        exact ⟨_, .next g1 (.next g2 (.next g3 (.next g4 (.done g5)))), cj3_no h5⟩
      ·rw [if_pos (by simpa using h4)]
       obtain ⟨y, g4⟩ := cs_no (P := [w0, w1, w2, w3, w4, w5].map bstr) (e := 0) (a := (rdB w1).1) (b := (rdB w2).1) (c := (rdB w3).1) (d := 0) (f := 0) 3 (by decide) (w := w4) rfl q4.1 q4.2 h4
       exact ⟨_, .next g1 (.next g2 (.next g3 (.done g4))), cj3_no h4⟩
     ·rw [if_pos (by simpa using h3)]
      obtain ⟨y, g3⟩ := cs_no (P := [w0, w1, w2, w3, w4, w5].map bstr) (e := 0) (a := (rdB w1).1) (b := (rdB w2).1) (c := 0) (d := 0) (f := 0) 2 (by decide) (w := w3) rfl q3.1 q3.2 h3
      exact ⟨_, .next g1 (.next g2 (.done g3)), cj3_no h3⟩
    ·rw [if_pos (by simpa using h2)]
     obtain ⟨y, g2⟩ := cs_no (P := [w0, w1, w2, w3, w4, w5].map bstr) (e := 0) (a := (rdB w1).1) (b := 0) (c := 0) (d := 0) (f := 0) 1 (by decide) (w := w2) rfl q2.1 q2.2 h2
     exact ⟨_, .next g1 (.done g2), cj3_no h2⟩
   ·rw [if_pos (by simpa using h1)]
    obtain ⟨y, g1⟩ := cs_no (P := [w0, w1, w2, w3, w4, w5].map bstr) (e := 0) (a := 0) (b := 0) (c := 0) (d := 0) (f := 0) 0 (by decide) (w := w1) rfl q1.1 q1.2 h1
    exact ⟨_, .done g1, cj3_no h1⟩
  ·rw [if_neg h0, if_pos]
   ·rfl
   ·rw [decide_eq_false (show ¬ bstr w0 = bstr [108, 105, 110, 107] from fun e => h0 (bs_inj (b := linkL) (hs w0 (by simp)).2 (by unfold Oct linkL; decide) e))]; rfl
 ·rw [if_pos (by rw [decide_eq_false (by omega)]; rfl)]
  unfold conf_Parse_j2
  rw [if_pos rfl]
  match hq : splitL 32 l with
  | [w0, w1, w2, w3, w4, w5] => rw [hq] at h6; exact absurd rfl h6
  | [] | [_] | [_, _] | [_, _, _] | [_, _, _, _] | [_, _, _, _, _] => rfl
  | _ :: _ :: _ :: _ :: _ :: _ :: _ :: _ => rfl
theorem cfparse_ok {l : List Int} (hl : l.length < 1000000) (ho : Oct l) : ref21_Parse (bstr l) (confB l) := by
 have hsub := @spl_sub 32 l
 refine ⟨_, rsplit_ok (c := 32) (by omega) ho, ?_⟩
 rw [List.length_map]
 unfold confB
 by_cases h6 : (splitL 32 l).length = 6
 ·obtain ⟨w0, w1, w2, w3, w4, w5, hw⟩ : ∃ w0 w1 w2 w3 w4 w5, splitL 32 l = [w0, w1, w2, w3, w4, w5] := by
   match splitL 32 l, h6 with
   | [w0, w1, w2, w3, w4, w5], _ => exact ⟨_, _, _, _, _, _, rfl⟩
  rw [hw] at hsub ⊢
  have hs : ∀ w ∈ [w0, w1, w2, w3, w4, w5], w.length < 1000000000 ∧ Oct w := fun w hm => by
   have := hsub w hm
   exact ⟨by omega, fun x hx => ho x (this.2 x hx)⟩
  rw [if_neg (by simp)]
  refine ⟨bstr w0, idx_at (k := 0) rfl rfl, ?_⟩
  unfold ref21_Parse_j1
  simp only
  by_cases h0 : w0 = linkL
  ·rw [if_pos h0, h0, decide_eq_true (show bstr linkL = bstr [108, 105, 110, 107] from rfl), if_neg (by decide)]
   obtain ⟨q1, q2, q3, q4, q5⟩ : (w1.length < 1000000000 ∧ Oct w1) ∧ (w2.length < 1000000000 ∧ Oct w2) ∧ (w3.length < 1000000000 ∧ Oct w3) ∧ (w4.length < 1000000000 ∧ Oct w4) ∧ (w5.length < 1000000000 ∧ Oct w5) := ⟨hs w1 (by simp), hs w2 (by simp), hs w3 (by simp), hs w4 (by simp), hs w5 (by simp)⟩
   unfold numsB
   by_cases h1 : (rdB w1).2 = 0
   ·rw [if_neg (by simpa using h1)]
    have g1 := rs_go (P := [w0, w1, w2, w3, w4, w5].map bstr) (a := 0) (b := 0) (c := 0) (d := 0) (f := 0) 0 (by decide) (w := w1) rfl q1.1 q1.2 h1 (put5_0 _)
    by_cases h2 : (rdB w2).2 = 0
    ·rw [if_neg (by simpa using h2)]
     have g2 := rs_go (P := [w0, w1, w2, w3, w4, w5].map bstr) (a := (rdB w1).1) (b := 0) (c := 0) (d := 0) (f := 0) 1 (by decide) (w := w2) rfl q2.1 q2.2 h2 (put5_1 _)
     by_cases h3 : (rdB w3).2 = 0
     ·rw [if_neg (by simpa using h3)]
      have g3 := rs_go (P := [w0, w1, w2, w3, w4, w5].map bstr) (a := (rdB w1).1) (b := (rdB w2).1) (c := 0) (d := 0) (f := 0) 2 (by decide) (w := w3) rfl q3.1 q3.2 h3 (put5_2 _)
      by_cases h4 : (rdB w4).2 = 0
      ·rw [if_neg (by simpa using h4)]
       have g4 := rs_go (P := [w0, w1, w2, w3, w4, w5].map bstr) (a := (rdB w1).1) (b := (rdB w2).1) (c := (rdB w3).1) (d := 0) (f := 0) 3 (by decide) (w := w4) rfl q4.1 q4.2 h4 (put5_3 _)
       by_cases h5 : (rdB w5).2 = 0
       ·rw [if_neg (by simpa using h5)]
        have g5 := rs_go (P := [w0, w1, w2, w3, w4, w5].map bstr) (a := (rdB w1).1) (b := (rdB w2).1) (c := (rdB w3).1) (d := (rdB w4).1) (f := 0) 4 (by decide) (w := w5) rfl q5.1 q5.2 h5 (put5_4 _)
        exact ⟨_, .next g1 (.next g2 (.next g3 (.next g4 (.next g5 (.done rs_end))))), rj2_ok⟩
       ·rw [if_pos (by simpa using h5)]
        exact ⟨_, .next g1 (.next g2 (.next g3 (.next g4 (.done (rs_no 4 (by decide) (w := w5) rfl q5.1 q5.2 h5))))), rfl⟩
      ·rw [if_pos (by simpa using h4)]
       exact ⟨_, .next g1 (.next g2 (.next g3 (.done (rs_no 3 (by decide) (w := w4) rfl q4.1 q4.2 h4)))), rfl⟩
     ·rw [if_pos (by simpa using h3)]
      exact ⟨_, .next g1 (.next g2 (.done (rs_no 2 (by decide) (w := w3) rfl q3.1 q3.2 h3))), rfl⟩
    ·rw [if_pos (by simpa using h2)]
     exact ⟨_, .next g1 (.done (rs_no 1 (by decide) (w := w2) rfl q2.1 q2.2 h2)), rfl⟩
   ·rw [if_pos (by simpa using h1)]
    exact ⟨_, .done (rs_no 0 (by decide) (w := w1) rfl q1.1 q1.2 h1), rfl⟩
  ·rw [if_neg h0, if_pos]
   ·rfl
   ·rw [decide_eq_false (show ¬ bstr w0 = bstr [108, 105, 110, 107] from fun e => h0 (bs_inj (b := linkL) (hs w0 (by simp)).2 (by unfold Oct linkL; decide) e))]; rfl
 ·rw [if_pos (by rw [decide_eq_false (by omega)]; rfl)]
  unfold ref21_Parse_j1
  rw [if_pos rfl]
  match hq : splitL 32 l with
  | [w0, w1, w2, w3, w4, w5] => rw [hq] at h6; exact absurd rfl h6
  | [] | [_] | [_, _] | [_, _, _] | [_, _, _, _] | [_, _, _, _, _] => rfl
  | _ :: _ :: _ :: _ :: _ :: _ :: _ :: _ => rfl
/-! ### To and fro -/
theorem noC_ne {e : Int} (h : e ≠ 0) {s : Int × Int × Int} {r : Int × Int} : noC e ≠ (s, r, 0) := fun q => by
 unfold noC at q
 simp only [Prod.mk.injEq] at q
 exact h q.2.2
theorem endC_back {a b c d f : Int} {s : Int × Int × Int} {r : Int × Int} (h : endC a b c d f = (s, r, 0)) : s = (a, b, c) ∧ r = (d, f) ∧ (0 ≤ c ∧ c ≤ 4294967295) ∧ (0 ≤ d ∧ d ≤ 4294967295) ∧ sndB s = 0 ∧ rcvB r = 0 := by
 unfold endC at h
 split at h
 ·exact absurd h (noC_ne (by decide))
 ·rename_i h1
  split at h
  ·rename_i h2; exact absurd h (noC_ne h2)
  ·rename_i h2
   split at h
   ·rename_i h3; exact absurd h (noC_ne h3)
   ·rename_i h3
    simp only [Prod.mk.injEq, and_true] at h
    obtain ⟨h4, h5⟩ := h
    subst h4 h5
    simp only [ne_eq, Decidable.not_not] at h2 h3
    exact ⟨rfl, rfl, by omega, by omega, h2, h3⟩
theorem confB_back {l : List Int} {s : Int × Int × Int} {r : Int × Int} (h : confB l = (s, r, 0)) : SOk s r ∧ sndB s = 0 ∧ rcvB r = 0 ∧ lineC s r = l := by
 unfold confB at h
 split at h
 ·rename_i w0 w1 w2 w3 w4 w5 hq
  split at h
  ·rename_i h0
   subst h0
   unfold numsB at h
   split at h
   ·rename_i q; exact absurd h (noC_ne q)
   split at h
   ·rename_i q; exact absurd h (noC_ne q)
   split at h
   ·rename_i q; exact absurd h (noC_ne q)
   split at h
   ·rename_i q; exact absurd h (noC_ne q)
   split at h
   ·rename_i q; exact absurd h (noC_ne q)
   rename_i h1 h2 h3 h4 h5
   simp only [ne_eq, Decidable.not_not] at h1 h2 h3 h4 h5
   obtain ⟨rfl, rfl, ha, hb, hs, hr⟩ := endC_back h
   obtain ⟨e1, o1⟩ := rdB_back (l := w1) (n := (rdB w1).1) (by rw [← h1])
   obtain ⟨e2, o2⟩ := rdB_back (l := w2) (n := (rdB w2).1) (by rw [← h2])
   obtain ⟨e3, o3⟩ := rdB_back (l := w3) (n := (rdB w3).1) (by rw [← h3])
   obtain ⟨e4, o4⟩ := rdB_back (l := w4) (n := (rdB w4).1) (by rw [← h4])
   obtain ⟨e5, o5⟩ := rdB_back (l := w5) (n := (rdB w5).1) (by rw [← h5])
   refine ⟨⟨o1, o2, ha, hb, o5⟩, hs, hr, ?_⟩
   rw [spl_join hq]
   simp [lineC, numsC, e1, e2, e3, e4, e5]
  ·exact absurd h (noC_ne (by decide))
 ·exact absurd h (noC_ne (by decide))
theorem lineC_len {s : Int × Int × Int} {r : Int × Int} (h : SOk s r) : (lineC s r).length ≤ 120 := by
 have l1 := decI_len h.v
 have l2 := decI_len h.m
 have l3 := decI_len (i64_of h.a)
 have l4 := decI_len (i64_of h.b)
 have l5 := decI_len h.n
 simp [lineC, linkL, numsC]; omega
end Go.Rel
/-! Plain laws: the line of any item, the item of any text. -/
namespace Go.Rel
open Go Go.Eng Go.Pl
end Go.Rel
/-! Plain law: what any items let arrive. -/
namespace Go.Rel
open Go Go.Eng Go.Pl
end Go.Rel
/-! Plain laws: scripts: the step of any line, the line of any step. -/
namespace Go.Rel
open Go Go.Eng Go.Pl
theorem bstr_eq {a b : List Int} (ha : Oct a) (hb : Oct b) : bstr a = bstr b ↔ a = b := ⟨fun h => by
 apply Classical.byContradiction
 intro hn
 exact bstr_ne ha hb hn (by simpa using h), fun h => by rw [h]⟩
theorem kindZ_word {w : List Int} (h : kindZ w ≠ 0) : w = wordZ (kindZ w) := by
 unfold kindZ at h ⊢
 by_cases h1 : w = sendZ
 ·rw [if_pos h1]; exact h1
 rw [if_neg h1] at h ⊢
 by_cases h3 : w = allZ
 ·rw [if_pos h3]; exact h3
 rw [if_neg h3] at h ⊢
 by_cases h4 : w = chunkZ
 ·rw [if_pos h4]; exact h4
 rw [if_neg h4] at h ⊢
 by_cases h5 : w = stateZ
 ·rw [if_pos h5]; exact h5
 rw [if_neg h5] at h ⊢
 by_cases h6 : w = tallyZ
 ·rw [if_pos h6]; exact h6
 rw [if_neg h6] at h
 exact absurd rfl h
theorem parseZ_back {l : List Int} (hl : l.length ≤ 900) {s : Stp} (h : parseZ l = (s, 0)) : StpOk s ∧ checkZ s = 0 ∧ lineZ s = l := by
 have hlen := spl_len 32 l
 unfold parseZ at h
 cases hq : splitL 32 l with
 | nil => exact absurd hq (splitL_ne 32 l)
 | cons w ws =>
  rw [hq] at h hlen
  simp only [List.length_cons] at h hlen
  have hj := spl_join hq
  have hrl : (restZ ws).length ≤ l.length := by
   rcases rest_of hq with ⟨rfl, rfl, _⟩ | ⟨_, rfl, _⟩
   ·simp [restZ]
   ·simp; omega
  by_cases h1 : kindZ w = 1
  ·rw [if_pos h1] at h
   by_cases hp : (parseS (restZ ws)).2 = 0
   ·rw [if_pos hp] at h
    obtain rfl := (Prod.mk.inj h).1
    obtain ⟨g1, g2, g3⟩ := parseS_back (l := restZ ws) (m := (parseS (restZ ws)).1) (by omega) (by rw [← hp])
    have hc : checkZ (1, (parseS (restZ ws)).1, noI, []) = 0 := g2
    refine ⟨⟨g1, noI_ok, fun _ h => (nomatch h), by simp⟩, hc, ?_⟩
    rw [lineZ_1 hc rfl]
    simp only
    rw [g3]
    have hw : w = sendZ := by have := kindZ_word (w := w) (by omega); rw [h1] at this; exact this
    rcases rest_of hq with ⟨rfl, e, _⟩ | ⟨_, e, _⟩
    ·exact absurd hp (by decide)
    ·rw [e, hw]
   ·rw [if_neg hp] at h
    exact absurd (Prod.mk.inj h).2 hp
  rw [if_neg h1] at h
  by_cases h4 : kindZ w = 4
  ·rw [if_pos h4] at h
   by_cases hp : (numsR ws []).2 = 0
   ·rw [if_pos hp] at h
    by_cases he : sizesE (numsR ws []).1 = 0
    ·rw [if_pos he] at h
     obtain rfl := (Prod.mk.inj h).1
     have hc : checkZ (4, zM, noI, (numsR ws []).1) = 0 := he
     obtain ⟨ns, n1, n2, n3⟩ := numsR_back hp
     rw [List.nil_append] at n1
     have hcn := numsR_cnt ws []
     refine ⟨sz_ok (numsR_int hp) (by simp only [List.length_nil] at hcn; omega), hc, ?_⟩
     rw [lineZ_4 hc rfl]
     simp only
     rw [n1]
     have hw : w = chunkZ := by have := kindZ_word (w := w) (by omega); rw [h4] at this; exact this
     rw [hj, hw, ← n2, numsZ, List.flatMap_map]
    ·rw [if_neg he] at h
     exact absurd (Prod.mk.inj h).2 he
   ·rw [if_neg hp] at h
    exact absurd (Prod.mk.inj h).2 hp
  rw [if_neg h4] at h
  by_cases h0 : kindZ w = 0
  ·rw [if_pos h0] at h
   by_cases hp : (noiseB l).2 = 0
   ·rw [if_pos hp] at h
    obtain rfl := (Prod.mk.inj h).1
    obtain ⟨g1, g2, g3⟩ := noiseB_back (l := l) (it := (noiseB l).1) (by omega) (by rw [← hp])
    have hc : checkZ (2, zM, (noiseB l).1, []) = 0 := by
     unfold checkZ
     rw [if_neg (by simp), if_pos rfl, if_pos g2]
    exact ⟨⟨zM_ok, g1, fun _ h => (nomatch h), by simp⟩, hc, by rw [lineZ_2 hc rfl]; exact g3⟩
   ·rw [if_neg hp] at h
    exact absurd (Prod.mk.inj h).2 hp
  rw [if_neg h0] at h
  by_cases hw : ws = []
  ·rw [if_pos hw] at h
   obtain rfl := (Prod.mk.inj h).1
   have hk : kindZ w = 3 ∨ kindZ w = 5 ∨ kindZ w = 6 := by
    rcases kindZ_rng w with h | h | h | h | h | h <;> omega
   have hc : checkZ (kindZ w, zM, noI, []) = 0 := by
    unfold checkZ
    simp only
    rw [if_neg h1, if_neg (by omega), if_neg h4, if_pos hk]
   refine ⟨⟨zM_ok, noI_ok, fun _ h => (nomatch h), by simp⟩, hc, ?_⟩
   rw [lineZ_k hc h1 (by simp only; omega) h4]
   simp only
   rw [← kindZ_word h0, hj, hw]; simp
  ·rw [if_neg hw] at h
   exact absurd (Prod.mk.inj h).2 (by decide)
theorem zof_ok {s : Stp} (h : s.2.1.2.2.1.length < 1000000) : law27_Of s (ofZ s) := ⟨_, ofm_ok (by omega), _, rfl, rfl⟩
theorem zsame_ok {s : Stp} (ok : StpOk s) : law27_same s (ofZ s) true := by
 have h1 := ok.m.lpath
 have h2 := ok.m.lcells
 have h3 := ok.l
 have h4 := ok.i.l
 have hs : ref17_Same (ofM s.2.1) (ofM s.2.1) true := by
  have := rsame_ok (a := s.2.1) (b := s.2.1) (by omega) (by omega)
  rw [sameB_refl] at this; exact this
 have hi : ref26_Same s.2.2.1 s.2.2.1 true := isame_ok _ (by omega)
 have hz : ref01_Ints s.2.2.2 s.2.2.2 true := by
  have := ints_ok (a := s.2.2.2) (b := s.2.2.2) (by omega)
  simpa using this
 refine ⟨_, zof_ok (by omega), ?_⟩
 rw [if_pos (by simp)]
 by_cases k1 : s.1 = 1
 ·rw [if_neg (np (show (ofZ s).1 = 1 from k1))]
  refine ⟨true, hs, ?_⟩
  rw [if_pos rfl, if_pos (nd (show ¬ (ofZ s).1 = 2 by show ¬ s.1 = 2; omega)), if_pos (nd (show ¬ (ofZ s).1 = 4 by show ¬ s.1 = 4; omega))]; rfl
 ·rw [if_pos (nd (show ¬ (ofZ s).1 = 1 from k1))]
  by_cases k2 : s.1 = 2
  ·rw [if_neg (np (show (ofZ s).1 = 2 from k2))]
   refine ⟨true, hi, ?_⟩
   rw [if_pos rfl, if_pos (nd (show ¬ (ofZ s).1 = 4 by show ¬ s.1 = 4; omega))]; rfl
  ·rw [if_pos (nd (show ¬ (ofZ s).1 = 2 from k2))]
   by_cases k4 : s.1 = 4
   ·rw [if_neg (np (show (ofZ s).1 = 4 from k4))]
    exact ⟨true, hz, rfl⟩
   ·rw [if_pos (nd (show ¬ (ofZ s).1 = 4 from k4))]; rfl
/-! ### A script's text -/
def firstZ : List Stp → Int
 | [] => 0
 | s :: l => if checkZ s = 0 then firstZ l else checkZ s
def bodyZ (l : List Stp) : List Int := l.flatMap fun x => lineZ x ++ [10]
def textZ (s : Int × Int × Int) (r : Int × Int) (l : List Stp) : List Int := lineC s r ++ [10] ++ bodyZ l
def printZ (s : Int × Int × Int) (r : Int × Int) (l : List Stp) : ByteArray × Int := if sndB s ≠ 0 then (bstr [], sndB s) else if rcvB r ≠ 0 then (bstr [], rcvB r) else if firstZ l ≠ 0 then (bstr [], firstZ l) else (bstr (textZ s r l), 0)
theorem wordZ_len (k : Int) : (wordZ k).length ≤ 5 := by unfold wordZ; repeat' (first | decide | split)
theorem lineZ_len {s : Stp} (ok : StpOk s) : (lineZ s).length < 1000100 := by
 by_cases h : checkZ s = 0
 ·by_cases h1 : s.1 = 1
  ·rw [lineZ_1 h h1]
   have := lineL_small ok.m
   simp [sendZ]; omega
  by_cases h2 : s.1 = 2
  ·rw [lineZ_2 h h2]
   have := lineN_len ok.i; omega
  by_cases h4 : s.1 = 4
  ·rw [lineZ_4 h h4]
   have := numsZ_tlen ok.z (sizes_zero h4 h).1 s.2.2.2.length
   rw [List.take_length] at this; omega
  ·rw [lineZ_k h h1 h2 h4]
   have := wordZ_len s.1; omega
 ·rw [lineZ_no h]; simp
theorem zprint_run {l : List Stp} (ok : ∀ x ∈ l, StpOk x) (hl : l.length ≤ 1000) : ∀ (m pre : List Stp) (T : List Int), l = pre ++ m → T.length ≤ 1000 + 1000200 * pre.length → Loops (script_Print_l2 l) (bstr T, (pre.length : Int)) (if firstZ m = 0 then .inl (bstr (T ++ bodyZ m)) else .inr (bstr [], firstZ m))
 | [], pre, T, h, hT => by
  refine .done ?_
  unfold script_Print_l2
  rw [if_neg (by rw [h]; simp)]
  simp [firstZ, bodyZ]
 | x :: m, pre, T, h, hT => by
  have hlen : l.length = pre.length + m.length + 1 := by rw [h]; simp; omega
  have hx : idx l (pre.length : Int) x := idx_at rfl (by rw [h]; simp)
  have okx := ok x (by rw [h]; simp)
  unfold firstZ
  by_cases hc : checkZ x = 0
  ·rw [if_pos hc]
   have hll := lineZ_len okx
   have ih := zprint_run ok hl m (pre ++ [x]) (T ++ (lineZ x ++ [10])) (by rw [h]; simp) (by simp; omega)
   rw [show T ++ (lineZ x ++ [10]) ++ bodyZ m = T ++ bodyZ (x :: m) by simp [bodyZ]] at ih
   refine .next (s' := (bstr (T ++ (lineZ x ++ [10])), ((pre ++ [x]).length : Int))) ?_ ih
   unfold script_Print_l2
   rw [if_pos (by rw [decide_eq_true_eq]; simp only; omega)]
   refine ⟨x, hx, _, zcheck_ok okx, ?_⟩
   rw [if_neg (np hc)]
   refine ⟨_, zline_ok okx, by rw [size_bstr, size_bstr, List.length_singleton]; omega, by rw [ByteArray.size_append, size_bstr, size_bstr, size_bstr, List.length_singleton]; omega, ?_⟩
   rw [← bstr_append, ← bstr_append, w_small (by omega) (by omega)]; simp
  ·rw [if_neg hc, if_neg hc]
   refine .done ?_
   unfold script_Print_l2
   rw [if_pos (by rw [decide_eq_true_eq]; simp only; omega)]
   refine ⟨x, hx, _, zcheck_ok okx, ?_⟩
   rw [if_pos (nd hc)]
theorem zprint_ok {s : Int × Int × Int} {r : Int × Int} (hC : SOk s r) {l : List Stp} (ok : ∀ x ∈ l, StpOk x) (hl : l.length ≤ 1000) : script_Print s r l (printZ s r l) := by
 unfold printZ
 refine ⟨_, csnd_ok s, ?_⟩
 by_cases h1 : sndB s = 0
 ·rw [if_neg (np h1), if_neg (fun e => e h1)]
  refine ⟨_, crcv_ok r, ?_⟩
  by_cases h2 : rcvB r = 0
  ·rw [if_neg (np h2), if_neg (fun e => e h2)]
   have hcl := cline_ok hC
   rw [if_pos ⟨h1, h2⟩] at hcl
   have hcn := lineC_len hC
   refine ⟨_, hcl, by rw [size_bstr, size_bstr, List.length_singleton]; omega, ?_⟩
   have hrun := zprint_run ok hl l [] (lineC s r ++ [10]) rfl (by simp; omega)
   rw [← bstr_append]
   refine ⟨_, hrun, ?_⟩
   by_cases h3 : firstZ l = 0
   ·rw [if_pos h3, if_neg (fun e => e h3)]; rfl
   ·rw [if_neg h3, if_pos h3]; rfl
  ·rw [if_pos (nd h2), if_pos h2]
 ·rw [if_pos (nd h1), if_pos h1]
theorem known27_ok : law27_known true := by
 have hS : SOk (2, 64, 10) (10, 4) := ⟨⟨by decide, by decide⟩, ⟨by decide, by decide⟩, by decide, by decide, ⟨by decide, by decide⟩⟩
 have hm : MgOk (2, [1, 2, 3, 0, 0, 0], [], [], bstr [], bstr []) := ⟨by decide, rfl, by decide, by decide, by decide, by decide, by decide, by decide, by decide⟩
 have hp := zprint_ok hS (l := [(1, (2, [1, 2, 3, 0, 0, 0], [], [], (bstr []), (bstr [])), (0, 0, 0, 0, []), []), (4, (0, [0, 0, 0, 0, 0, 0], [], [], (bstr []), (bstr [])), (0, 0, 0, 0, []), [1, 2]), (3, (0, [0, 0, 0, 0, 0, 0], [], [], (bstr []), (bstr [])), (0, 0, 0, 0, []), [])]) (fun x hx => by
  simp only [List.mem_cons, List.not_mem_nil, or_false] at hx
  rcases hx with rfl | rfl | rfl
  ·exact ⟨hm, noI_ok, fun _ h => (nomatch h), by simp⟩
  ·exact ⟨zM_ok, noI_ok, by decide, by simp⟩
  ·exact ⟨zM_ok, noI_ok, fun _ h => (nomatch h), by simp⟩) (by simp)
 refine ⟨_, hp, ?_⟩
 rw [if_pos (by decide)]
 show true = _
 decide
end Go.Rel
/-! Plain laws: scripts: the line of any step, parsed again. -/
namespace Go.Rel
open Go Go.Eng Go.Pl
structure Twin (x s : Stp) : Prop where
 k : x.1 = s.1
 m : s.1 = 1 → x.2.1 = s.2.1
 i : s.1 = 2 → lineN x.2.2.1 = lineN s.2.2.1
 z : s.1 = 4 → x.2.2.2 = s.2.2.2
end Go.Rel
/-! Plain laws: a script's lines have no line feed within. -/
namespace Go.Rel
open Go Go.Eng Go.Pl
end Go.Rel
/-! Plain laws: a script's text, read. -/
namespace Go.Rel
open Go Go.Eng Go.Pl
/-! ### The lines of a text -/
def joinN (L : List (List Int)) : List Int := L.flatMap fun w => w ++ [10]
def numP (a : Nat) : List (List Int) → List (Int × ByteArray)
 | [] => []
 | w :: ws => ((a : Int), bstr w) :: numP (a + 1) ws
theorem numP_len : ∀ (L : List (List Int)) (a : Nat), (numP a L).length = L.length
 | [], _ => rfl
 | w :: L, a => by simp [numP, numP_len L (a + 1)]
theorem numP_at : ∀ (L : List (List Int)) (a k : Nat) (hk : k < L.length), (numP a L)[k]? = some (((a + k : Nat) : Int), bstr L[k])
 | w :: L, a, 0, _ => rfl
 | w :: L, a, k + 1, hk => by
  have := numP_at L (a + 1) k (by simpa using hk)
  simp only [numP, List.getElem?_cons_succ, this, List.getElem_cons_succ]
  rw [show a + 1 + k = a + (k + 1) by omega]
theorem joinN_eq : ∀ (L : List (List Int)) (z w0 : List Int) (ws : List (List Int)), w0 :: ws = L ++ [z] → w0 ++ ws.flatMap (fun w => 10 :: w) = joinN L ++ z
 | [], z, w0, ws, h => by
  simp only [List.nil_append, List.cons.injEq] at h
  rw [h.1, h.2]; simp [joinN]
 | u :: L, z, w0, ws, h => by
  simp only [List.cons_append, List.cons.injEq] at h
  obtain ⟨rfl, h2⟩ := h
  cases ws with
  | nil => simp at h2
  | cons v vs =>
   have := joinN_eq L z v vs h2
   rw [List.flatMap_cons, List.cons_append, this]
   simp [joinN]
theorem snoc_of {α : Type} {l : List α} (h : l ≠ []) : ∃ L z, l = L ++ [z] := ⟨l.dropLast, l.getLast h, (List.dropLast_concat_getLast h).symm⟩
theorem text_of (l : List Int) : ∃ L z, splitL 10 l = L ++ [z] ∧ l = joinN L ++ z ∧ (∀ w ∈ L, (10 : Int) ∉ w) ∧ (10 : Int) ∉ z := by
 obtain ⟨L, z, h⟩ := snoc_of (splitL_ne 10 l)
 have hn := spl_no 10 l
 rw [h] at hn
 cases hq : splitL 10 l with
 | nil => exact absurd hq (splitL_ne 10 l)
 | cons w ws =>
  refine ⟨L, z, by rw [← hq, h], ?_, fun w hw => hn w (by simp [hw]), hn z (by simp)⟩
  rw [spl_join hq]
  exact joinN_eq L z w ws (by rw [← hq, h])
theorem zlines_walk {S : Type} {Y : Int × ByteArray → S → Bool × S → Prop} {s' : S} {z : List Int} (hz : z.length < 1000000000 ∧ Oct z ∧ (10 : Int) ∉ z) : ∀ (L : List (List Int)) (a : Nat) (s : S), (∀ w ∈ L, w.length < 1000000000) → a + L.length < 1000000000 → Run Y (numP a L) s s' →
    ∃ t, RunB (script_Lines_1_l1 S Y) ((lnP (L ++ [z])).map bstr) (s, (a : Int)) t ∧ ∃ i, t = .inl (s', i) ∨ t = .inr (s', i)
  | [], a, s, _, _, h => by
    cases h
    show ∃ t, RunB _ ((lnP [z]).map bstr) _ t ∧ _
    unfold lnP
    by_cases h0 : z = []
    · rw [if_pos h0]
      exact ⟨_, .nil, _, .inl rfl⟩
    · rw [if_neg h0]
      refine ⟨_, .stop (e := (_, (a : Int))) ⟨_, end_no hz.1 hz.2.1 hz.2.2, ?_⟩, (a : Int), .inr rfl⟩
      rw [if_pos (by simp)]
      unfold script_Lines_1_j2
      rw [if_pos rfl]
  | w :: L, a, s, hL, ha, h => by
    simp only [List.length_cons] at ha
    have hw := hL w List.mem_cons_self
    rw [List.cons_append, lnP_cons w (by simp), List.map_cons]
    have stpT : ∀ u, Y ((a : Int), bstr w) s (true, u) → script_Lines_1_l1 S Y (bstr (w ++ [10])) (s, (a : Int)) (.inl (u, ((a + 1 : Nat) : Int))) := by
      intro u hy
      refine ⟨_, end_yes hw, ?_⟩
      rw [if_neg (by simp)]
      refine ⟨true, u, hy, ?_⟩
      unfold script_Lines_1_j2
      rw [if_neg (by simp)]
      simp only
      rw [w_small (by omega) (by omega)]; rfl
    have stpF : ∀ u, Y ((a : Int), bstr w) s (false, u) → script_Lines_1_l1 S Y (bstr (w ++ [10])) (s, (a : Int)) (.inr (u, (a : Int))) := by
      intro u hy
      refine ⟨_, end_yes hw, ?_⟩
      rw [if_neg (by simp)]
      refine ⟨false, u, hy, ?_⟩
      unfold script_Lines_1_j2
      rw [if_pos (by simp)]
    simp only [numP] at h
    cases h with
    | go h h' =>
      obtain ⟨t, g1, g2⟩ := zlines_walk hz L (a + 1) _ (fun x hx => hL x (List.mem_cons_of_mem _ hx)) (by omega) h'
      exact ⟨t, .go (stpT _ h) g1, g2⟩
    | stop h => exact ⟨_, .stop (stpF _ h), _, .inr rfl⟩
theorem zlines_itr {l : List Int} (hl : l.length < 100000000) (ho : Oct l) {L : List (List Int)} {z : List Int} (h : splitL 10 l = L ++ [z]) : Itr (script_Lines_1 (bstr l)) (numP 0 L) := by
 intro S Y s s' hr
 have hsub := @spl_sub 10 l
 have hlen := spl_len 10 l
 rw [h] at hsub hlen
 simp only [List.length_append, List.length_singleton] at hlen
 have hz := hsub z (by simp)
 have hnz := spl_no 10 l z (by rw [h]; simp)
 obtain ⟨t, g1, i, g2⟩ := zlines_walk (z := z) ⟨by omega, fun x hx => ho x (hz.2 x hx), hnz⟩ L 0 s (fun w hw => by have := hsub w (by simp [hw]); omega) (by omega) hr
 rw [← h] at g1
 obtain ⟨rest, g3⟩ := lines_itr (by omega) ho (run_yof g1)
 refine ⟨_, lines_ok l, t, rest, g3, ?_⟩
 rcases g2 with rfl | rfl <;> rfl
/-! ### Reading -/
abbrev RdT := (Int × Int × Int) × (Int × Int) × List Stp × Int × Int
def noR (a e : Int) : RdT := ((0, 0, 0), (0, 0), [], a, e)
def goS : List (List Int) → Nat → List Stp → Sum (List Stp) (Int × Int)
 | [], _, out => .inl out
 | w :: ws, a, out => if (parseZ w).2 = 0 then goS ws (a + 1) (out ++ [(parseZ w).1]) else .inr ((a : Int), (parseZ w).2)
def readL (L : List (List Int)) (z : List Int) : RdT := match L with
 | [] => noR 0 4
 | w :: ws => if (confB w).2.2 ≠ 0 then noR 0 (confB w).2.2 else match goS ws 1 [] with
  | .inr (a, e) => noR a e
  | .inl out => if z ≠ [] then noR (ws.length + 1 : Nat) 4 else ((confB w).1, (confB w).2.1, out, 0, 0)
theorem readL_cons (w : List Int) (ws : List (List Int)) (z : List Int) : readL (w :: ws) z = if (confB w).2.2 ≠ 0 then noR 0 (confB w).2.2 else match goS ws 1 [] with
    | .inr (a, e) => noR a e
    | .inl out => if z ≠ [] then noR (ws.length + 1 : Nat) 4 else ((confB w).1, (confB w).2.1, out, 0, 0) := rfl
theorem zread_run {s : Int × Int × Int} {r : Int × Int} : ∀ (ws : List (List Int)) (a : Nat) (out : List Stp), (∀ w ∈ ws, w.length < 100000 ∧ Oct w) → 1 ≤ a → a + ws.length < 100000000 → out.length ≤ a →
    ∃ t, RunB script_Read_l4 (numP a ws) (s.1, s.2.1, s.2.2, r.1, r.2, out, (a : Int), 0) t ∧ ((∃ out', goS ws a out = .inl out' ∧ t = .inl (s.1, s.2.1, s.2.2, r.1, r.2, out', ((a + ws.length : Nat) : Int), 0)) ∨ ∃ b e out', goS ws a out = .inr (b, e) ∧ e ≠ 0 ∧ t = .inr (s.1, s.2.1, s.2.2, r.1, r.2, out', b, e))
  | [], a, out, _, _, _, _ => ⟨_, .nil, .inl ⟨out, rfl, rfl⟩⟩
  | w :: ws, a, out, hw, ha, hl, hol => by
    simp only [List.length_cons] at hl
    obtain ⟨h1, h2⟩ := hw w List.mem_cons_self
    have hz := zparse_ok h1 h2
    simp only [numP]
    unfold goS
    by_cases hp : (parseZ w).2 = 0
    · rw [if_pos hp]
      obtain ⟨t, g1, g2⟩ := zread_run (s := s) (r := r) ws (a + 1) (out ++ [(parseZ w).1]) (fun x hx => hw x (List.mem_cons_of_mem _ hx)) (by omega) (by omega) (by simp; omega)
      refine ⟨t, .go ?_ g1, ?_⟩
      · unfold script_Read_l4
        rw [if_neg (dn (by simp only; omega))]
        refine ⟨_, hz, ?_⟩
        rw [if_pos (decide_eq_true hp)]
        simp only [List.length_singleton]
        refine ⟨by omega, by omega, ?_⟩
        unfold script_Read_j5
        rw [if_neg (np hp)]
        simp only
        rw [w_small (by omega) (by omega), hp]; rfl
      · rw [show a + (w :: ws).length = a + 1 + ws.length by simp; omega]; exact g2
    · rw [if_neg hp]
      refine ⟨_, .stop (e := (s.1, s.2.1, s.2.2, r.1, r.2, out, (a : Int), (parseZ w).2)) ?_, .inr ⟨_, _, out, rfl, hp, rfl⟩⟩
      unfold script_Read_l4
      rw [if_neg (dn (by simp only; omega))]
      refine ⟨_, hz, ?_⟩
      rw [if_neg (dn hp)]
      unfold script_Read_j5
      rw [if_pos (nd hp)]
theorem hs_yes {p : List Int} (hl : p.length < 1000000000) : strings_HasSuffix (bstr (p ++ [10])) (bstr [10]) true := by
 have hs : (bstr (p ++ [10])).size = p.length + 1 := by rw [size_bstr]; simp
 have h1 : (bstr [10]).size = 1 := by rw [size_bstr]; rfl
 have w : IntKind.i64.wrap (((bstr (p ++ [10])).size : Int) - ((bstr [10]).size : Int)) = (p.length : Int) := by rw [hs, h1, w_small (by omega) (by omega)]; omega
 refine ⟨true, ?_, rfl⟩
 unfold internal_stringslite_HasSuffix
 rw [if_pos (by rw [hs, h1, decide_eq_true_eq]; omega), w, hs, ext_bstr, Int.toNat_natCast]
 refine ⟨by omega, by omega, ?_⟩
 show true = _
 rw [List.take_of_length_le (by simp), List.drop_left' rfl]; simp
theorem hs_no {p : List Int} {c : Int} (hl : p.length < 1000000000) (hc : 0 ≤ c ∧ c < 256) (h : c ≠ 10) : strings_HasSuffix (bstr (p ++ [c])) (bstr [10]) false := by
 have hs : (bstr (p ++ [c])).size = p.length + 1 := by rw [size_bstr]; simp
 have h1 : (bstr [10]).size = 1 := by rw [size_bstr]; rfl
 have w : IntKind.i64.wrap (((bstr (p ++ [c])).size : Int) - ((bstr [10]).size : Int)) = (p.length : Int) := by rw [hs, h1, w_small (by omega) (by omega)]; omega
 refine ⟨false, ?_, rfl⟩
 unfold internal_stringslite_HasSuffix
 rw [if_pos (by rw [hs, h1, decide_eq_true_eq]; omega), w, hs, ext_bstr, Int.toNat_natCast]
 refine ⟨by omega, by omega, ?_⟩
 show false = _
 rw [List.take_of_length_le (by simp), List.drop_left' rfl]
 refine (decide_eq_false (fun e => ?_)).symm
 have := (bstr_eq (a := [c]) (b := [10]) (fun x hx => by simp at hx; omega) (by decide)).1 e
 simp at this
 exact h this
theorem hs_text {L : List (List Int)} {z : List Int} (hL : L ≠ []) (hl : (joinN L ++ z).length < 1000000000) (ho : Oct z) (hz : (10 : Int) ∉ z) : strings_HasSuffix (bstr (joinN L ++ z)) (bstr [10]) (decide (z = [])) := by
 by_cases h : z = []
 ·subst h
  obtain ⟨M, w, rfl⟩ := snoc_of hL
  rw [show joinN (M ++ [w]) ++ [] = (joinN M ++ w) ++ [10] by simp [joinN]] at hl ⊢
  exact hs_yes (by simp at hl ⊢; omega)
 ·obtain ⟨q, c, rfl⟩ := snoc_of h
  rw [decide_eq_false (by simp), ← List.append_assoc]
  refine hs_no (by simp at hl ⊢; omega) (ho c (by simp)) (fun e => hz (by simp [e]))
theorem zread_ok {l : List Int} (hl : l.length < 10000000) (ho : Oct l) {L : List (List Int)} {z : List Int} (hwl : ∀ u ∈ L, u.length < 100000) (h : splitL 10 l = L ++ [z]) (ht : l = joinN L ++ z) (hz : (10 : Int) ∉ z) : script_Read (bstr l) (readL L z) := by
 have hit := zlines_itr (by omega) ho h
 have hsub := @spl_sub 10 l
 have hlen := spl_len 10 l
 rw [h] at hsub hlen
 simp only [List.length_append, List.length_singleton] at hlen
 have hs : ∀ u ∈ L, u.length < 100000 ∧ Oct u := fun u hm => by
  have := hsub u (by simp [hm])
  exact ⟨hwl u hm, fun x hx => ho x (this.2 x hx)⟩
 have hzo : Oct z := fun x hx => ho x ((hsub z (by simp)).2 x hx)
 have j1e : ∀ (s : Int × Int × Int) (r : Int × Int) (out : List Stp) (b e : Int), e ≠ 0 → script_Read_j1 (bstr l) (s.1, s.2.1, s.2.2, r.1, r.2, out, b, e) (noR b e) := by
  intro s r out b e he
  unfold script_Read_j1
  rw [if_neg (dn he)]
  unfold script_Read_j3
  rw [if_neg (by decide)]
  unfold script_Read_j2
  rw [if_pos (nd he)]; rfl
 cases L with
 | nil =>
  refine ⟨_, rfl, .inl (0, 0, 0, 0, 0, [], 0, 0), (), hit _ _ _ _ (run_yof .nil), ?_⟩
  show script_Read_j1 _ _ _
  unfold script_Read_j1
  rw [if_pos (by decide), if_pos (by decide)]
  unfold script_Read_j3
  rw [if_pos rfl]
  unfold script_Read_j2
  rw [if_pos (by decide)]; rfl
 | cons w ws =>
  simp only [List.length_cons] at hlen
  obtain ⟨w1, w2⟩ := hs w List.mem_cons_self
  have hc := cparse_ok (l := w) (by omega) w2
  rw [readL_cons]
  by_cases he : (confB w).2.2 = 0
  ·rw [if_neg (fun q => q he)]
   obtain ⟨t, g1, g2⟩ := zread_run (s := (confB w).1) (r := (confB w).2.1) ws 1 [] (fun u hu => hs u (List.mem_cons_of_mem _ hu)) (by omega) (by omega) (by simp)
   have hfirst : script_Read_l4 ((0 : Nat), bstr w) (0, 0, 0, 0, 0, [], 0, 0) (.inl ((confB w).1.1, (confB w).1.2.1, (confB w).1.2.2, (confB w).2.1.1, (confB w).2.1.2, [], ((1 : Nat) : Int), 0)) := by
    unfold script_Read_l4
    rw [if_pos (by simp)]
    refine ⟨_, hc, ?_⟩
    unfold script_Read_j5
    rw [if_neg (np he)]
    simp only
    rw [he]; rfl
   refine ⟨_, rfl, t, (), hit _ _ _ _ (run_yof (.go hfirst g1)), ?_⟩
   rcases g2 with ⟨out', k1, rfl⟩ | ⟨b, e, out', k1, k2, rfl⟩
   ·rw [k1]
    simp only
    show script_Read_j1 _ _ _
    unfold script_Read_j1
    simp only
    rw [if_pos (by simp), if_neg (dn (by omega))]
    refine ⟨_, by rw [ht]; exact hs_text (by simp) (by rw [← ht]; omega) hzo hz, ?_⟩
    unfold script_Read_j3
    by_cases h0 : z = []
    ·rw [if_neg (by simp [h0]), if_neg (fun q => q h0)]
     unfold script_Read_j2
     rw [if_neg (by simp)]
    ·rw [if_pos (by simp [h0]), if_pos h0]
     unfold script_Read_j2
     rw [if_pos (by decide), Nat.add_comm 1]; rfl
   ·rw [k1]
    exact j1e (confB w).1 (confB w).2.1 out' b e k2
  ·rw [if_pos he]
   refine ⟨_, rfl, .inr ((confB w).1.1, (confB w).1.2.1, (confB w).1.2.2, (confB w).2.1.1, (confB w).2.1.2, [], 0, (confB w).2.2), (), hit _ _ _ _ (run_yof (.stop ?_)), ?_⟩
   ·unfold script_Read_l4
    rw [if_pos (by simp)]
    refine ⟨_, hc, ?_⟩
    unfold script_Read_j5
    rw [if_pos (nd he)]
   ·exact j1e (confB w).1 (confB w).2.1 [] 0 _ he
def mapR (x : RdT) : (Int × Int × Int) × (Int × Int) × List (Int × Mr × It × List Int) × Int × Int := (x.1, x.2.1, x.2.2.1.map ofZ, x.2.2.2.1, x.2.2.2.2)
theorem rread_run {s : Int × Int × Int} {r : Int × Int} {L : List (List Int)} {z : List Int} (hs : ∀ w ∈ L, w.length < 100000 ∧ Oct w) (hl : L.length < 100000) : ∀ (ws pre : List (List Int)) (out : List Stp), L = pre ++ ws → 1 ≤ pre.length → out.length ≤ pre.length →
    Loops (ref27_Read_l3 ((L ++ [z]).map bstr)) (out.map ofZ, (pre.length : Int), s.1, s.2.1, s.2.2, r.1, r.2) (match goS ws pre.length out with | .inl out' => .inl (out'.map ofZ, s.1, s.2.1, s.2.2, r.1, r.2) | .inr (b, e) => .inr ((0, 0, 0), (0, 0), [], b, e))
  | [], pre, out, h, ha, ho => by
    refine .done ?_
    unfold ref27_Read_l3
    rw [if_neg (dn (by rw [List.length_map, List.length_append, List.length_singleton, w_small (by omega) (by omega), h]; simp))]
    rfl
  | w :: ws, pre, out, h, ha, hol => by
    have hlen : L.length = pre.length + ws.length + 1 := by rw [h]; simp; omega
    obtain ⟨h1, h2⟩ := hs w (by rw [h]; simp)
    have hx : idx ((L ++ [z]).map bstr) (pre.length : Int) (bstr w) := idx_at rfl (by rw [h]; simp)
    have hz := rzparse_ok h1 h2
    have hb : decide ((pre.length : Int) < IntKind.i64.wrap ((((L ++ [z]).map bstr).length : Int) - 1)) = true := by
      rw [decide_eq_true_eq, List.length_map, List.length_append, List.length_singleton, w_small (by omega) (by omega)]; omega
    unfold goS
    by_cases hp : (parseZ w).2 = 0
    · rw [if_pos hp]
      have ih := rread_run (s := s) (r := r) (z := z) hs hl ws (pre ++ [w]) (out ++ [(parseZ w).1]) (by rw [h]; simp) (by simp) (by simp; omega)
      rw [List.length_append, List.length_singleton] at ih
      refine .next ?_ ih
      unfold ref27_Read_l3
      rw [if_pos hb, if_neg (dn (by simp only; omega))]
      refine ⟨_, hx, _, hz, ?_⟩
      simp only [List.length_map, List.length_singleton]
      refine ⟨by omega, by omega, ?_⟩
      unfold ref27_Read_j4
      rw [if_neg (np hp)]
      simp only
      rw [w_small (by omega) (by omega), List.map_append]; rfl
    · rw [if_neg hp]
      refine .done ?_
      unfold ref27_Read_l3
      rw [if_pos hb, if_neg (dn (by simp only; omega))]
      refine ⟨_, hx, _, hz, ?_⟩
      simp only [List.length_map, List.length_singleton]
      refine ⟨by omega, by omega, ?_⟩
      unfold ref27_Read_j4
      rw [if_pos (nd hp)]
theorem rread2_ok {l : List Int} (hl : l.length < 100000) (ho : Oct l) {L : List (List Int)} {z : List Int} (h : splitL 10 l = L ++ [z]) : ref27_Read (bstr l) (mapR (readL L z)) := by
 have hsub := @spl_sub 10 l
 have hlen := spl_len 10 l
 rw [h] at hsub hlen
 simp only [List.length_append, List.length_singleton] at hlen
 have hs : ∀ u ∈ L, u.length < 100000 ∧ Oct u := fun u hm => by
  have := hsub u (by simp [hm])
  exact ⟨by omega, fun x hx => ho x (this.2 x hx)⟩
 have hzo : Oct z := fun x hx => ho x ((hsub z (by simp)).2 x hx)
 have hsp := rsplit_ok (c := 10) (l := l) (by omega) ho
 rw [h] at hsp
 refine ⟨_, hsp, ?_⟩
 have hbz : decide (bstr z = bstr []) = decide (z = []) := bs_nil
 cases L with
 | nil =>
  refine ⟨.inl ([], 0, 0, 0, 0, 0), .done ?_, ?_⟩
  ·unfold ref27_Read_l3
   rw [if_neg (dn (by
    rw [List.nil_append, List.map_singleton, List.length_singleton, w_small (by omega) (by omega)]; simp))]
  ·show ref27_Read_j1 _ _ _
   unfold ref27_Read_j1
   rw [if_pos (by simp)]
   unfold ref27_Read_j2
   rw [if_pos rfl]; rfl
 | cons w ws =>
  simp only [List.length_cons] at hlen
  obtain ⟨w1, w2⟩ := hs w List.mem_cons_self
  have hc := cfparse_ok (l := w) (by omega) w2
  have hx0 : idx (((w :: ws) ++ [z]).map bstr) 0 (bstr w) := idx_at (k := 0) rfl rfl
  have hb : decide ((0 : Int) < IntKind.i64.wrap (((((w :: ws) ++ [z]).map bstr).length : Int) - 1)) = true := by
   rw [decide_eq_true_eq, List.length_map, List.length_append, List.length_singleton, List.length_cons, w_small (by omega) (by omega)]; omega
  have hll : IntKind.i64.wrap (((((w :: ws) ++ [z]).map bstr).length : Int) - 1) = ((ws.length + 1 : Nat) : Int) := by
   rw [List.length_map, List.length_append, List.length_singleton, List.length_cons, w_small (by omega) (by omega)]; omega
  rw [readL_cons]
  by_cases he : (confB w).2.2 = 0
  ·rw [if_neg (fun q => q he)]
   have hrun := rread_run (s := (confB w).1) (r := (confB w).2.1) (z := z) hs (by simp; omega) ws [w] [] rfl (by simp) (by simp)
   refine ⟨_, .next (s' := ([], ((1 : Nat) : Int), (confB w).1.1, (confB w).1.2.1, (confB w).1.2.2, (confB w).2.1.1, (confB w).2.1.2)) ?_ hrun, ?_⟩
   ·unfold ref27_Read_l3
    rw [if_pos hb, if_pos (by decide)]
    refine ⟨_, hx0, _, hc, ?_⟩
    unfold ref27_Read_j4
    rw [if_neg (np he)]; rfl
   ·rw [show [w].length = 1 from rfl]
    cases hg : goS ws 1 [] with
    | inl out' =>
     simp only
     show ref27_Read_j1 _ _ _
     unfold ref27_Read_j1
     rw [if_neg (by simp; omega), hll]
     refine ⟨bstr z, idx_at rfl (by simp), ?_⟩
     rw [hbz]
     unfold ref27_Read_j2
     by_cases h0 : z = []
     ·rw [if_neg (np h0), if_neg (fun q => q h0)]; rfl
     ·rw [if_pos (nd h0), if_pos h0, hll]; rfl
    | inr p => rfl
  ·rw [if_pos he]
   refine ⟨.inr ((0, 0, 0), (0, 0), [], 0, (confB w).2.2), .done ?_, rfl⟩
   unfold ref27_Read_l3
   rw [if_pos hb, if_pos (by decide)]
   refine ⟨_, hx0, _, hc, ?_⟩
   unfold ref27_Read_j4
   rw [if_pos (nd he)]
end Go.Rel
