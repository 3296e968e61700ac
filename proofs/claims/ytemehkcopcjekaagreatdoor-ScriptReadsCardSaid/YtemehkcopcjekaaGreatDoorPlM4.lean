import Derived.Test.YtemehkcopcjekaaGreatDoorPlM3
/-! Plain laws: scripts: any text read; any steps printed. -/
namespace Go.Rel
open Go Go.Eng Go.Pl
theorem goS_back : ∀ {ws : List (List Int)} {a : Nat} {out out' : List Stp}, (∀ w ∈ ws, w.length ≤ 900) → goS ws a out = .inl out' → ∃ xs, out' = out ++ xs ∧ xs.map lineZ = ws ∧ (∀ x ∈ xs, StpOk x) ∧ firstZ xs = 0
 | [], a, out, out', _, h => by
  cases h
  exact ⟨[], by simp, rfl, fun _ h => (nomatch h), rfl⟩
 | w :: ws, a, out, out', hw, h => by
  unfold goS at h
  by_cases hp : (parseZ w).2 = 0
  ·rw [if_pos hp] at h
   obtain ⟨xs, h1, h2, h3, h4⟩ := goS_back (fun x hx => hw x (List.mem_cons_of_mem _ hx)) h
   obtain ⟨g1, g2, g3⟩ := parseZ_back (l := w) (s := (parseZ w).1) (hw w List.mem_cons_self) (by rw [← hp])
   refine ⟨(parseZ w).1 :: xs, by rw [h1]; simp, by rw [List.map_cons, g3, h2], ?_, ?_⟩
   ·intro x hx
    rcases List.mem_cons.1 hx with rfl | hx
    ·exact g1
    ·exact h3 x hx
   ·unfold firstZ; rw [if_pos g2]; exact h4
  ·rw [if_neg hp] at h; cases h
theorem goS_err : ∀ {ws : List (List Int)} {a : Nat} {out : List Stp} {b e : Int}, goS ws a out = .inr (b, e) → e ≠ 0
 | [], a, out, b, e, h => by cases h
 | w :: ws, a, out, b, e, h => by
  unfold goS at h
  by_cases hp : (parseZ w).2 = 0
  ·rw [if_pos hp] at h; exact goS_err h
  ·rw [if_neg hp] at h
   cases h; exact hp
theorem bodyZ_eq (l : List Stp) : bodyZ l = joinN (l.map lineZ) := by unfold bodyZ joinN; rw [List.flatMap_map]
theorem textZ_eq (s : Int × Int × Int) (r : Int × Int) (l : List Stp) : textZ s r l = joinN (lineC s r :: l.map lineZ) := by
 unfold textZ
 rw [bodyZ_eq]; simp [joinN]
theorem readL_back {L : List (List Int)} {z : List Int} (hw : ∀ w ∈ L, w.length ≤ 900) : (∀ x ∈ (readL L z).2.2.1, StpOk x) ∧ (readL L z).2.2.1.length ≤ L.length ∧ ((readL L z).2.2.2.2 = 0 → SOk (readL L z).1 (readL L z).2.1 ∧ sndB (readL L z).1 = 0 ∧ rcvB (readL L z).2.1 = 0 ∧ firstZ (readL L z).2.2.1 = 0 ∧ textZ (readL L z).1 (readL L z).2.1 (readL L z).2.2.1 = joinN L ++ z) := by
 have no : ∀ a e, e ≠ 0 → (∀ x ∈ (noR a e).2.2.1, StpOk x) ∧ (noR a e).2.2.1.length ≤ L.length ∧ ((noR a e).2.2.2.2 = 0 → SOk (noR a e).1 (noR a e).2.1 ∧ sndB (noR a e).1 = 0 ∧ rcvB (noR a e).2.1 = 0 ∧ firstZ (noR a e).2.2.1 = 0 ∧ textZ (noR a e).1 (noR a e).2.1 (noR a e).2.2.1 = joinN L ++ z) := fun a e he => ⟨fun _ h => (nomatch h), Nat.zero_le _, fun h => absurd h he⟩
 cases L with
 | nil => exact no 0 4 (by decide)
 | cons w ws =>
  rw [readL_cons]
  by_cases he : (confB w).2.2 = 0
  ·rw [if_neg (fun q => q he)]
   cases hg : goS ws 1 [] with
   | inr p =>
    obtain ⟨b, e⟩ := p
    exact no b e (goS_err hg)
   | inl out =>
    simp only
    obtain ⟨xs, h1, h2, h3, h4⟩ := goS_back (fun x hx => hw x (List.mem_cons_of_mem _ hx)) hg
    rw [List.nil_append] at h1
    subst h1
    by_cases h0 : z = []
    ·rw [if_neg (fun q => q h0)]
     obtain ⟨c1, c2, c3, c4⟩ := confB_back (l := w) (s := (confB w).1) (r := (confB w).2.1) (by rw [← he])
     refine ⟨h3, by rw [← h2]; simp, fun _ => ⟨c1, c2, c3, h4, ?_⟩⟩
     rw [textZ_eq, c4, h2, h0, List.append_nil]
    ·rw [if_pos h0]; exact no _ 4 (by decide)
  ·rw [if_pos he]; exact no 0 _ he
theorem scriptReads_true {s : ByteArray} {stop : Int} : law27_ScriptReads s stop true := by
 have h900 := ext_min s 900
 rw [show ((900 : Nat) : Int) = 900 from rfl] at h900
 have hsz := ext_size s 900
 have j6 : ∀ t : ByteArray, s.extract 0 (min (s.size : Int) 900).toNat = t → ∀ r5 : RdT, (r5.2.2.2.2 = 0 → script_Print r5.1 r5.2.1 r5.2.2.1 (t, 0)) → law27_ScriptReads_j6 s r5 false true := by
  intro t ht r5 h
  unfold law27_ScriptReads_j6
  rw [if_neg (by decide), ht]
  by_cases he : r5.2.2.2.2 = 0
  ·rw [if_neg (np he)]
   refine ⟨_, h he, true, known27_ok, ?_⟩
   rw [if_pos rfl, if_pos (by simp)]
   show true = _
   simp
  ·rw [if_pos (nd he)]
   exact ⟨true, known27_ok, rfl⟩
 have j2 : ∀ (t : ByteArray) (r5 : RdT) (l : List Int) (L : List (List Int)) (z : List Int), s.extract 0 (min (s.size : Int) 900).toNat = t → t = bstr l → l.length ≤ 900 → Oct l → splitL 10 l = L ++ [z] → L.length ≤ 901 → (r5.2.2.2.2 = 0 → script_Print r5.1 r5.2.1 r5.2.2.1 (t, 0)) → law27_ScriptReads_j2 s stop r5 () true := by
  intro t r5 l L z ht htl hl ho hsp hLl hpr
  have hit := zlines_itr (by omega) ho hsp
  have hspl := rsplit_ok (c := 10) (l := l) (by omega) ho
  rw [hsp] at hspl
  have hll : IntKind.i64.wrap (((((L ++ [z]).map bstr)).length : Int) - 1) = (L.length : Int) := by
   rw [List.length_map, List.length_append, List.length_singleton, w_small (by omega) (by omega)]; omega
  unfold law27_ScriptReads_j2
  rw [ht, htl]
  refine ⟨_, hspl, _, rfl, .inl (L.length : Int), (), ?_, ?_⟩
  ·refine hit _ _ _ _ (run_yof ?_)
   obtain ⟨t', h1, h2⟩ := runB_inv (B := law27_ScriptReads_l3 ((L ++ [z]).map bstr)) (fun k (s : Int) => s = (k : Int)) (fun _ => False) (numP 0 L) (s := 0) rfl (by
    rintro k hk s rfl
    rw [numP_len] at hk
    have hat := numP_at L 0 k hk
    rw [List.getElem?_eq_getElem (by rw [numP_len]; exact hk)] at hat
    rw [Option.some.inj hat]
    left
    refine ⟨((k + 1 : Nat) : Int), ?_, rfl⟩
    unfold law27_ScriptReads_l3
    rw [if_neg (np (by simp)), hll, if_neg (dn (by omega))]
    refine ⟨bstr L[k], idx_at (k := k) rfl (by rw [List.map_append, List.getElem?_append_left (by simpa using hk)]; simp [hk]), ?_⟩
    unfold law27_ScriptReads_j4
    rw [if_neg (by simp), w_small (by omega) (by omega)]; rfl)
   rcases h2 with ⟨s', rfl, hs'⟩ | ⟨e, _, hf⟩
   ·rw [numP_len] at hs'; rw [hs'] at h1; exact h1
   ·exact hf.elim
  ·show ∃ _, _
   refine ⟨_, rfl, ?_⟩
   obtain ⟨t', h1, h2⟩ := runB_inv (B := law27_ScriptReads_l8 stop) (fun k (s : Int) => s = (k : Int)) (fun e => e = stop) (numP 0 L) (s := 0) rfl (by
    rintro k hk s rfl
    rw [numP_len] at hk
    unfold law27_ScriptReads_l8
    by_cases h : (k : Int) = stop
    ·right
     exact ⟨(k : Int), by rw [if_pos (decide_eq_true h)], h⟩
    ·left
     refine ⟨((k + 1 : Nat) : Int), ?_, rfl⟩
     rw [if_neg (dn h), w_small (by omega) (by omega)]; rfl)
   have j5 : ∀ x : Int, (x = (L.length : Int) ∨ x = stop) → law27_ScriptReads_j5 s stop r5 ((L ++ [z]).map bstr) (L.length : Int) x true := by
    intro x hx
    unfold law27_ScriptReads_j5
    rw [hll, if_neg (np rfl)]
    have hj := j6 t ht r5 hpr
    by_cases h : x = (L.length : Int)
    ·rw [if_neg (np h)]; exact hj
    ·rw [if_pos (nd h)]
     rcases hx with hx | hx
     ·exact absurd hx h
     ·rw [decide_eq_true hx]; exact hj
   refine ⟨t', (), hit _ _ _ _ (run_yof h1), ?_⟩
   rcases h2 with ⟨s', rfl, hs'⟩ | ⟨e, rfl, he⟩
   ·rw [numP_len] at hs'; exact j5 _ (.inl hs')
   ·exact j5 _ (.inr he)
 unfold law27_ScriptReads
 rw [h900]
 refine ⟨by omega, by omega, ?_⟩
 obtain ⟨t, ht⟩ : ∃ t, s.extract 0 900 = t := ⟨_, rfl⟩
 rw [ht] at hsz ⊢
 rw [ht] at h900
 obtain ⟨l, rfl, ho⟩ : ∃ l, t = bstr l ∧ Oct l := ⟨bints t, (bstr_bints t).symm, bints_byt t⟩
 rw [size_bstr] at hsz
 obtain ⟨L, z, hsp, hl, hLn, hzn⟩ := text_of l
 have hsub := @spl_sub 10 l
 have hlen := spl_len 10 l
 rw [hsp] at hsub hlen
 simp only [List.length_append, List.length_singleton] at hlen
 have hw : ∀ w ∈ L, w.length ≤ 900 := fun w hm => by have := hsub w (by simp [hm]); omega
 obtain ⟨b1, b2, b3⟩ := readL_back (L := L) (z := z) hw
 refine ⟨_, zread_ok (by omega) ho (fun u hu => by have := hw u hu; omega) hsp hl hzn, _, rread2_ok (by omega) ho hsp, ?_⟩
 rw [if_neg (np (show (readL L z).2.2.2.2 = (mapR (readL L z)).2.2.2.2 from rfl)), if_neg (np (show (readL L z).2.2.2.1 = (mapR (readL L z)).2.2.2.1 from rfl)), if_neg (by simp [mapR]), if_neg (by simp [mapR])]
 unfold law27_ScriptReads_j1
 rw [if_neg (by simp [mapR])]
 refine ⟨.inl (), ?_, ?_⟩
 ·refine loops_count (step := law27_ScriptReads_l9 (readL L z) (mapR (readL L z))) (fun k => (k : Int)) (readL L z).2.2.1.length (fun k hk => ?_) ?_
  ·unfold law27_ScriptReads_l9
   rw [if_pos (decide_eq_true (by omega))]
   refine ⟨_, idx_of hk, ofZ (readL L z).2.2.1[k], idx_at rfl (by simp [mapR, hk]), true, zsame_ok (b1 _ (List.getElem_mem hk)), ?_⟩
   rw [if_neg (by decide), w_small (by omega) (by omega)]; rfl
  ·unfold law27_ScriptReads_l9
   rw [if_neg (dn (by omega))]
 ·refine j2 _ _ l L z h900 rfl (by omega) ho hsp (by omega) (fun he => ?_)
  obtain ⟨c1, c2, c3, c4, c5⟩ := b3 he
  have hp := zprint_ok c1 b1 (by omega)
  unfold printZ at hp
  rw [if_neg (fun q => q c2), if_neg (fun q => q c3), if_neg (fun q => q c4), c5, ← hl] at hp
  exact hp
theorem scriptReads_claim {s : ByteArray} {stop : Int} (_h0 : StrOk s) (_h1 : IntOk .i64 stop) : law27_ScriptReads s stop true := scriptReads_true
end Go.Rel
