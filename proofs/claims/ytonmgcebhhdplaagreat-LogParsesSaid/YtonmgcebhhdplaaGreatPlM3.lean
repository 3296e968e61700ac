import Derived.Test.YtonmgcebhhdplaaGreatPlM2
/-! Plain laws: any body is decoded, or not, by the program and by the document alike. -/
namespace Go.Rel
open Go Go.Eng Go.Pl

/-! ### What a field tells of a message -/
def difS (f g : Fd) : Prop := if f.2.1 < 3 then g.2.1 < 3 → f.2.2.1 ≠ g.2.2.1 else f.2.1 ≠ g.2.1
theorem fields_dif (k : Int) : (fieldsB k).Pairwise difS := by
  unfold fieldsB
  split
  · simp [difS, robotF]
  · split
    · simp [difS, robotF]
    · split
      · simp [difS, robotF]
      · split
        · simp [difS, robotF]
        · split
          · simp [difS, robotF]
          · exact .nil
def sv (m : Mg) (f : Fd) : Int × List (Int × Int) × List Int × ByteArray :=
  if f.2.1 = 3 then (0, m.2.2.1, [], bstr []) else if f.2.1 = 4 then (0, [], m.2.2.2.1, bstr []) else if f.2.1 = 5 then (0, [], [], m.2.2.2.2.1) else if f.2.1 = 6 then (0, [], [], m.2.2.2.2.2) else (m.2.1.getD f.2.2.1.toNat 0, [], [], bstr [])
theorem sort_of {f : Fd} (h : fdOk f) : f.2.1 = 3 ∨ f.2.1 = 4 ∨ f.2.1 = 5 ∨ f.2.1 = 6 ∨ ((f.2.1 = 1 ∨ f.2.1 = 2) ∧ 0 ≤ f.2.2.1 ∧ f.2.2.1 < 6) := by
  obtain ⟨_, _, h⟩ := h
  rcases h with ⟨h, _⟩ | ⟨h, _⟩ | ⟨h, _⟩ | ⟨h, _⟩ | ⟨a, b, c, d, _⟩
  · exact .inl h
  · exact .inr (.inl h)
  · exact .inr (.inr (.inl h))
  · exact .inr (.inr (.inr (.inl h)))
  · exact .inr (.inr (.inr (.inr ⟨by omega, c, d⟩)))
theorem part_sv {m m' : Mg} {f : Fd} (hf : fdOk f) (h : sv m f = sv m' f) : partE m f = partE m' f := by
  unfold sv at h
  rcases sort_of hf with e | e | e | e | ⟨e | e, _⟩ <;> simp [e] at h <;> simp [partE, e, h]
theorem wrong_sv {m m' : Mg} {f : Fd} (hf : fdOk f) (h : sv m f = sv m' f) : wrongB m f = wrongB m' f := by
  unfold sv at h
  rcases sort_of hf with e | e | e | e | ⟨e | e, _⟩ <;> simp [e] at h <;> simp [wrongB, numBad, e, h]
theorem set_sv {x m m' : Mg} {f : Fd} (hf : fdOk f) (h : sv m f = sv m' f) : setF x m f = setF x m' f := by
  unfold sv at h
  rcases sort_of hf with e | e | e | e | ⟨e | e, _⟩ <;> simp [e] at h <;> simp [setF, e, h]
theorem sv_same {z y : Mg} {f : Fd} (hf : fdOk f) : sv (setF z y f) f = sv y f := by
  rcases sort_of hf with e | e | e | e | ⟨e | e, h0, h1⟩
  · simp [sv, setF, e]
  · simp [sv, setF, e]
  · simp [sv, setF, e]
  · simp [sv, setF, e]
  all_goals
    have h := putN_getD (n := 6) (z := (0 : Int)) (v := y.2.1.getD f.2.2.1.toNat 0) (xs := z.2.1) (q := f.2.2.1.toNat) (j := f.2.2.1.toNat) (by omega)
    rw [if_pos rfl] at h
    simpa [sv, setF, e] using h
theorem sv_dif {z y : Mg} {f g : Fd} (hf : fdOk f) (hg : fdOk g) (h : difS f g) : sv (setF z y f) g = sv z g := by
  unfold difS at h
  have hN : 0 ≤ f.2.2.1 → 0 ≤ g.2.2.1 → g.2.2.1 < 6 → f.2.2.1 ≠ g.2.2.1 → (putN 6 0 z.2.1 f.2.2.1.toNat (y.2.1.getD f.2.2.1.toNat 0)).getD g.2.2.1.toNat 0 = z.2.1.getD g.2.2.1.toNat 0 := fun a1 a2 a3 a4 => by
    rw [putN_getD (by omega), if_neg (by omega)]
  rcases sort_of hf with e | e | e | e | ⟨e | e, h0, h1⟩ <;> rcases sort_of hg with k | k | k | k | ⟨k | k, j0, j1⟩ <;> simp [e, k] at h <;> first
    | (simp [sv, setF, e, k]; done)
    | (have := hN h0 j0 j1 h; simpa [sv, setF, e, k] using this)
def setAll (x y : Mg) : List Fd → Mg
  | [] => x
  | f :: r => setAll (setF x y f) y r
theorem setAll_sv {y y' : Mg} : ∀ (r : List Fd) (x : Mg), (∀ f ∈ r, fdOk f ∧ sv y f = sv y' f) → setAll x y r = setAll x y' r
  | [], _, _ => rfl
  | f :: r, x, h => by
    obtain ⟨h1, h2⟩ := h f List.mem_cons_self
    unfold setAll
    rw [set_sv h1 h2, setAll_sv r _ (fun g hg => h g (List.mem_cons_of_mem _ hg))]
theorem sv_setAll_out {y : Mg} {g : Fd} (hg : fdOk g) : ∀ (r : List Fd) (x : Mg), (∀ f ∈ r, fdOk f ∧ difS f g) → sv (setAll x y r) g = sv x g
  | [], _, _ => rfl
  | f :: r, x, h => by
    obtain ⟨h1, h2⟩ := h f List.mem_cons_self
    unfold setAll
    rw [sv_setAll_out hg r _ (fun q hq => h q (List.mem_cons_of_mem _ hq)), sv_dif h1 hg h2]
theorem difS_symm {f g : Fd} (h : difS f g) : difS g f := by
  unfold difS at h ⊢
  by_cases h1 : f.2.1 < 3
  · rw [if_pos h1] at h
    by_cases h2 : g.2.1 < 3
    · rw [if_pos h2]; intro _ e; exact h h2 e.symm
    · rw [if_neg h2]; omega
  · rw [if_neg h1] at h
    by_cases h2 : g.2.1 < 3
    · rw [if_pos h2]; intro h3; exact absurd h3 h1
    · rw [if_neg h2]; exact fun e => h e.symm
theorem sv_setAll_in {y : Mg} : ∀ (r : List Fd) (x : Mg), r.Pairwise difS → (∀ f ∈ r, fdOk f) → ∀ f ∈ r, sv (setAll x y r) f = sv y f
  | f :: r, x, hp, h, g, hg => by
    obtain ⟨h1, h2⟩ := List.pairwise_cons.1 hp
    unfold setAll
    rcases List.mem_cons.1 hg with rfl | hg
    · rw [sv_setAll_out (h g List.mem_cons_self) r _ (fun q hq => ⟨h q (List.mem_cons_of_mem _ hq), difS_symm (h1 q hq)⟩), sv_same (h g List.mem_cons_self)]
    · exact sv_setAll_in r _ h2 (fun q hq => h q (List.mem_cons_of_mem _ hq)) g hg
theorem mix_ok {y0 y1 : Mg} {f : Fd} {r : List Fd} (hf : fdOk f) (hr : ∀ g ∈ r, fdOk g) (hd : ∀ g ∈ r, difS f g) :
    sv (setF y1 y0 f) f = sv y0 f ∧ ∀ g ∈ r, sv (setF y1 y0 f) g = sv y1 g :=
  ⟨sv_same hf, fun g hg => sv_dif hf (hr g hg) (hd g hg)⟩
theorem flat_sv {y y' : Mg} : ∀ (r : List Fd), (∀ f ∈ r, fdOk f ∧ sv y f = sv y' f) → r.flatMap (partE y) = r.flatMap (partE y')
  | [], _ => rfl
  | f :: r, h => by
    obtain ⟨h1, h2⟩ := h f List.mem_cons_self
    rw [List.flatMap_cons, List.flatMap_cons, part_sv h1 h2, flat_sv r (fun g hg => h g (List.mem_cons_of_mem _ hg))]
theorem setF_n6 {x y : Mg} {f : Fd} (hx : n6 x.2.1 = x.2.1) : n6 (setF x y f).2.1 = (setF x y f).2.1 := by
  unfold setF
  repeat' split
  all_goals first | exact hx | rfl
theorem setF_path {x y : Mg} {f : Fd} (h : f.2.1 ≠ 3) : (setF x y f).2.2.1 = x.2.2.1 := by
  unfold setF
  repeat' split
  all_goals first | rfl | contradiction
theorem setF_cells {x y : Mg} {f : Fd} (h : f.2.1 ≠ 4) : (setF x y f).2.2.2.1 = x.2.2.2.1 := by
  unfold setF
  repeat' split
  all_goals first | rfl | contradiction
/-! ### The loops -/
abbrev Rst := Int × Int × Int × Int × Int × Int × Int × Int × Int × List (List Int) × List Int × ByteArray × ByteArray
def stE (at_ i : Nat) (x : Mg) : Rst := ((at_ : Int), (i : Int), x.1, x.2.1.getD 0 0, x.2.1.getD 1 0, x.2.1.getD 2 0, x.2.1.getD 3 0, x.2.1.getD 4 0, x.2.1.getD 5 0, x.2.2.1.map ofP, x.2.2.2.1, x.2.2.2.2.1, x.2.2.2.2.2)
abbrev Rse := Int × Int × Int × Int × Int × Int × Int × Int × List (List Int) × List Int × ByteArray × ByteArray
def exE (at_ : Nat) (x : Mg) : Rse := ((at_ : Int), x.1, x.2.1.getD 0 0, x.2.1.getD 1 0, x.2.1.getD 2 0, x.2.1.getD 3 0, x.2.1.getD 4 0, x.2.1.getD 5 0, x.2.2.1.map ofP, x.2.2.2.1, x.2.2.2.2.1, x.2.2.2.2.2)
def zR6 : Mr := (0, [0, 0, 0, 0, 0, 0], [], [], bstr [], bstr [])
theorem n6_form {x : Mg} (hx : n6 x.2.1 = x.2.1) : (x.1, [x.2.1.getD 0 0, x.2.1.getD 1 0, x.2.1.getD 2 0, x.2.1.getD 3 0, x.2.1.getD 4 0, x.2.1.getD 5 0], x.2.2.1, x.2.2.2.1, x.2.2.2.2.1, x.2.2.2.2.2) = x := by
  show (x.1, n6 x.2.1, x.2.2) = x
  rw [hx]
theorem n6_formR {x : Mg} (hx : n6 x.2.1 = x.2.1) : (x.1, [x.2.1.getD 0 0, x.2.1.getD 1 0, x.2.1.getD 2 0, x.2.1.getD 3 0, x.2.1.getD 4 0, x.2.1.getD 5 0], x.2.2.1.map ofP, x.2.2.2.1, x.2.2.2.2.1, x.2.2.2.2.2) = ofM x := by
  show (x.1, n6 x.2.1, x.2.2.1.map ofP, x.2.2.2.1, x.2.2.2.2.1, x.2.2.2.2.2) = ofM x
  rw [hx]; rfl
section
variable {b : List Int} {at_ : Nat} {x : Mg} {f : Fd} {k v : Int}
theorem l4_go {x' : Mg} {at' : Nat} (hx : n6 x.2.1 = x.2.1) (h : body_reader_field ((), 0) (b, (at_ : Int), 0) x f (((), 0), (b, (at' : Int), 0), x')) : body_Decode_l4 f (stD b at_ x) (.inl (stD b at' x')) := by
  refine ⟨(((), 0), (b, (at' : Int), 0), x'), ?_, 0, rerr0, by rw [if_neg (by simp)]; rfl⟩
  have := n6_form hx
  simp only [stD]
  rw [this]; exact h
theorem l4_err {m : Mg} {f' a2 e2 e : Int} (hx : n6 x.2.1 = x.2.1) (he : e ≠ 0) (h : body_reader_field ((), 0) (b, (at_ : Int), 0) x f (((), f'), (b, a2, e2), m)) (h2 : body_reader_err ((), f') (b, a2, e2) e) :
    ∃ s : Dst, body_Decode_l4 f (stD b at_ x) (.inr s) ∧ body_reader_err ((), s.2.2.2.1) (s.1, s.2.1, s.2.2.1) e := by
  refine ⟨(b, a2, e2, f', m.1, m.2.1.getD 0 0, m.2.1.getD 1 0, m.2.1.getD 2 0, m.2.1.getD 3 0, m.2.1.getD 4 0, m.2.1.getD 5 0, m.2.2.1, m.2.2.2.1, m.2.2.2.2.1, m.2.2.2.2.2), ⟨(((), f'), (b, a2, e2), m), ?_, e, h2, ?_⟩, h2⟩
  · have := n6_form hx
    simp only [stD]
    rw [this]; exact h
  · rw [if_pos (by simpa using he)]
theorem l3_skip {i : Nat} (hi : i < 100) (hx : idx (fieldsB k) (i : Int) f) (hv : ¬ f.2.2.2.2.2.1 ≤ v) : ref18_Decode_l3 v b (fieldsB k) (stE at_ i x) (.inl (stE at_ (i + 1) x)) := by
  have hlt := hx.lt
  unfold ref18_Decode_l3
  rw [if_pos (by simpa [stE] using hlt)]
  refine ⟨f, hx, ?_⟩
  rw [if_pos (by simpa using hv)]
  unfold ref18_Decode_j4
  simp only [stE]
  rw [w_small (by omega) (by omega)]; simp
theorem l3_go {i : Nat} {x' : Mg} {at' : Nat} (hi : i < 100) (hx6 : n6 x.2.1 = x.2.1) (hx : idx (fieldsB k) (i : Int) f) (hv : f.2.2.2.2.2.1 ≤ v) (h : ref18_field (ofM x) f b at_ (ofM x', (at' : Int), 0)) : ref18_Decode_l3 v b (fieldsB k) (stE at_ i x) (.inl (stE at' (i + 1) x')) := by
  have hlt := hx.lt
  unfold ref18_Decode_l3
  rw [if_pos (by simpa [stE] using hlt)]
  refine ⟨f, hx, ?_⟩
  rw [if_neg (by simpa using hv)]
  refine ⟨f, hx, (ofM x', (at' : Int), 0), ?_, ?_⟩
  · have := n6_formR hx6
    simp only [stE]
    rw [this]; exact h
  · rw [if_neg (by simp)]
    unfold ref18_Decode_j4
    simp only [stE, ofM]
    rw [w_small (by omega) (by omega)]; simp
theorem l3_err {i : Nat} {m : Mr} {t e : Int} (he : e ≠ 0) (hx6 : n6 x.2.1 = x.2.1) (hx : idx (fieldsB k) (i : Int) f) (hv : f.2.2.2.2.2.1 ≤ v) (h : ref18_field (ofM x) f b at_ (m, t, e)) : ref18_Decode_l3 v b (fieldsB k) (stE at_ i x) (.inr (.inr (zR6, e))) := by
  have hlt := hx.lt
  unfold ref18_Decode_l3
  rw [if_pos (by simpa [stE] using hlt)]
  refine ⟨f, hx, ?_⟩
  rw [if_neg (by simpa using hv)]
  refine ⟨f, hx, (m, t, e), ?_, ?_⟩
  · have := n6_formR hx6
    simp only [stE]
    rw [this]; exact h
  · rw [if_pos (by simpa using he)]; rfl
end
theorem dec_run {b : List Int} {k v : Int} (hb : b.length < 1073741824) (hby : Byt b) : ∀ (r pre : List Fd) (x : Mg) (at_ : Nat), fieldsB k = pre ++ r → n6 x.2.1 = x.2.1 → (∀ f ∈ r, f.2.1 = 3 → x.2.2.1 = []) → (∀ f ∈ r, f.2.1 = 4 → x.2.2.2.1 = []) → at_ ≤ b.length →
    (∃ (y : Mg) (rest : List Int), (∀ f ∈ r.filter (fun f => decide (f.2.2.2.2.2.1 ≤ v)), wrongB y f = 0) ∧ b.drop at_ = (r.filter (fun f => decide (f.2.2.2.2.2.1 ≤ v))).flatMap (partE y) ++ rest ∧ at_ + ((r.filter (fun f => decide (f.2.2.2.2.2.1 ≤ v))).flatMap (partE y)).length ≤ b.length ∧
      RunB body_Decode_l4 (r.filter (fun f => decide (f.2.2.2.2.2.1 ≤ v))) (stD b at_ x) (.inl (stD b (at_ + ((r.filter (fun f => decide (f.2.2.2.2.2.1 ≤ v))).flatMap (partE y)).length) (setAll x y (r.filter (fun f => decide (f.2.2.2.2.2.1 ≤ v)))))) ∧
      Loops (ref18_Decode_l3 v b (fieldsB k)) (stE at_ pre.length x) (.inl (exE (at_ + ((r.filter (fun f => decide (f.2.2.2.2.2.1 ≤ v))).flatMap (partE y)).length) (setAll x y (r.filter (fun f => decide (f.2.2.2.2.2.1 ≤ v))))))) ∨
    (∃ (e : Int) (s : Dst), e ≠ 0 ∧ body_reader_err ((), s.2.2.2.1) (s.1, s.2.1, s.2.2.1) e ∧ RunB body_Decode_l4 (r.filter (fun f => decide (f.2.2.2.2.2.1 ≤ v))) (stD b at_ x) (.inr s) ∧
      Loops (ref18_Decode_l3 v b (fieldsB k)) (stE at_ pre.length x) (.inr (zR6, e))) := by
  have hlen := fields_len k
  intro r
  induction r with
  | nil =>
    intro pre x at_ h hx _ _ hat
    refine .inl ⟨x, b.drop at_, fun _ h => (nomatch h), rfl, by simpa using hat, .nil, .done ?_⟩
    unfold ref18_Decode_l3
    rw [if_neg (by rw [h]; simp [stE])]
    rfl
  | cons f r ih =>
    intro pre x at_ h hx h3 h4 hat
    have hm : f ∈ fieldsB k := by rw [h]; simp
    have hfz := fields_z k f hm
    have hfd := hfz.1.1
    have hix : idx (fieldsB k) (pre.length : Int) f := ⟨by omega, by rw [h]; simp⟩
    have hi : pre.length < 100 := by rw [h] at hlen; simp at hlen; omega
    have hpl : (pre ++ [f]).length = pre.length + 1 := by simp
    have hpw : ∀ g ∈ r, difS f g := by
      have := fields_dif k
      rw [h] at this
      exact (List.pairwise_cons.1 (List.pairwise_append.1 this).2.1).1
    have hrd : ∀ g ∈ r, fdOk g := fun g hg => (fields_z k g (by rw [h]; simp [hg])).1.1
    by_cases hv : f.2.2.2.2.2.1 ≤ v
    · have hfil : (f :: r).filter (fun f => decide (f.2.2.2.2.2.1 ≤ v)) = f :: r.filter (fun f => decide (f.2.2.2.2.2.1 ≤ v)) := by rw [List.filter_cons, if_pos (by simpa using hv)]
      rw [hfil]
      have hsub : ∀ g ∈ r.filter (fun f => decide (f.2.2.2.2.2.1 ≤ v)), g ∈ r := fun g hg => (List.mem_filter.1 hg).1
      rcases fld_any hb hby hat hfz (h3 f List.mem_cons_self) (h4 f List.mem_cons_self) with ⟨y0, rest, i1, i2, i3, i4, i5⟩ | ⟨e, f', a2, e2, m, m2, t, he, i0, i1, i2⟩
      · have hd' : b.drop (at_ + (partE y0 f).length) = rest := by rw [← List.drop_drop, i2, List.drop_left]
        have n3 : ∀ g ∈ r, g.2.1 = 3 → (setF x y0 f).2.2.1 = [] := fun g hg e => by
          have hne : f.2.1 ≠ 3 := fun e3 => by
            have := hpw g hg
            unfold difS at this
            rw [if_neg (by omega)] at this
            omega
          rw [setF_path hne]; exact h3 g (List.mem_cons_of_mem _ hg) e
        have n4 : ∀ g ∈ r, g.2.1 = 4 → (setF x y0 f).2.2.2.1 = [] := fun g hg e => by
          have hne : f.2.1 ≠ 4 := fun e3 => by
            have := hpw g hg
            unfold difS at this
            rw [if_neg (by omega)] at this
            omega
          rw [setF_cells hne]; exact h4 g (List.mem_cons_of_mem _ hg) e
        have si := l4_go hx i4
        have sr := l3_go hi hx hix hv i5
        rcases ih (pre ++ [f]) (setF x y0 f) (at_ + (partE y0 f).length) (by simp [h]) (setF_n6 hx) n3 n4 i3 with ⟨y1, rest1, j1, j2, j3, j4, j5⟩ | ⟨e, s, he, j0, j1, j2⟩
        · rw [hpl] at j5
          obtain ⟨m0, m1⟩ := mix_ok (y0 := y0) (y1 := y1) hfd hrd hpw
          have m1' : ∀ g ∈ r.filter (fun f => decide (f.2.2.2.2.2.1 ≤ v)), fdOk g ∧ sv (setF y1 y0 f) g = sv y1 g := fun g hg => ⟨hrd g (hsub g hg), m1 g (hsub g hg)⟩
          have eP : partE (setF y1 y0 f) f = partE y0 f := part_sv hfd m0
          have eF := flat_sv _ m1'
          have eS : setAll x (setF y1 y0 f) (f :: r.filter (fun f => decide (f.2.2.2.2.2.1 ≤ v))) = setAll (setF x y0 f) y1 (r.filter (fun f => decide (f.2.2.2.2.2.1 ≤ v))) := by
            show setAll (setF x (setF y1 y0 f) f) (setF y1 y0 f) _ = _
            rw [set_sv hfd m0]
            exact setAll_sv _ _ m1'
          have eL : at_ + ((f :: r.filter (fun f => decide (f.2.2.2.2.2.1 ≤ v))).flatMap (partE (setF y1 y0 f))).length = at_ + (partE y0 f).length + ((r.filter (fun f => decide (f.2.2.2.2.2.1 ≤ v))).flatMap (partE y1)).length := by
            rw [List.flatMap_cons, List.length_append, eP, eF]; omega
          refine .inl ⟨setF y1 y0 f, rest1, ?_, ?_, ?_, ?_, ?_⟩
          · intro g hg
            rcases List.mem_cons.1 hg with rfl | hg
            · rw [wrong_sv hfd m0]; exact i1
            · rw [wrong_sv (m1' g hg).1 (m1' g hg).2]; exact j1 g hg
          · rw [List.flatMap_cons, eP, eF, i2, List.append_assoc]
            congr 1
            rw [← hd', j2]
          · rw [eL]; exact j3
          · rw [eL, eS]; exact .go si j4
          · rw [eL, eS]; exact .next sr j5
        · rw [hpl] at j2
          exact .inr ⟨e, s, he, j0, .go si j1, .next sr j2⟩
      · obtain ⟨s, q1, q2⟩ := l4_err hx he i1 i0
        exact .inr ⟨e, s, he, q2, .stop q1, .done (l3_err he hx hix hv i2)⟩
    · have hfil : (f :: r).filter (fun f => decide (f.2.2.2.2.2.1 ≤ v)) = r.filter (fun f => decide (f.2.2.2.2.2.1 ≤ v)) := by rw [List.filter_cons, if_neg (by simpa using hv)]
      rw [hfil]
      have sr := l3_skip (b := b) (at_ := at_) (x := x) hi hix hv
      rcases ih (pre ++ [f]) x at_ (by simp [h]) hx (fun g hg => h3 g (List.mem_cons_of_mem _ hg)) (fun g hg => h4 g (List.mem_cons_of_mem _ hg)) hat with ⟨y1, rest1, j1, j2, j3, j4, j5⟩ | ⟨e, s, he, j0, j1, j2⟩
      · rw [hpl] at j5
        exact .inl ⟨y1, rest1, j1, j2, j3, j4, .next sr j5⟩
      · rw [hpl] at j2
        exact .inr ⟨e, s, he, j0, j1, .next sr j2⟩
/-! ### A message as the first version tells it -/
def pj (x : Mg) (f : Fd) : Mg := if f.2.2.2.2.2.1 = 2 then (if f.2.1 = 6 then (x.1, x.2.1, x.2.2.1, x.2.2.2.1, x.2.2.2.2.1, bstr []) else (x.1, putN 6 0 x.2.1 f.2.2.1.toNat f.2.2.2.2.2.2, x.2.2)) else x
def projB (m : Mg) : Mg := (fieldsB m.1).foldl pj (m.1, n6 m.2.1, m.2.2)
def fdP (f : Fd) : Prop := (f.2.2.2.2.2.1 = 1 ∨ f.2.2.2.2.2.1 = 2) ∧ (f.2.2.2.2.2.1 = 2 → (f.2.1 = 6 ∧ f.2.2.1 = -1) ∨ (f.2.1 = 1 ∧ 0 ≤ f.2.2.1 ∧ f.2.2.1 < 6))
theorem fields_p (k : Int) : ∀ f ∈ fieldsB k, fdP f := by
  refine fields_all fdP k (by simp [fdP, robotF]) ?_
  simp only [List.forall_mem_cons]
  simp [fdP]
theorem putN_putN (l : List Int) (q : Nat) (a v : Int) : putN 6 0 (putN 6 0 l q a) q v = putN 6 0 l q v := by
  unfold putN
  apply List.map_congr_left
  intro j hj
  have hj' : j < 6 := List.mem_range.1 hj
  by_cases h : j = q
  · simp [h]
  · have := putN_getD (n := 6) (z := 0) (v := a) (xs := l) (q := q) hj'
    unfold putN at this
    simp only [h, if_false]
    rw [this, if_neg h]
theorem pj_one {x : Mg} {f : Fd} : (pj x f).1 = x.1 := by
  unfold pj
  repeat' split
  all_goals rfl
theorem pj_n6 {x : Mg} {f : Fd} (hx : n6 x.2.1 = x.2.1) : n6 (pj x f).2.1 = (pj x f).2.1 := by
  unfold pj
  repeat' split
  all_goals first | exact hx | rfl
abbrev Pst := Int × Int × Int × Int × Int × Int × Int × Int × List (Int × Int) × List Int × ByteArray × ByteArray
def stP (i : Nat) (x : Mg) : Pst := ((i : Int), x.1, x.2.1.getD 0 0, x.2.1.getD 1 0, x.2.1.getD 2 0, x.2.1.getD 3 0, x.2.1.getD 4 0, x.2.1.getD 5 0, x.2.2.1, x.2.2.2.1, x.2.2.2.2.1, x.2.2.2.2.2)
theorem proj_l2 {x : Mg} {fs : List Fd} {f : Fd} {i : Nat} (hi : i < 100) (hx6 : n6 x.2.1 = x.2.1) (hix : idx fs (i : Int) f) (hp : fdP f) : msg_Project_l2 1 fs (stP i x) (.inl (stP (i + 1) (pj x f))) := by
  have hlt := hix.lt
  have w : IntKind.i64.wrap ((i : Int) + 1) = ((i + 1 : Nat) : Int) := by rw [w_small (by omega) (by omega)]; omega
  unfold msg_Project_l2
  rw [if_pos (by simpa [stP] using hlt)]
  refine ⟨f, hix, ?_⟩
  rw [if_neg (by decide)]
  obtain ⟨h1 | h2, hp⟩ := hp
  · rw [decide_eq_true h1]
    unfold msg_Project_j4
    rw [if_pos rfl]
    unfold msg_Project_j3
    have e : pj x f = x := by unfold pj; rw [if_neg (by omega)]
    rw [e]
    simp only [stP]
    rw [w]
  · rw [decide_eq_false (by omega)]
    unfold msg_Project_j4
    rw [if_neg (by decide)]
    have hform := n6_form hx6
    rcases hp h2 with ⟨e6, ep⟩ | ⟨e1, p0, p1⟩
    · have e : pj x f = (x.1, x.2.1, x.2.2.1, x.2.2.2.1, x.2.2.2.2.1, bstr []) := by unfold pj; rw [if_pos h2, if_pos e6]
      rw [e]
      refine ⟨(x.1, n6 x.2.1, x.2.2.1, x.2.2.2.1, x.2.2.2.2.1, bstr []), ?_, ?_⟩
      · simp only [stP]
        unfold msg_without
        rw [if_neg (by simp; omega), if_neg (by simp; omega), if_neg (by simp; omega), if_pos (by simpa using e6)]
        rfl
      · rw [if_neg (by simp; omega)]
        unfold msg_Project_j3
        simp only [stP]
        rw [w]; rfl
    · have e : pj x f = (x.1, putN 6 0 x.2.1 f.2.2.1.toNat f.2.2.2.2.2.2, x.2.2) := by unfold pj; rw [if_pos h2, if_neg (by omega)]
      rw [e]
      refine ⟨(x.1, putN 6 0 x.2.1 f.2.2.1.toNat 0, x.2.2), ?_, ?_⟩
      · simp only [stP]
        rw [hform]
        unfold msg_without
        rw [if_neg (by simp; omega), if_neg (by simp; omega), if_neg (by simp; omega), if_neg (by simp; omega)]
        exact ⟨p0, p1, rfl⟩
      · rw [if_pos (by simpa using p0)]
        refine ⟨p0, p1, ?_⟩
        simp only
        rw [putN_putN]
        unfold msg_Project_j3
        simp only [stP]
        rw [w]
theorem proj_fold {x : Mg} : ∀ (l : List Fd), (l.foldl pj x).1 = x.1 ∧ (n6 x.2.1 = x.2.1 → n6 (l.foldl pj x).2.1 = (l.foldl pj x).2.1) := by
  intro l
  induction l generalizing x with
  | nil => exact ⟨rfl, fun h => h⟩
  | cons f l ih =>
    rw [List.foldl_cons]
    exact ⟨by rw [(ih (x := pj x f)).1, pj_one], fun h => (ih (x := pj x f)).2 (pj_n6 h)⟩
theorem project1_ok {m : Mg} (hp : m.2.2.1.length < 1099511627776) (hc : m.2.2.2.1.length < 1099511627776) : msg_Project m 1 (projB m) := by
  have hl := fields_len m.1
  refine ⟨m, mcopy_ok hp hc, fieldsB m.1, fields_ok m.1, ((projB m).1, (projB m).2.1.getD 0 0, (projB m).2.1.getD 1 0, (projB m).2.1.getD 2 0, (projB m).2.1.getD 3 0, (projB m).2.1.getD 4 0, (projB m).2.1.getD 5 0, (projB m).2.2.1, (projB m).2.2.2.1, (projB m).2.2.2.2.1, (projB m).2.2.2.2.2), ?_, ?_⟩
  · have key : ∀ (r pre : List Fd), fieldsB m.1 = pre ++ r → Loops (msg_Project_l2 1 (fieldsB m.1)) (stP pre.length (pre.foldl pj (m.1, n6 m.2.1, m.2.2))) ((projB m).1, (projB m).2.1.getD 0 0, (projB m).2.1.getD 1 0, (projB m).2.1.getD 2 0, (projB m).2.1.getD 3 0, (projB m).2.1.getD 4 0, (projB m).2.1.getD 5 0, (projB m).2.2.1, (projB m).2.2.2.1, (projB m).2.2.2.2.1, (projB m).2.2.2.2.2) := by
      intro r
      induction r with
      | nil =>
        intro pre h
        refine .done ?_
        unfold msg_Project_l2
        rw [if_neg (by rw [h]; simp [stP])]
        have e : pre.foldl pj (m.1, n6 m.2.1, m.2.2) = projB m := by unfold projB; rw [h, List.append_nil]
        rw [e]; rfl
      | cons f r ih =>
        intro pre h
        have hix : idx (fieldsB m.1) (pre.length : Int) f := ⟨by omega, by rw [h]; simp⟩
        have hi : pre.length < 100 := by rw [h] at hl; simp at hl; omega
        have ih' := ih (pre ++ [f]) (by simp [h])
        rw [List.foldl_append, List.foldl_cons, List.foldl_nil, List.length_append, List.length_singleton] at ih'
        exact .next (proj_l2 hi ((proj_fold pre).2 rfl) hix (fields_p m.1 f (by rw [h]; simp))) ih'
    exact key (fieldsB m.1) [] rfl
  · have := (proj_fold (x := (m.1, n6 m.2.1, m.2.2)) (fieldsB m.1)).2 rfl
    exact (n6_form (x := projB m) this).symm
abbrev Qst := Int × Int × Int × Int × Int × Int × Int × ByteArray
def stQ (i : Nat) (x : Mg) : Qst := ((i : Int), x.2.1.getD 0 0, x.2.1.getD 1 0, x.2.1.getD 2 0, x.2.1.getD 3 0, x.2.1.getD 4 0, x.2.1.getD 5 0, x.2.2.2.2.2)
theorem rproj_l2 {x : Mg} {fs : List Fd} {f : Fd} {i : Nat} (hi : i < 100) (hx6 : n6 x.2.1 = x.2.1) (hix : idx fs (i : Int) f) (hp : fdP f) : ref17_Project_l2 fs (stQ i x) (.inl (stQ (i + 1) (pj x f))) := by
  have hlt := hix.lt
  have w : IntKind.i64.wrap ((i : Int) + 1) = ((i + 1 : Nat) : Int) := by rw [w_small (by omega) (by omega)]; omega
  have h6 : [x.2.1.getD 0 0, x.2.1.getD 1 0, x.2.1.getD 2 0, x.2.1.getD 3 0, x.2.1.getD 4 0, x.2.1.getD 5 0] = x.2.1 := hx6
  unfold ref17_Project_l2
  rw [if_pos (by simpa [stQ] using hlt)]
  refine ⟨f, hix, ?_⟩
  obtain ⟨h1 | h2, hp⟩ := hp
  · have e : pj x f = x := by unfold pj; rw [if_neg (by omega)]
    rw [e, if_neg (by simp; omega)]
    unfold ref17_Project_j6
    rw [if_neg (by decide)]
    refine ⟨f, hix, ?_⟩
    rw [if_neg (by simp; omega)]
    unfold ref17_Project_j5
    rw [if_neg (by decide)]
    unfold ref17_Project_j3
    simp only [stQ]
    rw [w]
  · rw [if_pos (by simpa using h2)]
    refine ⟨f, hix, ?_⟩
    rcases hp h2 with ⟨e6, ep⟩ | ⟨e1, p0, p1⟩
    · have e : pj x f = (x.1, x.2.1, x.2.2.1, x.2.2.2.1, x.2.2.2.2.1, bstr []) := by unfold pj; rw [if_pos h2, if_pos e6]
      rw [e, decide_eq_true e6]
      unfold ref17_Project_j6
      rw [if_pos rfl]
      refine ⟨f, hix, ?_⟩
      rw [if_pos (by simpa using h2)]
      refine ⟨f, hix, ?_⟩
      rw [decide_eq_false (by omega)]
      unfold ref17_Project_j5
      rw [if_neg (by decide)]
      unfold ref17_Project_j3
      simp only [stQ]
      rw [w]
    · have e : pj x f = (x.1, putN 6 0 x.2.1 f.2.2.1.toNat f.2.2.2.2.2.2, x.2.2) := by unfold pj; rw [if_pos h2, if_neg (by omega)]
      rw [e, decide_eq_false (by omega)]
      unfold ref17_Project_j6
      rw [if_neg (by decide)]
      refine ⟨f, hix, ?_⟩
      rw [if_pos (by simpa using h2)]
      refine ⟨f, hix, ?_⟩
      rw [decide_eq_true p0]
      unfold ref17_Project_j5
      rw [if_pos rfl]
      refine ⟨f, hix, f, hix, p0, p1, ?_⟩
      unfold ref17_Project_j3
      simp only [stQ]
      rw [h6, w]
theorem pj_rest {x : Mg} {f : Fd} : (pj x f).2.2.1 = x.2.2.1 ∧ (pj x f).2.2.2.1 = x.2.2.2.1 ∧ (pj x f).2.2.2.2.1 = x.2.2.2.2.1 := by
  unfold pj
  repeat' split
  all_goals exact ⟨rfl, rfl, rfl⟩
theorem fold_rest (l : List Fd) : ∀ x : Mg, (l.foldl pj x).2.2.1 = x.2.2.1 ∧ (l.foldl pj x).2.2.2.1 = x.2.2.2.1 ∧ (l.foldl pj x).2.2.2.2.1 = x.2.2.2.2.1 := by
  induction l with
  | nil => exact fun _ => ⟨rfl, rfl, rfl⟩
  | cons f l ih =>
    intro x
    obtain ⟨h1, h2, h3⟩ := ih (pj x f)
    obtain ⟨k1, k2, k3⟩ := pj_rest (x := x) (f := f)
    rw [List.foldl_cons]
    exact ⟨h1.trans k1, h2.trans k2, h3.trans k3⟩
theorem rproject1_ok (m : Mg) : ref17_Project (ofM m) 1 (ofM (projB m)) := by
  have hl := fields_len m.1
  unfold ref17_Project
  rw [if_neg (by decide)]
  refine ⟨fieldsB m.1, rfields_ok m.1, ((projB m).2.1.getD 0 0, (projB m).2.1.getD 1 0, (projB m).2.1.getD 2 0, (projB m).2.1.getD 3 0, (projB m).2.1.getD 4 0, (projB m).2.1.getD 5 0, (projB m).2.2.2.2.2), ?_, ?_⟩
  · have key : ∀ (r pre : List Fd), fieldsB m.1 = pre ++ r → Loops (ref17_Project_l2 (fieldsB m.1)) (stQ pre.length (pre.foldl pj (m.1, n6 m.2.1, m.2.2))) ((projB m).2.1.getD 0 0, (projB m).2.1.getD 1 0, (projB m).2.1.getD 2 0, (projB m).2.1.getD 3 0, (projB m).2.1.getD 4 0, (projB m).2.1.getD 5 0, (projB m).2.2.2.2.2) := by
      intro r
      induction r with
      | nil =>
        intro pre h
        refine .done ?_
        unfold ref17_Project_l2
        rw [if_neg (by rw [h]; simp [stQ])]
        have e : pre.foldl pj (m.1, n6 m.2.1, m.2.2) = projB m := by unfold projB; rw [h, List.append_nil]
        rw [e]; rfl
      | cons f r ih =>
        intro pre h
        have hix : idx (fieldsB m.1) (pre.length : Int) f := ⟨by omega, by rw [h]; simp⟩
        have hi : pre.length < 100 := by rw [h] at hl; simp at hl; omega
        have ih' := ih (pre ++ [f]) (by simp [h])
        rw [List.foldl_append, List.foldl_cons, List.foldl_nil, List.length_append, List.length_singleton] at ih'
        exact .next (rproj_l2 hi ((proj_fold pre).2 rfl) hix (fields_p m.1 f (by rw [h]; simp))) ih'
    exact key (fieldsB m.1) [] rfl
  · have h6 := (proj_fold (x := (m.1, n6 m.2.1, m.2.2)) (fieldsB m.1)).2 rfl
    have h1 := (proj_fold (x := (m.1, n6 m.2.1, m.2.2)) (fieldsB m.1)).1
    obtain ⟨r1, r2, r3⟩ := fold_rest (fieldsB m.1) (m.1, n6 m.2.1, m.2.2)
    unfold ref17_Project_j1
    have e : n6 (projB m).2.1 = (projB m).2.1 := h6
    have e1 : (projB m).1 = m.1 := h1
    have q1 : (projB m).2.2.1 = m.2.2.1 := r1
    have q2 : (projB m).2.2.2.1 = m.2.2.2.1 := r2
    have q3 : (projB m).2.2.2.2.1 = m.2.2.2.2.1 := r3
    show ((projB m).1, (projB m).2.1, (projB m).2.2.1.map ofP, (projB m).2.2.2.1, (projB m).2.2.2.2.1, (projB m).2.2.2.2.2) = (m.1, n6 (projB m).2.1, m.2.2.1.map ofP, m.2.2.2.1, m.2.2.2.2.1, (projB m).2.2.2.2.2)
    rw [e, e1, q1, q2, q3]
def projV (m : Mg) (v : Int) : Mg := if v = 1 then projB m else (m.1, n6 m.2.1, m.2.2)
theorem projV_ok {m : Mg} {v : Int} (hv : v = 1 ∨ v = 2) (h6 : n6 m.2.1 = m.2.1) (hp : m.2.2.1.length < 1099511627776) (hc : m.2.2.2.1.length < 1099511627776) : msg_Project m v (projV m v) ∧ ref17_Project (ofM m) v (ofM (projV m v)) := by
  rcases hv with rfl | rfl
  · exact ⟨project1_ok hp hc, rproject1_ok m⟩
  · refine ⟨project2_ok hp hc, ?_⟩
    unfold ref17_Project
    rw [if_pos (by decide)]
    show ofM (m.1, n6 m.2.1, m.2.2) = ofM m
    rw [h6]
/-! ### Decoded -/
theorem word_fields (k : Int) : ∃ w, field_Word k w ∧ (w = bstr [] ↔ fieldsB k = []) := by
  unfold fieldsB field_Word
  by_cases e1 : k = 1
  · exact ⟨bstr [109, 111, 118, 101], by rw [if_pos (by simpa using e1)], by rw [if_pos e1]; simp; decide⟩
  by_cases e2 : k = 2
  · exact ⟨bstr [104, 111, 108, 100], by rw [if_neg (by simpa using e1), if_pos (by simpa using e2)], by rw [if_neg e1, if_pos e2]; simp; decide⟩
  by_cases e3 : k = 3
  · exact ⟨bstr [103, 114, 97, 110, 116], by rw [if_neg (by simpa using e1), if_neg (by simpa using e2), if_pos (by simpa using e3)], by rw [if_neg e1, if_neg e2, if_pos e3]; simp; decide⟩
  by_cases e4 : k = 4
  · exact ⟨bstr [112, 111, 115, 101], by rw [if_neg (by simpa using e1), if_neg (by simpa using e2), if_neg (by simpa using e3), if_pos (by simpa using e4)], by rw [if_neg e1, if_neg e2, if_neg e3, if_pos e4]; simp; decide⟩
  by_cases e5 : k = 5
  · exact ⟨bstr [102, 97, 117, 108, 116], by rw [if_neg (by simpa using e1), if_neg (by simpa using e2), if_neg (by simpa using e3), if_neg (by simpa using e4), if_pos (by simpa using e5)], by rw [if_neg e1, if_neg e2, if_neg e3, if_neg e4, if_pos e5]; simp; decide⟩
  exact ⟨bstr [], by rw [if_neg (by simpa using e1), if_neg (by simpa using e2), if_neg (by simpa using e3), if_neg (by simpa using e4), if_neg (by simpa using e5)], by rw [if_neg e1, if_neg e2, if_neg e3, if_neg e4, if_neg e5]; simp⟩
theorem lend_any {b : List Int} {a : Nat} (h : a ≤ b.length) : lens_Lens_End (b, (a : Int), 0) (if a = b.length then 0 else 3) := by
  refine ⟨0, rfl, ?_⟩
  rw [if_neg (by decide)]
  refine ⟨((b.drop a).length : Int), ⟨_, left_ok h, rfl⟩, ?_⟩
  unfold lens_Lens_End_j1
  rw [List.length_drop]
  by_cases e : a = b.length
  · rw [if_pos (by simp; omega), if_pos e]
  · rw [if_neg (by simp; omega), if_neg e]
def zeroK (k : Int) : Mg := (k, [0, 0, 0, 0, 0, 0], [], [], bstr [], bstr [])
theorem decode_any {b : List Int} (hb : b.length < 1073741824) (hby : Byt b) (k : Int) {v : Int} (hv : v = 1 ∨ v = 2) :
    (∃ y : Mg, (∀ f ∈ sinceB k v, wrongB y f = 0) ∧ b = (sinceB k v).flatMap (partE y) ∧ fieldsB k ≠ [] ∧
      body_Decode k v b (projV (setAll (zeroK k) y (sinceB k v)) v, 0) ∧ ref18_Decode k v b (ofM (projV (setAll (zeroK k) y (sinceB k v)) v), 0)) ∨
    (∃ e : Int, e ≠ 0 ∧ body_Decode k v b ((0, [0, 0, 0, 0, 0, 0], [], [], bstr [], bstr []), e) ∧ ref18_Decode k v b (zR6, e)) := by
  have enterI : ∀ {r : Mg × Int}, body_Decode_j1 k v b false r → body_Decode k v b r := fun h => by
    unfold body_Decode
    rcases hv with rfl | rfl
    · rw [if_neg (by decide)]; exact h
    · rw [if_pos (by decide)]; exact h
  have enterR : ∀ {r : Mr × Int}, ref18_Decode_j1 k v b false r → ref18_Decode k v b r := fun h => by
    unfold ref18_Decode
    rcases hv with rfl | rfl
    · rw [if_neg (by decide)]; exact h
    · rw [if_pos (by decide)]; exact h
  obtain ⟨w, hw, hwe⟩ := word_fields k
  by_cases hf : fieldsB k = []
  · refine .inr ⟨9, by decide, enterI ?_, enterR ?_⟩
    · unfold body_Decode_j1
      rw [if_neg (by decide)]
      exact ⟨w, hw, by rw [if_pos (by simpa using hwe.2 hf)]⟩
    · unfold ref18_Decode_j1
      rw [if_neg (by decide)]
      exact ⟨_, rfields_ok k, by rw [if_pos (by simp [hf])]; rfl⟩
  · have goI : ∀ {r : Mg × Int} {t : Sum Dst Dst}, RunB body_Decode_l4 (sinceB k v) (stD b 0 (zeroK k)) t → (∀ s : Dst, t = .inl s ∨ t = .inr s → body_Decode_j2 v s r) → body_Decode k v b r := by
      intro r t hrun h
      refine enterI ?_
      unfold body_Decode_j1
      rw [if_neg (by decide)]
      refine ⟨w, hw, ?_⟩
      rw [if_neg (by simp only [decide_eq_true_eq]; exact fun e => hf (hwe.1 e))]
      refine ⟨_, lnew_ok hb, _, rfl, ?_⟩
      refine ⟨t, (), fieldAll_itr k v _ _ _ _ (run_yof hrun), ?_⟩
      cases t with
      | inl s => exact h s (.inl rfl)
      | inr s => exact h s (.inr rfl)
    have goR : ∀ {r : Mr × Int} {t}, Loops (ref18_Decode_l3 v b (fieldsB k)) (stE 0 0 (zeroK k)) t → Aft (fun p61 => ref18_Decode_j2 v b p61 r) (fun p62 => r = p62) t → ref18_Decode k v b r := by
      intro r t hrun h
      refine enterR ?_
      unfold ref18_Decode_j1
      rw [if_neg (by decide)]
      refine ⟨_, rfields_ok k, ?_⟩
      rw [if_neg (by simp [hf])]
      exact ⟨t, hrun, h⟩
    have hz6 : ∀ (y : Mg) (r : List Fd), n6 (setAll (zeroK k) y r).2.1 = (setAll (zeroK k) y r).2.1 := by
      intro y r
      have : ∀ (r : List Fd) (x : Mg), n6 x.2.1 = x.2.1 → n6 (setAll x y r).2.1 = (setAll x y r).2.1 := by
        intro r
        induction r with
        | nil => exact fun _ h => h
        | cons f r ih => exact fun x h => ih _ (setF_n6 h)
      exact this r _ rfl
    rcases dec_run (k := k) (v := v) hb hby (fieldsB k) [] (zeroK k) 0 rfl rfl (fun _ _ _ => rfl) (fun _ _ _ => rfl) (by omega) with ⟨y, rest, h1, h2, h3, h4, h5⟩ | ⟨e, s, he, h1, h2, h3⟩
    · have e0 : (fieldsB k).filter (fun f => decide (f.2.2.2.2.2.1 ≤ v)) = sinceB k v := rfl
      rw [e0] at h1 h2 h3 h4 h5
      rw [Nat.zero_add] at h3 h4 h5
      rw [List.drop_zero] at h2
      generalize hM : setAll (zeroK k) y (sinceB k v) = M at h4 h5 ⊢
      have h6 := hz6 y (sinceB k v)
      rw [hM] at h6
      have hlen : b.length = ((sinceB k v).flatMap (partE y)).length + rest.length := by rw [← List.length_append, ← h2]
      by_cases hr : rest = []
      · have hr0 : rest.length = 0 := by rw [hr]; rfl
        have hb0 : b = (sinceB k v).flatMap (partE y) := by rw [h2, hr, List.append_nil]
        have hend := lend_any (b := b) h3
        rw [if_pos (by rw [← hb0])] at hend
        have hMl : M.2.2.1.length < 1099511627776 ∧ M.2.2.2.1.length < 1099511627776 := by
          have key : ∀ (r : List Fd) (x : Mg), (∀ f ∈ r, fdOk f ∧ wrongB y f = 0) → x.2.2.1.length ≤ 16 ∧ x.2.2.2.1.length ≤ 32 → (setAll x y r).2.2.1.length ≤ 16 ∧ (setAll x y r).2.2.2.1.length ≤ 32 := by
            intro r
            induction r with
            | nil => exact fun _ _ h => h
            | cons f r ih =>
              intro x h hx
              obtain ⟨a1, a2⟩ := h f List.mem_cons_self
              refine ih _ (fun g hg => h g (List.mem_cons_of_mem _ hg)) ?_
              obtain ⟨_, _, hk⟩ := a1
              unfold wrongB at a2
              rcases hk with ⟨e, e1, e2⟩ | ⟨e, e1, e2⟩ | ⟨e, _⟩ | ⟨e, _⟩ | ⟨k1, k2, _⟩
              · rw [if_pos e, e1, e2] at a2
                have := path_right a2
                refine ⟨?_, by rw [setF_cells (by omega)]; exact hx.2⟩
                unfold setF; rw [if_neg (by omega), if_neg (by omega), if_pos e]; exact this.2.1
              · rw [if_neg (by omega), if_pos e, e1, e2] at a2
                have := cells_right a2
                refine ⟨by rw [setF_path (by omega)]; exact hx.1, ?_⟩
                unfold setF; rw [if_neg (by omega), if_neg (by omega), if_neg (by omega), if_pos e]; exact this.2.1
              · exact ⟨by rw [setF_path (by omega)]; exact hx.1, by rw [setF_cells (by omega)]; exact hx.2⟩
              · exact ⟨by rw [setF_path (by omega)]; exact hx.1, by rw [setF_cells (by omega)]; exact hx.2⟩
              · exact ⟨by rw [setF_path (by omega)]; exact hx.1, by rw [setF_cells (by omega)]; exact hx.2⟩
          have := key (sinceB k v) (zeroK k) (fun f hf => ⟨fields_fd k f (List.mem_filter.1 hf).1, h1 f hf⟩) ⟨by simp [zeroK], by simp [zeroK]⟩
          rw [hM] at this
          omega
        obtain ⟨p1, p2⟩ := projV_ok (m := M) hv h6 hMl.1 hMl.2
        refine .inl ⟨y, h1, hb0, hf, ?_, ?_⟩
        · rw [hM]
          refine goI h4 (fun s hs => ?_)
          have hs : s = stD b (((sinceB k v).flatMap (partE y)).length) M := by
            rcases hs with hs | hs
            · cases hs; rfl
            · cases hs
          subst hs
          refine ⟨0, rerr0, ?_⟩
          rw [if_pos (by decide)]
          refine ⟨0, hend, ?_⟩
          unfold body_Decode_j3
          rw [if_neg (by decide)]
          refine ⟨_, ?_, rfl⟩
          have := n6_form h6
          simp only [stD]
          rw [this]; exact p1
        · rw [hM]
          refine goR h5 ?_
          show ref18_Decode_j2 v b (exE ((sinceB k v).flatMap (partE y)).length M) _
          unfold ref18_Decode_j2
          have hd : decide ((exE ((sinceB k v).flatMap (partE y)).length M).1 < (b.length : Int)) = false := decide_eq_false (show ¬ ((((sinceB k v).flatMap (partE y)).length : Int) < (b.length : Int)) by omega)
          rw [hd, if_neg (by decide)]
          refine ⟨_, ?_, rfl⟩
          have := n6_formR h6
          simp only [exE]
          rw [this]; exact p2
      · have hpos : 0 < rest.length := by cases rest with
          | nil => exact absurd rfl hr
          | cons _ _ => simp
        have hend := lend_any (b := b) h3
        rw [if_neg (by omega)] at hend
        refine .inr ⟨3, by decide, goI h4 (fun s hs => ?_), goR h5 ?_⟩
        · have hs : s = stD b (((sinceB k v).flatMap (partE y)).length) M := by
            rcases hs with hs | hs
            · cases hs; rfl
            · cases hs
          subst hs
          refine ⟨0, rerr0, ?_⟩
          rw [if_pos (by decide)]
          refine ⟨3, hend, ?_⟩
          unfold body_Decode_j3
          rw [if_pos (by decide)]
        · show ref18_Decode_j2 v b (exE ((sinceB k v).flatMap (partE y)).length M) _
          unfold ref18_Decode_j2
          have hd : decide ((exE ((sinceB k v).flatMap (partE y)).length M).1 < (b.length : Int)) = true := decide_eq_true (show ((((sinceB k v).flatMap (partE y)).length : Int) < (b.length : Int)) by omega)
          rw [hd, if_pos rfl]
          rfl
    · refine .inr ⟨e, he, goI h2 (fun s' hs => ?_), goR h3 ?_⟩
      · have hs : s' = s := by
          rcases hs with hs | hs
          · cases hs
          · cases hs; rfl
        subst hs
        refine ⟨e, h1, ?_⟩
        rw [if_neg (by simpa using he)]
        unfold body_Decode_j3
        rw [if_pos (by simpa using he)]
      · rfl
end Go.Rel
/-! Plain laws: the line of a message: the program's and the document's. -/
namespace Go.Rel
open Go Go.Eng Go.Pl

theorem bints_byt (s : ByteArray) : ∀ x ∈ bints s, 0 ≤ x ∧ x < 256 := by
  intro x hx
  unfold bints at hx
  obtain ⟨b, _, rfl⟩ := List.mem_map.1 hx
  have := b.toNat_lt
  omega
structure MgOk (m : Mg) : Prop where
  kind : IntOk .i64 m.1
  six : m.2.1.length = 6
  num : ∀ x ∈ m.2.1, IntOk .i64 x
  path : ∀ p ∈ m.2.2.1, IntOk .i64 p.1 ∧ IntOk .i64 p.2
  cells : ∀ x ∈ m.2.2.2.1, IntOk .i64 x
  lpath : m.2.2.1.length ≤ 1000
  lcells : m.2.2.2.1.length ≤ 1000
  ltext : m.2.2.2.2.1.size ≤ 1000
  ltag : m.2.2.2.2.2.size ≤ 1000
theorem MgOk.at {m : Mg} (ok : MgOk m) (p : Nat) : IntOk .i64 (m.2.1.getD p 0) := by
  rw [List.getD_eq_getElem?_getD]
  cases h : m.2.1[p]? with
  | none => exact ⟨by decide, by decide⟩
  | some x => exact ok.num x (List.mem_of_getElem? h)
end Go.Rel
/-! Plain laws: events: their lines, which are the same, the words of errors. -/
namespace Go.Rel
open Go Go.Eng Go.Pl
abbrev Ev := Int × Int × Int × Int × Mg
abbrev Er := Int × Int × Int × Int × Mr
def errWords : List (Int × List Int) := [(2, [108, 111, 110, 103]), (3, [102, 111, 114, 109]), (4, [101, 110, 100]), (5, [114, 97, 110, 103, 101]), (6, [109, 97, 110, 121]), (9, [107, 105, 110, 100]), (10, [118, 101, 114, 115, 105, 111, 110]), (11, [115, 117, 109]), (12, [115, 116, 117, 102, 102]), (13, [115, 104, 111, 114, 116]), (14, [115, 101, 101, 110]), (15, [111, 108, 100]), (16, [116, 119, 105, 99, 101]), (17, [109, 101, 101, 116]), (18, [108, 97, 116, 101]), (19, [116, 101, 120, 116])]
def wordE (e : Int) : List Int := ((errWords.find? fun p => decide (p.1 = e)).map (·.2)).getD []
theorem wordE_cases (e : Int) : (e = 2 ∨ e = 3 ∨ e = 4 ∨ e = 5 ∨ e = 6 ∨ e = 9 ∨ e = 10 ∨ e = 11 ∨ e = 12 ∨ e = 13 ∨ e = 14 ∨ e = 15 ∨ e = 16 ∨ e = 17 ∨ e = 18 ∨ e = 19) ∨ (¬ (e = 2 ∨ e = 3 ∨ e = 4 ∨ e = 5 ∨ e = 6 ∨ e = 9 ∨ e = 10 ∨ e = 11 ∨ e = 12 ∨ e = 13 ∨ e = 14 ∨ e = 15 ∨ e = 16 ∨ e = 17 ∨ e = 18 ∨ e = 19) ∧ wordE e = []) := by
  by_cases h : e = 2 ∨ e = 3 ∨ e = 4 ∨ e = 5 ∨ e = 6 ∨ e = 9 ∨ e = 10 ∨ e = 11 ∨ e = 12 ∨ e = 13 ∨ e = 14 ∨ e = 15 ∨ e = 16 ∨ e = 17 ∨ e = 18 ∨ e = 19
  · exact .inl h
  · refine .inr ⟨h, ?_⟩
    unfold wordE
    have : errWords.find? (fun p => decide (p.1 = e)) = none := by
      rw [List.find?_eq_none]
      intro p hp
      simp only [errWords, List.mem_cons, List.not_mem_nil, or_false] at hp
      simp only [decide_eq_true_eq]
      rcases hp with rfl | rfl | rfl | rfl | rfl | rfl | rfl | rfl | rfl | rfl | rfl | rfl | rfl | rfl | rfl | rfl <;> simp only <;> omega
    rw [this]; rfl
theorem eword_ok (e : Int) : event_Word e (bstr (wordE e)) := by
  unfold event_Word
  simp only [decide_eq_true_eq]
  rcases wordE_cases e with h | ⟨h, hw⟩
  · rcases h with rfl | rfl | rfl | rfl | rfl | rfl | rfl | rfl | rfl | rfl | rfl | rfl | rfl | rfl | rfl | rfl <;> exact rfl
  · rw [hw]
    simp only [not_or] at h
    obtain ⟨h1, h2, h3, h4, h5, h6, h7, h8, h9, h10, h11, h12, h13, h14, h15, h16⟩ := h
    rw [if_neg h1, if_neg h2, if_neg h3, if_neg h4, if_neg h5, if_neg h6, if_neg h7, if_neg h8, if_neg h9, if_neg h10, if_neg h11, if_neg h12, if_neg h13, if_neg h14, if_neg h15, if_neg h16]
def errN : List Int := [2, 3, 4, 5, 6, 9, 10, 11, 12, 13, 14, 15, 16, 17, 18, 19]
def errT : List ByteArray := [(bstr [108, 111, 110, 103]), (bstr [102, 111, 114, 109]), (bstr [101, 110, 100]), (bstr [114, 97, 110, 103, 101]), (bstr [109, 97, 110, 121]), (bstr [107, 105, 110, 100]), (bstr [118, 101, 114, 115, 105, 111, 110]), (bstr [115, 117, 109]), (bstr [115, 116, 117, 102, 102]), (bstr [115, 104, 111, 114, 116]), (bstr [115, 101, 101, 110]), (bstr [111, 108, 100]), (bstr [116, 119, 105, 99, 101]), (bstr [109, 101, 101, 116]), (bstr [108, 97, 116, 101]), (bstr [116, 101, 120, 116])]
theorem rword_run (e : Int) : ∀ (m k : Nat), k + m = 16 → (∀ j, j < k → errN.getD j 0 ≠ e) → ∃ x, Loops (ref23_Word_l2 e) (k : Int) x ∧ Aft (fun p23 => ref23_Word_j1 p23 (bstr (wordE e))) (fun p24 => bstr (wordE e) = p24) x
  | 0, k, hk, hn => by
    obtain rfl : k = 16 := by omega
    refine ⟨.inl (), .done ?_, ?_⟩
    · unfold ref23_Word_l2; rw [if_neg (by decide)]
    · show bstr (wordE e) = bstr []
      rcases wordE_cases e with h | ⟨h, hw⟩
      · exfalso
        have h0 := hn 0 (by omega); have h1 := hn 1 (by omega); have h2 := hn 2 (by omega); have h3 := hn 3 (by omega); have h4 := hn 4 (by omega); have h5 := hn 5 (by omega); have h6 := hn 6 (by omega); have h7 := hn 7 (by omega)
        have h8 := hn 8 (by omega); have h9 := hn 9 (by omega); have h10 := hn 10 (by omega); have h11 := hn 11 (by omega); have h12 := hn 12 (by omega); have h13 := hn 13 (by omega); have h14 := hn 14 (by omega); have h15 := hn 15 (by omega)
        simp only [errN, List.getD_cons_zero, List.getD_cons_succ] at *
        omega
      · rw [hw]
  | m + 1, k, hk, hn => by
    have hlt : k < 16 := by omega
    have hN : errN[k]? = some (errN.getD k 0) := by
      rw [List.getD_eq_getElem?_getD, List.getElem?_eq_getElem (by show k < 16; omega)]; rfl
    have hx : idx [2, 3, 4, 5, 6, 9, 10, 11, 12, 13, 14, 15, 16, 17, 18, 19] (k : Int) (errN.getD k 0) := idx_at rfl hN
    by_cases he : errN.getD k 0 = e
    · refine ⟨.inr (bstr (wordE e)), .done ?_, rfl⟩
      unfold ref23_Word_l2
      rw [if_pos (by simp; omega)]
      refine ⟨_, hx, ?_⟩
      rw [if_pos (by simpa using he)]
      refine ⟨bstr (wordE e), idx_at rfl ?_, rfl⟩
      subst he
      have : ∀ k, k < 16 → errT[k]? = some (bstr (wordE (errN.getD k 0))) := by
        intro k hk
        match k, hk with
        | 0, _ => rfl
        | 1, _ => rfl
        | 2, _ => rfl
        | 3, _ => rfl
        | 4, _ => rfl
        | 5, _ => rfl
        | 6, _ => rfl
        | 7, _ => rfl
        | 8, _ => rfl
        | 9, _ => rfl
        | 10, _ => rfl
        | 11, _ => rfl
        | 12, _ => rfl
        | 13, _ => rfl
        | 14, _ => rfl
        | 15, _ => rfl
        | n + 16, h => exact absurd h (by omega)
      exact this k hlt
    · obtain ⟨x, h1, h2⟩ := rword_run e m (k + 1) (by omega) (fun j hj => by
        by_cases hjk : j = k
        · subst hjk; exact he
        · exact hn j (by omega))
      refine ⟨x, .next ?_ h1, h2⟩
      unfold ref23_Word_l2
      rw [if_pos (by simp; omega)]
      refine ⟨_, hx, ?_⟩
      rw [if_neg (by simpa using he), len_wrap (by omega)]
theorem reword_ok (e : Int) : ref23_Word e (bstr (wordE e)) := rword_run e 16 0 (by omega) (fun j hj => by omega)
structure EvOk (e : Ev) : Prop where
  kind : IntOk .i64 e.1
  seq : IntOk .u32 e.2.1
  ver : IntOk .i64 e.2.2.1
  err : IntOk .i64 e.2.2.2.1
  msg : MgOk e.2.2.2.2
def ofE (e : Ev) : Er := (e.1, e.2.1, e.2.2.1, e.2.2.2.1, ofM e.2.2.2.2)
def sameE (a b : Ev) : Bool := decide (a.1 = b.1 ∧ a.2.1 = b.2.1 ∧ a.2.2.1 = b.2.2.1 ∧ a.2.2.2.1 = b.2.2.2.1) && sameB a.2.2.2.2 b.2.2.2.2
theorem resame_ok {a b : Ev} (hp : a.2.2.2.2.2.2.1.length < 4611686018427387904) (hc : a.2.2.2.2.2.2.2.1.length < 4611686018427387904) : ref23_Same (ofE a) (ofE b) (sameE a b) := by
  unfold ref23_Same sameE ofE
  simp only [decide_eq_true_eq, ref23_Same_j1]
  by_cases h1 : a.1 = b.1
  · by_cases h2 : a.2.1 = b.2.1
    · by_cases h3 : a.2.2.1 = b.2.2.1
      · by_cases h4 : a.2.2.2.1 = b.2.2.2.1
        · rw [if_pos h1, if_pos h2, if_pos h3, if_pos h4]; exact ⟨_, rsame_ok hp hc, by simp [h1, h2, h3, h4]⟩
        · rw [if_pos h1, if_pos h2, if_pos h3, if_neg h4]; simp [h4]
      · rw [if_pos h1, if_pos h2, if_neg h3]; simp [h3]
    · rw [if_pos h1, if_neg h2]; simp [h2]
  · rw [if_neg h1]; simp [h1]
theorem sameB_refl (m : Mg) : sameB m m = true := by simp [sameB]
theorem sameE_refl (e : Ev) : sameE e e = true := by simp [sameE, sameB_refl]
theorem eof_ok {e : Ev} (h : e.2.2.2.2.2.2.1.length < 1099511627776) : law23_Of e (ofE e) := ⟨_, ofm_ok h, rfl⟩
structure MgIn (m : Mg) : Prop where
  kind : IntOk .i64 m.1
  six : m.2.1.length = 6
  num : ∀ x ∈ m.2.1, IntOk .i64 x
  path : ∀ p ∈ m.2.2.1, IntOk .i64 p.1 ∧ IntOk .i64 p.2
  cells : ∀ x ∈ m.2.2.2.1, IntOk .i64 x
structure EvIn (e : Ev) : Prop where
  kind : IntOk .i64 e.1
  seq : IntOk .u32 e.2.1
  ver : IntOk .i64 e.2.2.1
  err : IntOk .i64 e.2.2.2.1
  msg : MgIn e.2.2.2.2
instance (k : IntKind) (n : Int) : Decidable (IntOk k n) := by unfold IntOk; infer_instance
end Go.Rel
/-! Plain laws: a log's records: what is written, what is read. -/
namespace Go.Rel
open Go Go.Eng Go.Pl

theorem pu8_ok {p : List Int} {room : Nat} {v : Int} (h0 : 0 ≤ v) (h1 : v < 256) (h : p.length + 1 ≤ room) (hr : room < 1073741824) : pen_Pen_U8 (p, (room : Int), false) v (0, (p ++ [v], (room : Int), false)) := by
  refine ⟨(0, (p ++ [v], (room : Int), false)), ⟨by omega, by omega, by omega, (0, (p ++ [v], (room : Int), false)), ?_, rfl⟩, rfl⟩
  have e : (([(IntKind.u8.wrap (IntKind.u32.wrap v)), (IntKind.u8.wrap (ishr .u32 (IntKind.u32.wrap v) 8)), (IntKind.u8.wrap (ishr .u32 (IntKind.u32.wrap v) 16)), (IntKind.u8.wrap (ishr .u32 (IntKind.u32.wrap v) 24))].drop (0 : Int).toNat).take ((1 : Int) - 0).toNat) = [v] := by
    show [IntKind.u8.wrap (IntKind.u32.wrap v)] = [v]
    rw [w32_small (by omega) (by omega), w_u8]
    congr 1; omega
  rw [e]
  exact raw_ok (l := [v]) (by simpa using h) hr
theorem llu8_ok {b : List Int} {v : Int} {rest : List Int} (hb : Byt b) (hlen : b.length < 1073741824) {k : Nat} (h : b.drop k = v :: rest) : lens_Lens_U8 (b, (k : Int), 0) (v, (b, ((k + 1 : Nat) : Int), 0)) := by
  have hl : k < b.length := by
    have := congrArg List.length h
    rw [List.length_drop] at this
    simp at this; omega
  have hv : 0 ≤ v ∧ v < 256 := hb v (by have : v ∈ b.drop k := by rw [h]; exact List.mem_cons_self
                                        exact List.mem_of_mem_drop this)
  refine ⟨_, lword_ok hb (by omega) (n := 1) (by omega) (by omega), ?_⟩
  have e : leV ((b.drop k).take 1) = v := by
    rw [h]
    simp only [List.take_succ_cons, List.take_zero, leV]; omega
  rw [e, w_u8]
  congr 1; simp only; omega
theorem llu32_ok {b : List Int} {v : Int} {rest : List Int} (hb : Byt b) (hlen : b.length < 1073741824) (h0 : 0 ≤ v) (h1 : v < 4294967296) {k : Nat} (h : b.drop k = leB v ++ rest) : lens_Lens_U32 (b, (k : Int), 0) (v, (b, ((k + 4 : Nat) : Int), 0)) := by
  have hl : k + 4 ≤ b.length := by
    have := congrArg List.length h
    rw [List.length_drop] at this
    simp [leB] at this; omega
  have e : leV ((b.drop k).take 4) = v := by
    rw [h]
    simp only [leB, List.cons_append, List.nil_append, List.take_succ_cons, List.take_zero, leV]; omega
  have := lword_ok hb (by omega) (n := 4) (by omega) hl
  rw [e] at this
  exact ⟨_, this, rfl⟩

/-! ### What is wrong with an event -/
def zeroMg : Mg := (0, List.replicate 6 0, [], [], bstr [], bstr [])
def chkL (e : Ev) : Int :=
  if e.1 < 1 ∨ 3 < e.1 then 9
  else if e.1 = 1 then (if e.2.2.1 ≠ 1 ∧ e.2.2.1 ≠ 2 then 10 else if checkB e.2.2.2.2 ≠ 0 then checkB e.2.2.2.2 else if e.2.2.2.1 ≠ 0 then 3 else 0)
  else if e.2.2.1 ≠ 0 then 3 else if sameB e.2.2.2.2 zeroMg = false then 3
  else if e.1 = 2 then (if bstr (wordE e.2.2.2.1) = bstr [] then 7 else 0) else if e.2.2.2.1 ≠ 0 then 3 else 0
theorem chkL_ok {e : Ev} (hp : e.2.2.2.2.2.2.1.length < 4611686018427387904) (hq : e.2.2.2.2.2.2.2.1.length < 4611686018427387904) : log_Check e (chkL e) := by
  have j1 : e.1 ≠ 2 → log_Check_j1 e () (if e.2.2.2.1 ≠ 0 then 3 else 0) := by
    intro h
    unfold log_Check_j1
    rw [if_pos (by simpa using h)]
    unfold log_Check_j2
    by_cases h0 : e.2.2.2.1 = 0
    · rw [if_neg (by simp [h0]), if_neg (by simpa using h0)]
    · rw [if_pos (by simp [h0]), if_pos h0]
  have j1b : e.1 = 2 → log_Check_j1 e () 0 := by
    intro h
    unfold log_Check_j1
    rw [if_neg (by simp [h])]
    unfold log_Check_j2
    rw [if_neg (by simp)]
  have j4 : ¬ (e.1 < 1 ∨ 3 < e.1) → e.1 ≠ 1 → log_Check_j4 e false (chkL e) := by
    intro h h1
    unfold log_Check_j4 chkL
    rw [if_neg (by simp), if_neg (by simpa using h1), if_neg h, if_neg h1]
    by_cases hv : e.2.2.1 = 0
    · rw [if_neg (by simp [hv]), if_neg (by simpa using hv)]
      refine ⟨_, msame_ok (b := zeroMg) hp hq, ?_⟩
      unfold log_Check_j5
      by_cases hs : sameB e.2.2.2.2 zeroMg = false
      · rw [if_pos (by simp [hs]), if_pos hs]
      · rw [if_neg (by simpa using hs), if_neg hs]
        by_cases h2 : e.1 = 2
        · rw [if_pos (by simpa using h2), if_pos h2]
          refine ⟨_, eword_ok _, ?_⟩
          unfold log_Check_j6
          by_cases hw : bstr (wordE e.2.2.2.1) = bstr []
          · rw [if_pos (by simpa using hw), if_pos hw]
          · rw [if_neg (by simpa using hw), if_neg hw]; exact j1b h2
        · rw [if_neg (by simpa using h2), if_neg h2]
          unfold log_Check_j6
          rw [if_neg (by simp)]
          exact j1 h2
    · rw [if_pos (by simp [hv]), if_pos hv]
      unfold log_Check_j5
      rw [if_pos rfl]
  have j3 : ¬ (e.1 < 1 ∨ 3 < e.1) → log_Check_j3 e false (chkL e) := by
    intro h
    unfold log_Check_j3
    rw [if_neg (by simp)]
    by_cases h1 : e.1 = 1
    · rw [if_pos (by simpa using h1)]
      have core : (e.2.2.1 = 1 ∨ e.2.2.1 = 2) → log_Check_j4 e false (chkL e) := by
        intro hv
        unfold log_Check_j4 chkL
        rw [if_neg (by simp), if_pos (by simpa using h1), if_neg h, if_pos h1, if_neg (by omega)]
        refine ⟨_, mcheck_ok hp hq, ?_⟩
        by_cases hc : checkB e.2.2.2.2 = 0
        · rw [if_neg (by simp [hc]), if_neg (by simpa using hc)]; exact j1 (by omega)
        · rw [if_pos (by simp [hc]), if_pos hc]
      by_cases hv : e.2.2.1 = 1
      · rw [if_neg (by simp [hv])]; exact core (.inl hv)
      · rw [if_pos (by simp [hv])]
        by_cases hv2 : e.2.2.1 = 2
        · rw [decide_eq_true hv2]; exact core (.inr hv2)
        · rw [decide_eq_false hv2]
          unfold log_Check_j4 chkL
          rw [if_pos (by decide), if_neg h, if_pos h1, if_pos ⟨hv, hv2⟩]
    · rw [if_neg (by simpa using h1)]; exact j4 h h1
  unfold log_Check
  by_cases h1 : e.1 < 1
  · rw [if_pos (by simpa using h1)]
    unfold log_Check_j3 chkL
    rw [if_pos rfl, if_pos (.inl h1)]
  · rw [if_neg (by simpa using h1)]
    by_cases h3 : 3 < e.1
    · rw [decide_eq_true h3]
      unfold log_Check_j3 chkL
      rw [if_pos rfl, if_pos (.inr h3)]
    · rw [decide_eq_false h3]; exact j3 (by omega)
end Go.Rel
/-! Plain laws: a log's records are written. -/
namespace Go.Rel
open Go Go.Eng Go.Pl

def pmax (f : Fd) : Nat := if f.2.1 = 3 then 129 else if f.2.1 = 4 then 129 else if f.2.1 = 5 then 65 else if f.2.1 = 6 then 17 else 4
theorem clsE_len2 : ∀ (l : List Int) (q : Int), -1 ≤ q → climbs q l → (clsE q l).length ≤ 4 * l.length
  | [], _, _, _ => by simp [clsE]
  | c :: l, q, hq, hcl => by
    obtain ⟨c1, c2, c3⟩ := hcl
    have := clsE_len2 l c (by omega) c3
    have a1 := vB_4 (n := (c - q - 1).toNat) (by omega)
    simp only [clsE, List.length_append, List.length_cons]
    omega
theorem part_len {m : Mg} {f : Fd} (hf : fdR f) (hw : wrongB m f = 0) : (partE m f).length ≤ pmax f := by
  obtain ⟨⟨_, _, hk⟩, hp⟩ := hf
  unfold wrongB at hw
  unfold partE pmax
  rcases hk with ⟨e, e1, e2⟩ | ⟨e, e1, e2⟩ | ⟨e, e1, e2⟩ | ⟨e, e1, e2⟩ | ⟨k1, k2, k3, k4, k5, k6⟩
  · rw [if_pos e, e1, e2] at hw
    obtain ⟨h1, h2, h3⟩ := path_right hw
    have hlen := ptsE_len m.2.2.1 (0, 0) (by simp) h3
    have hv := vB_lt (n := m.2.2.1.length) (by omega)
    rw [if_neg (by omega), if_neg (by omega), if_pos e, if_pos e, List.length_append, hv]; simp; omega
  · rw [if_neg (by omega), if_pos e, e1, e2] at hw
    obtain ⟨h1, h2, h3⟩ := cells_right hw
    have hl := clsE_len2 m.2.2.2.1 (-1) (by omega) h3
    have hv := vB_lt (n := m.2.2.2.1.length) (by omega)
    rw [if_neg (by omega), if_neg (by omega), if_neg (by omega), if_pos e, if_neg (by omega), if_pos e, List.length_append, hv]; simp; omega
  · rw [if_neg (by omega), if_neg (by omega), if_pos e, e1, e2] at hw
    obtain ⟨h1, _⟩ := text_right hw
    have hv := vB_lt (n := m.2.2.2.2.1.size) (by omega)
    have hb := len_bints m.2.2.2.2.1
    rw [if_neg (by omega), if_neg (by omega), if_neg (by omega), if_neg (by omega), if_pos e, if_neg (by omega), if_neg (by omega), if_pos e]
    unfold txtE
    rw [List.length_append, hv, hb]; simp; omega
  · rw [if_neg (by omega), if_neg (by omega), if_neg (by omega), if_pos e, e1, e2] at hw
    obtain ⟨h1, _⟩ := text_right hw
    have hv := vB_lt (n := m.2.2.2.2.2.size) (by omega)
    have hb := len_bints m.2.2.2.2.2
    rw [if_neg (by omega), if_neg (by omega), if_neg (by omega), if_neg (by omega), if_neg (by omega), if_pos e, if_neg (by omega), if_neg (by omega), if_neg (by omega), if_pos e]
    unfold txtE
    rw [List.length_append, hv, hb]; simp; omega
  · rw [if_neg (by omega), if_neg (by omega), if_neg (by omega), if_neg (by omega)] at hw
    by_cases hb : numBad m f
    · rw [if_pos hb] at hw; cases hw
    unfold numBad at hb
    by_cases e : f.2.1 = 1
    · have h0 := hp e
      have a1 := vB_4 (n := (m.2.1.getD f.2.2.1.toNat 0).toNat) (by omega)
      rw [if_pos e, if_neg (by omega), if_neg (by omega), if_neg (by omega), if_neg (by omega)]; exact a1
    · have a1 := vB_4 (n := zigN (m.2.1.getD f.2.2.1.toNat 0)) (by unfold zigN; split <;> omega)
      rw [if_neg e, if_pos (by omega), if_neg (by omega), if_neg (by omega), if_neg (by omega), if_neg (by omega)]; exact a1
theorem pmax_sum (k : Int) : ((fieldsB k).map pmax).sum ≤ 158 := by
  unfold fieldsB
  split
  · decide
  · split
    · decide
    · split
      · decide
      · split
        · decide
        · split <;> decide
theorem body_len {m : Mg} (hc : checkB m = 0) : (bodyE m 2).length ≤ 158 := by
  have key : ∀ l : List Fd, (∀ f ∈ l, f ∈ fieldsB m.1) → (l.flatMap (partE m)).length ≤ (l.map pmax).sum := by
    intro l
    induction l with
    | nil => intro _; simp
    | cons f l ih =>
      intro h
      have hf := h f List.mem_cons_self
      have h1 := part_len (fields_r m.1 f hf) (check_each hc f hf)
      have h2 := ih (fun g hg => h g (List.mem_cons_of_mem _ hg))
      rw [List.flatMap_cons, List.length_append, List.map_cons, List.sum_cons]
      omega
  have h1 := key (fieldsB m.1) (fun f hf => hf)
  have h2 := pmax_sum m.1
  unfold bodyE
  rw [since2]
  omega
def payE (e : Ev) : List Int := [e.1] ++ leB e.2.1 ++ (if e.1 = 1 then [e.2.2.1] ++ ([e.2.2.2.2.1] ++ bodyE e.2.2.2.2 2) else if e.1 = 2 then [e.2.2.2.1] else [])
def recE (e : Ev) : List Int := vB (payE e).length ++ payE e
theorem chk_kind {e : Ev} (h : chkL e = 0) : (e.1 = 1 ∧ (e.2.2.1 = 1 ∨ e.2.2.1 = 2) ∧ checkB e.2.2.2.2 = 0) ∨ (e.1 = 2 ∧ bstr (wordE e.2.2.2.1) ≠ bstr []) ∨ e.1 = 3 := by
  unfold chkL at h
  by_cases h0 : e.1 < 1 ∨ 3 < e.1
  · rw [if_pos h0] at h; cases h
  rw [if_neg h0] at h
  by_cases h1 : e.1 = 1
  · rw [if_pos h1] at h
    by_cases hv : e.2.2.1 ≠ 1 ∧ e.2.2.1 ≠ 2
    · rw [if_pos hv] at h; cases h
    rw [if_neg hv] at h
    by_cases hc : checkB e.2.2.2.2 = 0
    · exact .inl ⟨h1, by omega, hc⟩
    · rw [if_pos hc] at h; exact absurd h hc
  rw [if_neg h1] at h
  by_cases h2 : e.1 = 2
  · refine .inr (.inl ⟨h2, ?_⟩)
    by_cases hv : e.2.2.1 ≠ 0
    · rw [if_pos hv] at h; cases h
    rw [if_neg hv] at h
    by_cases hs : sameB e.2.2.2.2 zeroMg = false
    · rw [if_pos hs] at h; cases h
    rw [if_neg hs, if_pos h2] at h
    by_cases hw : bstr (wordE e.2.2.2.1) = bstr []
    · rw [if_pos hw] at h; cases h
    · exact hw
  · exact .inr (.inr (by omega))
theorem word_byte {e : Int} (h : bstr (wordE e) ≠ bstr []) : 2 ≤ e ∧ e ≤ 19 := by
  rcases wordE_cases e with h1 | ⟨_, h1⟩
  · omega
  · rw [h1] at h; exact absurd rfl h
theorem kind_byte {m : Mg} (h : checkB m = 0) : 1 ≤ m.1 ∧ m.1 ≤ 5 := by
  have hne : fieldsB m.1 ≠ [] := by
    intro h0
    unfold checkB at h
    rw [if_pos h0] at h; cases h
  unfold fieldsB at hne
  by_cases e1 : m.1 = 1
  · omega
  by_cases e2 : m.1 = 2
  · omega
  by_cases e3 : m.1 = 3
  · omega
  by_cases e4 : m.1 = 4
  · omega
  by_cases e5 : m.1 = 5
  · omega
  rw [if_neg e1, if_neg e2, if_neg e3, if_neg e4, if_neg e5] at hne
  exact absurd rfl hne
theorem pay_len {e : Ev} (h : chkL e = 0) : (payE e).length ≤ 165 ∧ 5 ≤ (payE e).length := by
  unfold payE
  rcases chk_kind h with ⟨h1, _, hc⟩ | ⟨h2, _⟩ | h3
  · have := body_len hc
    rw [if_pos h1]; simp [leB]; omega
  · rw [if_neg (by omega), if_pos h2]; simp [leB]
  · rw [if_neg (by omega), if_neg (by omega)]; simp [leB]
theorem one_end {p : List Int} {r : Int} (h : p.length ≤ 165) : log_one_j1 (p, r, false) (vB p.length ++ p, 0) := by
  have h1 : (vB p.length).length ≤ 2 := vB_len (k := 1) (by omega)
  have hf := pfield_ok (p := []) (l := p) (room := 202) (by simp; omega) (by decide)
  rw [List.nil_append] at hf
  exact ⟨_, rfl, p, pbytes_ok (by omega), _, hf, _, pbytes_ok (by rw [List.length_append]; omega), rfl⟩
set_option maxRecDepth 8000 in
theorem one_ok {e : Ev} (h : chkL e = 0) (hp : e.2.2.2.2.2.2.1.length < 1099511627776) (hq : e.2.2.2.2.2.2.2.1.length < 1099511627776) : log_one e (recE e, 0) := by
  have hpl := pay_len h
  refine ⟨0, by have := chkL_ok (e := e) (by omega) (by omega); rw [h] at this; exact this, ?_⟩
  rw [if_neg (by decide)]
  have hk : 1 ≤ e.1 ∧ e.1 ≤ 3 := by rcases chk_kind h with ⟨h1, _⟩ | ⟨h2, _⟩ | h3 <;> omega
  have w8 : ∀ x : Int, 0 ≤ x → x < 256 → IntKind.u8.wrap x = x := fun x a b => by rw [w_u8]; omega
  refine ⟨([], 200, false), rfl, (0, ([e.1], 200, false)), ?_, (0, ([e.1] ++ leB e.2.1, 200, false)), pu32_ok (p := [e.1]) (room := 200) (by simp) (by decide), ?_⟩
  · rw [w8 _ (by omega) (by omega)]
    exact pu8_ok (p := []) (room := 200) (by omega) (by omega) (by decide) (by decide)
  · unfold recE
    rcases chk_kind h with ⟨k1, kv, kc⟩ | ⟨k2, kw⟩ | k3
    · have hbl := body_len kc
      have hkb := kind_byte kc
      have hE : payE e = [e.1] ++ leB e.2.1 ++ [e.2.2.1] ++ [e.2.2.2.2.1] ++ bodyE e.2.2.2.2 2 := by unfold payE; rw [if_pos k1]; simp
      rw [hE] at hpl ⊢
      rw [if_pos (by simpa using k1)]
      have henc := encode_ok (v := 2) (.inr rfl) kc (by omega) (by omega)
      generalize bodyE e.2.2.2.2 2 = B at henc hbl hpl ⊢
      refine ⟨_, henc, ?_⟩
      have r1 := pu8_ok (p := [e.1] ++ leB e.2.1) (room := 200) (v := e.2.2.1) (by omega) (by omega) (by simp [leB]) (by decide)
      have r2 := pu8_ok (p := [e.1] ++ leB e.2.1 ++ [e.2.2.1]) (room := 200) (v := e.2.2.2.2.1) (by omega) (by omega) (by simp [leB]) (by decide)
      have hl7 : ([e.1] ++ leB e.2.1 ++ [e.2.2.1] ++ [e.2.2.2.2.1]).length + B.length ≤ 200 := by simp [leB]; omega
      have r3 : pen_Pen_Raw ([e.1] ++ leB e.2.1 ++ [e.2.2.1] ++ [e.2.2.2.2.1], ((200 : Nat) : Int), false) B (0, ([e.1] ++ leB e.2.1 ++ [e.2.2.1] ++ [e.2.2.2.2.1] ++ B, ((200 : Nat) : Int), false)) := by
        generalize hp7 : [e.1] ++ leB e.2.1 ++ [e.2.2.1] ++ [e.2.2.2.2.1] = p7 at hl7 ⊢
        exact raw_ok hl7 (by decide)
      rw [if_neg (show ¬ (!decide ((0 : Int) = 0)) = true by decide), w8 e.2.2.1 (by omega) (by omega), w8 e.2.2.2.2.1 (by omega) (by omega)]
      exact ⟨_, r1, _, r2, _, r3, one_end hpl.1⟩
    · have hwb := word_byte kw
      have hE : payE e = [e.1] ++ leB e.2.1 ++ [e.2.2.2.1] := by unfold payE; rw [if_neg (by omega), if_pos k2]
      rw [hE] at hpl ⊢
      rw [if_neg (by simp; omega), if_pos (by simpa using k2), w8 e.2.2.2.1 (by omega) (by omega)]
      exact ⟨_, pu8_ok (room := 200) (by omega) (by omega) (by simp [leB]) (by decide), one_end hpl.1⟩
    · have hE : payE e = [e.1] ++ leB e.2.1 := by unfold payE; rw [if_neg (by omega), if_neg (by omega)]; simp
      rw [hE] at hpl ⊢
      rw [if_neg (by simp; omega), if_neg (by simp; omega)]
      exact one_end hpl.1
end Go.Rel
/-! Plain laws: a log's records are read. -/
namespace Go.Rel
open Go Go.Eng Go.Pl

def zero6 : Mg := (0, [0, 0, 0, 0, 0, 0], [], [], bstr [], bstr [])
def rdE (e : Ev) : Ev := if e.1 = 1 then (1, e.2.1, e.2.2.1, 0, (e.2.2.2.2.1, n6 e.2.2.2.2.2.1, e.2.2.2.2.2.2)) else if e.1 = 2 then (2, e.2.1, 0, e.2.2.2.1, zero6) else (3, e.2.1, 0, 0, zero6)
theorem part_byt (m : Mg) (f : Fd) : Byt (partE m f) := by
  unfold partE
  have hp : ∀ (l : List (Int × Int)) (q : Int × Int), Byt (ptsE q l) := by
    intro l
    induction l with
    | nil => intro q x hx; cases hx
    | cons p l ih =>
      intro q x hx
      simp only [ptsE, List.mem_append] at hx
      rcases hx with (hx | hx) | hx
      · exact vB_byt _ x hx
      · exact vB_byt _ x hx
      · exact ih p x hx
  have hc : ∀ (l : List Int) (q : Int), Byt (clsE q l) := by
    intro l
    induction l with
    | nil => intro q x hx; cases hx
    | cons p l ih =>
      intro q x hx
      simp only [clsE, List.mem_append] at hx
      rcases hx with hx | hx
      · exact vB_byt _ x hx
      · exact ih p x hx
  have happ : ∀ a b : List Int, Byt a → Byt b → Byt (a ++ b) := fun a b ha hb x hx => by
    rcases List.mem_append.1 hx with hx | hx
    · exact ha x hx
    · exact hb x hx
  split
  · exact vB_byt _
  · split
    · exact vB_byt _
    · split
      · exact happ _ _ (vB_byt _) (hp _ _)
      · split
        · exact happ _ _ (vB_byt _) (hc _ _)
        · split
          · exact happ _ _ (vB_byt _) (bints_byt _)
          · split
            · exact happ _ _ (vB_byt _) (bints_byt _)
            · intro x hx; cases hx
theorem body_byt (m : Mg) (v : Int) : Byt (bodyE m v) := by
  intro x hx
  obtain ⟨f, _, hx⟩ := List.mem_flatMap.1 hx
  exact part_byt m f x hx
theorem pay_byt {e : Ev} (h : chkL e = 0) : Byt (payE e) := by
  intro x hx
  unfold payE at hx
  rcases chk_kind h with ⟨k1, kv, kc⟩ | ⟨k2, kw⟩ | k3
  · have hkb := kind_byte kc
    rw [if_pos k1] at hx
    simp only [List.mem_append, List.mem_singleton] at hx
    rcases hx with (rfl | hx) | rfl | rfl | hx
    · omega
    · exact leB_byt _ x hx
    · omega
    · omega
    · exact body_byt _ _ x hx
  · have hwb := word_byte kw
    rw [if_neg (by omega), if_pos k2] at hx
    simp only [List.mem_append, List.mem_singleton] at hx
    rcases hx with (rfl | hx) | rfl
    · omega
    · exact leB_byt _ x hx
    · omega
  · rw [if_neg (by omega), if_neg (by omega), List.append_nil] at hx
    simp only [List.mem_append, List.mem_singleton] at hx
    rcases hx with rfl | hx
    · omega
    · exact leB_byt _ x hx
theorem lrest_ok {b : List Int} {at_ : Nat} (hb : b.length < 1073741824) (h : at_ ≤ b.length) : lens_Lens_Rest (b, (at_ : Int), 0) (b.drop at_, (b, (b.length : Int), 0)) := by
  have hr := lraw_ok (n := b.length - at_) hb (by omega) (at_ := at_)
  rw [List.take_of_length_le (by rw [List.length_drop]; omega), show at_ + (b.length - at_) = b.length by omega] at hr
  exact ⟨_, ⟨_, left_ok h, by rw [List.length_drop]⟩, _, hr, rfl⟩
set_option maxRecDepth 8000 in
theorem lread_ok {e : Ev} (h : chkL e = 0) (h0 : 0 ≤ e.2.1) (h1 : e.2.1 < 4294967296) (hp : e.2.2.2.2.2.2.1.length < 1099511627776) (hq : e.2.2.2.2.2.2.2.1.length < 1099511627776) : log_read (payE e) (rdE e, 0) := by
  have hpl := pay_len h
  have hby := pay_byt h
  have hE : payE e = e.1 :: (leB e.2.1 ++ (if e.1 = 1 then [e.2.2.1] ++ ([e.2.2.2.2.1] ++ bodyE e.2.2.2.2 2) else if e.1 = 2 then [e.2.2.2.1] else [])) := by unfold payE; simp
  generalize hb : payE e = b at hpl hby hE ⊢
  have hbl : b.length < 1073741824 := by omega
  have d0 := (List.drop_zero (l := b)).trans hE
  have u0 := llu8_ok hby hbl d0
  have d1 : b.drop 1 = leB e.2.1 ++ (if e.1 = 1 then [e.2.2.1] ++ ([e.2.2.2.2.1] ++ bodyE e.2.2.2.2 2) else if e.1 = 2 then [e.2.2.2.1] else []) := by rw [hE]; rfl
  have u1 := llu32_ok hby hbl h0 h1 d1
  have d5 : b.drop 5 = (if e.1 = 1 then [e.2.2.1] ++ ([e.2.2.2.2.1] ++ bodyE e.2.2.2.2 2) else if e.1 = 2 then [e.2.2.2.1] else []) := by rw [hE]; rfl
  have wk : ∀ x : Int, 0 ≤ x → x < 256 → IntKind.i64.wrap x = x := fun x a b => w_small (by omega) (by omega)
  unfold log_read
  refine ⟨_, lnew_ok hbl, _, u0, _, u1, 0, rfl, ?_⟩
  rw [if_neg (by decide)]
  simp only
  rcases chk_kind h with ⟨k1, kv, kc⟩ | ⟨k2, kw⟩ | k3
  · have hkb := kind_byte kc
    rw [if_pos k1] at d5
    have u2 := llu8_ok (v := e.2.2.1) (rest := [e.2.2.2.2.1] ++ bodyE e.2.2.2.2 2) hby hbl d5
    have d6 : b.drop 6 = e.2.2.2.2.1 :: bodyE e.2.2.2.2 2 := by
      rw [show 6 = 5 + 1 by rfl, ← List.drop_drop, d5]; rfl
    have u3 := llu8_ok hby hbl d6
    have d7 : b.drop 7 = bodyE e.2.2.2.2 2 := by
      rw [show 7 = 6 + 1 by rfl, ← List.drop_drop, d6]; rfl
    have hbb := body_len kc
    have h7 : 7 ≤ b.length := by
      have := congrArg List.length d6
      rw [List.length_drop, List.length_cons] at this; omega
    have ur := lrest_ok (at_ := 7) hbl h7
    rw [d7] at ur
    have hdec := decode_ok kc hp hq (by omega)
    rw [wk e.1 (by omega) (by omega), if_pos (by simpa using k1)]
    refine ⟨_, u2, _, u3, 0, rfl, ?_⟩
    rw [if_neg (by decide)]
    simp only
    rw [wk e.2.2.1 (by omega) (by omega)]
    have core : log_read_j3 (e.1, (b, ((0 + 1 : Nat) : Int), 0)) (e.2.1, (b, ((1 + 4 : Nat) : Int), 0)) (e.2.2.1, (b, ((5 + 1 : Nat) : Int), 0)) (e.2.2.2.2.1, (b, ((6 + 1 : Nat) : Int), 0)) false (rdE e, 0) := by
      unfold log_read_j3
      rw [if_neg (by decide)]
      refine ⟨_, ur, _, by rw [wk e.2.2.2.2.1 (by omega) (by omega)]; exact hdec, ?_⟩
      rw [if_neg (show ¬ (!decide ((0 : Int) = 0)) = true by decide)]
      unfold log_read_j2
      refine ⟨0, lend_ok hbl, ?_⟩
      rw [if_neg (by decide)]
      unfold rdE
      rw [if_pos k1]
      simp only
      rw [wk e.1 (by omega) (by omega), wk e.2.2.1 (by omega) (by omega), k1]
      rfl
    by_cases hv : e.2.2.1 = 1
    · rw [if_neg (by simp [hv])]; exact core
    · rw [if_pos (by simp [hv]), show (!decide (e.2.2.1 = 2)) = false by simp; omega]; exact core
  · have hwb := word_byte kw
    rw [if_neg (by omega), if_pos k2] at d5
    have u2 := llu8_ok (v := e.2.2.2.1) (rest := []) hby hbl d5
    have hl6 : b.length = 6 := by
      have := congrArg List.length d5
      rw [List.length_drop] at this
      simp at this; omega
    rw [wk e.1 (by omega) (by omega), if_neg (by simp; omega), if_pos (by simpa using k2)]
    refine ⟨_, u2, 0, rfl, ?_⟩
    rw [if_neg (by decide)]
    refine ⟨_, by simp only; rw [wk e.2.2.2.1 (by omega) (by omega)]; exact eword_ok _, ?_⟩
    rw [if_neg (by simpa using kw)]
    unfold log_read_j2
    refine ⟨0, by have := lend_ok hbl; rw [hl6] at this; exact this, ?_⟩
    rw [if_neg (by decide)]
    unfold rdE
    rw [if_neg (by omega), if_pos k2]
    simp only
    rw [wk e.1 (by omega) (by omega), wk e.2.2.2.1 (by omega) (by omega), k2]
    rfl
  · rw [if_neg (by omega), if_neg (by omega)] at d5
    have hl5 : b.length = 5 := by
      have := congrArg List.length d5
      rw [List.length_drop] at this
      simp at this; omega
    rw [wk e.1 (by omega) (by omega), if_neg (by simp; omega), if_neg (by simp; omega), if_pos (by simpa using k3)]
    unfold log_read_j2
    refine ⟨0, by have := lend_ok hbl; rw [hl5] at this; exact this, ?_⟩
    rw [if_neg (by decide)]
    unfold rdE
    rw [if_neg (by omega), if_neg (by omega)]
    simp only
    rw [wk e.1 (by omega) (by omega), k3]
    rfl
end Go.Rel
/-! Plain law: LogCuts. -/
namespace Go.Rel
open Go Go.Eng Go.Pl

def EvG (e : Ev) : Prop := chkL e = 0 ∧ 0 ≤ e.2.1 ∧ e.2.1 < 4294967296 ∧ e.2.2.2.2.2.2.1.length < 1099511627776 ∧ e.2.2.2.2.2.2.2.1.length < 1099511627776
theorem rec_len {e : Ev} (h : chkL e = 0) : (recE e).length ≤ 167 ∧ 6 ≤ (recE e).length := by
  have h1 := pay_len h
  have h2 : (vB (payE e).length).length ≤ 2 := vB_len (k := 1) (by omega)
  have h3 := vB_pos (payE e).length
  unfold recE
  rw [List.length_append]
  omega
theorem recs_len : ∀ l : List Ev, (∀ e ∈ l, EvG e) → (l.flatMap recE).length ≤ 167 * l.length
  | [], _ => by simp
  | e :: l, h => by
    have h1 := rec_len (h e List.mem_cons_self).1
    have h2 := recs_len l (fun x hx => h x (List.mem_cons_of_mem _ hx))
    rw [List.flatMap_cons, List.length_append, List.length_cons]; omega
theorem lbytes_ok (l : List Ev) (hl : l.length ≤ 100) (hg : ∀ e ∈ l, EvG e) : log_Bytes l (l.flatMap recE, 0) := by
  have key : ∀ (r pre : List Ev), l = pre ++ r → Loops (log_Bytes_l2 l) (pre.flatMap recE, (pre.length : Int)) (.inl (l.flatMap recE)) := by
    intro r
    induction r with
    | nil =>
      intro pre h
      refine .done ?_
      unfold log_Bytes_l2
      rw [if_neg (by rw [h]; simp)]
      rw [h]; simp
    | cons e r ih =>
      intro pre h
      have hx : idx l (pre.length : Int) e := ⟨by omega, by rw [h]; simp⟩
      have hlt := hx.lt
      obtain ⟨g1, g2, g3, g4, g5⟩ := hg e (by rw [h]; simp)
      have hpre := recs_len pre (fun x hx => hg x (by rw [h]; exact List.mem_append_left _ hx))
      have hrl := rec_len g1
      have e1 : (pre ++ [e]).flatMap recE = pre.flatMap recE ++ recE e := by simp
      refine .next (s' := ((pre ++ [e]).flatMap recE, ((pre ++ [e]).length : Int))) ?_ (ih (pre ++ [e]) (by simp [h]))
      unfold log_Bytes_l2
      rw [if_pos (by simpa using hlt)]
      refine ⟨e, hx, _, one_ok g1 g4 g5, ?_⟩
      rw [if_neg (show ¬ (!decide ((0 : Int) = 0)) = true by decide)]
      simp only
      refine ⟨by omega, by omega, ?_⟩
      rw [w_small (by omega) (by omega), e1]
      simp
  exact ⟨_, key l [] rfl, rfl⟩
theorem left2_ok {b : List Int} {at_ : Nat} (h : at_ ≤ b.length) : lens_Lens_Left (b, (at_ : Int), 0) ((b.length - at_ : Nat) : Int) := ⟨_, left_ok h, by rw [List.length_drop]⟩
end Go.Rel
/-! Plain laws: a whole log is parsed as it was. -/
namespace Go.Rel
open Go Go.Eng Go.Pl

/-! ### The document's bytes of a number -/
end Go.Rel
/-! Plain laws: the document's bytes of a path, of cells. -/
namespace Go.Rel
open Go Go.Eng Go.Pl

end Go.Rel
/-! Plain laws: the document's bytes of a field. -/
namespace Go.Rel
open Go Go.Eng Go.Pl

end Go.Rel
/-! Plain laws: the document's body. -/
namespace Go.Rel
open Go Go.Eng Go.Pl

end Go.Rel
/-! Plain law: LogCuts, joined. -/
namespace Go.Rel
open Go Go.Eng Go.Pl

theorem known34_ok : law34_known true := by
  have g1 : chkL (3, 7, 0, 0, (0, [0, 0, 0, 0, 0, 0], [], [], bstr [], bstr [])) = 0 := by rfl
  have g2 : chkL (2, 0, 0, 11, (0, [0, 0, 0, 0, 0, 0], [], [], bstr [], bstr [])) = 0 := by rfl
  have e1 : recE (3, 7, 0, 0, (0, [0, 0, 0, 0, 0, 0], [], [], bstr [], bstr [])) = [5, 3, 7, 0, 0, 0] := by
    unfold recE
    have : payE (3, 7, 0, 0, (0, [0, 0, 0, 0, 0, 0], [], [], bstr [], bstr [])) = [3, 7, 0, 0, 0] := by rfl
    rw [this, vB_lt (by decide)]; rfl
  have e2 : recE (2, 0, 0, 11, (0, [0, 0, 0, 0, 0, 0], [], [], bstr [], bstr [])) = [6, 2, 0, 0, 0, 0, 11] := by
    unfold recE
    have : payE (2, 0, 0, 11, (0, [0, 0, 0, 0, 0, 0], [], [], bstr [], bstr [])) = [2, 0, 0, 0, 0, 11] := by rfl
    rw [this, vB_lt (by decide)]; rfl
  have b1 := lbytes_ok [(3, 7, 0, 0, (0, [0, 0, 0, 0, 0, 0], [], [], bstr [], bstr []))] (by decide) (by
    intro e he; rw [List.mem_singleton] at he; subst he; exact ⟨g1, by decide, by decide, by decide, by decide⟩)
  have b2 := lbytes_ok [(2, 0, 0, 11, (0, [0, 0, 0, 0, 0, 0], [], [], bstr [], bstr []))] (by decide) (by
    intro e he; rw [List.mem_singleton] at he; subst he; exact ⟨g2, by decide, by decide, by decide, by decide⟩)
  simp only [List.flatMap_cons, List.flatMap_nil, List.append_nil, e1] at b1
  simp only [List.flatMap_cons, List.flatMap_nil, List.append_nil, e2] at b2
  refine ⟨_, rfl, _, b1, _, rfl, _, b2, ?_⟩
  rw [if_pos (by decide), if_pos (by decide)]
  refine ⟨_, same_ok (by decide), ?_⟩
  rw [if_pos (by decide)]
  exact ⟨_, same_ok (by decide), by show true = _; decide⟩
end Go.Rel
/-! Plain laws: what the document says is wrong with a log's event; its records. -/
namespace Go.Rel
open Go Go.Eng Go.Pl

structure EvS (e : Ev) : Prop where
  path : e.2.2.2.2.2.2.1.length ≤ 40
  cells : e.2.2.2.2.2.2.2.1.length ≤ 40
  text : e.2.2.2.2.2.2.2.2.1.size ≤ 1000
  tag : e.2.2.2.2.2.2.2.2.2.size ≤ 1000
  seq0 : 0 ≤ e.2.1
  seq1 : e.2.1 < 4294967296
/-! ### All records, or the first error -/
theorem evG {e : Ev} (s : EvS e) (h : chkL e = 0) : EvG e := ⟨h, s.seq0, s.seq1, by have := s.path; omega, by have := s.cells; omega⟩
end Go.Rel
/-! Plain law: LogTells. -/
namespace Go.Rel
open Go Go.Eng Go.Pl

theorem same24_ok {a b : List Ev} (hl : a.length = b.length) (h : a.length ≤ 1000000) (hs : ∀ (k : Nat) (x y : Ev), a[k]? = some x → b[k]? = some y → sameE x y = true ∧ x.2.2.2.2.2.2.1.length < 1099511627776 ∧ x.2.2.2.2.2.2.2.1.length < 1099511627776) : law24_Same a (b.map ofE) 0 true := by
  unfold law24_Same
  have hlm : (b.map ofE).length = b.length := List.length_map ..
  rw [if_neg (by rw [hlm, w_small (by omega) (by omega)]; simp [hl])]
  refine ⟨.inl (), ?_, rfl⟩
  refine loops_count (fun k => (k : Int)) a.length (fun k hk => ?_) ?_
  · unfold law24_Same_l2
    rw [if_pos (by simpa using hk)]
    have hk2 : k < b.length := by omega
    obtain ⟨s1, s2, s3⟩ := hs k a[k] b[k] (List.getElem?_eq_getElem hk) (List.getElem?_eq_getElem hk2)
    refine ⟨a[k], idx_of hk, _, eof_ok s2, ofE b[k], ?_, true, ?_, ?_⟩
    · have e : IntKind.i64.wrap (0 + (k : Int)) = (k : Int) := by rw [w_small (by omega) (by omega)]; omega
      rw [e]
      exact ⟨by omega, by simp [hk2]⟩
    · rw [← s1]; exact resame_ok (by omega) (by omega)
    · rw [if_neg (by simp), w_small (by omega) (by omega)]; simp
  · unfold law24_Same_l2
    rw [if_neg (by simp)]
end Go.Rel
