import Derived.Test.YtonmgcebhhdplabGreatDoorPlM1
/-! Plain laws: fleets: what keeps them right; which are the same. -/
namespace Go.Rel
open Go Go.Eng Go.Pl

theorem flines_ok {l : List ByteArray} (hl : l.length < 4611686018427387904) : law25_Lines l l true := by
 unfold law25_Lines
 rw [if_neg (by simp)]
 refine ⟨.inl (), loops_count (step := law25_Lines_l2 l l) (fun k => (k : Int)) l.length (fun k hk => ?_) ?_, rfl⟩
 ·unfold law25_Lines_l2
  rw [if_pos (by simpa using hk)]
  refine ⟨l[k], idx_of hk, l[k], idx_of hk, ?_⟩
  rw [if_neg (by simp), w_small (by omega) (by omega)]; rfl
 ·unfold law25_Lines_l2
  rw [if_neg (by simp)]
theorem linesB_len {k : Nat} {f : Fl} (h : FlW k f) (hk : k ≤ 1000) : (linesB f).length < 1100000 := by
 have hn1 := h.n1
 have hn2 := h.n2
 have hsl : (skeys f.1).length = f.1.length := by rw [(fskeys_perm _).length_eq, List.length_map]
 have hrl : ∀ n, (rlB f n).length ≤ 1001 := fun n => by have := rlB_len f n; omega
 have h1 := flat_len (g := rlB f) (N := 1001) (skeys f.1) hrl
 have h3 : 1001 * (skeys f.1).length ≤ 1001 * 1000 := Nat.mul_le_mul_left _ (by omega)
 have h2 : (conB f).length = (conT f.2).length := List.length_mergeSort _
 have h4 : (conT f.2).length ≤ (nub (allC f.2)).length := List.length_filter_le _ _
 have h5 := nub_len (allC f.2)
 have h6 := h.allC
 unfold linesB
 rw [List.length_append, List.length_map]; omega
/-! ### What messages leave -/
structure MW (m : Mg) : Prop where
 num : ∀ x ∈ m.2.1, IntOk .i64 x
 path : m.2.2.1.length ≤ 40
 cells : m.2.2.2.1.length ≤ 40
 cell : ∀ q ∈ m.2.2.2.1, IntOk .i64 q
theorem cutM_w {m : Mg} (h1 : ∀ x ∈ m.2.1, IntOk .i64 x) (h2 : ∀ q ∈ m.2.2.2.1, IntOk .i64 q) : MW (cutM m) :=
 ⟨h1, by simp [cutM]; omega, by simp [cutM]; omega, fun q hq => h2 q (List.mem_of_mem_take hq)⟩
theorem MW.val {m : Mg} (h : MW m) (a : ByteArray) : IntOk .i64 (valB m a) := by
 unfold valB valF
 split
 ·rw [List.getD_eq_getElem?_getD]
  cases hg : m.2.1[(findF a (fieldsB m.1)).2.2.1.toNat]? with
  | none => exact ok0
  | some x => exact h.num x (List.mem_of_getElem? hg)
 ·exact ok0
theorem wrap_ok (n : Int) : IntOk .i64 (IntKind.i64.wrap n) := by
 rw [w_i64]
 exact ⟨by show (-9223372036854775808 : Int) ≤ _; omega, by show _ ≤ (9223372036854775807 : Int); omega⟩
theorem apR_ok {r : Rb} {m : Mg} (hr : RbOk r) (hm : MW m) : RbOk (apR r m) := by
 have v := fun a => hm.val a
 unfold apR
 split
 ·exact ⟨hr.a1, hr.a2, hr.a3, hr.a4, hr.a5, ok0, ok0, hm.path, hr.a9, hr.a10⟩
 split
 ·exact ⟨hr.a1, hr.a2, hr.a3, hr.a4, hr.a5, v _, v _, by show 0 ≤ 40; omega, hr.a9, hr.a10⟩
 split
 ·exact hr
 split
 ·exact ⟨v _, v _, v _, v _, v _, hr.a6, hr.a7, hr.a8, hr.a9, hr.a10⟩
 split
 ·exact ⟨hr.a1, hr.a2, hr.a3, hr.a4, hr.a5, hr.a6, hr.a7, hr.a8, wrap_ok _, v _⟩
 ·exact hr
theorem mem_mput {K V : Type} [DecidableEq K] {a : K} {q : V} {p : K × V} : ∀ {m : List (K × V)}, p ∈ mput m a q → p = (a, q) ∨ p ∈ m
 | [], h => by simp only [mput, List.mem_singleton] at h; exact .inl h
 | x :: m, h => by
  simp only [mput] at h
  split at h
  ·rcases List.mem_cons.1 h with h | h
   ·exact .inl h
   ·exact .inr (List.mem_cons_of_mem _ h)
  ·rcases List.mem_cons.1 h with h | h
   ·exact .inr (h ▸ List.mem_cons_self)
   ·exact (mem_mput h).imp id (List.mem_cons_of_mem _)
theorem mput_len {K V : Type} [DecidableEq K] {a : K} {q : V} : ∀ (m : List (K × V)), (mput m a q).length ≤ m.length + 1
 | [] => by simp [mput]
 | x :: m => by
  have := mput_len (a := a) (q := q) m
  simp only [mput]
  split <;> simp only [List.length_cons] <;> omega
theorem FlW.up {k n : Nat} {f : Fl} (h : FlW k f) (hk : k ≤ n) : FlW n f := ⟨h.k1, h.k2, Nat.le_trans h.n1 hk, Nat.le_trans h.n2 hk, h.r1, h.r2⟩
theorem FlW.zero : FlW 0 ([], []) := ⟨.nil, .nil, Nat.le_refl _, Nat.le_refl _, (fun p hp => by cases hp), (fun p hp => by cases hp)⟩
theorem FlW.ap {k : Nat} {f : Fl} (h : FlW k f) {m : Mg} (hm : MW m) : FlW (k + 1) (apB f m) := by
 have hv := hm.val
 have h1 := h.n1
 have h2 := h.n2
 refine ⟨mput_nodup _ _ h.k1, ?_, ?_, ?_, ?_, ?_⟩
 ·show ((apL f.2 m).map (·.1)).Nodup
  unfold apL; split
  ·exact mput_nodup _ _ h.k2
  ·exact h.k2
 ·show (mput f.1 _ _).length ≤ _
  have := mput_len (a := valB m nmRobot) (q := apR (robB f (valB m nmRobot)) m) f.1
  omega
 ·show (apL f.2 m).length ≤ _
  unfold apL; split
  ·have := mput_len (a := (valB m nmRobot, valB m nmZone)) (q := m.2.2.2.1) f.2
   omega
  ·omega
 ·intro p hp
  rcases mem_mput (show p ∈ mput f.1 _ _ from hp) with rfl | hp
  ·exact ⟨hv _, apR_ok (h.rob _) hm⟩
  ·exact h.r1 p hp
 ·intro p hp
  have hp : p ∈ apL f.2 m := hp
  unfold apL at hp
  split at hp
  ·rcases mem_mput hp with rfl | hp
   ·exact ⟨hv _, hv _, hm.cells, hm.cell⟩
   ·exact h.r2 p hp
  ·exact h.r2 p hp
def stF (f : Fl) (m : Mg) : Fl := if checkB m = 0 then apB f m else f
theorem FlW.st {k : Nat} {f : Fl} (h : FlW k f) {m : Mg} (hm : MW m) : FlW (k + 1) (stF f m) := by
 unfold stF; split
 ·exact h.ap hm
 ·exact h.up (by omega)
/-! ### One robot's part -/
def SameAt (n : Int) (a b : Fl) : Prop := mget a.1 n = mget b.1 n ∧ ∀ z, mget a.2 (n, z) = mget b.2 (n, z)
theorem SameAt.symm {n : Int} {a b : Fl} (h : SameAt n a b) : SameAt n b a := ⟨h.1.symm, fun z => (h.2 z).symm⟩
theorem SameAt.trans {n : Int} {a b c : Fl} (h : SameAt n a b) (h' : SameAt n b c) : SameAt n a c := ⟨h.1.trans h'.1, fun z => (h.2 z).trans (h'.2 z)⟩
theorem FlEq.refl (a : Fl) : FlEq a a := ⟨.refl _, .refl _, fun _ => rfl, fun _ => rfl⟩
/-! ### fleet.Same -/
theorem fsame_ok {r : Rb} (hr : RbOk r) : fleet_same r r true := by
 have h8 := hr.a8
 refine ⟨_, equalP_ok (a := r.2.2.2.2.2.2.2.2.2.1) (b := r.2.2.2.2.2.2.2.2.2.1) (by omega), ?_⟩
 rw [if_neg (by simp)]
 simp [fleet_same_j1]
theorem Same_ok {k n : Nat} {a b : Fl} (ha : FlW k a) (_hb : FlW n b) (h : FlEq a b) : fleet_Same a b true := by
 refine ⟨true, ?_, true, fun _ => ?_, rfl⟩
 ·unfold maps_EqualFunc_map_int_fleet_Robot_map_int_fleet_Robot_int_fleet_Robot_fleet_Robot__fleet_same
  rw [if_neg (by simp [h.p1.length_eq])]
  refine loopsD_map (left := fun s : List (Int × Rb) => s) (Inv := fun s => ∀ p ∈ s, p ∈ a.1) ?_ ?_ _ (fun p hp => hp)
  ·rintro s _ rfl
   exact ⟨.inl (), ⟨fun _ => rfl, (fun p h => by cases h)⟩, rfl⟩
  ·intro s p hi hp
   have hm : mget b.1 p.1 = some p.2 := (h.g1 p.1).symm.trans (mget_of_mem ha.k1 (hi p hp))
   refine ⟨mdel s p.1, ⟨(fun h => by cases h), fun p' hp' => ?_⟩, fun q hq => hi q (List.mem_filter.1 hq).1, rfl⟩
   cases hp'
   rw [if_neg (by simp [hm]), hm]
   refine ⟨true, fsame_ok (ha.r1 p (hi p hp)).2, ?_⟩
   unfold maps_EqualFunc_map_int_fleet_Robot_map_int_fleet_Robot_int_fleet_Robot_fleet_Robot__fleet_same_j3
   rw [if_neg (by decide)]
 ·unfold maps_EqualFunc_map_fleet_lot_int_map_fleet_lot_int_fleet_lot_int_int__slices_Equal_int_int
  rw [if_neg (by simp [h.p2.length_eq])]
  refine loopsD_map (left := fun s : List ((Int × Int) × List Int) => s) (Inv := fun s => ∀ p ∈ s, p ∈ a.2) ?_ ?_ _ (fun p hp => hp)
  ·rintro s _ rfl
   exact ⟨.inl (), ⟨fun _ => rfl, (fun p h => by cases h)⟩, rfl⟩
  ·intro s p hi hp
   have hm : mget b.2 p.1 = some p.2 := (h.g2 p.1).symm.trans (mget_of_mem ha.k2 (hi p hp))
   have h40 := (ha.r2 p (hi p hp)).2.2.1
   refine ⟨mdel s p.1, ⟨(fun h => by cases h), fun p' hp' => ?_⟩, fun q hq => hi q (List.mem_filter.1 hq).1, rfl⟩
   cases hp'
   rw [if_neg (by simp [hm]), hm]
   refine ⟨_, equalI_ok (a := p.2) (b := p.2) (by omega), ?_⟩
   unfold maps_EqualFunc_map_fleet_lot_int_map_fleet_lot_int_fleet_lot_int_int__slices_Equal_int_int_j3
   rw [if_neg (by simp)]
end Go.Rel
/-! Plain laws: fleets: the document's answer, piece by piece. -/
namespace Go.Rel
open Go Go.Eng Go.Pl

/-! ### Putting in, in order -/
section ins
variable {α : Type} (lt : α → α → Bool)
def posL (o : List α) (n : α) : Nat := (o.takeWhile fun x => lt x n).length
def insA (o : List α) (n : α) : List α := o.take (posL lt o n) ++ n :: o.drop (posL lt o n)
theorem posL_cons (x : α) (o : List α) (n : α) : posL lt (x :: o) n = if lt x n = true then posL lt o n + 1 else 0 := by
 unfold posL
 rw [List.takeWhile_cons]
 split <;> rfl
theorem pos_le (n : α) : ∀ o : List α, posL lt o n ≤ o.length
 | [] => by simp [posL]
 | x :: o => by
  have := pos_le n o
  rw [posL_cons]; split <;> simp only [List.length_cons] <;> omega
theorem pos_lt (n : α) : ∀ (o : List α) (k : Nat), k < posL lt o n → ∃ x, o[k]? = some x ∧ lt x n = true
 | [], k, h => by simp [posL] at h
 | x :: o, k, h => by
  rw [posL_cons] at h
  by_cases hx : lt x n = true
  ·rw [if_pos hx] at h
   cases k with
   | zero => exact ⟨x, rfl, hx⟩
   | succ k => obtain ⟨y, h1, h2⟩ := pos_lt n o k (by omega); exact ⟨y, by simpa using h1, h2⟩
  ·rw [if_neg hx] at h; omega
theorem pos_at (n : α) : ∀ (o : List α), posL lt o n < o.length → ∃ x, o[posL lt o n]? = some x ∧ lt x n = false
 | [], h => by simp at h
 | x :: o, h => by
  rw [posL_cons] at h ⊢
  by_cases hx : lt x n = true
  ·rw [if_pos hx] at h ⊢
   obtain ⟨y, h1, h2⟩ := pos_at n o (by simp at h; omega)
   exact ⟨y, by simpa using h1, h2⟩
  ·rw [if_neg hx]; exact ⟨x, rfl, by simpa using hx⟩
theorem ins_perm (o : List α) (n : α) : (insA lt o n).Perm (n :: o) := by
 unfold insA
 refine List.perm_middle.trans ?_
 rw [List.take_append_drop]
theorem ins_cons (x : α) (o : List α) (n : α) : insA lt (x :: o) n = if lt x n = true then x :: insA lt o n else n :: x :: o := by
 unfold insA
 rw [posL_cons]
 split <;> simp
variable {lt}
theorem ins_sorted (tr : ∀ a b c, lt a b = true → lt b c = true → lt a c = true) (to : ∀ a b, lt a b = true ∨ a = b ∨ lt b a = true) (n : α) : ∀ o : List α, o.Pairwise (fun a b => lt a b = true) → n ∉ o → (insA lt o n).Pairwise (fun a b => lt a b = true)
 | [], _, _ => by simp [insA, posL]
 | x :: o, h, hn => by
  rw [ins_cons]
  obtain ⟨h1, h2⟩ := List.pairwise_cons.1 h
  split
  ·rename_i hx
   refine List.pairwise_cons.2 ⟨fun y hy => ?_, ins_sorted tr to n o h2 (fun e => hn (List.mem_cons_of_mem _ e))⟩
   rcases List.mem_cons.1 ((ins_perm lt o n).mem_iff.1 hy) with rfl | hy
   ·exact hx
   ·exact h1 y hy
  ·rename_i hx
   have hnx : lt n x = true := by
    rcases to x n with e | e | e
    ·exact absurd e hx
    ·exact absurd (e ▸ List.mem_cons_self) hn
    ·exact e
   refine List.pairwise_cons.2 ⟨fun y hy => ?_, h⟩
   rcases List.mem_cons.1 hy with rfl | hy
   ·exact hnx
   ·exact tr _ _ _ hnx (h1 y hy)
theorem pos_mem (ir : ∀ a, lt a a = false) (n : α) : ∀ o : List α, o.Pairwise (fun a b => lt a b = true) → n ∈ o → o[posL lt o n]? = some n
 | [], _, h => nomatch h
 | x :: o, h, hn => by
  obtain ⟨h1, h2⟩ := List.pairwise_cons.1 h
  rw [posL_cons]
  by_cases hx : lt x n = true
  ·rw [if_pos hx]
   rcases List.mem_cons.1 hn with rfl | hn
   ·rw [ir] at hx; cases hx
   ·simpa using pos_mem ir n o h2 hn
  ·rw [if_neg hx]
   rcases List.mem_cons.1 hn with rfl | hn
   ·rfl
   ·exact absurd (h1 n hn) hx
def insU [DecidableEq α] (lt : α → α → Bool) (o : List α) (n : α) : List α := if o[posL lt o n]? = some n then o else insA lt o n
theorem insU_ok [DecidableEq α] (tr : ∀ a b c, lt a b = true → lt b c = true → lt a c = true) (to : ∀ a b, lt a b = true ∨ a = b ∨ lt b a = true) (ir : ∀ a, lt a a = false) {o : List α} (h : o.Pairwise (fun a b => lt a b = true)) (n : α) :
    (insU lt o n).Pairwise (fun a b => lt a b = true) ∧ ∀ x, x ∈ insU lt o n ↔ x = n ∨ x ∈ o := by
  unfold insU
  split
  · rename_i he
    have hm := List.mem_of_getElem? he
    exact ⟨h, fun x => ⟨.inr, fun e => e.elim (fun e => e ▸ hm) id⟩⟩
  · rename_i he
    have hn : n ∉ o := fun e => he (pos_mem ir n o h e)
    exact ⟨ins_sorted tr to n o h hn, fun x => by rw [(ins_perm lt o n).mem_iff, List.mem_cons]⟩
end ins
theorem cut_ins {α : Type} (o : List α) (n : α) {p : Nat} (hp : p ≤ o.length) :
    ((([] : List α) ++ ((o.drop (0 : Int).toNat).take (((p : Nat) : Int) - 0).toNat)) ++ [n]) ++ ((o.drop ((p : Nat) : Int).toNat).take (((o.length : Int) : Int) - ((p : Nat) : Int)).toNat) = o.take p ++ n :: o.drop p := by
  have h1 : (((p : Nat) : Int) - 0).toNat = p := by omega
  have h2 : ((p : Nat) : Int).toNat = p := by omega
  have h3 : (((o.length : Int) : Int) - ((p : Nat) : Int)).toNat = o.length - p := by omega
  have h4 : (0 : Int).toNat = 0 := rfl
  rw [h1, h2, h3, h4, List.drop_zero, List.nil_append, List.append_assoc]
  rw [List.take_of_length_le (l := o.drop p) (by simp)]
  rfl
def ltI (a b : Int) : Bool := decide (a < b)
theorem ltI_tr (a b c : Int) (h1 : ltI a b = true) (h2 : ltI b c = true) : ltI a c = true := by simp only [ltI, decide_eq_true_eq] at *; omega
theorem ltI_to (a b : Int) : ltI a b = true ∨ a = b ∨ ltI b a = true := by simp only [ltI, decide_eq_true_eq]; omega
theorem ltI_ir (a : Int) : ltI a a = false := by simp [ltI]
theorem sortedI_eq {a b : List Int} (ha : a.Pairwise (fun x y => ltI x y = true)) (h : a.Perm b) : a = b.mergeSort fun x y => decide (x ≤ y) := by
 refine List.Perm.eq_of_pairwise (le := fun x y : Int => decide (x ≤ y) = true) ?_ (ha.imp (fun h => by simp only [ltI, decide_eq_true_eq] at *; omega)) (List.pairwise_mergeSort (fun x y z h1 h2 => ?_) (fun x y => ?_) b) (h.trans (List.mergeSort_perm b _).symm)
 ·intro x y _ _ h1 h2; simp only [decide_eq_true_eq] at h1 h2; omega
 all_goals simp only [Bool.or_eq_true, decide_eq_true_eq] at *; omega
theorem nodup_ltI {a : List Int} (ha : a.Pairwise (fun x y => ltI x y = true)) : a.Nodup := ha.imp (fun h e => by subst e; rw [ltI_ir] at h; cases h)

/-! ### The document's fleet -/
abbrev Gr := Int × Int × List Int
def nM (m : Mg) : Int := m.2.1.getD 0 0
def gm (g : List Gr) : List ((Int × Int) × List Int) := g.map fun x => ((x.1, x.2.1), x.2.2)
def rbF (L : List Mg) (n : Int) : Rb := (L.filter fun m => decide (nM m = n)).foldl apR zRb
structure RepF (k : Nat) (L : List Mg) (g : List Gr) (f : Fl) : Prop where
 w : FlW k f
 ck : ∀ m ∈ L, checkB m = 0 ∧ MW m
 lk : L.length ≤ k
 rob : ∀ n, mget f.1 n = if n ∈ L.map nM then some (rbF L n) else none
 gp : f.2.Perm (gm g)
 gc : ∀ x ∈ g, x.2.2 ≠ [] ∧ x.2.2.Nodup ∧ x.1 ∈ L.map nM
theorem mget_perm {K V : Type} [DecidableEq K] {a b : List (K × V)} (ha : (a.map (·.1)).Nodup) (h : a.Perm b) (k : K) : mget a k = mget b k := by
 have hb : (b.map (·.1)).Nodup := (h.map _).nodup_iff.1 ha
 cases hg : mget a k with
 | some x => exact (mget_of_mem hb (h.mem_iff.1 (mem_of_mget hg))).symm
 | none =>
  cases hg2 : mget b k with
  | none => rfl
  | some x => rw [mget_of_mem ha (h.mem_iff.2 (mem_of_mget hg2))] at hg; cases hg
section rep
variable {k : Nat} {L : List Mg} {g : List Gr} {f : Fl}
theorem RepF.gl (h : RepF k L g f) : g.length ≤ k := by
 have h1 := h.gp.length_eq
 have h2 := h.w.n2
 unfold gm at h1
 rw [List.length_map] at h1; omega
theorem RepF.gk (h : RepF k L g f) : ((gm g).map (·.1)).Nodup := (h.gp.map _).nodup_iff.1 h.w.k2
theorem RepF.cel (h : RepF k L g f) (a : Int × Int) : mget f.2 a = mget (gm g) a := mget_perm h.w.k2 h.gp a
theorem RepF.robB (h : RepF k L g f) (n : Int) : Rel.robB f n = rbF L n := by
 unfold Rel.robB
 rw [h.rob]
 split
 ·rfl
 ·rename_i hn
  have : L.filter (fun m => decide (nM m = n)) = [] := by
   refine List.filter_eq_nil_iff.2 (fun m hm e => hn (List.mem_map.2 ⟨m, hm, by simpa using e⟩))
  unfold rbF; rw [this]; rfl
theorem RepF.keys (h : RepF k L g f) (n : Int) : n ∈ skeys f.1 ↔ n ∈ L.map nM := by
 rw [(fskeys_perm _).mem_iff]
 constructor
 ·intro hn
  obtain ⟨p, hp, rfl⟩ := List.mem_map.1 hn
  have := mget_of_mem h.w.k1 hp
  rw [h.rob] at this
  by_cases e : p.1 ∈ L.map nM
  ·exact e
  ·rw [if_neg e] at this; cases this
 ·intro hn
  have := h.rob n
  rw [if_pos hn] at this
  exact List.mem_map.2 ⟨_, mem_of_mget this, rfl⟩
theorem rpos_ok (o : List Int) (i : Int) (q : Mr) (ho : o.length < 1000000) : Loops (ref30_Robots_l6 (o, i) q) 0 ((posL ltI o (q.2.1.getD 0 0) : Nat) : Int) := by
 have hle := pos_le ltI (q.2.1.getD 0 0) o
 refine loops_count (step := ref30_Robots_l6 (o, i) q) (fun k => (k : Int)) (posL ltI o (q.2.1.getD 0 0)) (fun k hk => ?_) ?_
 ·obtain ⟨x, h1, h2⟩ := pos_lt ltI _ o k hk
  have hlt := (List.getElem?_eq_some_iff.1 h1).1
  unfold ref30_Robots_l6
  rw [if_pos (by simpa using hlt)]
  refine ⟨x, ⟨by omega, by simpa using h1⟩, ?_⟩
  unfold ref30_Robots_j7
  rw [if_pos (by simpa [ltI] using h2), w_small (by omega) (by omega)]; rfl
 ·unfold ref30_Robots_l6
  by_cases hk : posL ltI o (q.2.1.getD 0 0) < o.length
  ·obtain ⟨x, h1, h2⟩ := pos_at ltI _ o hk
   rw [if_pos (by simpa using hk)]
   refine ⟨x, ⟨by omega, by simpa using h1⟩, ?_⟩
   unfold ref30_Robots_j7
   rw [if_neg (by simpa [ltI] using h2)]
  ·rw [if_neg (by simpa using hk)]
   unfold ref30_Robots_j7
   rw [if_neg (by decide)]
theorem rrob_step {o : List Int} {i : Nat} {q : Mr} (ho : o.length < 1000000) (hi : i < 1000000) : ref30_Robots_j4 (o, (i : Int)) q ((posL ltI o (q.2.1.getD 0 0) : Nat) : Int) (.inl (insU ltI o (q.2.1.getD 0 0), ((i + 1 : Nat) : Int))) := by
 have hle := pos_le ltI (q.2.1.getD 0 0) o
 have hw : IntKind.i64.wrap ((i : Int) + 1) = ((i + 1 : Nat) : Int) := by rw [w_small (by omega) (by omega)]; omega
 have put : insU ltI o (q.2.1.getD 0 0) = insA ltI o (q.2.1.getD 0 0) → ref30_Robots_j5 (o, (i : Int)) q ((posL ltI o (q.2.1.getD 0 0) : Nat) : Int) true (.inl (insU ltI o (q.2.1.getD 0 0), ((i + 1 : Nat) : Int))) := by
  intro e
  unfold ref30_Robots_j5
  rw [if_pos rfl]
  have hx : (((o.drop (0 : Int).toNat).take (((posL ltI o (q.2.1.getD 0 0) : Nat) : Int) - 0).toNat).length) ≤ o.length := by rw [List.length_take, List.length_drop]; omega
  have hy : ((o.drop ((posL ltI o (q.2.1.getD 0 0) : Nat) : Int).toNat).take (((o.length : Int) : Int) - ((posL ltI o (q.2.1.getD 0 0) : Nat) : Int)).toNat).length ≤ o.length := by rw [List.length_take, List.length_drop]; omega
  refine ⟨by omega, by simpa using hle, ?_, ?_, ?_, ?_, by omega, by simpa using hle, Int.le_refl _, ?_, ?_, ?_⟩
  ·simp only [List.length_nil]; omega
  ·simp only [List.length_nil]; omega
  ·simp only [List.length_append, List.length_nil, List.length_cons]; omega
  ·simp only [List.length_append, List.length_nil, List.length_cons]; omega
  ·simp only [List.length_append, List.length_nil, List.length_cons]; omega
  ·simp only [List.length_append, List.length_nil, List.length_cons]; omega
  ·unfold ref30_Robots_j3
   rw [e]
   show Sum.inl _ = Sum.inl _
   simp only [hw]
   rw [cut_ins o _ hle]; rfl
 unfold ref30_Robots_j4
 by_cases h1 : posL ltI o (q.2.1.getD 0 0) = o.length
 ·rw [if_pos (by simp only [decide_eq_true_eq]; omega)]
  refine put ?_
  unfold insU
  rw [if_neg (by rw [h1]; simp)]
 ·rw [if_neg (by simp only [decide_eq_true_eq]; omega)]
  obtain ⟨x, h2, h3⟩ := pos_at ltI (q.2.1.getD 0 0) o (by omega)
  refine ⟨x, ⟨by omega, by simpa using h2⟩, ?_⟩
  by_cases h4 : x = q.2.1.getD 0 0
  ·rw [show (!decide (x = q.2.1.getD 0 0)) = false by simp [h4]]
   unfold ref30_Robots_j5
   rw [if_neg (by decide)]
   unfold ref30_Robots_j3 insU
   rw [if_pos (by rw [h2, h4])]
   simp only [hw]
  ·rw [show (!decide (x = q.2.1.getD 0 0)) = true by rw [decide_eq_false h4]; rfl]
   refine put ?_
   unfold insU
   rw [if_neg (by rw [h2]; exact fun e => h4 (Option.some.inj e))]
theorem insU_all : ∀ (l : List Int) (o : List Int), o.Pairwise (fun a b => ltI a b = true) → (l.foldl (insU ltI) o).Pairwise (fun a b => ltI a b = true) ∧ ∀ x, x ∈ l.foldl (insU ltI) o ↔ x ∈ l ∨ x ∈ o
 | [], o, h => ⟨h, fun x => by simp⟩
 | n :: l, o, h => by
  obtain ⟨h1, h2⟩ := insU_ok ltI_tr ltI_to ltI_ir h n
  obtain ⟨h3, h4⟩ := insU_all l _ h1
  refine ⟨h3, fun x => ?_⟩
  rw [List.foldl_cons, h4, h2, List.mem_cons]
  constructor
  ·rintro (h | h | h)
   ·exact .inl (.inr h)
   ·exact .inl (.inl h)
   ·exact .inr h
  ·rintro ((h | h) | h)
   ·exact .inr (.inl h)
   ·exact .inl h
   ·exact .inr (.inr h)
theorem insU_len : ∀ (l : List Int) (o : List Int), (l.foldl (insU ltI) o).length ≤ o.length + l.length
 | [], o => by simp
 | n :: l, o => by
  have h1 := insU_len l (insU ltI o n)
  have h2 : (insU ltI o n).length ≤ o.length + 1 := by
   unfold insU; split
   ·omega
   ·rw [(ins_perm ltI o n).length_eq]; simp
  rw [List.foldl_cons, List.length_cons]; omega
theorem rrobots_ok (h : RepF k L g f) (hk : k ≤ 1000) : ref30_Robots (L.map ofM, g) (skeys f.1) := by
 have hlk := h.lk
 have hres : (L.map nM).foldl (insU ltI) [] = skeys f.1 := by
  obtain ⟨h1, h2⟩ := insU_all (L.map nM) [] .nil
  have hkn : (f.1.map (·.1)).Nodup := h.w.k1
  refine sortedI_eq h1 ((List.perm_ext_iff_of_nodup (nodup_ltI h1) hkn).2 (fun x => ?_))
  rw [h2, ← h.keys, (fskeys_perm _).mem_iff]; simp
 have key : ∀ (r pre : List Mg), L = pre ++ r → Loops (ref30_Robots_l2 (L.map ofM, g)) ((pre.map nM).foldl (insU ltI) [], (pre.length : Int)) ((L.map nM).foldl (insU ltI) []) := by
  intro r
  induction r with
  | nil =>
   intro pre e
   refine .done ?_
   unfold ref30_Robots_l2
   rw [if_neg (by rw [e]; simp)]
   rw [e]; simp
  | cons m r ih =>
   intro pre e
   have hpl : pre.length < L.length := by rw [e]; simp
   have hlen := insU_len (pre.map nM) []
   rw [List.length_map, List.length_nil] at hlen
   have hx : idx (L.map ofM) (pre.length : Int) (ofM m) := ⟨by omega, by rw [e]; simp⟩
   have := ih (pre ++ [m]) (by rw [e]; simp)
   rw [List.map_append, List.foldl_append] at this
   refine .next ?_ this
   unfold ref30_Robots_l2
   rw [if_pos (by simpa using hpl)]
   refine ⟨_, hx, _, rpos_ok _ _ _ (by omega), ?_⟩
   have hs := rrob_step (o := (pre.map nM).foldl (insU ltI) []) (i := pre.length) (q := ofM m) (by omega) (by omega)
   rw [show (pre ++ [m]).length = pre.length + 1 by simp]
   exact hs
 rw [← hres]
 exact ⟨_, key L [] rfl, rfl⟩
theorem frcells_ok (g : List Gr) (ml : List Mr) (a z : Int) (hg : g.length < 1000000) : ref30_Cells (ml, g) a z ((mget (gm g) (a, z)).getD []) := by
 have key : ∀ (r pre : List Gr), g = pre ++ r → ∃ e : Sum Unit (List Int), Loops (ref30_Cells_l2 (ml, g) a z) (pre.length : Int) e ∧ Aft (fun p30 => ref30_Cells_j1 p30 ((mget (gm r) (a, z)).getD [])) (fun p31 => ((mget (gm r) (a, z)).getD []) = p31) e := by
  intro r
  induction r with
  | nil =>
   intro pre e
   refine ⟨.inl (), .done ?_, rfl⟩
   unfold ref30_Cells_l2
   rw [if_neg (by rw [e]; simp)]
  | cons x r ih =>
   intro pre e
   have hpl : pre.length < g.length := by rw [e]; simp
   have hx : idx g (pre.length : Int) x := ⟨by omega, by rw [e]; simp⟩
   have hg1 : gm (x :: r) = ((x.1, x.2.1), x.2.2) :: gm r := rfl
   rw [hg1]
   simp only [mget]
   by_cases h : (a, z) = (x.1, x.2.1)
   ·rw [if_pos h]
    obtain ⟨h1, h2⟩ := Prod.mk.inj h
    refine ⟨.inr x.2.2, .done ?_, rfl⟩
    unfold ref30_Cells_l2
    rw [if_pos (by simpa using hpl)]
    refine ⟨x, hx, ?_⟩
    rw [if_pos (by simp [h1])]
    refine ⟨x, hx, ?_⟩
    unfold ref30_Cells_j3
    rw [if_pos (by simp [h2])]
    exact ⟨x, hx, rfl⟩
   ·rw [if_neg h]
    obtain ⟨e', h1, h2⟩ := ih (pre ++ [x]) (by rw [e]; simp)
    refine ⟨e', .next ?_ h1, h2⟩
    have hw : IntKind.i64.wrap ((pre.length : Int) + 1) = ((pre ++ [x]).length : Int) := by rw [w_small (by omega) (by omega)]; simp
    unfold ref30_Cells_l2
    rw [if_pos (by simpa using hpl)]
    refine ⟨x, hx, ?_⟩
    by_cases hr : x.1 = a
    ·rw [if_pos (by simpa using hr)]
     refine ⟨x, hx, ?_⟩
     unfold ref30_Cells_j3
     rw [if_neg (by simp only [decide_eq_true_eq]; exact fun e => h (by rw [hr, e])), hw]
    ·rw [if_neg (by simpa using hr)]
     unfold ref30_Cells_j3
     rw [if_neg (by decide), hw]
 obtain ⟨e, h1, h2⟩ := key g [] rfl
 exact ⟨e, h1, h2⟩
theorem rhas_ok (l : List Int) (n : Int) (hl : l.length < 1000000) : ref30_has l n (decide (n ∈ l)) := by
 have key : ∀ (r pre : List Int), l = pre ++ r → ∃ e : Sum Unit Bool, Loops (ref30_has_l2 l n) (pre.length : Int) e ∧ Aft (fun p10 => ref30_has_j1 p10 (decide (n ∈ r))) (fun p11 => decide (n ∈ r) = p11) e := by
  intro r
  induction r with
  | nil =>
   intro pre e
   refine ⟨.inl (), .done ?_, by show decide (n ∈ []) = false; simp⟩
   unfold ref30_has_l2
   rw [if_neg (by rw [e]; simp)]
  | cons x r ih =>
   intro pre e
   have hpl : pre.length < l.length := by rw [e]; simp
   have hx : idx l (pre.length : Int) x := ⟨by omega, by rw [e]; simp⟩
   by_cases h : x = n
   ·refine ⟨.inr true, .done ?_, by show decide (n ∈ x :: r) = true; simp [h]⟩
    unfold ref30_has_l2
    rw [if_pos (by simpa using hpl)]
    refine ⟨x, hx, ?_⟩
    rw [if_pos (by simpa using h)]
   ·obtain ⟨e', h1, h2⟩ := ih (pre ++ [x]) (by rw [e]; simp)
    have hd : decide (n ∈ x :: r) = decide (n ∈ r) := by simp [Ne.symm h]
    rw [hd]
    refine ⟨e', .next ?_ h1, h2⟩
    unfold ref30_has_l2
    rw [if_pos (by simpa using hpl)]
    refine ⟨x, hx, ?_⟩
    rw [if_neg (by simpa using h), w_small (by omega) (by omega)]; simp
 exact key l [] rfl
theorem contains_ok (l : List Int) (n : Int) (hl : l.length < 1000000) : slices_Contains_int_int l n (decide (n ∈ l)) := by
 have key : ∀ (r pre : List Int), l = pre ++ r → ∃ (v : Int) (e : Sum Unit Int), Loops (slices_Index_int_int_l2 l n) (pre.length : Int) e ∧ Aft (fun p10 => slices_Index_int_int_j1 p10 v) (fun p11 => v = p11) e ∧ decide (0 ≤ v) = decide (n ∈ r) := by
  intro r
  induction r with
  | nil =>
   intro pre e
   refine ⟨-1, .inl (), .done ?_, rfl, by simp⟩
   unfold slices_Index_int_int_l2
   rw [if_neg (by rw [e]; simp)]
  | cons x r ih =>
   intro pre e
   have hpl : pre.length < l.length := by rw [e]; simp
   have hx : idx l (pre.length : Int) x := ⟨by omega, by rw [e]; simp⟩
   by_cases h : n = x
   ·refine ⟨(pre.length : Int), .inr (pre.length : Int), .done ?_, rfl, by simp [h]⟩
    unfold slices_Index_int_int_l2
    rw [if_pos (by simpa using hpl)]
    refine ⟨x, hx, ?_⟩
    rw [if_pos (by simpa using h)]
   ·obtain ⟨v, e', h1, h2, h3⟩ := ih (pre ++ [x]) (by rw [e]; simp)
    refine ⟨v, e', .next ?_ h1, h2, by rw [h3]; simp [h]⟩
    unfold slices_Index_int_int_l2
    rw [if_pos (by simpa using hpl)]
    refine ⟨x, hx, ?_⟩
    rw [if_neg (by simpa using h), w_small (by omega) (by omega)]; simp
 obtain ⟨v, e, h1, h2, h3⟩ := key l [] rfl
 exact ⟨v, ⟨e, h1, h2⟩, h3.symm⟩
/-! ### Owners -/
def ownB (f : Fl) (c : Int × Int) : List Int := (skeys f.1).filter fun n => decide (c.2 ∈ (mget f.2 (n, c.1)).getD [])
theorem owners_ok (h : FlW k f) (hk : k ≤ 1000) (c : Int × Int) : fleet_Fleet_Owners f c (ownB f c) := by
 have hn1 := h.n1
 have hsl : (skeys f.1).length = f.1.length := by rw [(fskeys_perm _).length_eq, List.length_map]
 have hff : ∀ (l o : List Int), l.foldl (fun s n => if decide (c.2 ∈ (mget f.2 (n, c.1)).getD []) = true then s ++ [n] else s) o = o ++ l.filter fun n => decide (c.2 ∈ (mget f.2 (n, c.1)).getD []) := by
  intro l; induction l with
  | nil => simp
  | cons n l ih =>
   intro o
   rw [List.foldl_cons, ih]
   by_cases e : decide (c.2 ∈ (mget f.2 (n, c.1)).getD []) = true
   ·rw [if_pos e, List.filter_cons_of_pos (p := fun n => decide (c.2 ∈ (mget f.2 (n, c.1)).getD [])) e]; simp
   ·rw [if_neg e, List.filter_cons_of_neg (p := fun n => decide (c.2 ∈ (mget f.2 (n, c.1)).getD [])) e]
 have hrun := runB_fold (E := Unit) (B := fleet_Fleet_Owners_l1 f c) (fun s n => if decide (c.2 ∈ (mget f.2 (n, c.1)).getD []) = true then s ++ [n] else s) (skeys f.1) [] (fun p x q e => by
  have hc := (h.cells (x, c.1)).1
  have hlen : (p.foldl (fun s n => if decide (c.2 ∈ (mget f.2 (n, c.1)).getD []) = true then s ++ [n] else s) []).length ≤ 1000 := by
   rw [hff, List.nil_append]
   have h1 := List.length_filter_le (fun n => decide (c.2 ∈ (mget f.2 (n, c.1)).getD [])) p
   have := congrArg List.length e
   rw [List.length_append] at this; omega
  refine ⟨_, contains_ok _ _ (by omega), ?_⟩
  generalize p.foldl (fun s n => if decide (c.2 ∈ (mget f.2 (n, c.1)).getD []) = true then s ++ [n] else s) [] = o at *
  by_cases e : decide (c.2 ∈ (mget f.2 (x, c.1)).getD []) = true
  ·rw [if_pos e, if_pos e]
   exact ⟨by simp only [List.length_cons, List.length_nil]; omega, by simp only [List.length_cons, List.length_nil]; omega, rfl⟩
  ·rw [if_neg e, if_neg e])
 rw [hff, List.nil_append] at hrun
 exact ⟨_, rfl, .inl (ownB f c), (), robots_itr (fun p hp => (h.r1 p hp).1) (by omega) _ _ _ _ (run_yof hrun), rfl⟩
theorem rowners_ok (h : RepF k L g f) (hk : k ≤ 1000) (z n : Int) : ref30_Owners (L.map ofM, g) z n (ownB f (z, n)) := by
 have hn1 := h.w.n1
 have hsl : (skeys f.1).length = f.1.length := by rw [(fskeys_perm _).length_eq, List.length_map]
 have hgl := h.gl
 refine ⟨skeys f.1, rrobots_ok h hk, _, ?_, rfl⟩
 have hcel := fun a => (h.w.cells a).1
 have hce := fun a => h.cel a
 unfold ownB
 generalize skeys f.1 = R at *
 have key : ∀ (r pre : List Int), R = pre ++ r → Loops (ref30_Owners_l2 (L.map ofM, g) z n R) (pre.filter (fun x => decide (n ∈ (mget f.2 (x, z)).getD [])), (pre.length : Int)) (R.filter (fun x => decide (n ∈ (mget f.2 (x, z)).getD []))) := by
  intro r
  induction r with
  | nil =>
   intro pre e
   refine .done ?_
   unfold ref30_Owners_l2
   rw [if_neg (by rw [e]; simp)]
   rw [e]; simp
  | cons x r ih =>
   intro pre e
   have hpl : pre.length < R.length := by rw [e]; simp
   have hx : idx R (pre.length : Int) x := ⟨by omega, by rw [e]; simp⟩
   have hfl := List.length_filter_le (fun x => decide (n ∈ (mget f.2 (x, z)).getD [])) pre
   have hw : IntKind.i64.wrap ((pre.length : Int) + 1) = ((pre ++ [x]).length : Int) := by rw [w_small (by omega) (by omega)]; simp
   refine .next ?_ (ih (pre ++ [x]) (by rw [e]; simp))
   unfold ref30_Owners_l2
   rw [if_pos (by simpa using hpl)]
   have h1 := hcel (x, z)
   refine ⟨x, hx, _, frcells_ok g _ x z (by omega), _, rhas_ok _ _ (by rw [← hce]; omega), ?_⟩
   rw [← hce]
   unfold ref30_Owners_j3
   by_cases hd : decide (n ∈ (mget f.2 (x, z)).getD []) = true
   ·rw [if_pos hd, List.filter_append, List.filter_cons_of_pos (p := fun x => decide (n ∈ (mget f.2 (x, z)).getD [])) hd]
    refine ⟨x, hx, by simp only [List.length_cons, List.length_nil]; omega, by simp only [List.length_cons, List.length_nil]; omega, ?_⟩
    simp only [hw, List.filter_nil]
   ·rw [if_neg hd, List.filter_append, List.filter_cons_of_neg (p := fun x => decide (n ∈ (mget f.2 (x, z)).getD [])) hd]
    simp only [hw, List.filter_nil, List.append_nil]
 have := key R [] rfl
 simpa using this
end rep
end Go.Rel
/-! Plain laws: fleets: the document's grants, zones, contested cells, robots. -/
namespace Go.Rel
open Go Go.Eng Go.Pl

theorem app40 {n : Nat} (h : n ≤ 1000000) : (n + 1) * 40 ≤ 140737488355328 ∧ n + 1 ≤ 4611686018427387904 := by omega
theorem nodup_of_map {α β : Type} (f : α → β) : ∀ {l : List α}, (l.map f).Nodup → l.Nodup
 | [], _ => .nil
 | x :: l, h => by
  rw [List.map_cons, List.nodup_cons] at h
  exact List.nodup_cons.2 ⟨fun e => h.1 (List.mem_map_of_mem e), nodup_of_map f h.2⟩
def setG (g : List Gr) (x : Gr) : List Gr := g.filter (fun y => decide ((y.1, y.2.1) ≠ (x.1, x.2.1))) ++ (if 0 < x.2.2.length then [x] else [])
theorem rset_ok (ml : List Mr) (g : List Gr) (x : Gr) (hg : g.length < 1000000) : ref30_set (ml, g) x (ml, setG g x) := by
 have key : ∀ (r pre : List Gr), g = pre ++ r → Loops (ref30_set_l3 (ml, g) x) (pre.filter (fun y => decide ((y.1, y.2.1) ≠ (x.1, x.2.1))), (pre.length : Int)) (g.filter (fun y => decide ((y.1, y.2.1) ≠ (x.1, x.2.1)))) := by
  intro r
  induction r with
  | nil =>
   intro pre e
   refine .done ?_
   unfold ref30_set_l3
   rw [if_neg (by rw [e]; simp)]
   rw [e]; simp
  | cons y r ih =>
   intro pre e
   have hpl : pre.length < g.length := by rw [e]; simp
   have hx : idx g (pre.length : Int) y := ⟨by omega, by rw [e]; simp⟩
   have hfl := List.length_filter_le (fun y : Gr => decide ((y.1, y.2.1) ≠ (x.1, x.2.1))) pre
   have hw : IntKind.i64.wrap ((pre.length : Int) + 1) = ((pre ++ [y]).length : Int) := by rw [w_small (by omega) (by omega)]; simp
   refine .next ?_ (ih (pre ++ [y]) (by rw [e]; simp))
   unfold ref30_set_l3
   rw [if_pos (by simpa using hpl)]
   refine ⟨y, hx, y, fun _ => hx, ?_⟩
   unfold ref30_set_j4
   by_cases h : (y.1, y.2.1) = (x.1, x.2.1)
   ·obtain ⟨h1, h2⟩ := Prod.mk.inj h
    rw [if_neg (by simp [h1, h2]), List.filter_append, List.filter_cons_of_neg (by simp [h1, h2])]
    simp only [hw, List.filter_nil, List.append_nil]
   ·have h' : y.1 = x.1 → ¬ y.2.1 = x.2.1 := fun h1 h2 => h (by rw [h1, h2])
    rw [if_pos (by
     by_cases h1 : y.1 = x.1
     ·simp [h1, h' h1]
     ·simp [h1]), List.filter_append, List.filter_cons_of_pos (by rw [decide_eq_true_eq]; exact h)]
    refine ⟨y, hx, (app40 (Nat.le_trans hfl (by omega))).1, (app40 (Nat.le_trans hfl (by omega))).2, ?_⟩
    simp only [hw, List.filter_nil]
 have hk := key g [] rfl
 have hfl := List.length_filter_le (fun y : Gr => decide ((y.1, y.2.1) ≠ (x.1, x.2.1))) g
 refine ⟨_, hk, ?_⟩
 unfold setG ref30_set_j1
 by_cases h : 0 < x.2.2.length
 ·rw [if_pos h, if_pos (by simpa using h)]
  exact ⟨(app40 (Nat.le_trans hfl (by omega))).1, (app40 (Nat.le_trans hfl (by omega))).2, rfl⟩
 ·rw [if_neg h, if_neg (by simpa using h), List.append_nil]; rfl
/-! ### Zones -/
theorem insA_all {α : Type} {lt : α → α → Bool} (tr : ∀ a b c, lt a b = true → lt b c = true → lt a c = true) (to : ∀ a b, lt a b = true ∨ a = b ∨ lt b a = true) : ∀ (l o : List α), o.Pairwise (fun a b => lt a b = true) → (l ++ o).Nodup → (l.foldl (insA lt) o).Pairwise (fun a b => lt a b = true) ∧ (l.foldl (insA lt) o).Perm (l ++ o)
 | [], _, h, _ => ⟨h, .refl _⟩
 | n :: l, o, h, hn => by
  rw [List.cons_append, List.nodup_cons] at hn
  have hno : n ∉ o := fun e => hn.1 (List.mem_append_right _ e)
  have hp := ins_perm lt o n
  have hnd : (l ++ insA lt o n).Nodup := ((hp.append_left l).trans List.perm_middle).nodup_iff.2 (List.nodup_cons.2 hn)
  obtain ⟨h1, h2⟩ := insA_all tr to l _ (ins_sorted tr to n o h hno) hnd
  exact ⟨h1, h2.trans ((hp.append_left l).trans List.perm_middle)⟩
theorem zpos_ok (o : List Int) (i : Nat) (ml : List Mr) (g : List Gr) (x : Gr) (hx : idx g (i : Int) x) (ho : o.length < 1000000) : Loops (ref30_zones_l5 (ml, g) (o, (i : Int))) 0 ((posL ltI o x.2.1 : Nat) : Int) := by
 have hle := pos_le ltI x.2.1 o
 refine loops_count (step := ref30_zones_l5 (ml, g) (o, (i : Int))) (fun k => (k : Int)) (posL ltI o x.2.1) (fun k hk => ?_) ?_
 ·obtain ⟨y, h1, h2⟩ := pos_lt ltI _ o k hk
  have hlt := (List.getElem?_eq_some_iff.1 h1).1
  have h2 : y < x.2.1 := by simpa [ltI] using h2
  refine ⟨y, fun _ => ⟨by omega, by simpa using h1⟩, x, fun _ => hx, ?_⟩
  rw [if_pos (by simp [hlt, h2]), w_small (by omega) (by omega)]; rfl
 ·by_cases hk : posL ltI o x.2.1 < o.length
  ·obtain ⟨y, h1, h2⟩ := pos_at ltI _ o hk
   have h2 : ¬ y < x.2.1 := by simpa [ltI] using h2
   refine ⟨y, fun _ => ⟨by omega, by simpa using h1⟩, x, fun _ => hx, ?_⟩
   rw [if_neg (by simp [h2])]
  ·refine ⟨0, fun h => absurd (by simpa using h) hk, x, fun _ => hx, ?_⟩
   rw [if_neg (by simp; omega)]
theorem insA_len {α : Type} (lt : α → α → Bool) : ∀ (l o : List α), (l.foldl (insA lt) o).length = o.length + l.length
 | [], o => rfl
 | n :: l, o => by rw [List.foldl_cons, insA_len lt l, (ins_perm lt o n).length_eq]; simp only [List.length_cons]; omega
theorem zstep_ok {o : List Int} {i : Nat} {ml : List Mr} {g : List Gr} {x : Gr} (hx : idx g (i : Int) x) (ho : o.length < 1000000) (hi : i < 1000000) : ref30_zones_j4 (ml, g) (o, (i : Int)) ((posL ltI o x.2.1 : Nat) : Int) (.inl (insA ltI o x.2.1, ((i + 1 : Nat) : Int))) := by
 have hle := pos_le ltI x.2.1 o
 have hw : IntKind.i64.wrap ((i : Int) + 1) = ((i + 1 : Nat) : Int) := by rw [w_small (by omega) (by omega)]; omega
 have hz : (((o.drop (0 : Int).toNat).take (((posL ltI o x.2.1 : Nat) : Int) - 0).toNat).length) ≤ o.length := by rw [List.length_take, List.length_drop]; omega
 have hy : ((o.drop ((posL ltI o x.2.1 : Nat) : Int).toNat).take (((o.length : Int) : Int) - ((posL ltI o x.2.1 : Nat) : Int)).toNat).length ≤ o.length := by rw [List.length_take, List.length_drop]; omega
 refine ⟨by omega, by simpa using hle, ?_, ?_, x, hx, ?_, ?_, by omega, by simpa using hle, Int.le_refl _, ?_, ?_, ?_⟩
 ·simp only [List.length_nil]; omega
 ·simp only [List.length_nil]; omega
 ·simp only [List.length_append, List.length_nil, List.length_cons]; omega
 ·simp only [List.length_append, List.length_nil, List.length_cons]; omega
 ·simp only [List.length_append, List.length_nil, List.length_cons]; omega
 ·simp only [List.length_append, List.length_nil, List.length_cons]; omega
 ·unfold ref30_zones_j3
  show Sum.inl _ = Sum.inl _
  simp only [hw]
  rw [cut_ins o _ hle]; rfl
section rep
variable {k : Nat} {L : List Mg} {g : List Gr} {f : Fl}
theorem zoZ_nodup {n : Int} {l : List ((Int × Int) × List Int)} (h : (l.map (·.1)).Nodup) : (zoZ n l).Nodup := by
 have h1 : ((l.filter fun p => decide (p.1.1 = n)).map (·.1)).Nodup := (List.filter_sublist.map _).nodup h
 have h2 : (l.filter fun p => decide (p.1.1 = n)).map (·.1) = ((l.filter fun p => decide (p.1.1 = n)).map fun p => p.1.2).map fun z => (n, z) := by
  rw [List.map_map]
  refine List.map_congr_left (fun p hp => ?_)
  have : p.1.1 = n := by simpa using (List.mem_filter.1 hp).2
  exact Prod.ext this rfl
 rw [h2] at h1
 exact nodup_of_map _ h1
theorem rzones_ok (h : RepF k L g f) (hk : k ≤ 1000) (n : Int) : ref30_zones (L.map ofM, g) n (zonB f n) := by
 have hgl := h.gl
 have hz : (zoZ n (gm g)).foldl (insA ltI) [] = zonB f n := by
  have hnd := zoZ_nodup (n := n) h.gk
  obtain ⟨h1, h2⟩ := insA_all ltI_tr ltI_to (zoZ n (gm g)) [] .nil (by simpa using hnd)
  rw [List.append_nil] at h2
  exact sortedI_eq h1 (h2.trans (zoZ_perm h.gp.symm))
 rw [← hz]
 have key : ∀ (r pre : List Gr), g = pre ++ r → Loops (ref30_zones_l2 (L.map ofM, g) n) ((zoZ n (gm pre)).foldl (insA ltI) [], (pre.length : Int)) ((zoZ n (gm g)).foldl (insA ltI) []) := by
  intro r
  induction r with
  | nil =>
   intro pre e
   refine .done ?_
   unfold ref30_zones_l2
   rw [if_neg (by rw [e]; simp)]
   rw [e]; simp
  | cons x r ih =>
   intro pre e
   have hpl : pre.length < g.length := by rw [e]; simp
   have hx : idx g (pre.length : Int) x := ⟨by omega, by rw [e]; simp⟩
   have hw : IntKind.i64.wrap ((pre.length : Int) + 1) = ((pre ++ [x]).length : Int) := by rw [w_small (by omega) (by omega)]; simp
   have hol : ((zoZ n (gm pre)).foldl (insA ltI) []).length ≤ 1000 := by
    rw [insA_len]
    have := zoZ_len n (gm pre)
    unfold gm at this
    rw [List.length_map] at this
    unfold gm
    simp only [List.length_nil]; omega
   have hsp : zoZ n (gm (pre ++ [x])) = zoZ n (gm pre) ++ zoZ n (gm [x]) := by simp [zoZ, gm]
   have hi := ih (pre ++ [x]) (by rw [e]; simp)
   rw [hsp, List.foldl_append] at hi
   refine .next ?_ hi
   unfold ref30_zones_l2
   rw [if_pos (by simpa using hpl)]
   refine ⟨x, hx, ?_⟩
   by_cases hn : x.1 = n
   ·have hs : zoZ n (gm [x]) = [x.2.1] := by simp [zoZ, gm, hn]
    rw [if_neg (by simp [hn]), hs]
    refine ⟨_, zpos_ok _ _ _ g x hx (by omega), ?_⟩
    rw [show (pre ++ [x]).length = pre.length + 1 by simp]
    exact zstep_ok hx (by omega) (by omega)
   ·have hs : zoZ n (gm [x]) = [] := by simp [zoZ, gm, hn]
    rw [if_pos (by simp [hn]), hs]
    unfold ref30_zones_j3
    simp only [hw, List.foldl_nil]
 exact ⟨_, key g [] rfl, rfl⟩
/-! ### Contested cells -/
def ltP (a b : Int × Int) : Bool := decide (a.1 < b.1 ∨ (a.1 = b.1 ∧ a.2 < b.2))
theorem ltP_tr (a b c : Int × Int) (h1 : ltP a b = true) (h2 : ltP b c = true) : ltP a c = true := by simp only [ltP, decide_eq_true_eq] at *; omega
theorem ltP_to (a b : Int × Int) : ltP a b = true ∨ a = b ∨ ltP b a = true := by
 simp only [ltP, decide_eq_true_eq]
 by_cases h : a.1 = b.1 ∧ a.2 = b.2
 ·exact .inr (.inl (Prod.ext h.1 h.2))
 ·omega
theorem ltP_ir (a : Int × Int) : ltP a a = false := by simp [ltP]
theorem sortedP_eq {a b : List (Int × Int)} (ha : a.Pairwise (fun x y => ltP x y = true)) (h : a.Perm b) : a = sortP b := by
 have hb : sortP b = sortP a := sortP_perm h.symm
 rw [hb]
 refine List.Perm.eq_of_pairwise (le := fun x y => leP x y = true) ?_ (ha.imp (fun h => by simp only [ltP, leP, decide_eq_true_eq] at *; omega)) (List.pairwise_mergeSort (fun x y z h1 h2 => ?_) (fun x y => ?_) a) (List.mergeSort_perm a leP).symm
 ·intro x y _ _ h1 h2; simp only [leP, decide_eq_true_eq] at h1 h2; exact Prod.ext (by omega) (by omega)
 all_goals simp only [leP, Bool.or_eq_true, decide_eq_true_eq] at *; omega
theorem nodup_ltP {a : List (Int × Int)} (ha : a.Pairwise (fun x y => ltP x y = true)) : a.Nodup := ha.imp (fun h e => by subst e; rw [ltP_ir] at h; cases h)
theorem cnt1 (z : Int) (c : Int × Int) : ∀ zs : List Int, zs.Nodup → (zs.map fun q => (z, q)).count c = if z = c.1 ∧ c.2 ∈ zs then 1 else 0
 | [], _ => by simp
 | q :: zs, h => by
  rw [List.nodup_cons] at h
  rw [List.map_cons, List.count_cons, cnt1 z c zs h.2]
  by_cases h1 : z = c.1
  ·by_cases h2 : q = c.2
   ·subst h2
    have : ((z, c.2) == c) = true := by simp [h1]
    rw [this, if_pos rfl, if_neg (fun e => h.1 e.2), if_pos ⟨h1, List.mem_cons_self⟩]
   ·have : ((z, q) == c) = false := by simp only [beq_eq_false_iff_ne]; exact fun e => h2 (by rw [← e])
    rw [this, if_neg (show ¬ (false = true) by decide)]
    simp [h1, Ne.symm h2]
  ·have : ((z, q) == c) = false := by simp only [beq_eq_false_iff_ne]; exact fun e => h1 (by rw [← e])
   rw [this, if_neg (show ¬ (false = true) by decide), if_neg (fun e => h1 e.1), if_neg (fun e => h1 e.1)]
theorem allC_count (c : Int × Int) : ∀ l : List ((Int × Int) × List Int), (∀ p ∈ l, p.2.Nodup) → (allC l).count c = (l.filter fun p => decide (p.1.2 = c.1 ∧ c.2 ∈ p.2)).length
 | [], _ => rfl
 | p :: l, h => by
  have e : allC (p :: l) = (p.2.map fun q => (p.1.2, q)) ++ allC l := rfl
  rw [e, List.count_append, cnt1 _ _ _ (h p List.mem_cons_self), allC_count c l (fun q hq => h q (List.mem_cons_of_mem _ hq))]
  by_cases hp : p.1.2 = c.1 ∧ c.2 ∈ p.2
  ·rw [if_pos hp, List.filter_cons_of_pos (by simpa using hp)]; simp only [List.length_cons]; omega
  ·rw [if_neg hp, List.filter_cons_of_neg (by simpa using hp)]; omega
theorem RepF.mem2 (h : RepF k L g f) {p : (Int × Int) × List Int} (hp : p ∈ f.2) : p.2 ≠ [] ∧ p.2.Nodup ∧ p.1.1 ∈ L.map nM := by
 obtain ⟨x, hx, rfl⟩ := List.mem_map.1 (h.gp.mem_iff.1 hp)
 exact h.gc x hx
theorem own_count (h : RepF k L g f) (c : Int × Int) : (ownB f c).length = (allC f.2).count c := by
 rw [allC_count c f.2 (fun p hp => (h.mem2 hp).2.1)]
 have h1 : ((f.2.filter fun p => decide (p.1.2 = c.1 ∧ c.2 ∈ p.2)).map (·.1)).Nodup := (List.filter_sublist.map _).nodup h.w.k2
 have h2 : (f.2.filter fun p => decide (p.1.2 = c.1 ∧ c.2 ∈ p.2)).map (·.1) = ((f.2.filter fun p => decide (p.1.2 = c.1 ∧ c.2 ∈ p.2)).map fun p => p.1.1).map fun n => (n, c.1) := by
  rw [List.map_map]
  refine List.map_congr_left (fun p hp => ?_)
  have : p.1.2 = c.1 ∧ c.2 ∈ p.2 := by simpa using (List.mem_filter.1 hp).2
  exact Prod.ext rfl this.1
 rw [h2] at h1
 have h3 := nodup_of_map _ h1
 have hs : (skeys f.1).Nodup := (fskeys_perm _).nodup_iff.2 h.w.k1
 have h4 : (ownB f c).Nodup := hs.filter _
 have h5 : (ownB f c).Perm ((f.2.filter fun p => decide (p.1.2 = c.1 ∧ c.2 ∈ p.2)).map fun p => p.1.1) := by
  refine (List.perm_ext_iff_of_nodup h4 h3).2 (fun n => ?_)
  unfold ownB
  rw [List.mem_filter, decide_eq_true_eq]
  constructor
  ·rintro ⟨_, hm⟩
   cases hg : mget f.2 (n, c.1) with
   | none => rw [hg] at hm; cases hm
   | some l =>
    rw [hg] at hm
    exact List.mem_map.2 ⟨((n, c.1), l), List.mem_filter.2 ⟨mem_of_mget hg, by simpa using hm⟩, rfl⟩
  ·intro hn
   obtain ⟨p, hp, rfl⟩ := List.mem_map.1 hn
   obtain ⟨hp, hv⟩ := List.mem_filter.1 hp
   have hv : p.1.2 = c.1 ∧ c.2 ∈ p.2 := by simpa using hv
   have hg := mget_of_mem h.w.k2 hp
   refine ⟨(h.keys _).2 (h.mem2 hp).2.2, ?_⟩
   rw [← hv.1, hg]; exact hv.2
 rw [h5.length_eq, List.length_map]
def c2 (c : Int × Int) : List Int := [c.1, c.2]
theorem cpos_ok (o : List (Int × Int)) (j : Int) (x : Gr) (n : Int) (ho : o.length < 1000000) : Loops (ref30_Contested_l7 (o.map c2, j) x n) 0 ((posL ltP o (x.2.1, n) : Nat) : Int) := by
 have hle := pos_le ltP (x.2.1, n) o
 refine loops_count (step := ref30_Contested_l7 (o.map c2, j) x n) (fun k => (k : Int)) (posL ltP o (x.2.1, n)) (fun k hk => ?_) ?_
 ·obtain ⟨y, h1, h2⟩ := pos_lt ltP _ o k hk
  have hlt := (List.getElem?_eq_some_iff.1 h1).1
  have h2 : y.1 < x.2.1 ∨ (y.1 = x.2.1 ∧ y.2 < n) := by simpa [ltP] using h2
  have hi : idx (o.map c2) ((k : Nat) : Int) (c2 y) := ⟨by omega, by simp [h1]⟩
  refine ⟨c2 y, fun _ => hi, c2 y, fun _ => hi, c2 y, fun _ => hi, ?_⟩
  rw [if_pos (by
   have e1 : (c2 y).getD 0 0 = y.1 := rfl
   have e2 : (c2 y).getD 1 0 = y.2 := rfl
   rw [e1, e2]
   simp only [List.length_map, Bool.and_eq_true, Bool.or_eq_true, decide_eq_true_eq]
   exact ⟨by omega, h2⟩), w_small (by omega) (by omega)]; rfl
 ·by_cases hk : posL ltP o (x.2.1, n) < o.length
  ·obtain ⟨y, h1, h2⟩ := pos_at ltP _ o hk
   have h2 : ¬ (y.1 < x.2.1 ∨ (y.1 = x.2.1 ∧ y.2 < n)) := by
    intro h; have : ltP y (x.2.1, n) = true := by simpa [ltP] using h
    rw [this] at h2; cases h2
   have hi : idx (o.map c2) ((posL ltP o (x.2.1, n) : Nat) : Int) (c2 y) := ⟨by omega, by simp [h1]⟩
   refine ⟨c2 y, fun _ => hi, c2 y, fun _ => hi, c2 y, fun _ => hi, ?_⟩
   rw [if_neg (by
    have e1 : (c2 y).getD 0 0 = y.1 := rfl
    have e2 : (c2 y).getD 1 0 = y.2 := rfl
    rw [e1, e2]
    simp only [List.length_map, Bool.and_eq_true, Bool.or_eq_true, decide_eq_true_eq]
    exact fun e => h2 e.2)]
  ·have hf : ¬ (decide (((posL ltP o (x.2.1, n) : Nat) : Int) < ((o.map c2).length : Int)) = true) := by simp only [List.length_map, decide_eq_true_eq]; omega
   refine ⟨[], fun h => absurd h hf, [], fun h => absurd h.1 hf, [], fun h => absurd h.1.1 hf, ?_⟩
   rw [if_neg (by simp only [Bool.and_eq_true]; exact fun e => hf e.1)]
theorem eqN_c2 (a b : Int × Int) : eqN 2 0 (c2 a) (c2 b) = decide (a = b) := by
 obtain ⟨a1, a2⟩ := a
 obtain ⟨b1, b2⟩ := b
 by_cases h : (a1, a2) = (b1, b2)
 ·cases h; rw [decide_eq_true rfl]; simp [eqN, c2]
 ·rw [decide_eq_false h]
  unfold eqN c2
  rw [Bool.eq_false_iff]
  intro e
  simp [List.range_succ] at e
  exact h (by rw [e.1, e.2])
theorem cstep_ok {o : List (Int × Int)} {j : Nat} {x : Gr} {n : Int} (ho : o.length < 1000000) (hj : j < 1000000) :
    ref30_Contested_j6 (o.map c2, (j : Int)) x n ((posL ltP o (x.2.1, n) : Nat) : Int) (.inl ((insU ltP o (x.2.1, n)).map c2, ((j + 1 : Nat) : Int))) := by
  have hle := pos_le ltP (x.2.1, n) o
  have hw : IntKind.i64.wrap ((j : Int) + 1) = ((j + 1 : Nat) : Int) := by rw [w_small (by omega) (by omega)]; omega
  have e2 : ([x.2.1, n] : List Int) = c2 (x.2.1, n) := rfl
  have put : insU ltP o (x.2.1, n) = insA ltP o (x.2.1, n) → ∀ q : List Int, ((decide (((posL ltP o (x.2.1, n) : Nat) : Int) = ((o.map c2).length : Int))) || (!(eqN 2 0 q [x.2.1, n]))) = true → ((decide (((posL ltP o (x.2.1, n) : Nat) : Int) = ((o.map c2).length : Int))) = false → idx (o.map c2) ((posL ltP o (x.2.1, n) : Nat) : Int) q) → ref30_Contested_j6 (o.map c2, (j : Int)) x n ((posL ltP o (x.2.1, n) : Nat) : Int) (.inl ((insU ltP o (x.2.1, n)).map c2, ((j + 1 : Nat) : Int))) := by
    intro e q hc hq
    refine ⟨q, hq, ?_⟩
    rw [if_pos hc]
    have hz : ((((o.map c2).drop (0 : Int).toNat).take (((posL ltP o (x.2.1, n) : Nat) : Int) - 0).toNat).length) ≤ o.length := by rw [List.length_take, List.length_drop, List.length_map]; omega
    have hy : (((o.map c2).drop ((posL ltP o (x.2.1, n) : Nat) : Int).toNat).take ((((o.map c2).length : Int) : Int) - ((posL ltP o (x.2.1, n) : Nat) : Int)).toNat).length ≤ o.length := by rw [List.length_take, List.length_drop, List.length_map]; omega
    refine ⟨by omega, by simp only [List.length_map]; omega, ?_, ?_, ?_, ?_, by omega, by simp only [List.length_map]; omega, Int.le_refl _, ?_, ?_, ?_⟩
    · simp only [List.length_nil]; omega
    · simp only [List.length_nil]; omega
    · simp only [List.length_append, List.length_nil, List.length_cons]; omega
    · simp only [List.length_append, List.length_nil, List.length_cons]; omega
    · simp only [List.length_append, List.length_nil, List.length_cons]; omega
    · simp only [List.length_append, List.length_nil, List.length_cons]; omega
    · unfold ref30_Contested_j5
      rw [e]
      show Sum.inl _ = Sum.inl _
      simp only [hw]
      rw [cut_ins (o.map c2) _ (by rw [List.length_map]; exact hle)]
      unfold insA
      rw [List.map_append, List.map_cons, List.map_take, List.map_drop]; rfl
  by_cases h1 : posL ltP o (x.2.1, n) = o.length
  · refine put ?_ [] ?_ (fun e => ?_)
    · unfold insU
      rw [if_neg (by rw [h1]; simp)]
    · simp [h1]
    · simp [h1] at e
  · obtain ⟨y, h2, h3⟩ := pos_at ltP (x.2.1, n) o (by omega)
    have hi : idx (o.map c2) ((posL ltP o (x.2.1, n) : Nat) : Int) (c2 y) := ⟨by omega, by simp [h2]⟩
    have hd : decide (((posL ltP o (x.2.1, n) : Nat) : Int) = ((o.map c2).length : Int)) = false := by simp only [List.length_map, decide_eq_false_iff_not]; omega
    by_cases h4 : y = (x.2.1, n)
    · refine ⟨c2 y, fun _ => hi, ?_⟩
      rw [if_neg (by rw [hd, e2, eqN_c2, decide_eq_true h4]; decide)]
      unfold ref30_Contested_j5 insU
      rw [if_pos (by rw [h2, h4])]
      simp only [hw]
    · refine put ?_ (c2 y) (by rw [hd, e2, eqN_c2, decide_eq_false h4]; rfl) (fun _ => hi)
      unfold insU
      rw [if_neg (by rw [h2]; exact fun e => h4 (Option.some.inj e))]
def conS (f : Fl) (o : List (Int × Int)) (c : Int × Int) : List (Int × Int) := if (ownB f c).length < 2 then o else insU ltP o c
theorem conS_all (f : Fl) : ∀ (l o : List (Int × Int)), o.Pairwise (fun a b => ltP a b = true) → (l.foldl (conS f) o).Pairwise (fun a b => ltP a b = true) ∧ ∀ c, c ∈ l.foldl (conS f) o ↔ (c ∈ l ∧ 2 ≤ (ownB f c).length) ∨ c ∈ o
 | [], o, h => ⟨h, fun c => by simp⟩
 | d :: l, o, h => by
  rw [List.foldl_cons]
  unfold conS
  by_cases hd : (ownB f d).length < 2
  ·rw [if_pos hd]
   obtain ⟨h1, h2⟩ := conS_all f l o h
   refine ⟨h1, fun c => (h2 c).trans ⟨?_, ?_⟩⟩
   ·rintro (⟨a, b⟩ | a)
    ·exact .inl ⟨List.mem_cons_of_mem _ a, b⟩
    ·exact .inr a
   ·rintro (⟨a, b⟩ | a)
    ·rcases List.mem_cons.1 a with rfl | a
     ·omega
     ·exact .inl ⟨a, b⟩
    ·exact .inr a
  ·rw [if_neg hd]
   obtain ⟨h3, h4⟩ := insU_ok ltP_tr ltP_to ltP_ir h d
   obtain ⟨h1, h2⟩ := conS_all f l _ h3
   refine ⟨h1, fun c => (h2 c).trans ?_⟩
   rw [h4]
   constructor
   ·rintro (⟨a, b⟩ | rfl | a)
    ·exact .inl ⟨List.mem_cons_of_mem _ a, b⟩
    ·exact .inl ⟨List.mem_cons_self, by omega⟩
    ·exact .inr a
   ·rintro (⟨a, b⟩ | a)
    ·rcases List.mem_cons.1 a with rfl | a
     ·exact .inr (.inl rfl)
     ·exact .inl ⟨a, b⟩
    ·exact .inr (.inr a)
theorem conS_len (f : Fl) : ∀ (l o : List (Int × Int)), (l.foldl (conS f) o).length ≤ o.length + l.length
 | [], o => by simp
 | d :: l, o => by
  have h1 := conS_len f l (conS f o d)
  have h2 : (conS f o d).length ≤ o.length + 1 := by
   unfold conS insU; split
   ·omega
   ·split
    ·omega
    ·rw [(ins_perm ltP o d).length_eq]; simp
  rw [List.foldl_cons, List.length_cons]; omega
theorem allC_app (a b : List Gr) : allC (gm (a ++ b)) = allC (gm a) ++ allC (gm b) := by simp [allC, gm]
theorem rcon_ok (h : RepF k L g f) (hk : k ≤ 1000) : ref30_Contested (L.map ofM, g) ((conB f).map c2) := by
 have hgl := h.gl
 have hcl : ∀ x ∈ g, x.2.2.length ≤ 40 := by
  intro x hx
  exact (h.w.r2 _ (h.gp.mem_iff.2 (List.mem_map.2 ⟨x, hx, rfl⟩))).2.2.1
 have hres : (allC (gm g)).foldl (conS f) [] = conB f := by
  obtain ⟨h1, h2⟩ := conS_all f (allC (gm g)) [] .nil
  refine sortedP_eq h1 ((List.perm_ext_iff_of_nodup (nodup_ltP h1) (conT_nodup _)).2 (fun c => ?_))
  rw [h2, mem_conT, own_count h, (allC_perm h.gp).mem_iff.symm]
  constructor
  ·rintro (⟨_, a⟩ | a)
   ·omega
   ·cases a
  ·intro a
   exact .inl ⟨List.count_pos_iff.1 (by omega), by omega⟩
 rw [← hres]
 have hlen : ∀ pre : List Gr, (∀ x ∈ pre, x.2.2.length ≤ 40) → pre.length ≤ 1000 → (allC (gm pre)).length ≤ 40000 := by
  intro pre hp hl
  have := allC_len (l := gm pre) (fun p hp' => by obtain ⟨x, hx, rfl⟩ := List.mem_map.1 hp'; exact hp x hx)
  unfold gm at this ⊢
  rw [List.length_map] at this; omega
 have key : ∀ (r pre : List Gr), g = pre ++ r → Loops (ref30_Contested_l2 (L.map ofM, g)) (((allC (gm pre)).foldl (conS f) []).map c2, (pre.length : Int)) (((allC (gm g)).foldl (conS f) []).map c2) := by
  intro r
  induction r with
  | nil =>
   intro pre e
   refine .done ?_
   unfold ref30_Contested_l2
   rw [if_neg (by rw [e]; simp)]
   rw [e]; simp
  | cons x r ih =>
   intro pre e
   have hpl : pre.length < g.length := by rw [e]; simp
   have hx : idx g (pre.length : Int) x := ⟨by omega, by rw [e]; simp⟩
   have hw : IntKind.i64.wrap ((pre.length : Int) + 1) = ((pre ++ [x]).length : Int) := by rw [w_small (by omega) (by omega)]; simp
   have hx40 := hcl x (by rw [e]; simp)
   have hpl2 := hlen pre (fun y hy => hcl y (by rw [e]; exact List.mem_append_left _ hy)) (by omega)
   have hol := conS_len f (allC (gm pre)) []
   rw [List.length_nil] at hol
   have hsp : allC (gm (pre ++ [x])) = allC (gm pre) ++ x.2.2.map fun q => (x.2.1, q) := by rw [allC_app]; simp [allC, gm]
   have hi := ih (pre ++ [x]) (by rw [e]; simp)
   rw [hsp, List.foldl_append] at hi
   refine .next ?_ hi
   generalize (allC (gm pre)).foldl (conS f) [] = o at *
   unfold ref30_Contested_l2
   rw [if_pos (by simpa using hpl)]
   refine ⟨((x.2.2.map fun q => (x.2.1, q)).foldl (conS f) o).map c2, ?_, by unfold ref30_Contested_j3; simp only [hw]⟩
   have inner : ∀ (r2 p2 : List Int), x.2.2 = p2 ++ r2 → Loops (ref30_Contested_l4 (L.map ofM, g) (o.map c2, (pre.length : Int))) (((p2.map fun q => (x.2.1, q)).foldl (conS f) o).map c2, (p2.length : Int)) (((x.2.2.map fun q => (x.2.1, q)).foldl (conS f) o).map c2) := by
    intro r2
    induction r2 with
    | nil =>
     intro p2 e2
     refine .done ⟨x, hx, ?_⟩
     rw [if_neg (by rw [e2]; simp)]
     rw [e2]; simp
    | cons q r2 ih2 =>
     intro p2 e2
     have hp2 : p2.length < x.2.2.length := by rw [e2]; simp
     have hq : idx x.2.2 (p2.length : Int) q := ⟨by omega, by rw [e2]; simp⟩
     have hw2 : IntKind.i64.wrap ((p2.length : Int) + 1) = ((p2 ++ [q]).length : Int) := by rw [w_small (by omega) (by omega)]; simp
     have ho2 := conS_len f (p2.map fun q => (x.2.1, q)) o
     rw [List.length_map] at ho2
     have hi2 := ih2 (p2 ++ [q]) (by rw [e2]; simp)
     rw [List.map_append, List.foldl_append] at hi2
     refine .next ?_ hi2
     generalize (p2.map fun q => (x.2.1, q)).foldl (conS f) o = o2 at *
     refine ⟨x, hx, ?_⟩
     rw [if_pos (by simpa using hp2)]
     refine ⟨x, hx, x, hx, q, hq, ownB f (x.2.1, q), rowners_ok h hk _ _, ?_⟩
     have hstep : ([q].map fun q => (x.2.1, q)).foldl (conS f) o2 = conS f o2 (x.2.1, q) := rfl
     rw [hstep]
     unfold conS
     by_cases hd : (ownB f (x.2.1, q)).length < 2
     ·rw [if_pos (by simp only [decide_eq_true_eq]; omega), if_pos hd]
      unfold ref30_Contested_j5
      simp only [hw2]
     ·rw [if_neg (by simp only [decide_eq_true_eq]; omega), if_neg hd]
      refine ⟨_, cpos_ok o2 _ x q (by omega), ?_⟩
      rw [show (p2 ++ [q]).length = p2.length + 1 by simp]
      exact cstep_ok (by omega) (by omega)
   have := inner x.2.2 [] rfl
   simpa using this
 have := key g [] rfl
 exact ⟨_, by simpa [allC, gm] using this, rfl⟩
end rep
end Go.Rel
/-! Plain laws: fleets: the document's robots and lines. -/
namespace Go.Rel
open Go Go.Eng Go.Pl

theorem frline_ok {w : ByteArray} {l : List Int} (hl : ∀ n ∈ l, IntOk .i64 n) (hs : w.size < 1000000) (hn : l.length < 1000000) : ref30_line w l (lnB w l) := by
 have key : ∀ (r pre : List Int) (v : ByteArray), l = pre ++ r → v.size ≤ 1000000 + 22 * pre.length → Loops (ref30_line_l2 l) (v, (pre.length : Int)) (lnB v r) := by
  intro r
  induction r with
  | nil =>
   intro pre v h _
   refine .done ?_
   unfold ref30_line_l2
   rw [if_neg (by rw [h]; simp)]; rfl
  | cons n r ih =>
   intro pre v h hv
   have hx : idx l (pre.length : Int) n := ⟨by omega, by rw [h]; simp⟩
   have hlt := hx.lt
   have hk : IntOk .i64 n := hl n (by rw [h]; simp)
   have hd := decI_len hk
   have hz : (bstr [32]).size = 1 := by rw [size_bstr]; rfl
   have hz2 : (bstr (decI n)).size ≤ 21 := by rw [size_bstr]; exact hd
   have hsz : (bstr [32] ++ bstr (decI n)).size ≤ 22 := by rw [ByteArray.size_append]; omega
   have hpl : pre.length < l.length := by rw [h]; simp
   refine .next (s' := (v ++ (bstr [32] ++ bstr (decI n)), ((pre ++ [n]).length : Int))) ?_ (ih (pre ++ [n]) _ (by rw [h]; simp) ?_)
   ·unfold ref30_line_l2
    rw [if_pos (by simpa using hlt)]
    refine ⟨by show v.size + _ < _; omega, n, hx, _, digits_ok hk, by show (v ++ bstr [32]).size + _ < _; rw [ByteArray.size_append]; omega, ?_⟩
    simp only
    rw [w_small (by omega) (by omega), ByteArray.append_assoc]; simp
   ·rw [ByteArray.size_append]; simp only [List.length_append, List.length_cons, List.length_nil]; omega
 exact ⟨_, key l [] w rfl (by simp; omega), rfl⟩
abbrev RR := Int × Int × Int × Int × Int × Bool × Bool × Int × Int × List (List Int) × Int × Int
def toRR (r : Rb) : RR := (r.1, r.2.1, r.2.2.1, r.2.2.2.1, r.2.2.2.2.1, r.2.2.2.2.2.1, r.2.2.2.2.2.2.1, r.2.2.2.2.2.2.2.1, r.2.2.2.2.2.2.2.2.1, r.2.2.2.2.2.2.2.2.2.1.map ofP, r.2.2.2.2.2.2.2.2.2.2.1, r.2.2.2.2.2.2.2.2.2.2.2)
theorem robotR_ok {r : Rb} (h : r.2.2.2.2.2.2.2.2.2.1.length ≤ 40) : law30_robot r (toRR r) true := by
 have hp : (toRR r).2.2.2.2.2.2.2.2.2.1 = r.2.2.2.2.2.2.2.2.2.1.map ofP := rfl
 unfold law30_robot
 rw [if_neg (by rw [hp]; simp)]
 refine ⟨.inl (), loops_count (step := law30_robot_l3 r (toRR r)) (fun k => (k : Int)) r.2.2.2.2.2.2.2.2.2.1.length (fun k hk => ?_) ?_, ?_⟩
 ·unfold law30_robot_l3
  rw [if_pos (by simpa using hk)]
  have hx := idx_of hk
  have hy : idx (toRR r).2.2.2.2.2.2.2.2.2.1 (k : Int) (ofP r.2.2.2.2.2.2.2.2.2.1[k]) := ⟨by omega, by rw [hp]; simp [hk]⟩
  generalize r.2.2.2.2.2.2.2.2.2.1[k] = p at hx hy
  have e1 : (ofP p).getD 0 0 = p.1 := rfl
  have e2 : (ofP p).getD 1 0 = p.2 := rfl
  refine ⟨p, hx, ofP p, hy, p, fun _ => hx, ofP p, fun _ => hy, ?_⟩
  rw [e1, e2, if_neg (by simp), w_small (by omega) (by omega)]; rfl
 ·unfold law30_robot_l3
  rw [if_neg (by simp)]
 ·show law30_robot_j1 r (toRR r) () true
  unfold law30_robot_j1 toRR
  simp [law30_robot_j2]
theorem val_at {m : Mg} {a : ByteArray} {i : Nat} {fd : Fd} {kk : Int} (hk : m.1 = kk) (hf : findF a (fieldsB kk) = fd) (h1 : isF fd = true) (h2 : fd.2.2.1 = (i : Int)) : valB m a = m.2.1.getD i 0 := by
 unfold valB
 rw [hk, hf]
 unfold valF
 rw [if_pos ⟨h1, by omega⟩, h2]; rfl
def rStep (s : RR) (m : Mg) : RR :=
 if m.1 = 1 then (s.1, s.2.1, s.2.2.1, s.2.2.2.1, s.2.2.2.2.1, s.2.2.2.2.2.1, false, 0, 0, m.2.2.1.map ofP, s.2.2.2.2.2.2.2.2.2.2.1, s.2.2.2.2.2.2.2.2.2.2.2)
 else if m.1 = 2 then (s.1, s.2.1, s.2.2.1, s.2.2.2.1, s.2.2.2.2.1, s.2.2.2.2.2.1, true, m.2.1.getD 1 0, m.2.1.getD 2 0, [], s.2.2.2.2.2.2.2.2.2.2.1, s.2.2.2.2.2.2.2.2.2.2.2)
 else if m.1 = 4 then (m.2.1.getD 1 0, m.2.1.getD 2 0, m.2.1.getD 3 0, m.2.1.getD 4 0, m.2.1.getD 5 0, true, s.2.2.2.2.2.2.1, s.2.2.2.2.2.2.2.1, s.2.2.2.2.2.2.2.2.1, s.2.2.2.2.2.2.2.2.2.1, s.2.2.2.2.2.2.2.2.2.2.1, s.2.2.2.2.2.2.2.2.2.2.2)
 else if m.1 = 5 then (s.1, s.2.1, s.2.2.1, s.2.2.2.1, s.2.2.2.2.1, s.2.2.2.2.2.1, s.2.2.2.2.2.2.1, s.2.2.2.2.2.2.2.1, s.2.2.2.2.2.2.2.2.1, s.2.2.2.2.2.2.2.2.2.1, IntKind.i64.wrap (s.2.2.2.2.2.2.2.2.2.2.1 + m.2.1.getD 4 0), m.2.1.getD 1 0)
 else s
theorem rStep_ok {r : Rb} {m : Mg} (hc : checkB m = 0) : toRR (apR r m) = rStep (toRR r) m := by
 unfold apR rStep
 rcases check_kind hc with e | e | e | e | e
 ·rw [if_pos e, if_pos e]; rfl
 ·rw [if_neg (by omega), if_pos e, if_neg (by omega), if_pos e]
  rw [val_at (i := 1) e rfl rfl rfl, show valB m nmZone = m.2.1.getD 2 0 from val_at (i := 2) e rfl rfl rfl]; rfl
 ·rw [if_neg (by omega), if_neg (by omega), if_pos e, if_neg (by omega), if_neg (by omega), if_neg (by omega), if_neg (by omega)]
 ·rw [if_neg (by omega), if_neg (by omega), if_neg (by omega), if_pos e, if_neg (by omega), if_neg (by omega), if_pos e]
  rw [val_at (i := 1) (a := bstr [120]) e rfl rfl rfl, val_at (i := 2) (a := bstr [121]) e rfl rfl rfl, val_at (i := 3) (a := bstr [104, 101, 97, 100, 105, 110, 103]) e rfl rfl rfl, val_at (i := 4) (a := bstr [98, 97, 116, 116, 101, 114, 121]) e rfl rfl rfl, val_at (i := 5) (a := bstr [115, 117, 114, 101]) e rfl rfl rfl]; rfl
 ·rw [if_neg (by omega), if_neg (by omega), if_neg (by omega), if_neg (by omega), if_pos e, if_neg (by omega), if_neg (by omega), if_neg (by omega), if_pos e]
  rw [val_at (i := 4) (a := bstr [116, 105, 109, 101, 115]) e rfl rfl rfl, val_at (i := 1) (a := bstr [99, 111, 100, 101]) e rfl rfl rfl]; rfl
section rep
variable {k : Nat} {L : List Mg} {g : List Gr} {f : Fl}
theorem rrobot_ok (h : RepF k L g f) (hk : k ≤ 1000) (n : Int) : ref30_Robot (L.map ofM, g) n (toRR (rbF L n)) := by
 have hlk := h.lk
 have hck := h.ck
 have key : ∀ (r pre : List Mg), L = pre ++ r → Loops (ref30_Robot_l2 (L.map ofM, g) n) ((pre.length : Int), toRR (rbF pre n)) (toRR (rbF L n)) := by
  intro r
  induction r with
  | nil =>
   intro pre e
   refine .done ?_
   unfold ref30_Robot_l2
   rw [if_neg (by rw [e]; simp)]
   rw [e, List.append_nil]
  | cons m r ih =>
   intro pre e
   have hpl : pre.length < L.length := by rw [e]; simp
   have hx : idx (L.map ofM) (pre.length : Int) (ofM m) := ⟨by omega, by rw [e]; simp⟩
   have hw : IntKind.i64.wrap ((pre.length : Int) + 1) = ((pre ++ [m]).length : Int) := by rw [w_small (by omega) (by omega)]; simp
   have hc := (hck m (by rw [e]; simp)).1
   refine .next ?_ (ih (pre ++ [m]) (by rw [e]; simp))
   have hn : (ofM m).2.1.getD 0 0 = nM m := rfl
   have hm1 : (ofM m).1 = m.1 := rfl
   have hm2 : (ofM m).2.1 = m.2.1 := rfl
   have hm3 : (ofM m).2.2.1 = m.2.2.1.map ofP := rfl
   unfold ref30_Robot_l2
   rw [if_pos (by simpa using hpl)]
   refine ⟨ofM m, hx, ?_⟩
   rw [hn]
   by_cases hnn : nM m = n
   ·have e1 : rbF (pre ++ [m]) n = apR (rbF pre n) m := by
     unfold rbF
     rw [List.filter_append, List.filter_cons_of_pos (by simpa using hnn), List.filter_nil, List.foldl_append]; rfl
    rw [if_neg (by simp [hnn]), e1, rStep_ok hc, hm1, hm2, hm3]
    generalize toRR (rbF pre n) = s
    unfold rStep ref30_Robot_j3
    simp only [decide_eq_true_eq, hw]
    rcases check_kind hc with e | e | e | e | e <;> simp [e]
   ·have e1 : rbF (pre ++ [m]) n = rbF pre n := by
     unfold rbF
     rw [List.filter_append, List.filter_cons_of_neg (by simpa using hnn), List.filter_nil, List.append_nil]
    rw [if_pos (by simp [hnn]), e1]
    generalize toRR (rbF pre n) = s
    unfold ref30_Robot_j3
    simp only [hw]
 exact ⟨_, key L [] rfl, rfl⟩
theorem lnB_app (w : ByteArray) (a b : List Int) : lnB (lnB w a) b = lnB w (a ++ b) := by unfold lnB; rw [List.foldl_append]
theorem rround_ok (h : RepF k L g f) (hk : k ≤ 1000) {i : Nat} {n : Int} (hx : idx (skeys f.1) (i : Int) n) (s : List ByteArray) (hs : s.length ≤ 1000000000) (hi : i < 1000000) : ref30_Lines_l4 (L.map ofM, g) (skeys f.1) (s, (i : Int)) (.inl (s ++ rlB f n, ((i + 1 : Nat) : Int))) := by
 have hn : IntOk .i64 n := h.w.key (List.mem_of_getElem? hx.2)
 have hlt := hx.lt
 have hr := h.w.rob n
 have hrr := rrobot_ok h hk n
 rw [← h.robB n] at hrr
 unfold ref30_Lines_l4
 rw [if_pos (by simpa using hlt)]
 refine ⟨n, hx, _, hrr, n, hx, ?_⟩
 unfold rlB headB
 generalize robB f n = r at hr
 have hw : IntKind.i64.wrap ((i : Int) + 1) = ((i + 1 : Nat) : Int) := by rw [w_small (by omega) (by omega)]; omega
 have one : ∀ m ∈ [n], IntOk .i64 m := by intro m hm; rw [List.mem_singleton] at hm; subst hm; exact hn
 have hl0 := frline_ok (w := bstr [114, 111, 98, 111, 116]) one (by rw [size_bstr]; decide) (by simp)
 have hz0 := lnB_size [n] (bstr [114, 111, 98, 111, 116]) one
 have h5 : ∀ m ∈ [r.1, r.2.1, r.2.2.1, r.2.2.2.1, r.2.2.2.2.1], IntOk .i64 m := by
  intro m hm; simp only [List.mem_cons, List.not_mem_nil, or_false] at hm
  rcases hm with rfl | rfl | rfl | rfl | rfl <;> first | exact hr.a1 | exact hr.a2 | exact hr.a3 | exact hr.a4 | exact hr.a5
 have hl1 := frline_ok (w := bstr [32, 97, 116]) h5 (by rw [size_bstr]; decide) (by simp)
 have hz1 := lnB_size _ (bstr [32, 97, 116]) h5
 have h2 := two_ok hr.a6 hr.a7
 have hl2 := frline_ok (w := bstr [32, 104, 101, 108, 100]) h2 (by rw [size_bstr]; decide) (by simp)
 have hz2 := lnB_size _ (bstr [32, 104, 101, 108, 100]) h2
 have hp1 : ∀ m ∈ [(r.2.2.2.2.2.2.2.2.2.1.length : Int)], IntOk .i64 m := by
  intro m hm; rw [List.mem_singleton] at hm; subst hm; have := hr.a8; exact ⟨by show (-9223372036854775808 : Int) ≤ _; omega, by show _ ≤ (9223372036854775807 : Int); omega⟩
 have hl3 := frline_ok (w := bstr [32, 112, 97, 116, 104]) hp1 (by rw [size_bstr]; decide) (by simp)
 have hz3 := lnB_size _ (bstr [32, 112, 97, 116, 104]) hp1
 have h4 := two_ok hr.a9 hr.a10
 have hl4 := frline_ok (w := bstr [32, 102, 97, 117, 108, 116, 115]) h4 (by rw [size_bstr]; decide) (by simp)
 have hz4 := lnB_size _ (bstr [32, 102, 97, 117, 108, 116, 115]) h4
 rw [size_bstr] at hz0 hz1 hz2 hz3 hz4
 simp only [List.length_cons, List.length_nil] at hz0 hz1 hz2 hz3 hz4
 have hzl := zonB_len f n
 have hn2 := h.w.n2
 have hgl := h.gl
 have hpl : (toRR r).2.2.2.2.2.2.2.2.2.1.length = r.2.2.2.2.2.2.2.2.2.1.length := by simp [toRR]
 have j3 : ∀ s2 : ByteArray, s2.size < 1000000 → ref30_Lines_j7 (L.map ofM, g) (skeys f.1) (s, (i : Int)) (toRR r) s2 (.inl (s ++ (((s2 ++ lnB (bstr [32, 112, 97, 116, 104]) [(r.2.2.2.2.2.2.2.2.2.1.length : Int)]) ++ lnB (bstr [32, 102, 97, 117, 108, 116, 115]) [r.2.2.2.2.2.2.2.2.2.2.1, r.2.2.2.2.2.2.2.2.2.2.2]) :: (zonB f n).map (grB f n)), ((i + 1 : Nat) : Int))) := by
  intro s2 hs2
  unfold ref30_Lines_j7
  rw [hpl]
  refine ⟨_, hl3, by omega, _, hl4, by rw [ByteArray.size_append]; omega, by simp only [List.length_cons, List.length_nil]; omega, by simp only [List.length_cons, List.length_nil]; omega, n, hx, zonB f n, rzones_ok h hk n, s ++ (((s2 ++ lnB (bstr [32, 112, 97, 116, 104]) [(r.2.2.2.2.2.2.2.2.2.1.length : Int)]) ++ lnB (bstr [32, 102, 97, 117, 108, 116, 115]) [r.2.2.2.2.2.2.2.2.2.2.1, r.2.2.2.2.2.2.2.2.2.2.2]) :: (zonB f n).map (grB f n)), ?_, by unfold ref30_Lines_j5; simp only [hw]⟩
  have hz := fun z (hz : z ∈ zonB f n) => h.w.zoneM hz
  generalize (s2 ++ lnB (bstr [32, 112, 97, 116, 104]) [(r.2.2.2.2.2.2.2.2.2.1.length : Int)]) ++ lnB (bstr [32, 102, 97, 117, 108, 116, 115]) [r.2.2.2.2.2.2.2.2.2.2.1, r.2.2.2.2.2.2.2.2.2.2.2] = T at *
  generalize zonB f n = zs at *
  have key : ∀ (l pre : List Int), zs = pre ++ l → Loops (ref30_Lines_l8 (L.map ofM, g) (skeys f.1) (s, (i : Int)) zs) (s ++ [T] ++ pre.map (grB f n), (pre.length : Int)) (s ++ T :: zs.map (grB f n)) := by
   intro l
   induction l with
   | nil =>
    intro pre e
    refine .done ?_
    unfold ref30_Lines_l8
    rw [if_neg (by rw [e]; simp)]
    rw [e]; simp
   | cons z l ih =>
    intro pre e
    have hy : idx zs (pre.length : Int) z := ⟨by omega, by rw [e]; simp⟩
    have hlt := hy.lt
    have hpl : pre.length < zs.length := by rw [e]; simp
    have hzk := hz z (by rw [e]; simp)
    obtain ⟨hc1, hc2⟩ := h.w.cells (n, z)
    have hz6 := lnB_size [n, z] (bstr [103, 114, 97, 110, 116]) (two_ok hn hzk)
    rw [size_bstr] at hz6
    simp only [List.length_cons, List.length_nil] at hz6
    have hg1 : lnB (lnB (bstr [103, 114, 97, 110, 116]) [n, z]) ((mget f.2 (n, z)).getD []) = grB f n z := lnB_app _ _ _
    refine .next (s' := (s ++ [T] ++ (pre ++ [z]).map (grB f n), ((pre ++ [z]).length : Int))) ?_ (ih (pre ++ [z]) (by rw [e]; simp))
    unfold ref30_Lines_l8
    rw [if_pos (by simpa using hlt)]
    refine ⟨n, hx, z, hy, _, frline_ok (two_ok hn hzk) (by rw [size_bstr]; decide) (by simp), n, hx, z, hy, _, frcells_ok g _ n z (by omega), grB f n z, (by rw [← h.cel, ← hg1]; exact frline_ok hc2 (by omega) (by omega)), ?_, ?_, ?_⟩
    ·simp only [List.length_append, List.length_map, List.length_cons, List.length_nil]; omega
    ·simp only [List.length_append, List.length_map, List.length_cons, List.length_nil]; omega
    ·simp only
     rw [w_small (by omega) (by omega)]; simp
  have := key zs [] rfl
  simpa using this
 have j2 : ∀ s1 : ByteArray, s1.size < 500000 → ref30_Lines_j6 (L.map ofM, g) (skeys f.1) (s, (i : Int)) (toRR r) s1 (.inl (s ++ ((((if r.2.2.2.2.2.2.1 = true then s1 ++ lnB (bstr [32, 104, 101, 108, 100]) [r.2.2.2.2.2.2.2.1, r.2.2.2.2.2.2.2.2.1] else s1) ++ lnB (bstr [32, 112, 97, 116, 104]) [(r.2.2.2.2.2.2.2.2.2.1.length : Int)]) ++ lnB (bstr [32, 102, 97, 117, 108, 116, 115]) [r.2.2.2.2.2.2.2.2.2.2.1, r.2.2.2.2.2.2.2.2.2.2.2]) :: (zonB f n).map (grB f n)), ((i + 1 : Nat) : Int))) := by
  intro s1 hs1
  unfold ref30_Lines_j6
  by_cases hh : r.2.2.2.2.2.2.1 = true
  ·rw [if_pos (show (toRR r).2.2.2.2.2.2.1 = true from hh), if_pos hh]
   exact ⟨_, hl2, by omega, j3 _ (by rw [ByteArray.size_append]; omega)⟩
  ·rw [if_neg (show ¬ (toRR r).2.2.2.2.2.2.1 = true from hh), if_neg hh]
   exact j3 _ (by omega)
 refine ⟨_, hl0, ?_⟩
 by_cases hp : r.2.2.2.2.2.1 = true
 ·rw [if_pos (show (toRR r).2.2.2.2.2.1 = true from hp)]
  simp only [if_pos hp]
  exact ⟨_, hl1, by omega, j2 _ (by rw [ByteArray.size_append]; omega)⟩
 ·rw [if_neg (show ¬ (toRR r).2.2.2.2.2.1 = true from hp)]
  simp only [if_neg hp]
  exact j2 _ (by omega)
theorem rlines_ok (h : RepF k L g f) (hk : k ≤ 1000) : ref30_Lines (L.map ofM, g) (linesB f) := by
 have hn1 := h.w.n1
 have hn2 := h.w.n2
 have hsl : (skeys f.1).length = f.1.length := by rw [(fskeys_perm _).length_eq, List.length_map]
 have hrl : ∀ n, (rlB f n).length ≤ 1001 := fun n => by have := rlB_len f n; omega
 have hbig : ∀ p : List Int, p.length ≤ 1000 → (p.flatMap (rlB f)).length ≤ 1001 * 1000 := by
  intro p hp
  have h1 := flat_len (g := rlB f) (N := 1001) p hrl
  have h3 : 1001 * p.length ≤ 1001 * 1000 := Nat.mul_le_mul_left _ hp
  omega
 have key : ∀ (r pre : List Int), skeys f.1 = pre ++ r → Loops (ref30_Lines_l4 (L.map ofM, g) (skeys f.1)) (pre.flatMap (rlB f), (pre.length : Int)) ((skeys f.1).flatMap (rlB f)) := by
  intro r
  induction r with
  | nil =>
   intro pre e
   refine .done ?_
   unfold ref30_Lines_l4
   rw [if_neg (by rw [e]; simp)]
   rw [e, List.append_nil]
  | cons n r ih =>
   intro pre e
   have hpl : pre.length < (skeys f.1).length := by rw [e]; simp
   have hx : idx (skeys f.1) (pre.length : Int) n := ⟨by omega, by rw [e]; simp⟩
   have hi := ih (pre ++ [n]) (by rw [e]; simp)
   have e1 : (pre ++ [n]).flatMap (rlB f) = pre.flatMap (rlB f) ++ rlB f n := by simp
   rw [e1] at hi
   have hb := hbig pre (by omega)
   refine .next ?_ hi
   rw [show (pre ++ [n]).length = pre.length + 1 by simp]
   exact rround_ok h hk hx _ (by omega) (by omega)
 refine ⟨_, rrobots_ok h hk, _, key (skeys f.1) [] rfl, ?_⟩
 refine ⟨_, rcon_ok h hk, linesB f, ?_, rfl⟩
 have hP := hbig (skeys f.1) (by omega)
 have hcm := fun c hc => h.w.conM (c := c) hc
 have hcl : (conB f).length ≤ 40000 := by
  have h1 : (conB f).length = (conT f.2).length := List.length_mergeSort _
  have h2 : (conT f.2).length ≤ (nub (allC f.2)).length := List.length_filter_le _ _
  have h3 := nub_len (allC f.2)
  have h4 := h.w.allC
  omega
 unfold linesB
 generalize (skeys f.1).flatMap (rlB f) = P at *
 generalize conB f = C at *
 have key2 : ∀ (l pre : List (Int × Int)), C = pre ++ l → Loops (ref30_Lines_l3 (C.map c2)) (P ++ pre.map (fun c => lnB (bstr [99, 111, 110, 116, 101, 115, 116, 101, 100]) [c.1, c.2]), (pre.length : Int)) (P ++ C.map fun c => lnB (bstr [99, 111, 110, 116, 101, 115, 116, 101, 100]) [c.1, c.2]) := by
  intro l
  induction l with
  | nil =>
   intro pre e
   refine .done ?_
   unfold ref30_Lines_l3
   rw [if_neg (by rw [e]; simp)]
   rw [e]; simp
  | cons c l ih =>
   intro pre e
   have hx : idx (C.map c2) (pre.length : Int) (c2 c) := ⟨by omega, by rw [e]; simp⟩
   have hpl : pre.length < C.length := by rw [e]; simp
   obtain ⟨c1, c2'⟩ := hcm c (by rw [e]; simp)
   refine .next (s' := (P ++ (pre ++ [c]).map (fun c => lnB (bstr [99, 111, 110, 116, 101, 115, 116, 101, 100]) [c.1, c.2]), ((pre ++ [c]).length : Int))) ?_ (ih (pre ++ [c]) (by rw [e]; simp))
   unfold ref30_Lines_l3
   rw [if_pos (by simpa using hpl)]
   refine ⟨c2 c, hx, c2 c, hx, _, frline_ok (l := [(c2 c).getD 0 0, (c2 c).getD 1 0]) (two_ok c1 c2') (by rw [size_bstr]; decide) (by simp), ?_, ?_, ?_⟩
   ·simp only [List.length_append, List.length_map, List.length_cons, List.length_nil]; omega
   ·simp only [List.length_append, List.length_map, List.length_cons, List.length_nil]; omega
   ·simp only
    rw [w_small (by omega) (by omega)]; simp [c2]
 have := key2 C [] rfl
 simpa using this
end rep
end Go.Rel
/-! Plain law: FleetPlays. -/
namespace Go.Rel
open Go Go.Eng Go.Pl

/-! ### What is right of a right grant -/
theorem cells_rise {l : List Int} (h : cellsL l = 0) : ∀ k, 0 < k → k < l.length → l.getD (k - 1) 0 < l.getD k 0 := by
 have hb : ∀ k, k < l.length → cellsBad l k = none := by
  unfold cellsL firstE at h
  cases hs : (List.range l.length).findSome? (cellsBad l) with
  | none =>
   intro k hk
   exact List.findSome?_eq_none_iff.1 hs k (List.mem_range.2 hk)
  | some e =>
   rw [hs] at h
   have h : e = 0 := h
   subst h
   obtain ⟨k, _, hk⟩ := List.exists_of_findSome?_eq_some hs
   unfold cellsBad at hk
   split at hk
   ·cases hk
   ·split at hk <;> cases hk
 intro k h0 hk
 have := hb k hk
 unfold cellsBad at this
 split at this
 ·cases this
 ·split at this
  ·cases this
  ·rename_i hn; omega
theorem cells_nodup {l : List Int} (h : cellsL l = 0) : l.Nodup := by
 have hr := cells_rise h
 have key : ∀ d i, i + d + 1 < l.length → l.getD i 0 < l.getD (i + d + 1) 0 := by
  intro d
  induction d with
  | zero => intro i hi; exact hr (i + 1) (by omega) hi
  | succ d ih =>
   intro i hi
   have h1 := ih i (by omega)
   have h2 := hr (i + d + 2) (by omega) (by omega)
   rw [show i + d + 2 - 1 = i + d + 1 by omega] at h2
   rw [show i + (d + 1) + 1 = i + d + 2 by omega]; omega
 refine List.nodup_iff_pairwise_ne.2 (List.pairwise_iff_getElem.2 (fun i j hi hj hij => ?_))
 have := key (j - i - 1) i (by omega)
 rw [show i + (j - i - 1) + 1 = j by omega] at this
 simp only [List.getD_eq_getElem?_getD, List.getElem?_eq_getElem hi, List.getElem?_eq_getElem hj, Option.getD_some] at this
 omega
theorem grant_ok {m : Mg} (hc : checkB m = 0) (h3 : m.1 = 3) : m.2.2.2.1 ≠ [] ∧ m.2.2.2.1.Nodup := by
 have h1 := firstW_zero (check_first hc).2 ((bstr [99, 101, 108, 108, 115]), 4, (-1), 1, 32, 1, 0) (by rw [h3]; simp [fieldsB])
 unfold wrongB at h1
 rw [if_neg (by decide), if_pos rfl] at h1
 have h1 : cellsB m.2.2.2.1 1 32 = 0 := h1
 unfold cellsB at h1
 by_cases h2 : manyB m.2.2.2.1.length 1 32 = 0
 ·rw [if_pos h2] at h1
  refine ⟨fun e => ?_, cells_nodup h1⟩
  have := (manyB_zero h2).1
  rw [e] at this; simp at this
 ·rw [if_neg h2] at h1; exact absurd h1 h2
theorem mput_perm {K V : Type} [DecidableEq K] (a : K) (q : V) : ∀ {m : List (K × V)}, (m.map (·.1)).Nodup → (mput m a q).Perm ((a, q) :: mdel m a)
 | [], _ => by simp [mput, mdel]
 | p :: m, h => by
  rw [List.map_cons, List.nodup_cons] at h
  simp only [mput]
  by_cases e : a = p.1
  ·rw [if_pos e]
   have : mdel (p :: m) a = m := by
    unfold mdel
    rw [List.filter_cons_of_neg (by simp [e])]
    refine List.filter_eq_self.2 (fun q hq => ?_)
    rw [decide_eq_true_eq]
    exact fun e2 => h.1 (by rw [← e, ← e2]; exact List.mem_map_of_mem hq)
   rw [this]
  ·rw [if_neg e]
   have : mdel (p :: m) a = p :: mdel m a := by
    unfold mdel
    rw [List.filter_cons_of_pos (by rw [decide_eq_true_eq]; exact fun e2 => e e2.symm)]
   rw [this]
   exact (List.Perm.cons p (mput_perm a q h.2)).trans (List.Perm.swap _ _ _)
theorem gm_filter (g : List Gr) (x : Gr) : gm (g.filter fun y => decide ((y.1, y.2.1) ≠ (x.1, x.2.1))) = mdel (gm g) (x.1, x.2.1) := by
 unfold gm mdel
 rw [List.filter_map]; rfl
section rep
variable {k : Nat} {L : List Mg} {g : List Gr} {f : Fl}
theorem RepF.up {n : Nat} (h : RepF k L g f) (hk : k ≤ n) : RepF n L g f := ⟨h.w.up hk, h.ck, Nat.le_trans h.lk hk, h.rob, h.gp, h.gc⟩
theorem RepF.zero : RepF 0 [] [] ([], []) := ⟨FlW.zero, (fun m hm => by cases hm), Nat.le_refl _, fun n => by simp [mget], .refl _, (fun x hx => by cases hx)⟩
theorem RepF.ap (h : RepF k L g f) {m : Mg} (hc : checkB m = 0) (hm : MW m) : RepF (k + 1) (L ++ [m]) (if m.1 = 3 then setG g (m.2.1.getD 0 0, m.2.1.getD 1 0, m.2.2.2.1) else g) (apB f m) := by
 have hv : valB m nmRobot = nM m := val_robot hc
 have hw := h.w.ap hm
 refine ⟨hw, fun x hx => ?_, by rw [List.length_append]; simp only [List.length_cons, List.length_nil]; have := h.lk; omega, fun n => ?_, ?_, ?_⟩
 ·rcases List.mem_append.1 hx with hx | hx
  ·exact h.ck x hx
  ·rw [List.mem_singleton] at hx; subst hx; exact ⟨hc, hm⟩
 ·show mget (mput f.1 (valB m nmRobot) (apR (Rel.robB f (valB m nmRobot)) m)) n = _
  rw [mg_put, hv, h.robB]
  by_cases hn : n = nM m
  ·rw [if_pos hn, if_pos (by rw [hn]; simp)]
   subst hn
   unfold rbF
   rw [List.filter_append, List.filter_cons_of_pos (by simp), List.filter_nil, List.foldl_append]; rfl
  ·rw [if_neg hn, h.rob]
   have e : rbF (L ++ [m]) n = rbF L n := by
    unfold rbF
    rw [List.filter_append, List.filter_cons_of_neg (by simpa using fun e => hn e.symm), List.filter_nil, List.append_nil]
   rw [e]
   by_cases hl : n ∈ L.map nM
   ·rw [if_pos hl, if_pos (by rw [List.map_append]; exact List.mem_append_left _ hl)]
   ·rw [if_neg hl, if_neg (by
     rw [List.map_append, List.mem_append]
     rintro (a | a)
     ·exact hl a
     ·simp at a; exact hn a)]
 ·show (apL f.2 m).Perm _
  unfold apL
  by_cases h3 : m.1 = 3
  ·rw [if_pos h3, if_pos h3, hv, show valB m nmZone = m.2.1.getD 1 0 from val_at (i := 1) h3 rfl rfl rfl]
   obtain ⟨hne, _⟩ := grant_ok hc h3
   have hlen : 0 < m.2.2.2.1.length := List.length_pos_iff.2 hne
   have e : gm (setG g (m.2.1.getD 0 0, m.2.1.getD 1 0, m.2.2.2.1)) = mdel (gm g) (m.2.1.getD 0 0, m.2.1.getD 1 0) ++ [((m.2.1.getD 0 0, m.2.1.getD 1 0), m.2.2.2.1)] := by
    unfold setG
    rw [if_pos hlen]
    have := gm_filter g (m.2.1.getD 0 0, m.2.1.getD 1 0, m.2.2.2.1)
    rw [← this]
    unfold gm; rw [List.map_append]; rfl
   rw [e]
   refine (mput_perm _ _ h.w.k2).trans ?_
   refine (List.Perm.cons _ (h.gp.filter _)).trans ?_
   exact (List.perm_append_singleton _ _).symm
  ·rw [if_neg h3, if_neg h3]; exact h.gp
 ·have old : ∀ x ∈ g, x.2.2 ≠ [] ∧ x.2.2.Nodup ∧ x.1 ∈ (L ++ [m]).map nM := fun x hx => by
   obtain ⟨a, b, c⟩ := h.gc x hx
   exact ⟨a, b, by rw [List.map_append]; exact List.mem_append_left _ c⟩
  intro x hx
  by_cases h3 : m.1 = 3
  ·rw [if_pos h3] at hx
   unfold setG at hx
   rcases List.mem_append.1 hx with hx | hx
   ·exact old x (List.mem_filter.1 hx).1
   ·obtain ⟨hne, hnd⟩ := grant_ok hc h3
    rw [if_pos (List.length_pos_iff.2 hne), List.mem_singleton] at hx
    subst hx
    exact ⟨hne, hnd, by rw [List.map_append]; exact List.mem_append_right _ (by simp [nM])⟩
  ·rw [if_neg h3] at hx; exact old x hx
theorem FlW.del (h : FlW k f) (a : Int × Int) : FlW k (f.1, mdel f.2 a) :=
 ⟨h.k1, mdel_nodup _ h.k2, h.n1, Nat.le_trans (List.length_filter_le _ _) h.n2, h.r1, fun p hp => h.r2 p (List.mem_filter.1 hp).1⟩
theorem setG_nil (g : List Gr) (a z : Int) : gm (setG g (a, z, [])) = mdel (gm g) (a, z) := by
 unfold setG
 rw [if_neg (by simp), List.append_nil]
 exact gm_filter g (a, z, [])
theorem RepF.del (h : RepF k L g f) (a z : Int) : RepF k L (setG g (a, z, [])) (f.1, mdel f.2 (a, z)) := by
 refine ⟨h.w.del _, h.ck, h.lk, h.rob, ?_, fun x hx => ?_⟩
 ·rw [setG_nil]; exact h.gp.filter _
 ·unfold setG at hx
  rw [if_neg (by simp), List.append_nil] at hx
  exact h.gc x (List.mem_filter.1 hx).1
theorem RepF.keep (h : RepF k L g f) (a z : Int) (h0 : mget f.2 (a, z) = none) : RepF k L (setG g (a, z, [])) f := by
 have := h.del a z
 have e : mdel f.2 (a, z) = f.2 := by
  unfold mdel
  refine List.filter_eq_self.2 (fun p hp => ?_)
  rw [decide_eq_true_eq]
  intro e
  have := mget_of_mem h.w.k2 hp
  rw [e, h0] at this; cases this
 rw [e] at this
 exact this
theorem rapply_ok (h : RepF k L g f) (hk : k ≤ 1000) {m : Mg} (hm : MW m) (hd : m.2.2.2.2.1.size < 1000000) (hg : m.2.2.2.2.2.size < 1000000) :
    ∃ L' g', RepF (k + 1) L' g' (stF f m) ∧ ref30_Apply (L.map ofM, g) (ofM m) ((L'.map ofM, g'), decide (checkB m = 0)) := by
  have hlk := h.lk
  have hgl := h.gl
  have hr := rcheck_ok (m := m) (by have := hm.path; omega) (by have := hm.cells; omega) (by omega) (by omega)
  by_cases hc : checkB m = 0
  · have e : stF f m = apB f m := by unfold stF; rw [if_pos hc]
    rw [e]
    refine ⟨_, _, h.ap hc hm, _, hr, ?_⟩
    have hlm : (L.map ofM).length = L.length := List.length_map _
    rw [if_neg (by simp [hc])]
    refine ⟨by simp only [List.length_nil, List.length_map]; omega, by simp only [List.length_nil, List.length_map]; omega, by simp only [List.length_append, List.length_nil, List.length_cons, List.length_map]; omega, by simp only [List.length_append, List.length_nil, List.length_cons, List.length_map]; omega, ?_⟩
    rw [decide_eq_true hc]
    have hm1 : (ofM m).1 = m.1 := rfl
    rw [hm1]
    by_cases h3 : m.1 = 3
    · rw [if_pos (by simpa using h3), if_pos h3]
      refine ⟨_, rset_ok _ g (m.2.1.getD 0 0, m.2.1.getD 1 0, m.2.2.2.1) (by omega), ?_⟩
      unfold ref30_Apply_j1
      simp
    · rw [if_neg (by simpa using h3), if_neg h3]
      unfold ref30_Apply_j1
      simp
  · have e : stF f m = f := by unfold stF; rw [if_neg hc]
    rw [e]
    refine ⟨L, g, h.up (by omega), _, hr, ?_⟩
    rw [if_pos (by simp [hc]), decide_eq_false hc]
theorem rrelease_ok (h : RepF k L g f) (hk : k ≤ 1000) (a z : Int) : ∃ g' f' b, RepF k L g' f' ∧ fleet_Fleet_Release f a z (b, f') ∧ ref30_Release (L.map ofM, g) a z ((L.map ofM, g'), b) := by
 have hgl := h.gl
 have hc := frcells_ok g (L.map ofM) a z (by omega)
 rw [← h.cel] at hc
 have hs := rset_ok (L.map ofM) g (a, z, []) (by omega)
 cases hg : mget f.2 (a, z) with
 | none =>
  rw [hg] at hc
  refine ⟨_, f, false, h.keep a z hg, ?_, _, hc, _, hs, by simp⟩
  unfold fleet_Fleet_Release
  rw [hg, if_pos (by simp)]
 | some l =>
  rw [hg] at hc
  have hne := (h.mem2 (mem_of_mget hg)).1
  have hlen : 0 < l.length := List.length_pos_iff.2 hne
  refine ⟨_, (f.1, mdel f.2 (a, z)), true, h.del a z, ?_, _, hc, _, hs, by simp [hlen]⟩
  unfold fleet_Fleet_Release
  rw [hg, if_neg (by simp; omega)]
theorem rel_any (f : Fl) (a z : Int) : ∃ r, fleet_Fleet_Release f a z r := by
 unfold fleet_Fleet_Release
 by_cases hh : (false || (decide ((((mget f.2 (a, z)).getD []).length : Int) = 0))) = true
 ·exact ⟨_, by rw [if_pos hh]⟩
 ·exact ⟨_, by rw [if_neg hh]⟩
theorem alike_ok (h : RepF k L g f) (hk : k ≤ 1000) : law30_Alike f (L.map ofM, g) true := by
 have hn1 := h.w.n1
 have hsl : (skeys f.1).length = f.1.length := by rw [(fskeys_perm _).length_eq, List.length_map]
 have hrun : RunB (law30_Alike_l1 f (L.map ofM, g) (skeys f.1)) (skeys f.1) (0, true) (.inl (((skeys f.1).length : Int), true)) := by
  obtain ⟨t, h1, h2⟩ := runB_inv (E := Unit) (B := law30_Alike_l1 f (L.map ofM, g) (skeys f.1)) (fun k s => s = ((k : Int), true)) (fun _ => False) (skeys f.1) (s := (0, true)) rfl (fun i hi s hs => by
   subst hs
   refine .inl ⟨(((i + 1 : Nat) : Int), true), ?_, rfl⟩
   have hx := idx_of hi
   have hmem : (skeys f.1)[i] ∈ skeys f.1 := List.getElem_mem hi
   generalize (skeys f.1)[i] = n at hx hmem
   have hr := h.w.rob n
   have hrr := rrobot_ok h hk n
   rw [← h.robB n] at hrr
   have hs : (mget f.1 n).isSome = true := by rw [h.rob, if_pos ((h.keys n).1 hmem)]; rfl
   refine ⟨_, robot_ok (by have := hr.a8; omega), n, fun _ => hx, toRR (robB f n), fun _ => hrr, true, fun _ => robotR_ok hr.a8, ?_⟩
   rw [hs, w_small (by omega) (by omega)]
   simp [hi])
  rcases h2 with ⟨s', rfl, rfl⟩ | ⟨_, _, hf⟩
  ·exact h1
  ·exact hf.elim
 refine ⟨skeys f.1, rrobots_ok h hk, _, rfl, _, (), robots_itr (fun p hp => (h.w.r1 p hp).1) (by omega) _ _ _ _ (run_yof hrun), ?_⟩
 have hll := linesB_len h.w hk
 refine ⟨_, rcon_ok h hk, _, h.w.con hk, linesB f, fun _ => lines_ok h.w hk, linesB f, fun _ => rlines_ok h hk, true, fun _ => flines_ok (by omega), ?_⟩
 rw [if_neg (by simp)]
 refine ⟨.inl (), ?_, rfl⟩
 have hcl : (conB f).length ≤ 40000 := by
  have h1 : (conB f).length = (conT f.2).length := List.length_mergeSort _
  have h2 : (conT f.2).length ≤ (nub (allC f.2)).length := List.length_filter_le _ _
  have h3 := nub_len (allC f.2)
  have h4 := h.w.allC
  omega
 have hown := fun c => owners_ok h.w hk c
 have hrow := fun z n => rowners_ok h hk z n
 have hol : ∀ c, (ownB f c).length ≤ 1000 := by
  intro c
  have : (ownB f c).length ≤ (skeys f.1).length := List.length_filter_le _ _
  omega
 generalize conB f = C at *
 refine loops_count (step := law30_Alike_l3 f (L.map ofM, g) (C.map c2) C) (fun k => (k : Int)) C.length (fun i hi => ?_) ?_
 ·have hx := idx_of hi
  have hy : idx (C.map c2) (i : Int) (c2 C[i]) := ⟨by omega, by simp [hi]⟩
  generalize C[i] = c at hx hy
  have e1 : (c2 c).getD 0 0 = c.1 := rfl
  have e2 : (c2 c).getD 1 0 = c.2 := rfl
  unfold law30_Alike_l3
  rw [if_pos (by simpa using hi)]
  refine ⟨c, hx, c2 c, hy, c, fun _ => hx, c2 c, fun _ => hy, c, fun _ => hx, ownB f c, fun _ => hown c, c2 c, fun _ => hy, c2 c, fun _ => hy, ownB f c, fun _ => hrow c.1 c.2, true, fun _ => ?_, ?_⟩
  ·have := ints_ok (a := ownB f c) (b := ownB f c) (by have := hol c; omega)
   simpa using this
  ·rw [e1, e2, if_neg (by simp), w_small (by omega) (by omega)]; rfl
 ·unfold law30_Alike_l3
  rw [if_neg (by simp)]
theorem in_ok (a : Int) (q : Int × Int × Int × Int × Mg) (hq : q.2.1 = a) (R : List Int) (hR : R.length < 1000000) : Loops (law30_FleetPlays_l6 q R) (false, 0) (decide (a ∈ R)) := by
 have key : ∀ (r pre : List Int), R = pre ++ r → Loops (law30_FleetPlays_l6 q R) (decide (a ∈ pre), (pre.length : Int)) (decide (a ∈ R)) := by
  intro r
  induction r with
  | nil =>
   intro pre e
   refine .done ?_
   unfold law30_FleetPlays_l6
   rw [if_neg (by rw [e]; simp)]
   rw [e, List.append_nil]
  | cons n r ih =>
   intro pre e
   have hpl : pre.length < R.length := by rw [e]; simp
   have hx : idx R (pre.length : Int) n := ⟨by omega, by rw [e]; simp⟩
   refine .next (s' := (decide (a ∈ pre ++ [n]), ((pre ++ [n]).length : Int))) ?_ (ih (pre ++ [n]) (by rw [e]; simp))
   unfold law30_FleetPlays_l6
   rw [if_pos (by simpa using hpl)]
   refine ⟨n, fun _ => hx, ?_⟩
   rw [w_small (by omega) (by omega), hq]
   have : decide (a ∈ pre ++ [n]) = (decide (a ∈ pre) || decide (n = a)) := by
    by_cases h1 : a ∈ pre
    ·simp [h1]
    ·by_cases h2 : a = n
     ·simp [h2]
     ·simp [h1, h2, Ne.symm h2]
   rw [this]; simp
 exact key R [] rfl
theorem told_ok (h : RepF k L g f) (hk : k ≤ 1000) (s : Fl × Int × List Mr × List Gr) (q : Int × Int × Int × Int × Mg) {i : Nat} (hi : s.2.1 = (i : Int)) (hi2 : i < 1000) :
    law30_FleetPlays_j4 s q (f, L.map ofM, g) (.inl (f, ((i + 1 : Nat) : Int), L.map ofM, g)) := by
  have hgl := h.gl
  have hr := h.w.rob q.2.1
  have hrr := rrobot_ok h hk q.2.1
  rw [← h.robB] at hrr
  have hn1 := h.w.n1
  have hsl : (skeys f.1).length = f.1.length := by rw [(fskeys_perm _).length_eq, List.length_map]
  have hin : (mget f.1 q.2.1).isSome = decide (q.2.1 ∈ skeys f.1) := by
    rw [h.rob]
    by_cases e : q.2.1 ∈ skeys f.1
    · rw [if_pos ((h.keys _).1 e), decide_eq_true e]; rfl
    · rw [if_neg (fun e2 => e ((h.keys _).2 e2)), decide_eq_false e]; rfl
  obtain ⟨hc1, _⟩ := h.w.cells (q.2.1, q.2.2.1)
  have hce := frcells_ok g (L.map ofM) q.2.1 q.2.2.1 (by omega)
  rw [← h.cel] at hce
  have hol : ∀ c, (ownB f c).length ≤ 1000 := by
    intro c
    have : (ownB f c).length ≤ (skeys f.1).length := List.length_filter_le _ _
    omega
  refine ⟨_, robot_ok (f := f) (n := q.2.1) (by have := hr.a8; omega), _, rrobots_ok h hk, _, in_ok q.2.1 q rfl _ (by omega), ?_⟩
  unfold law30_FleetPlays_j5
  refine ⟨true, fun _ => alike_ok h hk, _, fun _ => hrr, true, fun _ => robotR_ok hr.a8, _, fun _ => ⟨_, cloneI_ok (l := (mget f.2 (q.2.1, q.2.2.1)).getD []) (by omega), rfl⟩, _, fun _ => hce, true, fun _ => ?_, _, fun _ => owners_ok h.w hk _, _, fun _ => rowners_ok h hk _ _, true, fun _ => ?_, ?_⟩
  · have := ints_ok (a := (mget f.2 (q.2.1, q.2.2.1)).getD []) (b := (mget f.2 (q.2.1, q.2.2.1)).getD []) (by omega)
    simpa using this
  · have := ints_ok (a := ownB f (q.2.2.1, q.2.2.2.1)) (b := ownB f (q.2.2.1, q.2.2.2.1)) (by have := hol (q.2.2.1, q.2.2.2.1); omega)
    simpa using this
  · rw [hin, if_neg (by simp), hi, w_small (by omega) (by omega)]; rfl
end rep
theorem fleetPlays_true (acts : List (Int × Int × Int × Int × Mg)) (hl : ∀ q ∈ acts, (∀ x ∈ q.2.2.2.2.2.1, IntOk .i64 x) ∧ ∀ x ∈ q.2.2.2.2.2.2.2.1, IntOk .i64 x) : law30_FleetPlays acts true := by
 refine ⟨([], []), rfl, ?_⟩
 have hmain : ∃ e : Sum Unit Bool, Loops (law30_FleetPlays_l2 acts) (([], []), 0, [], []) e ∧ e = .inl () := by
  refine loops_inv (fun (k : Nat) (s : Fl × Int × List Mr × List Gr) => ∃ L g, RepF k L g s.1 ∧ s.2 = ((k : Int), L.map ofM, g)) (fun e : Sum Unit Bool => e = .inl ()) (min acts.length 20) ⟨[], [], RepF.zero, rfl⟩ ?_ ?_
  ·rintro k ⟨f, s2⟩ hk ⟨L, g, hf, hs⟩
   have hs : s2 = ((k : Int), L.map ofM, g) := hs
   subst hs
   have hf : RepF k L g f := hf
   refine .inl ?_
   have hkl : k < acts.length := by omega
   have hk2 : k < 20 := by omega
   have hx : idx acts (k : Int) acts[k] := idx_of hkl
   obtain ⟨hq1, hq2⟩ := hl acts[k] (List.getElem_mem hkl)
   generalize acts[k] = q at hx hq1 hq2
   have hm : MW (cutM q.2.2.2.2) := cutM_w hq1 hq2
   have ht1 : (cutM q.2.2.2.2).2.2.2.2.1.size < 1000000 := by
    have : (cutM q.2.2.2.2).2.2.2.2.1.size ≤ 80 := by show (ByteArray.extract _ 0 80).size ≤ 80; rw [ByteArray.size_extract]; omega
    omega
   have ht2 : (cutM q.2.2.2.2).2.2.2.2.2.size < 1000000 := by
    have : (cutM q.2.2.2.2).2.2.2.2.2.size ≤ 80 := by show (ByteArray.extract _ 0 80).size ≤ 80; rw [ByteArray.size_extract]; omega
    omega
   have hcm := cut_ok q.2.2.2.2
   generalize cutM q.2.2.2.2 = m at *
   have hap := applyAll_ok f [m] (by simp) (by intro y hy; rw [List.mem_singleton] at hy; subst hy; exact ⟨by have := hm.path; omega, by have := hm.cells; omega⟩)
   have hs2 : ([m].foldl stepB (0, f)) = (if checkB m = 0 then 1 else 0, stF f m) := by
    simp only [List.foldl_cons, List.foldl_nil, stepB, stF]
    split <;> rfl
   rw [hs2] at hap
   unfold law30_FleetPlays_l2
   simp only [if_pos (show decide ((k : Int) < (acts.length : Int)) = true by simpa using hkl)]
   unfold law30_FleetPlays_j3
   simp only [if_pos (show decide ((k : Int) < 20) = true by simp; omega)]
   by_cases a0 : q.1 = 0
   ·obtain ⟨L', g', h1, h2⟩ := rapply_ok hf (by omega) hm ht1 ht2
    refine ⟨(stF f m, ((k + 1 : Nat) : Int), L'.map ofM, g'), ⟨q, hx, m, hcm, ?_⟩, L', g', h1, rfl⟩
    rw [if_pos (by simpa using a0)]
    refine ⟨ofM m, ofm_ok (by have := hm.path; omega), _, h2, _, hap, ?_⟩
    rw [if_neg (by by_cases hc : checkB m = 0 <;> simp [hc])]
    exact told_ok h1 (by omega) _ q rfl (by omega)
   by_cases a1 : q.1 = 1
   ·obtain ⟨g', f', b, h1, h2, h3⟩ := rrelease_ok hf (by omega) q.2.1 q.2.2.1
    refine ⟨(f', ((k + 1 : Nat) : Int), L.map ofM, g'), ⟨q, hx, m, hcm, ?_⟩, L, g', h1.up (by omega), rfl⟩
    rw [if_neg (by simpa using a0), if_pos (by simpa using a1)]
    refine ⟨_, h3, _, h2, ?_⟩
    rw [if_neg (by simp)]
    exact told_ok h1 (by omega) _ q rfl (by omega)
   refine ⟨(f, ((k + 1 : Nat) : Int), L.map ofM, g), ⟨q, hx, m, hcm, ?_⟩, L, g, hf.up (by omega), rfl⟩
   rw [if_neg (by simpa using a0), if_neg (by simpa using a1)]
   have htold := told_ok hf (by omega) (f, (k : Int), L.map ofM, g) q (i := k) rfl (by omega)
   by_cases a2 : q.1 = 2
   ·rw [if_pos (by simpa using a2)]
    obtain ⟨r, hr⟩ := rel_any (stF f m) q.2.1 q.2.2.1
    refine ⟨f, rfl, true, alike_ok hf (by omega), ?_⟩
    rw [if_neg (by decide)]
    refine ⟨true, Same_ok hf.w hf.w (FlEq.refl f), ?_⟩
    unfold law30_FleetPlays_j7
    rw [if_neg (by decide)]
    exact ⟨_, hap, r, hr, htold⟩
   ·rw [if_neg (by simpa using a2)]
    exact htold
  ·rintro ⟨f, s2⟩ ⟨L, g, _, hs⟩
   have hs : s2 = (((min acts.length 20 : Nat) : Int), L.map ofM, g) := hs
   subst hs
   refine ⟨_, ?_, rfl⟩
   unfold law30_FleetPlays_l2
   by_cases h : acts.length ≤ 20
   ·rw [if_neg (by simp only [decide_eq_true_eq]; omega)]
    unfold law30_FleetPlays_j3
    rw [if_neg (by decide)]
   ·rw [if_pos (by simp only [decide_eq_true_eq]; omega)]
    unfold law30_FleetPlays_j3
    rw [if_neg (by simp only [decide_eq_true_eq]; omega)]
 obtain ⟨e, he, rfl⟩ := hmain
 exact ⟨.inl (), he, true, known30_ok, rfl⟩
theorem fleetPlays_claim {acts : List (Int × Int × Int × Int × Mg)} (_h0 : ListOk (fun q : Int × Int × Int × Int × Mg => IntOk .i64 q.1 ∧ IntOk .i64 q.2.1 ∧ IntOk .i64 q.2.2.1 ∧ IntOk .i64 q.2.2.2.1 ∧ (IntOk .i64 q.2.2.2.2.1 ∧ (q.2.2.2.2.2.1.length = 6 ∧ ∀ x ∈ q.2.2.2.2.2.1, IntOk .i64 x) ∧ ListOk (fun p : Int × Int => IntOk .i64 p.1 ∧ IntOk .i64 p.2) q.2.2.2.2.2.2.1 ∧ ListOk (IntOk .i64) q.2.2.2.2.2.2.2.1 ∧ StrOk q.2.2.2.2.2.2.2.2.1 ∧ StrOk q.2.2.2.2.2.2.2.2.2)) acts) : law30_FleetPlays acts true :=
 fleetPlays_true acts (fun q hq => ⟨(_h0.1 q hq).2.2.2.2.2.1.2, (_h0.1 q hq).2.2.2.2.2.2.2.1.1⟩)
end Go.Rel
