import Derived.Test.YtonmgcebhhdplabDoorPlM1
/-! Plain laws: fleets: what keeps them right; which are the same. -/
namespace Go.Rel
open Go Go.Eng Go.Pl

theorem flines_ok {l : List ByteArray} (hl : l.length < 4611686018427387904) : law25_Lines l l true := by
  unfold law25_Lines
  rw [if_neg (by simp)]
  refine ⟨.inl (), loops_count (step := law25_Lines_l2 l l) (fun k => (k : Int)) l.length (fun k hk => ?_) ?_, rfl⟩
  · unfold law25_Lines_l2
    rw [if_pos (by simpa using hk)]
    refine ⟨l[k], idx_of hk, l[k], idx_of hk, ?_⟩
    rw [if_neg (by simp), w_small (by omega) (by omega)]; rfl
  · unfold law25_Lines_l2
    rw [if_neg (by simp)]
theorem linesB_len {k : Nat} {f : Fl} (h : FlW k f) (hk : k ≤ 1000) : (linesB f).length < 1100000 := by
  have hn1 := h.n1
  have hn2 := h.n2
  have hsl : (skeys f.1).length = f.1.length := by rw [(fskeys_perm _).length_eq, List.length_map]
  have hrl : ∀ n, (rlB f n).length ≤ 1001 := fun n => by have := rlB_len f n; omega
  have h1 := flat_len (g := rlB f) (N := 1001) (skeys f.1) hrl
  have h3 : 1001 * (skeys f.1).length ≤ 1001 * 1000 := Nat.mul_le_mul_left _ (by omega)
  have h2 : (conB f).length = (conT f.2).length := List.length_mergeSort _
  have h4 : (conT f.2).length ≤ (nub (allC f.2)).length := List.length_filter_le _ _
  have h5 := nub_len (allC f.2)
  have h6 := h.allC
  unfold linesB
  rw [List.length_append, List.length_map]; omega
/-! ### What messages leave -/
structure MW (m : Mg) : Prop where
  num : ∀ x ∈ m.2.1, IntOk .i64 x
  path : m.2.2.1.length ≤ 40
  cells : m.2.2.2.1.length ≤ 40
  cell : ∀ q ∈ m.2.2.2.1, IntOk .i64 q
theorem cutM_w {m : Mg} (h1 : ∀ x ∈ m.2.1, IntOk .i64 x) (h2 : ∀ q ∈ m.2.2.2.1, IntOk .i64 q) : MW (cutM m) :=
  ⟨h1, by simp [cutM]; omega, by simp [cutM]; omega, fun q hq => h2 q (List.mem_of_mem_take hq)⟩
theorem MW.val {m : Mg} (h : MW m) (a : ByteArray) : IntOk .i64 (valB m a) := by
  unfold valB valF
  split
  · rw [List.getD_eq_getElem?_getD]
    cases hg : m.2.1[(findF a (fieldsB m.1)).2.2.1.toNat]? with
    | none => exact ok0
    | some x => exact h.num x (List.mem_of_getElem? hg)
  · exact ok0
theorem wrap_ok (n : Int) : IntOk .i64 (IntKind.i64.wrap n) := by
  rw [w_i64]
  exact ⟨by show (-9223372036854775808 : Int) ≤ _; omega, by show _ ≤ (9223372036854775807 : Int); omega⟩
theorem apR_ok {r : Rb} {m : Mg} (hr : RbOk r) (hm : MW m) : RbOk (apR r m) := by
  have v := fun a => hm.val a
  unfold apR
  split
  · exact ⟨hr.a1, hr.a2, hr.a3, hr.a4, hr.a5, ok0, ok0, hm.path, hr.a9, hr.a10⟩
  split
  · exact ⟨hr.a1, hr.a2, hr.a3, hr.a4, hr.a5, v _, v _, by show 0 ≤ 40; omega, hr.a9, hr.a10⟩
  split
  · exact hr
  split
  · exact ⟨v _, v _, v _, v _, v _, hr.a6, hr.a7, hr.a8, hr.a9, hr.a10⟩
  split
  · exact ⟨hr.a1, hr.a2, hr.a3, hr.a4, hr.a5, hr.a6, hr.a7, hr.a8, wrap_ok _, v _⟩
  · exact hr
theorem mem_mput {K V : Type} [DecidableEq K] {a : K} {q : V} {p : K × V} : ∀ {m : List (K × V)}, p ∈ mput m a q → p = (a, q) ∨ p ∈ m
  | [], h => by simp only [mput, List.mem_singleton] at h; exact .inl h
  | x :: m, h => by
    simp only [mput] at h
    split at h
    · rcases List.mem_cons.1 h with h | h
      · exact .inl h
      · exact .inr (List.mem_cons_of_mem _ h)
    · rcases List.mem_cons.1 h with h | h
      · exact .inr (h ▸ List.mem_cons_self)
      · exact (mem_mput h).imp id (List.mem_cons_of_mem _)
theorem mput_len {K V : Type} [DecidableEq K] {a : K} {q : V} : ∀ (m : List (K × V)), (mput m a q).length ≤ m.length + 1
  | [] => by simp [mput]
  | x :: m => by
    have := mput_len (a := a) (q := q) m
    simp only [mput]
    split <;> simp only [List.length_cons] <;> omega
theorem FlW.up {k n : Nat} {f : Fl} (h : FlW k f) (hk : k ≤ n) : FlW n f := ⟨h.k1, h.k2, Nat.le_trans h.n1 hk, Nat.le_trans h.n2 hk, h.r1, h.r2⟩
theorem FlW.zero : FlW 0 ([], []) := ⟨.nil, .nil, Nat.le_refl _, Nat.le_refl _, (fun p hp => by cases hp), (fun p hp => by cases hp)⟩
theorem FlW.ap {k : Nat} {f : Fl} (h : FlW k f) {m : Mg} (hm : MW m) : FlW (k + 1) (apB f m) := by
  have hv := hm.val
  have h1 := h.n1
  have h2 := h.n2
  refine ⟨mput_nodup _ _ h.k1, ?_, ?_, ?_, ?_, ?_⟩
  · show ((apL f.2 m).map (·.1)).Nodup
    unfold apL; split
    · exact mput_nodup _ _ h.k2
    · exact h.k2
  · show (mput f.1 _ _).length ≤ _
    have := mput_len (a := valB m nmRobot) (q := apR (robB f (valB m nmRobot)) m) f.1
    omega
  · show (apL f.2 m).length ≤ _
    unfold apL; split
    · have := mput_len (a := (valB m nmRobot, valB m nmZone)) (q := m.2.2.2.1) f.2
      omega
    · omega
  · intro p hp
    rcases mem_mput (show p ∈ mput f.1 _ _ from hp) with rfl | hp
    · exact ⟨hv _, apR_ok (h.rob _) hm⟩
    · exact h.r1 p hp
  · intro p hp
    have hp : p ∈ apL f.2 m := hp
    unfold apL at hp
    split at hp
    · rcases mem_mput hp with rfl | hp
      · exact ⟨hv _, hv _, hm.cells, hm.cell⟩
      · exact h.r2 p hp
    · exact h.r2 p hp
def stF (f : Fl) (m : Mg) : Fl := if checkB m = 0 then apB f m else f
theorem FlW.st {k : Nat} {f : Fl} (h : FlW k f) {m : Mg} (hm : MW m) : FlW (k + 1) (stF f m) := by
  unfold stF; split
  · exact h.ap hm
  · exact h.up (by omega)
theorem FlW.fold : ∀ {l : List Mg} {k : Nat} {f : Fl}, FlW k f → (∀ m ∈ l, MW m) → FlW (k + l.length) (l.foldl stF f)
  | [], _, _, h, _ => h
  | m :: l, k, f, h, hm => by
    have := FlW.fold (h.st (hm m List.mem_cons_self)) (fun x hx => hm x (List.mem_cons_of_mem _ hx))
    rw [List.length_cons, show k + (l.length + 1) = k + 1 + l.length by omega]; exact this
theorem fold_snd : ∀ (l : List Mg) (s : Int × Fl), (l.foldl stepB s).2 = l.foldl stF s.2
  | [], _ => rfl
  | m :: l, s => by
    rw [List.foldl_cons, List.foldl_cons, fold_snd l]
    unfold stepB stF; split <;> rfl
theorem fold_fst : ∀ (l : List Mg) (s : Int × Fl), s.1 ≤ (l.foldl stepB s).1 ∧ (l.foldl stepB s).1 ≤ s.1 + l.length
  | [], _ => by simp
  | m :: l, s => by
    have h := fold_fst l (stepB s m)
    rw [List.foldl_cons, List.length_cons]
    have : (stepB s m).1 = s.1 ∨ (stepB s m).1 = s.1 + 1 := by
      unfold stepB; split
      · exact .inr rfl
      · exact .inl rfl
    omega
/-! ### One robot's part -/
def SameAt (n : Int) (a b : Fl) : Prop := mget a.1 n = mget b.1 n ∧ ∀ z, mget a.2 (n, z) = mget b.2 (n, z)
theorem SameAt.symm {n : Int} {a b : Fl} (h : SameAt n a b) : SameAt n b a := ⟨h.1.symm, fun z => (h.2 z).symm⟩
theorem SameAt.trans {n : Int} {a b c : Fl} (h : SameAt n a b) (h' : SameAt n b c) : SameAt n a c := ⟨h.1.trans h'.1, fun z => (h.2 z).trans (h'.2 z)⟩
theorem same_step {n : Int} {a b : Fl} (h : SameAt n a b) (m : Mg) : SameAt n (stF a m) (stF b m) := by
  obtain ⟨h1, h2⟩ := h
  unfold stF
  split
  · refine ⟨?_, fun z => ?_⟩
    · show mget (mput a.1 _ _) n = mget (mput b.1 _ _) n
      rw [mg_put, mg_put]
      by_cases e : n = valB m nmRobot
      · rw [if_pos e, if_pos e]
        have : robB a (valB m nmRobot) = robB b (valB m nmRobot) := by unfold robB; rw [← e, h1]
        rw [this]
      · rw [if_neg e, if_neg e]; exact h1
    · show mget (apL a.2 m) (n, z) = mget (apL b.2 m) (n, z)
      unfold apL
      split
      · rw [mg_put, mg_put]; split
        · rfl
        · exact h2 z
      · exact h2 z
  · exact ⟨h1, h2⟩
theorem same_skip {n : Int} {a : Fl} {m : Mg} (h : checkB m = 0 → valB m nmRobot ≠ n) : SameAt n (stF a m) a := by
  unfold stF
  split
  · rename_i hc
    have hne := h hc
    refine ⟨?_, fun z => ?_⟩
    · show mget (mput a.1 _ _) n = mget a.1 n
      rw [mg_put, if_neg (Ne.symm hne)]
    · show mget (apL a.2 m) (n, z) = mget a.2 (n, z)
      unfold apL
      split
      · rw [mg_put, if_neg (fun e => hne (Prod.mk.inj e).1.symm)]
      · rfl
  · exact ⟨rfl, fun _ => rfl⟩
theorem same_filter {n : Int} {Q : Mg → Bool} : ∀ (l : List Mg) {a b : Fl}, (∀ m ∈ l, checkB m = 0 → Q m = false → valB m nmRobot ≠ n) → SameAt n a b → SameAt n (l.foldl stF a) ((l.filter Q).foldl stF b)
  | [], _, _, _, h => h
  | m :: l, a, b, hq, h => by
    have hq' := fun x hx => hq x (List.mem_cons_of_mem m hx)
    by_cases e : Q m = true
    · rw [List.filter_cons_of_pos e, List.foldl_cons, List.foldl_cons]
      exact same_filter l hq' (same_step h m)
    · rw [List.filter_cons_of_neg e, List.foldl_cons]
      exact same_filter l hq' ((same_skip (fun hc => hq m List.mem_cons_self hc (by simpa using e))).trans h)
theorem same_none {n : Int} : ∀ (l : List Mg) {a : Fl}, (∀ m ∈ l, checkB m = 0 → valB m nmRobot ≠ n) → SameAt n (l.foldl stF a) a
  | [], _, _ => ⟨rfl, fun _ => rfl⟩
  | m :: l, _, h => (same_none l (fun x hx => h x (List.mem_cons_of_mem m hx))).trans (same_skip (h m List.mem_cons_self))
theorem flEq_of {k n : Nat} {a b : Fl} (ha : FlW k a) (hb : FlW n b) (h : ∀ i, SameAt i a b) : FlEq a b :=
  ⟨mperm ha.k1 hb.k1 (fun i => (h i).1), mperm ha.k2 hb.k2 (fun i => (h i.1).2 i.2), fun i => (h i).1, fun i => (h i.1).2 i.2⟩
theorem FlEq.refl (a : Fl) : FlEq a a := ⟨.refl _, .refl _, fun _ => rfl, fun _ => rfl⟩
/-! ### fleet.Same -/
theorem fsame_ok {r : Rb} (hr : RbOk r) : fleet_same r r true := by
  have h8 := hr.a8
  refine ⟨_, equalP_ok (a := r.2.2.2.2.2.2.2.2.2.1) (b := r.2.2.2.2.2.2.2.2.2.1) (by omega), ?_⟩
  rw [if_neg (by simp)]
  simp [fleet_same_j1]
theorem Same_ok {k n : Nat} {a b : Fl} (ha : FlW k a) (_hb : FlW n b) (h : FlEq a b) : fleet_Same a b true := by
  refine ⟨true, ?_, true, fun _ => ?_, rfl⟩
  · unfold maps_EqualFunc_map_int_fleet_Robot_map_int_fleet_Robot_int_fleet_Robot_fleet_Robot__fleet_same
    rw [if_neg (by simp [h.p1.length_eq])]
    refine loopsD_map (left := fun s : List (Int × Rb) => s) (Inv := fun s => ∀ p ∈ s, p ∈ a.1) ?_ ?_ _ (fun p hp => hp)
    · rintro s _ rfl
      exact ⟨.inl (), ⟨fun _ => rfl, (fun p h => by cases h)⟩, rfl⟩
    · intro s p hi hp
      have hm : mget b.1 p.1 = some p.2 := (h.g1 p.1).symm.trans (mget_of_mem ha.k1 (hi p hp))
      refine ⟨mdel s p.1, ⟨(fun h => by cases h), fun p' hp' => ?_⟩, fun q hq => hi q (List.mem_filter.1 hq).1, rfl⟩
      cases hp'
      rw [if_neg (by simp [hm]), hm]
      refine ⟨true, fsame_ok (ha.r1 p (hi p hp)).2, ?_⟩
      unfold maps_EqualFunc_map_int_fleet_Robot_map_int_fleet_Robot_int_fleet_Robot_fleet_Robot__fleet_same_j3
      rw [if_neg (by decide)]
  · unfold maps_EqualFunc_map_fleet_lot_int_map_fleet_lot_int_fleet_lot_int_int__slices_Equal_int_int
    rw [if_neg (by simp [h.p2.length_eq])]
    refine loopsD_map (left := fun s : List ((Int × Int) × List Int) => s) (Inv := fun s => ∀ p ∈ s, p ∈ a.2) ?_ ?_ _ (fun p hp => hp)
    · rintro s _ rfl
      exact ⟨.inl (), ⟨fun _ => rfl, (fun p h => by cases h)⟩, rfl⟩
    · intro s p hi hp
      have hm : mget b.2 p.1 = some p.2 := (h.g2 p.1).symm.trans (mget_of_mem ha.k2 (hi p hp))
      have h40 := (ha.r2 p (hi p hp)).2.2.1
      refine ⟨mdel s p.1, ⟨(fun h => by cases h), fun p' hp' => ?_⟩, fun q hq => hi q (List.mem_filter.1 hq).1, rfl⟩
      cases hp'
      rw [if_neg (by simp [hm]), hm]
      refine ⟨_, equalI_ok (a := p.2) (b := p.2) (by omega), ?_⟩
      unfold maps_EqualFunc_map_fleet_lot_int_map_fleet_lot_int_fleet_lot_int_int__slices_Equal_int_int_j3
      rw [if_neg (by simp)]
end Go.Rel
/-! Plain law: FleetOrder. -/
namespace Go.Rel
open Go Go.Eng Go.Pl

theorem filter_two {α : Type} (P : α → Bool) : ∀ l : List α, (l.filter P).length + (l.filter (fun m => !P m)).length = l.length
  | [] => rfl
  | x :: l => by
    have h := filter_two P l
    by_cases e : P x = true
    · rw [List.filter_cons_of_pos e, List.filter_cons_of_neg (by simp [e])]; simp only [List.length_cons]; omega
    · rw [List.filter_cons_of_neg e, List.filter_cons_of_pos (by simpa using e)]; simp only [List.length_cons]; omega
theorem app136 {n : Nat} (h : n ≤ 30) : (n + 1) * 136 ≤ 140737488355328 ∧ n + 1 ≤ 4611686018427387904 := by omega
theorem fleetOrder_true (l : List Mg) (first : Int) (hl : ∀ m ∈ l, (∀ x ∈ m.2.1, IntOk .i64 x) ∧ ∀ q ∈ m.2.2.2.1, IntOk .i64 q) : law30_FleetOrder l first true := by
  let L : List Mg := (l.take 30).map cutM
  let P : Mg → Bool := fun m => decide (m.2.1.getD 0 0 = first)
  have hLl : L.length ≤ 30 := by simp only [L, List.length_map, List.length_take]; omega
  have hLl2 : L.length ≤ l.length := by simp only [L, List.length_map, List.length_take]; omega
  have hMW : ∀ m ∈ L, MW m := by
    intro m hm
    obtain ⟨q, hq, rfl⟩ := List.mem_map.1 hm
    have := hl q (List.mem_of_mem_take hq)
    exact cutM_w this.1 this.2
  have hpc : ∀ m, MW m → m.2.2.1.length < 1099511627776 ∧ m.2.2.2.1.length < 1099511627776 := fun m h => ⟨by have := h.path; omega, by have := h.cells; omega⟩
  -- the rounds
  have hloop : Loops (law30_FleetOrder_l3 l first) ([], [], 0, [], []) (L.filter P, L.filter (fun m => !P m), (L.foldl stF ([], [])).1, (L.foldl stF ([], [])).2) := by
    have hN : L.length = min l.length 30 := by simp only [L, List.length_map, List.length_take]; omega
    have := loops_count (step := law30_FleetOrder_l3 l first) (e := (L.filter P, L.filter (fun m => !P m), (L.foldl stF ([], [])).1, (L.foldl stF ([], [])).2))
      (fun k => ((L.take k).filter P, (L.take k).filter (fun m => !P m), (k : Int), ((L.take k).foldl stF ([], [])).1, ((L.take k).foldl stF ([], [])).2)) L.length (fun k hk => ?_) ?_
    · simpa using this
    · have hkl : k < l.length := by omega
      have hx : idx l (k : Int) l[k] := idx_of hkl
      have hLk : L[k] = cutM l[k] := by simp [L]
      have hmw : MW (cutM l[k]) := by rw [← hLk]; exact hMW _ (List.getElem_mem hk)
      have ht : L.take (k + 1) = L.take k ++ [cutM l[k]] := by rw [List.take_succ_eq_append_getElem hk, hLk]
      have hf1 : ((L.take k).filter P).length ≤ k := by have := List.length_filter_le P (L.take k); simp only [List.length_take] at this; omega
      have hf2 : ((L.take k).filter (fun m => !P m)).length ≤ k := by have := List.length_filter_le (fun m => !P m) (L.take k); simp only [List.length_take] at this; omega
      generalize l[k] = q at *
      have hap := applyAll_ok ((L.take k).foldl stF ([], [])) [cutM q] (by simp) (by intro m hm; rw [List.mem_singleton] at hm; subst hm; exact hpc _ hmw)
      have hs2 : ([cutM q].foldl stepB (0, (L.take k).foldl stF ([], []))).2 = (L.take (k + 1)).foldl stF ([], []) := by
        rw [fold_snd, ht, List.foldl_append]
      have hw : IntKind.i64.wrap ((k : Int) + 1) = ((k + 1 : Nat) : Int) := by rw [w_small (by omega) (by omega)]; omega
      have hlt : decide ((k : Int) < (l.length : Int)) = true := by simpa using hkl
      have h30 : decide ((k : Int) < 30) = true := by simp; omega
      unfold law30_FleetOrder_l3
      rw [if_pos hlt]
      unfold law30_FleetOrder_j4
      rw [if_pos h30]
      refine ⟨q, hx, cutM q, cut_ok q, _, hap, ?_⟩
      have hsh : (cutM q).2.1 = q.2.1 := rfl
      by_cases hp : q.2.1.getD 0 0 = first
      · rw [if_pos (by rw [hsh]; simpa using hp)]
        refine ⟨(app136 (Nat.le_trans hf1 (by omega))).1, (app136 (Nat.le_trans hf1 (by omega))).2, ?_⟩
        unfold law30_FleetOrder_j5
        have hP : P (cutM q) = true := by simp only [P, hsh, hp, decide_true]
        rw [ht, List.filter_append, List.filter_append, List.filter_cons_of_pos hP, List.filter_cons_of_neg (by simp [hP])]
        simp only [List.filter_nil, List.append_nil]
        rw [← ht, ← hs2]
        simp only [hw]
      · rw [if_neg (by rw [hsh]; simpa using hp)]
        refine ⟨(app136 (Nat.le_trans hf2 (by omega))).1, (app136 (Nat.le_trans hf2 (by omega))).2, ?_⟩
        unfold law30_FleetOrder_j5
        have hP : P (cutM q) = false := by simp only [P, hsh, hp, decide_false]
        rw [ht, List.filter_append, List.filter_append, List.filter_cons_of_neg (by simp [hP]), List.filter_cons_of_pos (by simp [hP])]
        simp only [List.filter_nil, List.append_nil]
        rw [← ht, ← hs2]
        simp only [hw]
    · have e : ∀ r : List Mg, L.take L.length = L := fun _ => List.take_length
      rw [e []]
      unfold law30_FleetOrder_l3
      by_cases h : L.length < l.length
      · rw [if_pos (by simpa using h)]
        unfold law30_FleetOrder_j4
        rw [if_neg (by simp; omega)]
      · rw [if_neg (by simpa using h)]
        unfold law30_FleetOrder_j4
        rw [if_neg (by decide)]
  refine ⟨([], []), rfl, ([], []), rfl, _, hloop, ?_⟩
  have hA : FlW L.length (L.foldl stF ([], [])) := by have := FlW.zero.fold hMW; rwa [Nat.zero_add] at this
  have hol : (L.filter (fun m => !P m)).length ≤ 30 := Nat.le_trans (List.length_filter_le _ _) hLl
  have hll : (L.filter P).length ≤ 30 := Nat.le_trans (List.length_filter_le _ _) hLl
  have hsum : (L.filter P).length + (L.filter (fun m => !P m)).length = L.length := by
    exact filter_two P L
  have hmo : ∀ m ∈ L.filter (fun m => !P m), MW m := fun m hm => hMW m (List.mem_filter.1 hm).1
  have hml : ∀ m ∈ L.filter P, MW m := fun m hm => hMW m (List.mem_filter.1 hm).1
  have hB0 : FlW (L.filter (fun m => !P m)).length ((L.filter (fun m => !P m)).foldl stF ([], [])) := by have := FlW.zero.fold hmo; rwa [Nat.zero_add] at this
  have hB := hB0.fold hml
  have hsame : ∀ n, SameAt n (L.foldl stF ([], [])) ((L.filter P).foldl stF ((L.filter (fun m => !P m)).foldl stF ([], []))) := by
    intro n
    by_cases hn : n = first
    · refine same_filter (Q := P) L (fun m hm hc hq => ?_) (SameAt.symm (same_none _ (fun m hm hc => ?_)))
      · rw [val_robot hc, hn]; simpa [P] using hq
      · have := (List.mem_filter.1 hm).2
        rw [val_robot hc, hn]; simpa [P] using this
    · refine SameAt.trans (same_filter (Q := fun m => !P m) L (fun m hm hc hq => ?_) ⟨rfl, fun _ => rfl⟩) (SameAt.symm (same_none _ (fun m hm hc => ?_)))
      · have : m.2.1.getD 0 0 = first := by simpa [P] using hq
        rw [val_robot hc, this]; exact fun e => hn e.symm
      · have : m.2.1.getD 0 0 = first := by simpa [P] using (List.mem_filter.1 hm).2
        rw [val_robot hc, this]; exact fun e => hn e.symm
  have hEq := flEq_of hA hB hsame
  have ha1 := applyAll_ok (([], []) : Fl) (L.filter (fun m => !P m)) (by omega) (fun m hm => hpc m (hmo m hm))
  have e1 := fold_snd (L.filter (fun m => !P m)) (0, (([], []) : Fl))
  have c1 := fold_fst (L.filter (fun m => !P m)) (0, (([], []) : Fl))
  have ha2 := applyAll_ok ((L.filter (fun m => !P m)).foldl stF ([], [])) (L.filter P) (by omega) (fun m hm => hpc m (hml m hm))
  have e2 := fold_snd (L.filter P) (0, (L.filter (fun m => !P m)).foldl stF ([], []))
  have c2 := fold_fst (L.filter P) (0, (L.filter (fun m => !P m)).foldl stF ([], []))
  generalize (L.filter (fun m => !P m)).foldl stepB (0, ([], [])) = R1 at *
  obtain ⟨n1, f1⟩ := R1
  simp only at e1 c1
  subst e1
  generalize (L.filter P).foldl stepB (0, (L.filter (fun m => !P m)).foldl stF ([], [])) = R2 at *
  obtain ⟨n2, f2⟩ := R2
  simp only at e2 c2
  subst e2
  refine ⟨_, ha1, _, ha2, true, known30_ok, ?_⟩
  rw [if_pos rfl, if_pos (by
    show decide (IntKind.i64.wrap (n1 + n2) ≤ (l.length : Int)) = true
    rw [w_small (by omega) (by omega)]; simp; omega)]
  refine ⟨true, Same_ok hA hB hEq, ?_⟩
  rw [if_pos rfl]
  have hB' : FlW (L.length) ((L.filter P).foldl stF ((L.filter (fun m => !P m)).foldl stF ([], []))) := hB.up (by omega)
  refine ⟨_, lines_ok hA (by omega), _, lines_ok hB' (by omega), true, ?_, rfl⟩
  rw [← linesB_eq hEq]
  exact flines_ok (Nat.lt_trans (linesB_len hA (by omega)) (by decide))
theorem fleetOrder_claim {l : List Mg} {first : Int} (_h0 : ListOk (fun m : Mg => IntOk .i64 m.1 ∧ (m.2.1.length = 6 ∧ ∀ x ∈ m.2.1, IntOk .i64 x) ∧ ListOk (fun p : Int × Int => IntOk .i64 p.1 ∧ IntOk .i64 p.2) m.2.2.1 ∧ ListOk (IntOk .i64) m.2.2.2.1 ∧ StrOk m.2.2.2.2.1 ∧ StrOk m.2.2.2.2.2) l) (_h1 : IntOk .i64 first) : law30_FleetOrder l first true :=
  fleetOrder_true l first (fun m hm => ⟨(_h0.1 m hm).2.1.2, (_h0.1 m hm).2.2.2.1.1⟩)
end Go.Rel
