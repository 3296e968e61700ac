import Derived.Test.YtonmgcebhhdplabGreatDoorEngH
/-! The engine, part I: what the written walks lean on. -/
namespace Go.Eng
open Go

section
variable {P : Program} {n : Nat} {c : Ctx P n} {ρ : Env} {σ : Sto} {gs gs' : List Grp} {k : List Item} {ops : Array Oper} {i : Nat} {rest : List Nat}
variable {d : Option Nat} {ty : TypeId} {pos : String} {after : Array Edge} {g : Option (Nat × Bool)} {x y z : Operand} {v u : Value} {t : TypeId}

theorem o_moveB {b : Bool} (ho : ops[i]? = some ⟨d, .move x, ty, pos, after, g⟩) (hg : wants ops ρ g = true) (hf : fits n d = true) (hx : ev ρ x = some (.bool b))
    (h1 : b = true → St c (put ρ d (.bool true)) σ gs (.inRegion ops rest :: k)) (h2 : b = false → St c (put ρ d (.bool false)) σ gs (.inRegion ops rest :: k)) : St c ρ σ gs (.inRegion ops (i :: rest) :: k) := by
  refine o_move ho hg hf hx ?_
  cases b with
  | true => exact h1 rfl
  | false => exact h2 rfl
theorem st_gs (gs' : List Grp) (hs : gs = gs') (h : St c ρ σ gs' k) : St c ρ σ gs k := by subst hs; exact h
theorem st_condT {y z : Code} (hx : ev ρ x = some (.bool true)) (h : St c ρ σ gs (.code y :: k)) : St c ρ σ gs (.code (.cond x y z) :: k) := st_cond hx (fun _ => h) (fun h => nomatch h)
theorem st_condF {y z : Code} (hx : ev ρ x = some (.bool false)) (h : St c ρ σ gs (.code z :: k)) : St c ρ σ gs (.code (.cond x y z) :: k) := st_cond hx (fun h => nomatch h) (fun _ => h)
theorem ones_nil : ∀ u ∈ ([] : List Value), u.oneCell' = true := fun _ h => nomatch h
theorem ones_cons {v : Value} {l : List Value} (h : v.oneCell' = true) (h' : ∀ u ∈ l, u.oneCell' = true) : ∀ u ∈ v :: l, u.oneCell' = true := by
 intro u hu
 rcases List.mem_cons.1 hu with rfl | h1
 ·exact h
 ·exact h' u h1

def ordG : List Grp → List Nat → Option (List Grp)
 | _, [] => some []
 | gs, i :: l => match gs[i]?, ordG (gs.eraseIdx i) l with
  | some g, some gs' => some (g :: gs')
  | _, _ => none
theorem ordG_ok : ∀ (is : List Nat) (gs gs' : List Grp), ordG gs is = some gs' → ∃ L, gs.flatten.Perm L ∧ gs'.flatten.Sublist L
 | [], gs, gs', h => by simp [ordG] at h; subst h; exact ⟨_, .refl _, by simp⟩
 | i :: l, gs, gs', h => by
  simp only [ordG] at h
  cases hj : gs[i]? with
  | none => rw [hj] at h; simp at h
  | some g =>
   rw [hj] at h
   cases hp : ordG (gs.eraseIdx i) l with
   | none => rw [hp] at h; simp at h
   | some gs1 =>
    rw [hp] at h; simp at h; subst h
    obtain ⟨L, h1, h2⟩ := ordG_ok l _ _ hp
    refine ⟨g ++ L, (flatten_front hj).trans ?_, ?_⟩
    ·rw [List.flatten_cons]; exact h1.append_left g
    ·rw [List.flatten_cons]; exact (List.Sublist.refl g).append h2
theorem st_ord (is : List Nat) (gs' : List Grp) (h : ordG gs is = some gs') (hk : St c ρ σ gs' k) : St c ρ σ gs k := by
 obtain ⟨L, h1, h2⟩ := ordG_ok is gs gs' h
 exact fun ds a w ha hw => hk ds a w ha ((hw.perm (gs' := L :: marks ds :: c.fr) (by
  simp only [List.flatten_append, List.flatten_cons]; exact h1.append_right _)).sub (by
  simp only [List.flatten_append, List.flatten_cons]; exact h2.append (List.Sublist.refl _)))
theorem st_passU {o : Oper} {j : Nat} {want : Bool} {e : Nat} (ho : ops[i]? = some o) (hg : o.guard = some (j, want)) (hd : (ops[j]?).bind (·.dst) = some e) (hb : look ρ e = some undef) (hf : fits n o.dst = true)
    (h : St c (put ρ o.dst undef) σ gs (.inRegion ops rest :: k)) : St c ρ σ gs (.inRegion ops (i :: rest) :: k) := by
  intro ds a w ha hw
  have hv := ha.at_ e _ hb
  have hs := stepR_op_skip (P := P) (b := c.b) (a := a) (k := k) (cs := c.cs) (w := w) (ops := ops) (i := i) (rest := rest)
    (by
      simp only [ho, Option.map_some, Option.getD_some, Region.wanted, hg, yielded, hd, Option.bind_some]
      cases h4 : a.tmps[e]? with
      | none => rfl
      | some u => rw [Array.getD_eq_getD_getElem?, h4] at hv; simp only [Option.getD_some] at hv; subst hv; rfl)
  rw [ho] at hs
  obtain ⟨m', h5, h4⟩ := h ds _ w (ha.put o.dst hf undef) hw
  exact ⟨m', .head hs h5, h4⟩
theorem beq_off {b w : Bool} (h : ¬ b = w) : (b == w) = false := by cases b <;> cases w <;> simp_all
theorem wants_of {j : Nat} {w b : Bool} {e : Nat} (hd : (ops[j]?).bind (·.dst) = some e) (hb : look ρ e = some (.bool b)) (h : b = w) : wants ops ρ (some (j, w)) = true := by
 subst h; simp [wants, hd, hb]
theorem evs_cons {x : Operand} {v : Value} {l : List Operand} {vs : List Value} (h : ev ρ x = some v) (h' : evs ρ l = some vs) : evs ρ (x :: l) = some (v :: vs) := by simp [evs, h, h']
theorem o_pickAnd {a b : Bool} (ho : ops[i]? = some ⟨d, .pick x y z, ty, pos, after, g⟩) (hg : wants ops ρ g = true) (hf : fits n d = true) (hx : ev ρ x = some (.bool a)) (hy : a = true → ev ρ y = some (.bool b)) (hz : ev ρ z = some (.bool false))
    (h : St c (put ρ d (.bool (a && b))) σ gs (.inRegion ops rest :: k)) : St c ρ σ gs (.inRegion ops (i :: rest) :: k) :=
  o_pick ho hg hf hx (by cases a with | true => exact hy rfl | false => exact hz) h
theorem o_pickOr {a b : Bool} (ho : ops[i]? = some ⟨d, .pick x y z, ty, pos, after, g⟩) (hg : wants ops ρ g = true) (hf : fits n d = true) (hx : ev ρ x = some (.bool a)) (hy : ev ρ y = some (.bool true)) (hz : a = false → ev ρ z = some (.bool b))
    (h : St c (put ρ d (.bool (a || b))) σ gs (.inRegion ops rest :: k)) : St c ρ σ gs (.inRegion ops (i :: rest) :: k) :=
  o_pick ho hg hf hx (by cases a with | true => exact hy | false => exact hz rfl) h
def tl (l : List (Sto → Value → Prop)) (i : Nat) : Sto → Value → Prop := match l[i]? with
 | some p => p
 | none => fun _ _ => True
def oneG (i : Nat) (o : Obj) : Nat → Value → Grp := fun j v => match Nat.beq j i with
 | true => match v with
  | .pointer (some a) => [(a.block, o)]
  | _ => []
 | false => []
theorem oneG_flat {i m b off : Nat} {o : Obj} {sp : Option Nat} {vals : Nat → Value} (hi : i < m) (hv : vals i = .pointer (some ⟨b, off, sp⟩)) : ((List.range m).flatMap fun j => oneG i o j (vals j)) = [(b, o)] := by
 have key : ∀ m, ((List.range m).flatMap fun j => oneG i o j (vals j)) = if i < m then [(b, o)] else [] := by
  intro m
  induction m with
  | zero => simp
  | succ m ih =>
   rw [List.range_succ, List.flatMap_append, ih]
   simp only [List.flatMap_cons, List.flatMap_nil, List.append_nil]
   by_cases h1 : i < m
   ·rw [if_pos h1, if_pos (by omega)]
    have : oneG i o m (vals m) = [] := by simp [oneG, beq_no (show m ≠ i by omega)]
    rw [this]; rfl
   ·rw [if_neg h1]
    by_cases h2 : i = m
    ·subst h2
     rw [if_pos (by omega)]
     simp [oneG, hv]
    ·rw [if_neg (by omega)]
     simp [oneG, beq_no (show m ≠ i by omega)]
 rw [key, if_pos hi]
theorem allB_nil {p : Nat → Prop} : AllB p 0 := trivial
theorem allB_cons {p : Nat → Prop} {m : Nat} (h : AllB p m) (h' : p m) : AllB p (m + 1) := ⟨h, h'⟩
theorem celn_part (m : Nat) {b off : Nat} {us vs : List Value} (hv : (us.drop m).take vs.length = vs) (h : CelN σ ⟨b, off, none⟩ us) : CelN σ ⟨b, off + m, none⟩ vs := by
 intro j u hj
 have : us[m + j]? = some u := take_drop_get (by rw [hv]; exact hj)
 have := h _ _ this
 rw [show off + m + j = off + (m + j) by omega]; exact this
def kP {α β : Type} (d : Kd α) (e : Kd β) : Kd (α × β) := ⟨d.sz + e.sz, fun σ cs x => ∃ c1 c2, cs = c1 ++ c2 ∧ d.rep σ c1 x.1 ∧ e.rep σ c2 x.2,
 fun hl ⟨c1, c2, h, h1, h2⟩ => ⟨c1, c2, h, d.mono hl h1, e.mono hl h2⟩,
 fun ⟨c1, c2, h, h1, h2⟩ => by rw [h, List.length_append, d.len h1, e.len h2],
 fun ⟨c1, c2, h, h1, h2⟩ u hu => by
  rw [h] at hu
  rcases List.mem_append.1 hu with h3 | h3
  ·exact d.one h1 u h3
  ·exact e.one h2 u h3⟩
theorem mem_flat {p : Nat × Obj} (j : Nat) (h : gs[j]? = some [p]) : p ∈ gs.flatten := List.mem_flatten.2 ⟨_, List.mem_of_getElem? h, List.mem_cons_self⟩
theorem cellOf {b : Nat} {cs : Array Value} {E : TypeId} {fr : Nat × Nat} (ht : isScalar P t = true) (hc : cs[0]? = some v) (w : World) (hw : w.heap[b]? = some (.cells cs E fr)) : (loadVar t ⟨b, 0, none⟩).run P w = .ok v w := by
 simp [loadVar, run_isAgg_no ht, World.cell?, hw, hc]
theorem cellOfN {b : Nat} {cs : Array Value} {E : TypeId} {fr : Nat × Nat} {vs : List Value} (ht : aggSize P t = some vs.length) (hc : cs.toList.take vs.length = vs) (w : World) (hw : w.heap[b]? = some (.cells cs E fr)) : (loadVar t ⟨b, 0, none⟩).run P w = .ok (.agg vs.toArray) w := by
 have := run_loadCells_list (P := P) w ⟨b, 0, none⟩ vs (fun j u hj => by
  rw [add_plain, Nat.zero_add]
  rw [← hc, List.getElem?_take] at hj
  split at hj
  ·simp at hj; simp [World.cell?, hw, hj]
  ·cases hj)
 simp [loadVar, (run_isAgg_yes ht w).1, (run_isAgg_yes ht w).2, this]
end
end Go.Eng
