import Derived.Test.YtonmgcebhhdplabGreatDoorEngT
/-! The engine, part U: regions that draw their order: what their straight operations give, reckoned. -/
namespace Go.Eng
open Go

inductive DT : Type 1
 | v (x : Value)
 | t (T : Sto → Value → Prop)
 | s {α : Type} (dk : Kd α) (xs : List α)
 | g (c : Prop) (x : Value)
 | h (c : Prop) (T : Sto → Value → Prop)
def DT.T : DT → Sto → Value → Prop
 | .v x => fun _ u => x = u
 | .t T => T
 | .s dk xs => fun τ u => Sl dk τ u xs
 | .g c x => fun _ u => (c → x = u) ∧ (¬ c → u = undef)
 | .h c T => fun τ u => (c → T τ u) ∧ (¬ c → u = undef)
def dl (L : List DT) (i : Nat) : Sto → Value → Prop := match L[i]? with
 | some d => d.T
 | none => fun _ _ => True
def MonoD : List DT → Prop
 | [] => True
 | .t T :: l => (∀ σ τ v, σ.Le τ → T σ v → T τ v) ∧ MonoD l
 | .h _ T :: l => (∀ σ τ v, σ.Le τ → T σ v → T τ v) ∧ MonoD l
 | .v _ :: l => MonoD l
 | .s _ _ :: l => MonoD l
 | .g _ _ :: l => MonoD l
theorem dl_mono {L : List DT} (h : MonoD L) : ∀ i σ τ v, σ.Le τ → dl L i σ v → dl L i τ v := by
 intro i
 induction L generalizing i with
 | nil => intro σ τ v _ h; simp [dl]
 | cons d l ih =>
  cases i with
  | zero =>
   intro σ τ v hl hv
   have hv : d.T σ v := hv
   show d.T τ v
   cases d with
   | v x => exact hv
   | t T => exact h.1 _ _ _ hl hv
   | s dk xs => exact Sl.up hv hl
   | g c x => exact hv
   | h c T => exact ⟨fun hc => h.1 _ _ _ hl (hv.1 hc), hv.2⟩
  | succ i =>
   intro σ τ v hl hv
   have h' : MonoD l := by cases d <;> first | exact h | exact h.2
   have := ih h' i σ τ v hl (by simpa [dl] using hv)
   simpa [dl] using this
def dvl (L : List DT) (j : Nat) : Option Value := match L[j]? with
 | some (.v x) => some x
 | _ => none
def dgl (L : List DT) (j : Nat) : Option (Prop × Value) := match L[j]? with
 | some (.g c x) => some (c, x)
 | _ => none
theorem dvl_T {L : List DT} {j : Nat} {x : Value} (h : dvl L j = some x) {σ : Sto} {v : Value} : dl L j σ v ↔ x = v := by
 unfold dvl at h
 split at h
 ·rename_i y he; cases h; unfold dl; rw [he]; exact Iff.rfl
 ·cases h
theorem dgl_T {L : List DT} {j : Nat} {c : Prop} {x : Value} (h : dgl L j = some (c, x)) {σ : Sto} {v : Value} : dl L j σ v ↔ (c → x = v) ∧ (¬ c → v = undef) := by
 unfold dgl at h
 split at h
 ·rename_i y he; cases h; unfold dl; rw [he]; exact Iff.rfl
 ·cases h
def fndE (ops : Array Oper) (t : Nat) : List Edge → Option Nat
 | [] => none
 | e :: l => match Region.binds .any e with
  | true => match ops[e.on]? with
   | some o => match o.dst with
    | some d => match Nat.beq d t with
     | true => some e.on
     | false => fndE ops t l
    | none => fndE ops t l
   | none => fndE ops t l
  | false => fndE ops t l
theorem fndE_ok {ops : Array Oper} {t j : Nat} : ∀ {l : List Edge}, fndE ops t l = some j → (∃ e ∈ l, Region.binds .any e = true ∧ e.on = j) ∧ (ops[j]?).bind (·.dst) = some t
 | [], h => by cases h
 | e :: l, h => by
  have more : fndE ops t l = some j → (∃ e' ∈ e :: l, Region.binds .any e' = true ∧ e'.on = j) ∧ (ops[j]?).bind (·.dst) = some t := fun h => by
   obtain ⟨⟨e', h1, h2⟩, h3⟩ := fndE_ok h
   exact ⟨⟨e', List.mem_cons_of_mem _ h1, h2⟩, h3⟩
  simp only [fndE] at h
  split at h
  ·rename_i hb
   split at h
   ·rename_i o ho
    split at h
    ·rename_i d hd
     split at h
     ·rename_i hq
      cases h
      refine ⟨⟨e, List.mem_cons_self, hb, rfl⟩, ?_⟩
      rw [ho, ← Nat.eq_of_beq_eq_true hq]; exact hd
     ·exact more h
    ·exact more h
   ·exact more h
  ·exact more h
def lkD (ops : Array Oper) (dsts : List Nat) (L : List DT) (ρ : Env) (after : List Edge) : Operand → Option Value
 | .tmp t => match fndE ops t after with
  | some j => dvl L j
  | none => match dsts.contains t with
   | false => look ρ t
   | true => none
 | .const v => some v
 | .global g => some (.pointer (some ⟨g, 0, none⟩))
 | .func f => some (.func (.func f) #[] #[])
def lkG (ops : Array Oper) (dsts : List Nat) (L : List DT) (ρ : Env) (after : List Edge) (ks : List Nat) : Operand → Option Value
 | .tmp t => match fndE ops t after with
  | some j => match asB ks j with
   | true => match dgl L j with
    | some (_, x) => some x
    | none => none
   | false => dvl L j
  | none => match dsts.contains t with
   | false => look ρ t
   | true => none
 | .const v => some v
 | .global g => some (.pointer (some ⟨g, 0, none⟩))
 | .func f => some (.func (.func f) #[] #[])
def dpv (T : TyF) (n : Nat) (ops : Array Oper) (dsts : List Nat) (L : List DT) (ρ : Env) (i : Nat) : Option Value := match ops[i]? with
 | some ⟨some d, op, _, _, ⟨after⟩, none⟩ => match fits n (some d) with
  | true => sop T (lkD ops dsts L ρ after) op
  | false => none
 | _ => none
def dgv (T : TyF) (n : Nat) (ops : Array Oper) (dsts : List Nat) (L : List DT) (ρ : Env) (ks : List Nat) (i : Nat) : Option Value := match ops[i]? with
 | some ⟨some d, op, _, _, ⟨after⟩, some _⟩ => match fits n (some d) with
  | true => sop T (lkG ops dsts L ρ after ks) op
  | false => none
 | _ => none
def gcond (ops : Array Oper) (L : List DT) (i : Nat) : Option Prop := match ops[i]? with
 | some ⟨_, _, _, _, _, some (j, w)⟩ => match isDep ops i j with
  | true => match (ops[j]?).bind (·.dst) with
   | some _ => match L[j]? with
    | some (.v (.bool e)) => some (e = w)
    | some (.g c0 (.bool e)) => some (c0 ∧ e = w)
    | _ => none
   | none => none
  | false => none
 | _ => none
def cndL (L : List DT) (k : Nat) : Option Prop := match dgl L k with
 | some (c, _) => some c
 | none => none
def pkA (ops : Array Oper) (L : List DT) (n : Nat) (lk : List Edge → Operand → Option Value) (i : Nat) : Option (Bool × Prop × Bool × Bool) := match ops[i]? with
 | some ⟨some d, .pick x (.tmp t) z, _, _, ⟨after⟩, g⟩ => match fits n (some d) with
  | true => match lk after x with
   | some (.bool a) => match lk after z with
    | some (.bool false) => match fndE ops t after with
     | some j => match dgl L j with
      | some (c, .bool b) => some (a, c, b, g.isSome)
      | _ => none
     | none => none
    | _ => none
   | _ => none
  | false => none
 | _ => none
def pkO (ops : Array Oper) (L : List DT) (n : Nat) (lk : List Edge → Operand → Option Value) (i : Nat) : Option (Bool × Prop × Bool × Bool) := match ops[i]? with
 | some ⟨some d, .pick x y (.tmp t), _, _, ⟨after⟩, g⟩ => match fits n (some d) with
  | true => match lk after x with
   | some (.bool a) => match lk after y with
    | some (.bool true) => match fndE ops t after with
     | some j => match dgl L j with
      | some (c, .bool b) => some (a, c, b, g.isSome)
      | _ => none
     | none => none
    | _ => none
   | _ => none
  | false => none
 | _ => none
section
variable {P : Program} {n : Nat} {c : Ctx P n} {ρ ρ' : Env} {σ : Sto} {gs : List Grp} {k : List Item} {ops : Array Oper} {i : Nat} {rest dsts : List Nat} {T : TyF} {L : List DT} {x : Value} {C : Prop}
theorem dep_of {o : Oper} {j : Nat} (ho : ops[i]? = some o) (h : ∃ e ∈ o.after.toList, Region.binds .any e = true ∧ e.on = j) : isDep ops i j = true := by
 obtain ⟨e, h1, h2, h3⟩ := h
 simp only [isDep, ho, List.any_eq_true, Bool.and_eq_true, beq_iff_eq]
 exact ⟨e, h1, h2, h3⟩
structure Lean0 (ops : Array Oper) (dsts : List Nat) (L : List DT) (ρ ρ' : Env) (σ : Sto) (i : Nat) : Prop where
 hd : ∀ j, isDep ops i j = true → ∀ t, (ops[j]?).bind (·.dst) = some t → ∃ v, look ρ' t = some v ∧ dl L j σ v
 hout : ∀ t, dsts.contains t = false → look ρ' t = look ρ t
theorem lkD_ok (H : Lean0 ops dsts L ρ ρ' σ i) {o : Oper} (ho : ops[i]? = some o) : ∀ y u, lkD ops dsts L ρ o.after.toList y = some u → ev ρ' y = some u := by
 intro y u h
 cases y with
 | tmp t =>
  simp only [lkD] at h
  split at h
  ·rename_i j hj
   obtain ⟨h1, h2⟩ := fndE_ok hj
   obtain ⟨v, h3, h4⟩ := H.hd j (dep_of ho h1) t h2
   have := (dvl_T h).1 h4
   subst this; exact h3
  ·split at h
   ·rename_i hc; show look ρ' t = _; rw [H.hout t hc]; exact h
   ·cases h
 | const v => exact h
 | global g => exact h
 | func f => exact h
theorem lkG_ok (H : Lean0 ops dsts L ρ ρ' σ i) {o : Oper} (ho : ops[i]? = some o) {ks : List Nat} (hks : ∀ q ∈ ks, ∀ d y, dgl L q = some (d, y) → d) : ∀ y u, lkG ops dsts L ρ o.after.toList ks y = some u → ev ρ' y = some u := by
 intro y u h
 cases y with
 | tmp t =>
  simp only [lkG] at h
  split at h
  ·rename_i j hj
   obtain ⟨h1, h2⟩ := fndE_ok hj
   obtain ⟨v, h3, h4⟩ := H.hd j (dep_of ho h1) t h2
   split at h
   ·rename_i hb
    split at h
    ·rename_i d x' hx; cases h
     have := ((dgl_T hx).1 h4).1 (hks j (asB_mem hb) _ _ hx)
     subst this; exact h3
    ·cases h
   ·have := (dvl_T h).1 h4
    subst this; exact h3
  ·split at h
   ·rename_i hc; show look ρ' t = _; rw [H.hout t hc]; exact h
   ·cases h
 | const v => exact h
 | global g => exact h
 | func f => exact h
theorem dp_core (hT : TyOk P T) (hL : dvl L i = some x) (h : dpv T n ops dsts L ρ i = some x) (H : Lean0 ops dsts L ρ ρ' σ i) (hk : ∀ v, dl L i σ v → St c (put ρ' ((ops[i]?).bind (·.dst)) v) σ gs (.inRegion ops rest :: k)) : St c ρ' σ gs (.inRegion ops (i :: rest) :: k) := by
 unfold dpv at h
 split at h
 ·rename_i d op _ _ after ho
  split at h
  ·rename_i hf
   refine o_sop hT (lkD_ok H ho) ho rfl hf h ?_
   have := hk x ((dvl_T hL).2 rfl)
   rw [ho] at this; exact this
  ·cases h
 ·cases h
theorem guard_core {ty : TypeId} {pos : String} {after : Array Edge} {d : Nat} {op : Op} {j : Nat} {w : Bool} (ho : ops[i]? = some ⟨some d, op, ty, pos, after, some (j, w)⟩) (hf : fits n (some d) = true) (hg : gcond ops L i = some C) (H : Lean0 ops dsts L ρ ρ' σ i)
    (hy : C → wants ops ρ' (some (j, w)) = true → St c ρ' σ gs (.inRegion ops (i :: rest) :: k)) (hn : ¬ C → St c (put ρ' (some d) undef) σ gs (.inRegion ops rest :: k)) : St c ρ' σ gs (.inRegion ops (i :: rest) :: k) := by
  unfold gcond at hg
  rw [ho] at hg
  simp only at hg
  split at hg
  · rename_i hdep
    split at hg
    · rename_i e hde
      obtain ⟨v, h1, h2⟩ := H.hd j hdep e hde
      have fin : ∀ b : Bool, look ρ' e = some (.bool b) → (b = w → C) → (C → b = w) → St c ρ' σ gs (.inRegion ops (i :: rest) :: k) := by
        intro b hl hcw hwc
        by_cases hb : b = w
        · exact hy (hcw hb) (wants_of hde hl hb)
        · exact st_pass ho rfl hde hl (beq_off hb) hf (hn (fun hc => hb (hwc hc)))
      split at hg
      · rename_i b hL
        cases hg
        have h2 : (.bool b : Value) = v := by unfold dl at h2; rw [hL] at h2; exact h2
        subst h2
        exact fin b h1 id id
      · rename_i c0 b hL
        cases hg
        have h2 : (c0 → (.bool b : Value) = v) ∧ (¬ c0 → v = undef) := by unfold dl at h2; rw [hL] at h2; exact h2
        by_cases hc : c0
        · have := h2.1 hc
          subst this
          exact fin b h1 (fun h => ⟨hc, h⟩) (fun h => h.2)
        · have := h2.2 hc
          subst this
          exact st_passU ho rfl hde h1 hf (hn (fun h => hc h.1))
      · cases hg
    · cases hg
  · cases hg
theorem kk {ks : List Nat} (h : ks.map (cndL L) = ks.map (fun _ => some C)) (hC : C) : ∀ q ∈ ks, ∀ d y, dgl L q = some (d, y) → d := by
 intro q hq d y hd
 have h1 : cndL L q = some C := by
  induction ks with
  | nil => cases hq
  | cons a ks ih =>
   simp only [List.map_cons, List.cons.injEq] at h
   rcases List.mem_cons.1 hq with e | e
   ·rw [e]; exact h.1
   ·exact ih h.2 e
 unfold cndL at h1
 rw [hd] at h1
 cases h1; exact hC
theorem dg_core (hT : TyOk P T) (hL : dgl L i = some (C, x)) (hg : gcond ops L i = some C) {ks : List Nat} (hks : ks.map (cndL L) = ks.map (fun _ => some C)) (h : dgv T n ops dsts L ρ ks i = some x) (H : Lean0 ops dsts L ρ ρ' σ i) (hk : ∀ v, dl L i σ v → St c (put ρ' ((ops[i]?).bind (·.dst)) v) σ gs (.inRegion ops rest :: k)) : St c ρ' σ gs (.inRegion ops (i :: rest) :: k) := by
 unfold dgv at h
 split at h
 ·rename_i d op _ _ after gd ho
  split at h
  ·rename_i hf
   obtain ⟨j, w⟩ := gd
   rw [ho] at hk
   refine guard_core ho hf hg H (fun hC hw => ?_) (fun hC => hk undef ((dgl_T hL).2 ⟨fun h => absurd h hC, fun _ => rfl⟩))
   exact o_sop hT (lkG_ok H ho (kk hks hC)) ho hw hf h (hk x ((dgl_T hL).2 ⟨fun _ => rfl, fun h => absurd hC h⟩))
  ·cases h
 ·cases h
theorem dgl_at (H : Lean0 ops dsts L ρ ρ' σ i) {o : Oper} (ho : ops[i]? = some o) {t j : Nat} (hj : fndE ops t o.after.toList = some j) {b : Bool} (hL : dgl L j = some (C, .bool b)) (hC : C) : ev ρ' (.tmp t) = some (.bool b) := by
 obtain ⟨h1, h2⟩ := fndE_ok hj
 obtain ⟨v, h3, h4⟩ := H.hd j (dep_of ho h1) t h2
 have := ((dgl_T hL).1 h4).1 hC
 subst this; exact h3
theorem kA_core {a b : Bool} (hL : dvl L i = some (.bool (a && b))) (h : pkA ops L n (lkD ops dsts L ρ) i = some (a, (a = true), b, false)) (H : Lean0 ops dsts L ρ ρ' σ i) (hk : ∀ v, dl L i σ v → St c (put ρ' ((ops[i]?).bind (·.dst)) v) σ gs (.inRegion ops rest :: k)) : St c ρ' σ gs (.inRegion ops (i :: rest) :: k) := by
 unfold pkA at h
 split at h
 ·rename_i d y t z _ _ after g ho
  split at h
  ·rename_i hf
   split at h
   ·rename_i a' hx
    split at h
    ·rename_i hz
     split at h
     ·rename_i j hj
      split at h
      ·rename_i c' b' hb
       simp only [Option.some.injEq, Prod.mk.injEq] at h
       obtain ⟨rfl, rfl, rfl, hg⟩ := h
       have hg : g = none := by cases g with
        | none => rfl
        | some _ => cases hg
       subst hg
       refine o_pickAnd ho rfl hf (lkD_ok H ho _ _ hx) (fun ha => dgl_at H ho hj hb ha) (lkD_ok H ho _ _ hz) ?_
       have := hk _ ((dvl_T hL).2 rfl)
       rw [ho] at this; exact this
      ·cases h
     ·cases h
    ·cases h
   ·cases h
  ·cases h
 ·cases h
theorem kO_core {a b : Bool} (hL : dvl L i = some (.bool (a || b))) (h : pkO ops L n (lkD ops dsts L ρ) i = some (a, (a = false), b, false)) (H : Lean0 ops dsts L ρ ρ' σ i) (hk : ∀ v, dl L i σ v → St c (put ρ' ((ops[i]?).bind (·.dst)) v) σ gs (.inRegion ops rest :: k)) : St c ρ' σ gs (.inRegion ops (i :: rest) :: k) := by
 unfold pkO at h
 split at h
 ·rename_i d y y2 t _ _ after g ho
  split at h
  ·rename_i hf
   split at h
   ·rename_i a' hx
    split at h
    ·rename_i hz
     split at h
     ·rename_i j hj
      split at h
      ·rename_i c' b' hb
       simp only [Option.some.injEq, Prod.mk.injEq] at h
       obtain ⟨rfl, rfl, rfl, hg⟩ := h
       have hg : g = none := by cases g with
        | none => rfl
        | some _ => cases hg
       subst hg
       refine o_pickOr ho rfl hf (lkD_ok H ho _ _ hx) (lkD_ok H ho _ _ hz) (fun ha => dgl_at H ho hj hb ha) ?_
       have := hk _ ((dvl_T hL).2 rfl)
       rw [ho] at this; exact this
      ·cases h
     ·cases h
    ·cases h
   ·cases h
  ·cases h
 ·cases h
theorem gA_core {a b : Bool} (hL : dgl L i = some (C, .bool (a && b))) (hg : gcond ops L i = some C) {ks : List Nat} (hks : ks.map (cndL L) = ks.map (fun _ => some C)) (h : pkA ops L n (fun e => lkG ops dsts L ρ e ks) i = some (a, (C ∧ a = true), b, true)) (H : Lean0 ops dsts L ρ ρ' σ i) (hk : ∀ v, dl L i σ v → St c (put ρ' ((ops[i]?).bind (·.dst)) v) σ gs (.inRegion ops rest :: k)) : St c ρ' σ gs (.inRegion ops (i :: rest) :: k) := by
 unfold pkA at h
 split at h
 ·rename_i d y t z _ _ after g ho
  split at h
  ·rename_i hf
   split at h
   ·rename_i a' hx
    split at h
    ·rename_i hz
     split at h
     ·rename_i j hj
      split at h
      ·rename_i c' b' hb
       simp only [Option.some.injEq, Prod.mk.injEq] at h
       obtain ⟨rfl, rfl, rfl, hgs⟩ := h
       obtain ⟨⟨gj, gw⟩, rfl⟩ : ∃ p, g = some p := by cases g with
        | none => cases hgs
        | some p => exact ⟨p, rfl⟩
       rw [ho] at hk
       refine guard_core ho hf hg H (fun hC hw => ?_) (fun hC => hk undef ((dgl_T hL).2 ⟨fun h => absurd h hC, fun _ => rfl⟩))
       exact o_pickAnd ho hw hf (lkG_ok H ho (kk hks hC) _ _ hx) (fun ha => dgl_at H ho hj hb ⟨hC, ha⟩) (lkG_ok H ho (kk hks hC) _ _ hz) (hk _ ((dgl_T hL).2 ⟨fun _ => rfl, fun h => absurd hC h⟩))
      ·cases h
     ·cases h
    ·cases h
   ·cases h
  ·cases h
 ·cases h
theorem gO_core {a b : Bool} (hL : dgl L i = some (C, .bool (a || b))) (hg : gcond ops L i = some C) {ks : List Nat} (hks : ks.map (cndL L) = ks.map (fun _ => some C)) (h : pkO ops L n (fun e => lkG ops dsts L ρ e ks) i = some (a, (C ∧ a = false), b, true)) (H : Lean0 ops dsts L ρ ρ' σ i) (hk : ∀ v, dl L i σ v → St c (put ρ' ((ops[i]?).bind (·.dst)) v) σ gs (.inRegion ops rest :: k)) : St c ρ' σ gs (.inRegion ops (i :: rest) :: k) := by
 unfold pkO at h
 split at h
 ·rename_i d y y2 t _ _ after g ho
  split at h
  ·rename_i hf
   split at h
   ·rename_i a' hx
    split at h
    ·rename_i hz
     split at h
     ·rename_i j hj
      split at h
      ·rename_i c' b' hb
       simp only [Option.some.injEq, Prod.mk.injEq] at h
       obtain ⟨rfl, rfl, rfl, hgs⟩ := h
       obtain ⟨⟨gj, gw⟩, rfl⟩ : ∃ p, g = some p := by cases g with
        | none => cases hgs
        | some p => exact ⟨p, rfl⟩
       rw [ho] at hk
       refine guard_core ho hf hg H (fun hC hw => ?_) (fun hC => hk undef ((dgl_T hL).2 ⟨fun h => absurd h hC, fun _ => rfl⟩))
       exact o_pickOr ho hw hf (lkG_ok H ho (kk hks hC) _ _ hx) (lkG_ok H ho (kk hks hC) _ _ hz) (fun ha => dgl_at H ho hj hb ⟨hC, ha⟩) (hk _ ((dgl_T hL).2 ⟨fun _ => rfl, fun h => absurd hC h⟩))
      ·cases h
     ·cases h
    ·cases h
   ·cases h
  ·cases h
 ·cases h
def Core (c : Ctx P n) (k : List Item) (ops : Array Oper) (dsts : List Nat) (L : List DT) (ρ : Env) (i : Nat) : Prop :=
 ∀ (ρ' : Env) (σ : Sto) (gs : List Grp) (rest : List Nat), Lean0 ops dsts L ρ ρ' σ i → (∀ v, dl L i σ v → St c (put ρ' ((ops[i]?).bind (·.dst)) v) σ gs (.inRegion ops rest :: k)) → St c ρ' σ gs (.inRegion ops (i :: rest) :: k)
theorem p1' {m : Nat} {g0 : Value → Grp} (h : Core c k ops (dstsOf ops m) L ρ i) (hi : ((ops[i]?).bind (·.dst)).isSome = true) (hG : ∀ v, g0 v = []) : ∀ ρ' σ' pool rest, σ.Le σ' → (∀ j, isDep ops i j = true → ∃ v, look ρ' (dstOf ops j) = some v ∧ dl L j σ' v) → (∀ t, (dstsOf ops m).contains t = false → look ρ' t = look ρ t) →
      (∀ v σ'', σ'.Le σ'' → dl L i σ'' v → St c (put ρ' (some (dstOf ops i)) v) σ'' (g0 v :: (gs ++ [pool])) (.inRegion ops rest :: k)) → St c ρ' σ' (gs ++ [pool]) (.inRegion ops (i :: rest) :: k) := by
  intro ρ' σ' pool rest _ hd hout hk
  refine h _ _ _ _ ⟨fun j hj t ht => ?_, hout⟩ (fun v hv => ?_)
  · have := hd j hj
    unfold dstOf at this
    rw [ht] at this; exact this
  · have := hk v σ' (Sto.Le.refl _) hv
    rw [hG] at this
    obtain ⟨e, he⟩ := Option.isSome_iff_exists.1 hi
    unfold dstOf at this
    rw [he] at this ⊢
    exact st_addNil this
theorem p1 {m : Nat} (h : Core c k ops (dstsOf ops m) L ρ i) (hi : ((ops[i]?).bind (·.dst)).isSome = true := by exact rfl) : ∀ ρ' σ' pool rest, σ.Le σ' → (∀ j, isDep ops i j = true → ∃ v, look ρ' (dstOf ops j) = some v ∧ dl L j σ' v) → (∀ t, (dstsOf ops m).contains t = false → look ρ' t = look ρ t) →
      (∀ v σ'', σ'.Le σ'' → dl L i σ'' v → St c (put ρ' (some (dstOf ops i)) v) σ'' ([] :: (gs ++ [pool])) (.inRegion ops rest :: k)) → St c ρ' σ' (gs ++ [pool]) (.inRegion ops (i :: rest) :: k) := p1' h hi fun _ => rfl
theorem p1o {m q : Nat} {o : Obj} (h : Core c k ops (dstsOf ops m) L ρ i) (hi : ((ops[i]?).bind (·.dst)).isSome = true := by exact rfl) (hq : Nat.beq i q = false := by exact rfl) : ∀ ρ' σ' pool rest, σ.Le σ' → (∀ j, isDep ops i j = true → ∃ v, look ρ' (dstOf ops j) = some v ∧ dl L j σ' v) → (∀ t, (dstsOf ops m).contains t = false → look ρ' t = look ρ t) →
      (∀ v σ'', σ'.Le σ'' → dl L i σ'' v → St c (put ρ' (some (dstOf ops i)) v) σ'' (oneG q o i v :: (gs ++ [pool])) (.inRegion ops rest :: k)) → St c ρ' σ' (gs ++ [pool]) (.inRegion ops (i :: rest) :: k) := p1' h hi fun v => by unfold oneG; rw [hq]
theorem p4 {m : Nat} {sd : Nat → Nat → Option Nat} {I : Nat → Nat → Sto → Value → List Grp → Prop} (h : Core c k ops (dstsO ops m) L ρ i) : Step4 c ρ σ gs k ops m sd (dl L) I i none none := by
 intro ρ' σ' pool rest _ hd hout _ hk
 exact h _ _ _ _ ⟨hd, hout⟩ (fun v hv => hk v σ' (Sto.Le.refl _) hv)
def DGok (T : TyF) (n : Nat) (ops : Array Oper) (dsts : List Nat) (L : List DT) (ρ : Env) (ks : List Nat) (i : Nat) : Prop := match dgl L i with
 | some (C, x) => gcond ops L i = some C ∧ ks.map (cndL L) = ks.map (fun _ => some C) ∧ dgv T n ops dsts L ρ ks i = some x
 | none => False
theorem core_A (hT : TyOk P T) (h : dpv T n ops dsts L ρ i = dvl L i) (hs : (dvl L i).isSome = true) : Core c k ops dsts L ρ i := by
 obtain ⟨x, hx⟩ := Option.isSome_iff_exists.1 hs
 exact fun _ _ _ _ H hk => dp_core hT hx (h.trans hx) H hk
theorem core_G (hT : TyOk P T) {ks : List Nat} (h : DGok T n ops dsts L ρ ks i) : Core c k ops dsts L ρ i := by
 unfold DGok at h
 split at h
 ·rename_i C x hx; exact fun _ _ _ _ H hk => dg_core hT hx h.1 h.2.1 h.2.2 H hk
 ·exact h.elim
def KAok (n : Nat) (ops : Array Oper) (dsts : List Nat) (L : List DT) (ρ : Env) (i : Nat) : Prop := match pkA ops L n (lkD ops dsts L ρ) i with
 | some (a, c, b, false) => dvl L i = some (.bool (a && b)) ∧ c = (a = true)
 | _ => False
def KOok (n : Nat) (ops : Array Oper) (dsts : List Nat) (L : List DT) (ρ : Env) (i : Nat) : Prop := match pkO ops L n (lkD ops dsts L ρ) i with
 | some (a, c, b, false) => dvl L i = some (.bool (a || b)) ∧ c = (a = false)
 | _ => False
def GAok (n : Nat) (ops : Array Oper) (dsts : List Nat) (L : List DT) (ρ : Env) (ks : List Nat) (i : Nat) : Prop := match pkA ops L n (fun e => lkG ops dsts L ρ e ks) i with
 | some (a, c, b, true) => match dgl L i with
  | some (C, x) => x = .bool (a && b) ∧ gcond ops L i = some C ∧ ks.map (cndL L) = ks.map (fun _ => some C) ∧ c = (C ∧ a = true)
  | none => False
 | _ => False
def GOok (n : Nat) (ops : Array Oper) (dsts : List Nat) (L : List DT) (ρ : Env) (ks : List Nat) (i : Nat) : Prop := match pkO ops L n (fun e => lkG ops dsts L ρ e ks) i with
 | some (a, c, b, true) => match dgl L i with
  | some (C, x) => x = .bool (a || b) ∧ gcond ops L i = some C ∧ ks.map (cndL L) = ks.map (fun _ => some C) ∧ c = (C ∧ a = false)
  | none => False
 | _ => False
theorem dK (h : KAok n ops dsts L ρ i := by exact ⟨rfl, rfl⟩) : Core c k ops dsts L ρ i := by
 unfold KAok at h
 split at h
 ·rename_i a c' b hp; obtain ⟨h1, rfl⟩ := h; exact fun _ _ _ _ H hk => kA_core h1 hp H hk
 ·exact h.elim
theorem dO (h : KOok n ops dsts L ρ i := by exact ⟨rfl, rfl⟩) : Core c k ops dsts L ρ i := by
 unfold KOok at h
 split at h
 ·rename_i a c' b hp; obtain ⟨h1, rfl⟩ := h; exact fun _ _ _ _ H hk => kO_core h1 hp H hk
 ·exact h.elim
theorem dKG (ks : List Nat) (h : GAok n ops dsts L ρ ks i := by exact ⟨rfl, rfl, rfl, rfl⟩) : Core c k ops dsts L ρ i := by
 unfold GAok at h
 split at h
 ·rename_i a c' b hp
  split at h
  ·rename_i C x hx; obtain ⟨rfl, h1, h2, rfl⟩ := h; exact fun _ _ _ _ H hk => gA_core hx h1 h2 hp H hk
  ·exact h.elim
 ·exact h.elim
theorem dOG (ks : List Nat) (h : GOok n ops dsts L ρ ks i := by exact ⟨rfl, rfl, rfl, rfl⟩) : Core c k ops dsts L ρ i := by
 unfold GOok at h
 split at h
 ·rename_i a c' b hp
  split at h
  ·rename_i C x hx; obtain ⟨rfl, h1, h2, rfl⟩ := h; exact fun _ _ _ _ H hk => gO_core hx h1 h2 hp H hk
  ·exact h.elim
 ·exact h.elim
theorem lv1 {m : Nat} {vals : Nat → Value} (hv : ∀ j, j < m → look ρ' (dstOf ops j) = some (vals j) ∧ dl L j σ (vals j)) (j : Nat) (hj : Nat.blt j m = true) (hL : dvl L j = some x) : look ρ' (dstOf ops j) = some x := by
 obtain ⟨h1, h2⟩ := hv j (Nat.le_of_ble_eq_true hj)
 rw [h1, (dvl_T hL).1 h2]
theorem lv4 {m : Nat} {vals : Nat → Value} (hv : ∀ j, j < m → (∀ t, dstO ops j = some t → look ρ' t = some (vals j)) ∧ dl L j σ (vals j)) (j : Nat) {t : Nat} (hj : Nat.blt j m = true) (ht : dstO ops j = some t) (hL : dvl L j = some x) : look ρ' t = some x := by
 obtain ⟨h1, h2⟩ := hv j (Nat.le_of_ble_eq_true hj)
 rw [h1 t ht, (dvl_T hL).1 h2]
theorem st_d41 {id : Nat} {g0 : List Grp} (gs F0 : List Grp) (m S : Nat) (wr rd : List (Option (Nat × Nat))) (sd : List (List (Option Nat))) (L : List DT) (I : List (List (Sto → Value → List Grp → Prop))) (hgs : g0 = gs ++ F0)
    (hmix : P.follows .mixedOrders = true) (hok : drawOk4 ops m = true) (hT : MonoD L) (hI : MonoII I) (hrow : rowOk4 ops m 1 (fun _ => S) (tlP wr) (tlP rd) = true) (hsd0 : rowSd4B ops m (tlP wr) (tlNN sd) = true) (hI0 : tlII I 0 0 σ undef F0)
    (hstep : AllB (fun i => Step4 c ρ σ gs k ops m (tlNN sd) (dl L) (tlII I) i (tlP wr i) (tlP rd i)) m)
    (hfin : ∀ (ρ' : Env) (σ' : Sto) (vals : Nat → Value) (u : Value) (F : List Grp), σ.Le σ' → tlII I 0 S σ' u F → (∀ t, tlNN sd 0 S = some t → look ρ' t = some u) → (∀ j, j < m → (∀ t, dstO ops j = some t → look ρ' t = some (vals j)) ∧ dl L j σ' (vals j)) → (∀ t, (dstsO ops m).contains t = false → look ρ' t = look ρ t) →
      St c ρ' σ' (gs ++ F) (.inRegion ops (List.range' m (ops.size - m)) :: k)) : St c ρ σ g0 (.code (.region id ops true) :: k) := by
  subst hgs
  exact st_draw41 m S (tlP wr) (tlP rd) (tlNN sd) (dl L) (tlII I) hmix hok (dl_mono hT) (tlII_mono hI) hrow hsd0 hI0 hstep hfin
theorem st_d42 {id : Nat} {g0 : List Grp} (gs F0 F1 : List Grp) (m S S1 : Nat) (wr rd : List (Option (Nat × Nat))) (sd : List (List (Option Nat))) (L : List DT) (I : List (List (Sto → Value → List Grp → Prop))) (hgs : g0 = gs ++ F0 ++ F1)
    (hmix : P.follows .mixedOrders = true) (hok : drawOk4 ops m = true) (hT : MonoD L) (hI : MonoII I) (hrow : rowOk4 ops m 2 (pick2 S S1) (tlP wr) (tlP rd) = true) (hsd0 : rowSd4B ops m (tlP wr) (tlNN sd) = true) (hI0 : tlII I 0 0 σ undef F0) (hI1 : tlII I 1 0 σ undef F1)
    (hstep : AllB (fun i => Step4 c ρ σ gs k ops m (tlNN sd) (dl L) (tlII I) i (tlP wr i) (tlP rd i)) m)
    (hfin : ∀ (ρ' : Env) (σ' : Sto) (vals : Nat → Value) (u u1 : Value) (F F1 : List Grp), σ.Le σ' → tlII I 0 S σ' u F → (∀ t, tlNN sd 0 S = some t → look ρ' t = some u) → tlII I 1 S1 σ' u1 F1 → (∀ t, tlNN sd 1 S1 = some t → look ρ' t = some u1) → (∀ j, j < m → (∀ t, dstO ops j = some t → look ρ' t = some (vals j)) ∧ dl L j σ' (vals j)) → (∀ t, (dstsO ops m).contains t = false → look ρ' t = look ρ t) →
      St c ρ' σ' (gs ++ F ++ F1) (.inRegion ops (List.range' m (ops.size - m)) :: k)) : St c ρ σ g0 (.code (.region id ops true) :: k) := by
  subst hgs
  exact st_draw42 m S S1 (tlP wr) (tlP rd) (tlNN sd) (dl L) (tlII I) hmix hok (dl_mono hT) (tlII_mono hI) hrow hsd0 hI0 hI1 hstep hfin
end
structure KdE {α : Type} (d : Kd α) where
 enc : α → List Value
 ok : ∀ σ x, d.rep σ (enc x) x
def eI (k : IntKind) : KdE (kI k) := ⟨fun x => [.int k x], fun _ _ => rfl⟩
def eS : KdE kS := ⟨fun x => [.string x], fun _ _ => rfl⟩
def eP {α β : Type} {d : Kd α} {d' : Kd β} (e : KdE d) (e' : KdE d') : KdE (kP d d') := ⟨fun x => e.enc x.1 ++ e'.enc x.2, fun σ x => ⟨_, _, rfl, e.ok σ x.1, e'.ok σ x.2⟩⟩
def eA (k : IntKind) (n : Nat) : KdE (kA k n) := ⟨fun xs => cellsN (Value.int k) 0 n xs, fun _ _ => rfl⟩
def psE {α : Type} {d : Kd α} (E : KdE d) : Nat → List α → List (Nat × List Value)
 | _, [] => []
 | i, x :: l => (i, E.enc x) :: psE E (i + 1) l
theorem manyE {α : Type} {d : Kd α} (E : KdE d) {σ : Sto} : ∀ xs : List α, d.Many σ (xs.flatMap E.enc) xs
 | [] => .nil
 | x :: l => by rw [List.flatMap_cons]; exact .cons (E.ok σ x) (manyE E l)
section
variable {P : Program} {n : Nat} {c : Ctx P n} {ρ : Env} {σ : Sto} {gs : List Grp} {k : List Item} {ops : Array Oper} {i : Nat} {rest : List Nat}
variable {d : Option Nat} {t ty : TypeId} {pos : String} {after : Array Edge} {g : Option (Nat × Bool)}
theorem o_litE {α : Type} {dk : Kd α} {e by_ len : Nat} (E : KdE dk) (xs : List α) {parts : Array (Nat × Operand)} {zs : List Value} (ho : ops[i]? = some ⟨d, .buildSlice t len parts, ty, pos, after, g⟩) (hg : wants ops ρ g = true) (hf : fits n d = true)
    (ht : slT P t = some (e, dk.sz, by_)) (hz : zeroT P e = some zs) (hp : pevs ρ parts.toList (psE E 0 xs)) (hc : fillL (fun j => some (j * dk.sz, dk.sz)) ((List.replicate len zs).flatten) (psE E 0 xs) = some (xs.flatMap E.enc)) (hl : xs.length = len) (hsm : Nat.ble (len * dk.sz) 65536 = true) (hp0 : Nat.ble 1 dk.sz = true)
    (h : ∀ v' gr, Ow dk e σ v' xs gr → St c (put ρ d v') σ (gr :: gs) (.inRegion ops rest :: k)) : St c ρ σ gs (.inRegion ops (i :: rest) :: k) :=
  o_lit ho hg hf ht hz hp hc hl hsm hp0 (manyE E xs) h
theorem o_boxC {x : Operand} {v : Value} {cs cs' : List Value} (ho : ops[i]? = some ⟨d, .box t x, ty, pos, after, g⟩) (hg : wants ops ρ g = true) (hf : fits n d = true) (hx : ev ρ x = some v) (hc : vcs v = some cs) (hn : nf cs = some cs')
    (h : ∀ b, St c (put ρ d (.pointer (some ⟨b, 0, none⟩))) σ ([(b, .cells cs'.toArray t (0, 0))] :: gs) (.inRegion ops rest :: k)) : St c ρ σ gs (.inRegion ops (i :: rest) :: k) := by
  rw [← nf_eq hn] at h
  exact o_box ho hg hf hx (vcs_eq hc) h
end
end Go.Eng
