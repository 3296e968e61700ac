import Derived.RangeFuncRecord
import Derived.Laws.Entries
import Derived.Below
/-! The engine, part A: what never changes, what is held, and the machine's steps over an environment of live temporaries. -/
namespace Go.Eng
open Go

structure Sto where
 imm : Nat → Option Obj
 os : Os
 tape : Nat → Question → Nat
 output : Array (Nat × ByteArray)

structure Sto.Le (σ τ : Sto) : Prop where
 imm : ∀ b o, σ.imm b = some o → τ.imm b = some o
 os : τ.os = σ.os
 tape : τ.tape = σ.tape
 output : τ.output = σ.output

theorem Sto.Le.refl (σ : Sto) : σ.Le σ := ⟨fun _ _ h => h, rfl, rfl, rfl⟩
theorem Sto.Le.trans {σ τ υ : Sto} (h : σ.Le τ) (k : τ.Le υ) : σ.Le υ :=
 ⟨fun b o hb => k.imm b o (h.imm b o hb), k.os.trans h.os, k.tape.trans h.tape, k.output.trans h.output⟩

abbrev Grp := List (Nat × Obj)

structure Wor (σ : Sto) (gs : List Grp) (w : World) : Prop where
 os : w.os = σ.os
 tape : w.tape = σ.tape
 output : w.output = σ.output
 imm : ∀ b o, σ.imm b = some o → w.heap[b]? = some o
 has : ∀ c ∈ gs.flatten, w.heap[c.1]? = some c.2
 nodup : (gs.flatten.map (·.1)).Nodup
 apart : ∀ c ∈ gs.flatten, σ.imm c.1 = none

section wor
variable {σ : Sto} {gs gs' : List Grp} {w w' : World}

def Sto.of (w : World) : Sto := ⟨fun b => w.heap[b]?, w.os, w.tape, w.output⟩
theorem Wor.of (w : World) : Wor (Sto.of w) [] w :=
 ⟨rfl, rfl, rfl, fun _ _ h => h, fun _ h => by simp at h, by simp, fun _ h => by simp at h⟩

theorem Wor.below {w : World} (h : Wor σ gs w') (hle : (Sto.of w).Le σ) : RowKit.Below w.heap.size w w' := by
 refine ⟨h.os.trans hle.os, h.tape.trans hle.tape, h.output.trans hle.output, ?_, fun k hk => ?_⟩
 ·by_cases h0 : w.heap.size = 0
  ·omega
  ·have hl : (Sto.of w).imm (w.heap.size - 1) = some (w.heap[w.heap.size - 1]'(by omega)) := by
    simp [Sto.of, Array.getElem?_eq_getElem (show w.heap.size - 1 < w.heap.size by omega)]
   have := (Array.getElem?_eq_some_iff.1 (h.imm _ _ (hle.imm _ _ hl))).1
   omega
 ·have hl : (Sto.of w).imm k = some (w.heap[k]'hk) := by simp [Sto.of, Array.getElem?_eq_getElem hk]
  rw [h.imm _ _ (hle.imm _ _ hl), Array.getElem?_eq_getElem hk]

theorem Wor.sub (h : Wor σ gs w) (hs : (gs'.flatten).Sublist gs.flatten) : Wor σ gs' w :=
 ⟨h.os, h.tape, h.output, h.imm, fun c hc => h.has c (hs.subset hc), (hs.map _).nodup h.nodup, fun c hc => h.apart c (hs.subset hc)⟩
theorem Wor.perm (h : Wor σ gs w) (hp : (gs.flatten).Perm gs'.flatten) : Wor σ gs' w :=
 ⟨h.os, h.tape, h.output, h.imm, fun c hc => h.has c (hp.mem_iff.2 hc), (hp.map _).nodup_iff.1 h.nodup, fun c hc => h.apart c (hp.mem_iff.2 hc)⟩
theorem Wor.drawn (h : Wor σ gs w) (n : Nat) : Wor σ gs { w with drawn := n } := ⟨h.os, h.tape, h.output, h.imm, h.has, h.nodup, h.apart⟩

theorem flatten_front {i : Nat} {g : Grp} {gs : List Grp} (h : gs[i]? = some g) : (gs.flatten).Perm ((g :: gs.eraseIdx i).flatten) := by
 induction gs generalizing i with
 | nil => simp at h
 | cons x xs ih =>
  cases i with
  | zero => simp at h; subst h; simp
  | succ i =>
   simp only [List.getElem?_cons_succ] at h
   have := ih h
   simp only [List.flatten_cons, List.eraseIdx_cons_succ] at *
   refine (List.Perm.append_left x this).trans ?_
   rw [← List.append_assoc, ← List.append_assoc]
   exact List.Perm.append_right _ List.perm_append_comm

theorem Wor.front (h : Wor σ gs w) {i : Nat} {g : Grp} (hi : gs[i]? = some g) : Wor σ (g :: gs.eraseIdx i) w := h.perm (flatten_front hi)
theorem Wor.back {i : Nat} {g g' : Grp} (hi : gs[i]? = some g) (h : Wor σ (g' :: gs.eraseIdx i) w) : Wor σ (gs.set i g') w := by
 refine h.perm ?_
 have hlt := (List.getElem?_eq_some_iff.1 hi).1
 have h2 : (gs.set i g')[i]? = some g' := by simp [hlt]
 have := flatten_front h2
 rw [List.eraseIdx_set_eq] at this
 exact this.symm

theorem Wor.alloc (h : Wor σ gs w) (o : Obj) : Wor σ ([(w.heap.size, o)] :: gs) (w.alloc o) := by
 refine ⟨h.os, h.tape, h.output, fun b o' hb => ?_, fun c hc => ?_, ?_, fun c hc => ?_⟩
 ·have := h.imm b o' hb
  rw [RowKit.Below.heap_alloc _ _ _ (Array.getElem?_eq_some_iff.1 this).1]; exact this
 ·simp only [List.flatten_cons, List.cons_append, List.nil_append, List.mem_cons] at hc
  rcases hc with rfl | hc
  ·exact World.alloc_heap_new w o
  ·have := h.has c hc
   rw [RowKit.Below.heap_alloc _ _ _ (Array.getElem?_eq_some_iff.1 this).1]; exact this
 ·simp only [List.flatten_cons, List.cons_append, List.nil_append, List.map_cons, List.nodup_cons]
  refine ⟨fun hm => ?_, h.nodup⟩
  obtain ⟨c, hc, he⟩ := List.mem_map.1 hm
  have := (Array.getElem?_eq_some_iff.1 (h.has c hc)).1
  omega
 ·simp only [List.flatten_cons, List.cons_append, List.nil_append, List.mem_cons] at hc
  rcases hc with rfl | hc
  ·cases hb : σ.imm w.heap.size with
   | none => rfl
   | some o' => have := (Array.getElem?_eq_some_iff.1 (h.imm _ _ hb)).1; omega
  ·exact h.apart c hc

theorem Wor.lt (h : Wor σ gs w) {c : Nat × Obj} (hc : c ∈ gs.flatten) : c.1 < w.heap.size := (Array.getElem?_eq_some_iff.1 (h.has c hc)).1

theorem Wor.turn {b : Nat} {o o' : Obj} {g : Grp} (h : Wor σ (((b, o) :: g) :: gs) w) (hos : w'.os = w.os) (htape : w'.tape = w.tape) (hout : w'.output = w.output)
    (hb : w'.heap[b]? = some o') (hother : ∀ k, k ≠ b → w'.heap[k]? = w.heap[k]?) : Wor σ (((b, o') :: g) :: gs) w' := by
  have hnd := h.nodup
  simp only [List.flatten_cons, List.cons_append, List.map_cons, List.nodup_cons] at hnd
  refine ⟨hos.trans h.os, htape.trans h.tape, hout.trans h.output, fun k o2 hk => ?_, fun c hc => ?_, ?_, fun c hc => ?_⟩
  · rw [hother k (fun e => ?_)]
    · exact h.imm k o2 hk
    · subst e
      have := h.apart (k, o) (by simp)
      rw [this] at hk; cases hk
  · simp only [List.flatten_cons, List.cons_append, List.mem_cons] at hc
    rcases hc with rfl | hc
    · exact hb
    · rw [hother c.1 (fun e => hnd.1 (List.mem_map.2 ⟨c, hc, e⟩))]
      exact h.has c (by simp only [List.flatten_cons, List.cons_append, List.mem_cons]; exact .inr hc)
  · simp only [List.flatten_cons, List.cons_append, List.map_cons, List.nodup_cons]; exact hnd
  · simp only [List.flatten_cons, List.cons_append, List.mem_cons] at hc
    rcases hc with rfl | hc
    · exact h.apart (b, o) (by simp)
    · exact h.apart c (by simp only [List.flatten_cons, List.cons_append, List.mem_cons]; exact .inr hc)

def Sto.add (σ : Sto) (g : Grp) : Sto := { σ with imm := fun b => match g.lookup b with | some o => some o | none => σ.imm b }

theorem lookup_mem {g : Grp} {b : Nat} {o : Obj} (h : g.lookup b = some o) : (b, o) ∈ g := by
 induction g with
 | nil => simp at h
 | cons x xs ih =>
  obtain ⟨k, v⟩ := x
  simp only [List.lookup_cons] at h
  by_cases hk : b == k
  ·rw [hk] at h; simp at h; simp at hk; subst hk; subst h; simp
  ·simp only [Bool.not_eq_true] at hk
   rw [hk] at h; simp only at h
   exact List.mem_cons_of_mem _ (ih h)
theorem lookup_of_mem {g : Grp} {b : Nat} {o : Obj} (h : (b, o) ∈ g) (hn : (g.map (·.1)).Nodup) : g.lookup b = some o := by
 induction g with
 | nil => simp at h
 | cons x xs ih =>
  obtain ⟨k, v⟩ := x
  simp only [List.map_cons, List.nodup_cons] at hn
  simp only [List.lookup_cons]
  rcases List.mem_cons.1 h with e | h2
  ·cases e; simp
  ·have hne : (b == k) = false := by
    simp only [beq_eq_false_iff_ne]; intro e; subst e; exact hn.1 (List.mem_map.2 ⟨(b, o), h2, rfl⟩)
   rw [hne]; exact ih h2 hn.2
theorem lookup_none {g : Grp} {b : Nat} (h : ∀ c ∈ g, c.1 ≠ b) : g.lookup b = none := by
 cases hl : g.lookup b with
 | none => rfl
 | some o => exact absurd rfl (h _ (lookup_mem hl))

theorem Wor.freeze {g : Grp} (h : Wor σ (g :: gs) w) : σ.Le (σ.add g) ∧ Wor (σ.add g) gs w ∧ ∀ c ∈ g, (σ.add g).imm c.1 = some c.2 := by
 have hnd := h.nodup
 simp only [List.flatten_cons, List.map_append] at hnd
 have hnd1 := (List.nodup_append.1 hnd).1
 have hin : ∀ c ∈ g, c ∈ (g :: gs).flatten := fun c hc => by simp only [List.flatten_cons, List.mem_append]; exact .inl hc
 have hin2 : ∀ c ∈ gs.flatten, c ∈ (g :: gs).flatten := fun c hc => by simp only [List.flatten_cons, List.mem_append]; exact .inr hc
 refine ⟨⟨fun b o hb => ?_, rfl, rfl, rfl⟩, ⟨h.os, h.tape, h.output, fun b o hb => ?_, fun c hc => h.has c (hin2 c hc), ?_, fun c hc => ?_⟩, fun c hc => ?_⟩
 ·have hno : g.lookup b = none := lookup_none fun c hc e => by
   subst e; rw [h.apart c (hin c hc)] at hb; cases hb
  simp [Sto.add, hno, hb]
 ·simp only [Sto.add] at hb
  cases hl : g.lookup b with
  | some o' => rw [hl] at hb; simp at hb; subst hb; exact h.has (b, o') (hin _ (lookup_mem hl))
  | none => rw [hl] at hb; exact h.imm b o hb
 ·exact (List.nodup_append.1 hnd).2.1
 ·have hno : g.lookup c.1 = none := lookup_none fun c' hc' e => (List.nodup_append.1 hnd).2.2 c'.1 (List.mem_map_of_mem hc') c.1 (List.mem_map_of_mem hc) e
  simp [Sto.add, hno, h.apart c (hin2 c hc)]
 ·simp [Sto.add, lookup_of_mem (b := c.1) (o := c.2) hc hnd1]
end wor

/-! ### Environments -/
abbrev Env := List (Nat × Value)
def look : Env → Nat → Option Value
 | [], _ => none
 | (d, v) :: l, t => match Nat.beq t d with | true => some v | false => look l t
def put (ρ : Env) : Option Nat → Value → Env
 | some d, v => (d, v) :: ρ
 | none, _ => ρ
def ev (ρ : Env) : Operand → Option Value
 | .tmp t => look ρ t
 | .const v => some v
 | .global g => some (.pointer (some ⟨g, 0, none⟩))
 | .func f => some (.func (.func f) #[] #[])
def EnvSub (ρ : Env) : Env → Prop
 | [] => True
 | (t, v) :: l => look ρ t = some v ∧ EnvSub ρ l
theorem EnvSub.look {ρ ρ' : Env} (h : EnvSub ρ ρ') : ∀ t v, look ρ' t = some v → look ρ t = some v := by
 induction ρ' with
 | nil => intro t v h; simp [Eng.look] at h
 | cons x l ih =>
  obtain ⟨d, u⟩ := x
  obtain ⟨h1, h2⟩ := h
  intro t v hv
  simp only [Eng.look] at hv
  cases hb : Nat.beq t d with
  | true => rw [hb] at hv; simp at hv; subst hv; rw [Nat.eq_of_beq_eq_true hb]; exact h1
  | false => rw [hb] at hv; exact ih h2 t v hv

structure Frm (a : Act) (n : Nat) (ρ : Env) (ds : List Nat) : Prop where
 size : a.tmps.size = n
 at_ : ∀ t v, look ρ t = some v → a.tmps.getD t undef = v
 marks : a.defers = ds.map fun d => { target := .collected d, args := #[] }

theorem Frm.eval {a : Act} {n : Nat} {ρ : Env} {ds : List Nat} (h : Frm a n ρ ds) {x : Operand} {v : Value} (hx : ev ρ x = some v) : a.eval x = v := by
 cases x with
 | tmp t => exact h.at_ t v hx
 | const c => simp [ev] at hx; exact hx
 | global g => simp [ev] at hx; exact hx
 | func f => simp [ev] at hx; exact hx
theorem Frm.sub {a : Act} {n : Nat} {ρ ρ' : Env} {ds : List Nat} (h : Frm a n ρ ds) (hs : ∀ t v, look ρ' t = some v → look ρ t = some v) : Frm a n ρ' ds :=
 ⟨h.size, fun t v hv => h.at_ t v (hs t v hv), h.marks⟩
theorem Frm.put {a : Act} {n : Nat} {ρ : Env} {ds : List Nat} (h : Frm a n ρ ds) (d : Option Nat) (hd : (match d with | some d => Nat.blt d n | none => true) = true) (v : Value) : Frm (a.put d v) n (Eng.put ρ d v) ds := by
 cases d with
 | none => exact h
 | some d =>
  have hlt : d < a.tmps.size := by rw [h.size]; exact Nat.le_of_ble_eq_true hd
  refine ⟨by simp [Act.put, h.size], fun t u hu => ?_, h.marks⟩
  simp only [Eng.put, look] at hu
  cases hb : Nat.beq t d with
  | true =>
   rw [hb] at hu; simp at hu; subst hu
   rw [Nat.eq_of_beq_eq_true hb]
   simp [Act.put, hlt]
  | false =>
   rw [hb] at hu
   have hne : d ≠ t := by rintro rfl; simp at hb
   have := h.at_ t u hu
   simp only [Act.put, Array.getD_eq_getD_getElem?] at *
   rw [Array.getElem?_setIfInBounds_ne hne]; exact this

/-! ### The machine -/
structure Ctx (P : Program) (n : Nat) where
 b : Frame
 cs : List Frame
 fr : List Grp
 G : Machine → Prop

def marks (ds : List Nat) : Grp := ds.map fun d => (d, .deferred (some []))

def St {P : Program} {n : Nat} (c : Ctx P n) (ρ : Env) (σ : Sto) (gs : List Grp) (k : List Item) : Prop :=
 ∀ ds a w, Frm a n ρ ds → Wor σ (gs ++ marks ds :: c.fr) w → ∃ m', Steps P (lone (c.b.atR a k) c.cs w) m' ∧ c.G m'

section steps
variable {P : Program} {n : Nat} {c : Ctx P n} {ρ : Env} {σ : Sto} {gs : List Grp} {k : List Item}

theorem St.step {k' : List Item} (h : ∀ ds a w, Frm a n ρ ds → step P (lone (c.b.atR a k) c.cs w) = .next (lone (c.b.atR a k') c.cs w)) (hk : St c ρ σ gs k') : St c ρ σ gs k :=
 fun ds a w ha hw => let ⟨m', hs, hg⟩ := hk ds a w ha hw; ⟨m', .head (h ds a w ha) hs, hg⟩
theorem st_skip (h : St c ρ σ gs k) : St c ρ σ gs (.code .skip :: k) := .step (fun _ _ _ _ => stepR_skip) h
theorem st_label {l : Nat} (h : St c ρ σ gs k) : St c ρ σ gs (.code (.label l) :: k) := .step (fun _ _ _ _ => stepR_label) h
theorem st_inBlock {id : Nat} (h : St c ρ σ gs k) : St c ρ σ gs (.inBlock id :: k) := .step (fun _ _ _ _ => stepR_inBlock) h
theorem st_inScope {x : Code} (h : St c ρ σ gs k) : St c ρ σ gs (.inScope x :: k) :=
 .step (fun _ _ _ _ => step_lone_go (by simp [stepG, stepG.exec, Frame.atR])) h
theorem st_seq {x y : Code} (h : St c ρ σ gs (.code x :: .code y :: k)) : St c ρ σ gs (.code (.seq x y) :: k) := .step (fun _ _ _ _ => stepR_seq) h
theorem st_block {id : Nat} {x : Code} (h : St c ρ σ gs (.code x :: .inBlock id :: k)) : St c ρ σ gs (.code (.block id x) :: k) := .step (fun _ _ _ _ => stepR_block) h
theorem st_scope {x : Code} (h : St c ρ σ gs (.code x :: .inScope x :: k)) : St c ρ σ gs (.code (.scope x) :: k) :=
 .step (fun _ _ _ _ => step_lone_go (by simp [stepG, stepG.exec, Frame.atR])) h
theorem st_loop0 {x : Code} (h : St c ρ σ gs (.code x :: .inLoop x :: k)) : St c ρ σ gs (.code (.loop x) :: k) := .step (fun _ _ _ _ => stepR_loop) h
theorem st_inLoop0 {x : Code} (h : St c ρ σ gs (.code x :: .inLoop x :: k)) : St c ρ σ gs (.inLoop x :: k) := .step (fun _ _ _ _ => stepR_inLoop) h
theorem st_exit {id : Nat} {k' : List Item} (he : exitTo id k = some k') (h : St c ρ σ gs k') : St c ρ σ gs (.code (.exit id) :: k) := .step (fun _ _ _ _ => stepR_exit he) h
theorem st_cond {x : Operand} {y z : Code} {t : Bool} (hx : ev ρ x = some (.bool t)) (ht : t = true → St c ρ σ gs (.code y :: k)) (hf : t = false → St c ρ σ gs (.code z :: k)) :
    St c ρ σ gs (.code (.cond x y z) :: k) := by
  intro ds a w ha hw
  have hs := stepR_cond (P := P) (b := c.b) (k := k) (cs := c.cs) (w := w) (x := y) (y := z) (ha.eval hx)
  cases t with
  | true => obtain ⟨m', h1, h2⟩ := ht rfl ds a w ha hw; exact ⟨m', .head hs h1, h2⟩
  | false => obtain ⟨m', h1, h2⟩ := hf rfl ds a w ha hw; exact ⟨m', .head hs h1, h2⟩
theorem st_region {id : Nat} {ops : Array Oper} (h : St c ρ σ gs (.inRegion ops (List.range ops.size) :: k)) : St c ρ σ gs (.code (.region id ops false) :: k) := .step (fun _ _ _ _ => stepR_region) h
theorem st_end {ops : Array Oper} (h : St c ρ σ gs k) : St c ρ σ gs (.inRegion ops [] :: k) := .step (fun _ _ _ _ => stepR_region_end) h

theorem st_env {ρ' : Env} (hs : EnvSub ρ ρ') (h : St c ρ' σ gs k) : St c ρ σ gs k := fun ds a w ha hw => h ds a w (ha.sub hs.look) hw
theorem st_perm {gs' : List Grp} (hs : gs.flatten.Perm gs'.flatten) (h : St c ρ σ gs' k) : St c ρ σ gs k := fun ds a w ha hw =>
 h ds a w ha (hw.perm (by simp only [List.flatten_append]; exact hs.append_right _))
theorem st_freeze {g : Grp} (h : ∀ σ', σ.Le σ' → (∀ p ∈ g, σ'.imm p.1 = some p.2) → St c ρ σ' gs k) : St c ρ σ (g :: gs) k :=
 fun ds a w ha hw => let ⟨h1, h2, h3⟩ := hw.freeze; h _ h1 h3 ds a w ha h2
theorem st_cut {x : Item} (J : Env → Sto → List Grp → Prop) (hk : ∀ ρ σ gs, J ρ σ gs → St c ρ σ gs k) (h : (∀ ρ σ gs, J ρ σ gs → St c ρ σ gs k) → St c ρ σ gs (x :: k)) : St c ρ σ gs (x :: k) := h hk

/-! ### Operations -/
def wants (ops : Array Oper) (ρ : Env) : Option (Nat × Bool) → Bool
 | none => true
 | some (j, want) => match (ops[j]?).bind (·.dst) with
  | some d => match look ρ d with
   | some (.bool b) => b == want
   | _ => false
  | none => false
def fits (n : Nat) : Option Nat → Bool
 | some d => Nat.blt d n
 | none => true

theorem wanted_of {a : Act} {ds : List Nat} {ops : Array Oper} {o : Oper} (ha : Frm a n ρ ds) (h : wants ops ρ o.guard = true) : Region.wanted o (yielded ops a.tmps) = true := by
 unfold Region.wanted
 cases hg : o.guard with
 | none => rfl
 | some p =>
  obtain ⟨j, want⟩ := p
  rw [hg] at h
  simp only [wants] at h
  cases hd : (ops[j]?).bind (·.dst) with
  | none => rw [hd] at h; cases h
  | some d =>
   rw [hd] at h
   simp only at h
   cases hl : look ρ d with
   | none => rw [hl] at h; cases h
   | some v =>
    rw [hl] at h
    have hv := ha.at_ d v hl
    cases v with
    | bool b =>
     simp only [beq_iff_eq] at h
     subst h
     simp only [yielded, hd, Option.bind_some]
     have : a.tmps[d]? = some (.bool b) := by
      rw [Array.getD_eq_getD_getElem?] at hv
      cases h2 : a.tmps[d]? with
      | none => rw [h2] at hv; simp [undef] at hv
      | some u => rw [h2] at hv; simp at hv; rw [hv]
     rw [this]; simp
    | _ => cases h

theorem st_pass {ops : Array Oper} {i : Nat} {rest : List Nat} {o : Oper} {j : Nat} {want b : Bool} {d : Nat} (ho : ops[i]? = some o) (hg : o.guard = some (j, want)) (hd : (ops[j]?).bind (·.dst) = some d) (hb : look ρ d = some (.bool b)) (hn : (b == want) = false) (hf : fits n o.dst = true)
    (h : St c (put ρ o.dst undef) σ gs (.inRegion ops rest :: k)) : St c ρ σ gs (.inRegion ops (i :: rest) :: k) := by
  intro ds a w ha hw
  have hv := ha.at_ d _ hb
  have h2 : a.tmps[d]? = some (.bool b) := by
    rw [Array.getD_eq_getD_getElem?] at hv
    cases h2 : a.tmps[d]? with
    | none => rw [h2] at hv; simp [undef] at hv
    | some u => rw [h2] at hv; simp at hv; rw [hv]
  have hs := stepR_op_skip (P := P) (b := c.b) (a := a) (k := k) (cs := c.cs) (w := w) (ops := ops) (i := i) (rest := rest)
    (by simp only [ho, Option.map_some, Option.getD_some, Region.wanted, hg, yielded, hd, Option.bind_some, h2]; cases b <;> cases want <;> simp_all)
  rw [ho] at hs
  obtain ⟨m', h3, h4⟩ := h ds _ w (ha.put o.dst hf undef) hw
  exact ⟨m', .head hs h3, h4⟩

def notDefer : Op → Bool
 | .defer _ => false
 | _ => true

theorem st_op {ops : Array Oper} {i : Nat} {rest : List Nat} {o : Oper} (ho : ops[i]? = some o) (hg : wants ops ρ o.guard = true) (hf : fits n o.dst = true) (hd : notDefer o.op = true)
    (h : ∀ ds a w, Frm a n ρ ds → Wor σ (gs ++ marks ds :: c.fr) w → ∃ v w' σ' gs', ((execOp a.eval o).run P w = .ok (.value v) w' ∨ ((execOp a.eval o).run P w = .ok .skip w' ∧ v = undef)) ∧ Wor σ' (gs' ++ marks ds :: c.fr) w' ∧ St c (put ρ o.dst v) σ' gs' (.inRegion ops rest :: k)) :
    St c ρ σ gs (.inRegion ops (i :: rest) :: k) := by
  intro ds a w ha hw
  obtain ⟨v, w', σ', gs', hrun, hw', hk⟩ := h ds a w ha hw
  obtain ⟨m', h3, h4⟩ := hk ds _ w' (ha.put o.dst hf v) hw'
  refine ⟨m', .head ?_ h3, h4⟩
  have hse : o.semAt c.b.roundOf a.eval = execOp a.eval o := Oper.semAt_eq _ _ _ (fun cc e => by rw [e] at hd; cases hd)
  have hg2 := stepGR_op (P := P) (b := c.b) (k := k) (cs := c.cs) (w := w) (rest := rest) ho (wanted_of ha hg)
  have hfin : (c.b.atR a (.inRegion ops (i :: rest) :: k)).finish v = c.b.atR (a.put o.dst v) (.inRegion ops rest :: k) := by
    rw [Frame.finish_atR, ho]; rfl
  refine step_lone_go ?_
  rw [hg2, hse]
  rcases hrun with hrun | ⟨hrun, rfl⟩
  · simp [stepG.apply, Sem.runT_eq, hrun, GStep.bare_after, hfin]
  · simp [stepG.apply, Sem.runT_eq, hrun, GStep.bare_after, hfin]

theorem st_pure {ops : Array Oper} {i : Nat} {rest : List Nat} {o : Oper} {v : Value} (ho : ops[i]? = some o) (hg : wants ops ρ o.guard = true) (hf : fits n o.dst = true) (hd : notDefer o.op = true)
    (hrun : ∀ ds a w, Frm a n ρ ds → (execOp a.eval o).run P w = .ok (.value v) w)
    (h : St c (put ρ o.dst v) σ gs (.inRegion ops rest :: k)) : St c ρ σ gs (.inRegion ops (i :: rest) :: k) :=
  st_op ho hg hf hd fun ds a w ha hw => ⟨v, w, σ, gs, .inl (hrun ds a w ha), hw, h⟩
end steps
end Go.Eng
