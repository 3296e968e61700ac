import Derived.Test.YtonmgcebhhdplabGreatDoorEngE
/-! The engine, part F: data in memory; boxes; loads and stores. -/
namespace Go.Eng
open Go

/-! ### Facts on types, each to be reckoned once for a program -/
def isScalar (P : Program) (t : TypeId) : Bool := match P.underlying t with
 | some (.struct _) | some (.array _ _) | none => false
 | _ => true
def aggSize (P : Program) (t : TypeId) : Option Nat := match P.underlying t with
 | some (.struct _) | some (.array _ _) => (P.info? t).map (·.size)
 | _ => none
def sizeT (P : Program) (t : TypeId) : Option Nat := (P.info? t).map (·.size)
def zeroT (P : Program) (t : TypeId) : Option (List Value) := ((P.info? t).bind (·.zero)).map (·.cells.toList)
def fieldT (P : Program) (s : TypeId) (f : Nat) : Option Nat := match P.underlying s with
 | some (.struct fs) => match fs[f]? with
  | some fd => match sizeT P fd.type with
   | some 0 => none
   | some _ => some fd.offset
   | none => none
  | none => none
 | _ => none
def partT (P : Program) (s : TypeId) (f : Nat) : Option (Nat × Option Nat) := match P.underlying s with
 | some (.struct fs) => match fs[f]? with
  | some fd => match aggSize P fd.type, isScalar P fd.type with
   | some m, _ => some (fd.offset, some m)
   | none, true => some (fd.offset, none)
   | none, false => none
  | none => none
 | _ => none

theorem run_isAgg_no {P : Program} {t : TypeId} (h : isScalar P t = true) (w : World) : (isAgg t).run P w = .ok false w := by
 unfold isScalar at h
 cases hu : P.underlying t with
 | none => rw [hu] at h; cases h
 | some e => rw [hu] at h; cases e <;> simp_all [isAgg, underlying]
theorem run_isAgg_yes {P : Program} {t : TypeId} {m : Nat} (h : aggSize P t = some m) (w : World) : (isAgg t).run P w = .ok true w ∧ (sizeOf t).run P w = .ok m w := by
 unfold aggSize at h
 cases hu : P.underlying t with
 | none => rw [hu] at h; cases h
 | some e =>
  rw [hu] at h
  cases e <;> simp_all [isAgg, underlying, sizeOf, typeInfo]
  all_goals (obtain ⟨i, hi, rfl⟩ := h; simp [hi])
theorem run_sizeT {P : Program} {t : TypeId} {m : Nat} (h : sizeT P t = some m) (w : World) : (sizeOf t).run P w = .ok m w := by
 unfold sizeT at h
 cases hi : P.info? t with
 | none => rw [hi] at h; cases h
 | some i => rw [hi] at h; simp at h; simp [sizeOf, typeInfo, hi, h]
theorem run_zeroT {P : Program} {t : TypeId} {zs : List Value} (h : zeroT P t = some zs) (w : World) : ∃ z, (zeroValue t).run P w = .ok z w ∧ z.cells.toList = zs := by
 unfold zeroT at h
 cases hi : P.info? t with
 | none => rw [hi] at h; cases h
 | some i =>
  rw [hi] at h
  simp only [Option.bind_some] at h
  cases hz : i.zero with
  | none => rw [hz] at h; cases h
  | some z => rw [hz] at h; simp at h; exact ⟨z, by simp [zeroValue, typeInfo, hi, hz], h⟩

/-! ### Kinds of data -/
structure Kd (α : Type) where
 sz : Nat
 rep : Sto → List Value → α → Prop
 mono : ∀ {σ τ cs x}, σ.Le τ → rep σ cs x → rep τ cs x
 len : ∀ {σ cs x}, rep σ cs x → cs.length = sz
 one : ∀ {σ cs x}, rep σ cs x → ∀ u ∈ cs, u.oneCell' = true

def kI (k : IntKind) : Kd Int := ⟨1, fun _ cs x => cs = [.int k x], fun _ h => h, fun h => by rw [h]; rfl, fun h u hu => by rw [h] at hu; simp at hu; subst hu; rfl⟩
def kB : Kd Bool := ⟨1, fun _ cs x => cs = [.bool x], fun _ h => h, fun h => by rw [h]; rfl, fun h u hu => by rw [h] at hu; simp at hu; subst hu; rfl⟩
def kS : Kd ByteArray := ⟨1, fun _ cs x => cs = [.string x], fun _ h => h, fun h => by rw [h]; rfl, fun h u hu => by rw [h] at hu; simp at hu; subst hu; rfl⟩

inductive Kd.Many {α : Type} (d : Kd α) (σ : Sto) : List Value → List α → Prop
 | nil : Kd.Many d σ [] []
 | cons {a b : List Value} {x : α} {xs : List α} (h : d.rep σ a x) (h' : Kd.Many d σ b xs) : Kd.Many d σ (a ++ b) (x :: xs)

namespace Kd
variable {α : Type} {d : Kd α} {σ τ : Sto} {cs cs' : List Value} {xs ys : List α}
theorem Many.mono (hl : σ.Le τ) (h : d.Many σ cs xs) : d.Many τ cs xs := by
 induction h with
 | nil => exact .nil
 | cons h _ ih => exact .cons (d.mono hl h) ih
theorem Many.len (h : d.Many σ cs xs) : cs.length = xs.length * d.sz := by
 induction h with
 | nil => simp
 | cons h _ ih => rw [List.length_append, List.length_cons, d.len h, ih, Nat.add_mul]; omega
theorem Many.one (h : d.Many σ cs xs) : ∀ u ∈ cs, u.oneCell' = true := by
 induction h with
 | nil => intro u hu; cases hu
 | cons h _ ih =>
  intro u hu
  rcases List.mem_append.1 hu with h1 | h1
  ·exact d.one h u h1
  ·exact ih u h1
theorem Many.append (h : d.Many σ cs xs) (h' : d.Many σ cs' ys) : d.Many σ (cs ++ cs') (xs ++ ys) := by
 induction h with
 | nil => exact h'
 | cons h _ ih => rw [List.append_assoc]; exact .cons h ih
theorem Many.at_ {i : Nat} {x : α} (h : d.Many σ cs xs) (hx : xs[i]? = some x) : ∃ a, d.rep σ a x ∧ ∀ j u, a[j]? = some u → cs[i * d.sz + j]? = some u := by
 induction h generalizing i with
 | nil => simp at hx
 | @cons a b x' xs' h hm ih =>
  have hl := d.len h
  cases i with
  | zero =>
   simp at hx; subst hx
   refine ⟨a, h, fun j u hj => ?_⟩
   have hlt := (List.getElem?_eq_some_iff.1 hj).1
   rw [Nat.zero_mul, Nat.zero_add, List.getElem?_append_left hlt]; exact hj
  | succ i =>
   simp only [List.getElem?_cons_succ] at hx
   obtain ⟨a', h1, h2⟩ := ih hx
   refine ⟨a', h1, fun j u hj => ?_⟩
   rw [List.getElem?_append_right (by rw [hl, Nat.add_mul]; omega)]
   have := h2 j u hj
   rw [hl, show (i + 1) * d.sz + j - d.sz = i * d.sz + j by rw [Nat.add_mul]; omega]; exact this
theorem Many.drop {i : Nat} (h : d.Many σ cs xs) (hi : i ≤ xs.length) : d.Many σ (cs.drop (i * d.sz)) (xs.drop i) := by
 induction i generalizing cs xs with
 | zero => simpa using h
 | succ i ih =>
  cases h with
  | nil => simp at hi
  | @cons a b x' xs' h hm =>
   have hl := d.len h
   have := ih hm (by simpa using hi)
   rw [List.drop_succ_cons, Nat.add_mul, Nat.add_comm, Nat.one_mul, ← List.drop_drop]
   rw [show (a ++ b).drop d.sz = b by rw [← hl]; exact List.drop_left]
   exact this
theorem Many.take {i : Nat} (h : d.Many σ cs xs) (hi : i ≤ xs.length) : d.Many σ (cs.take (i * d.sz)) (xs.take i) := by
 induction i generalizing cs xs with
 | zero => simpa using Many.nil
 | succ i ih =>
  cases h with
  | nil => simp at hi
  | @cons a b x' xs' h hm =>
   have hl := d.len h
   have := ih hm (by simpa using hi)
   rw [List.take_succ_cons, Nat.add_mul, Nat.one_mul]
   rw [show (a ++ b).take (i * d.sz + d.sz) = a ++ b.take (i * d.sz) by
    rw [Nat.add_comm, ← hl]; exact List.take_length_add_append _]
   exact .cons h this
theorem Many.set {i : Nat} {a : List Value} {x : α} (h : d.Many σ cs xs) (hi : i < xs.length) (hx : d.rep σ a x) : d.Many σ (cs.take (i * d.sz) ++ a ++ cs.drop (i * d.sz + d.sz)) (xs.set i x) := by
 have h1 := h.take (i := i) (by omega)
 have h2 := h.drop (i := i + 1) (by omega)
 rw [Nat.add_mul, Nat.one_mul] at h2
 have h3 := h1.append (Many.cons hx h2)
 rw [List.append_assoc]
 rw [List.set_eq_take_append_cons_drop, if_pos hi]
 exact h3
end Kd

/-! ### Slices that never change, and slices that are held -/
def SlC (σ : Sto) (size : Nat) (v : Value) (n : Nat) (cells : List Value) : Prop :=
 cells.length = n * size ∧ (((∃ a, v = .slice a 0 0) ∧ n = 0) ∨
  ∃ b off cap cs E fr, v = .slice (some ⟨b, off, none⟩) n cap ∧ n ≤ cap ∧ cap ≤ maxLen ∧ σ.imm b = some (.cells cs E fr) ∧ off + cap * size ≤ cs.size ∧ ∀ j u, cells[j]? = some u → cs[off + j]? = some u)
def OwC (size : Nat) (E : TypeId) (v : Value) (n : Nat) (cells : List Value) (g : Grp) : Prop :=
 cells.length = n * size ∧ ((v = .slice none 0 0 ∧ n = 0 ∧ g = []) ∨
  ∃ b cap cur, v = .slice (some ⟨b, 0, none⟩) n cap ∧ g = [(b, .cells cur E (0, 0))] ∧ n ≤ cap ∧ cap ≤ maxLen ∧ cur.size = cap * size ∧ cur.toList.take (n * size) = cells)
def Sl {α : Type} (d : Kd α) (σ : Sto) (v : Value) (xs : List α) : Prop := ∃ cells, SlC σ d.sz v xs.length cells ∧ d.Many σ cells xs
def Ow {α : Type} (d : Kd α) (E : TypeId) (σ : Sto) (v : Value) (xs : List α) (g : Grp) : Prop := ∃ cells, OwC d.sz E v xs.length cells g ∧ d.Many σ cells xs

section
variable {α : Type} {d : Kd α} {E : TypeId} {σ τ : Sto} {v : Value} {xs : List α} {g : Grp}
theorem Sl.up (h : Sl d σ v xs) (hl : σ.Le τ) : Sl d τ v xs := by
 obtain ⟨cells, ⟨h1, h2⟩, h3⟩ := h
 refine ⟨cells, ⟨h1, ?_⟩, h3.mono hl⟩
 rcases h2 with h2 | ⟨b, off, cap, cs, E, fr, a1, a2, a3, a4, a5, a6⟩
 ·exact .inl h2
 ·exact .inr ⟨b, off, cap, cs, E, fr, a1, a2, a3, hl.imm _ _ a4, a5, a6⟩
theorem Ow.up (h : Ow d E σ v xs g) (hl : σ.Le τ) : Ow d E τ v xs g := let ⟨cells, h1, h2⟩ := h; ⟨cells, h1, h2.mono hl⟩
theorem Sl.nil : Sl d σ (.slice none 0 0) [] := ⟨[], ⟨by simp, .inl ⟨⟨_, rfl⟩, rfl⟩⟩, .nil⟩
theorem Ow.nil : Ow d E σ (.slice none 0 0) [] [] := ⟨[], ⟨by simp, .inl ⟨rfl, rfl, rfl⟩⟩, .nil⟩
theorem Sl.slice (h : Sl d σ v xs) : ∃ a cap, v = .slice a xs.length cap := by
 obtain ⟨cells, ⟨_, h2⟩, _⟩ := h
 rcases h2 with ⟨⟨a0, rfl⟩, hn⟩ | ⟨b, off, cap, cs, E, fr, a1, _⟩
 ·exact ⟨a0, 0, by rw [hn]⟩
 ·exact ⟨_, _, a1⟩
theorem Ow.slice (h : Ow d E σ v xs g) : ∃ a cap, v = .slice a xs.length cap := by
 obtain ⟨cells, ⟨_, h2⟩, _⟩ := h
 rcases h2 with ⟨rfl, hn, _⟩ | ⟨b, cap, cs, a1, _⟩
 ·exact ⟨none, 0, by rw [hn]⟩
 ·exact ⟨_, _, a1⟩
theorem Sl.one (h : Sl d σ v xs) : v.cells = #[v] := by obtain ⟨a, cap, rfl⟩ := h.slice; rfl
theorem Ow.one (h : Ow d E σ v xs g) : v.cells = #[v] := by obtain ⟨a, cap, rfl⟩ := h.slice; rfl
theorem Sl.one' (h : Sl d σ v xs) : v.oneCell' = true := by obtain ⟨a, cap, rfl⟩ := h.slice; rfl
theorem Ow.one' (h : Ow d E σ v xs g) : v.oneCell' = true := by obtain ⟨a, cap, rfl⟩ := h.slice; rfl
theorem Sl.small (h : Sl d σ v xs) : xs.length ≤ maxLen := by
 obtain ⟨cells, ⟨_, h2⟩, _⟩ := h
 rcases h2 with ⟨_, hn⟩ | ⟨b, off, cap, cs, E, fr, a1, a2, a3, _⟩
 ·rw [hn]; exact Nat.zero_le _
 ·omega
theorem Ow.freeze (h : Ow d E σ v xs g) (hl : σ.Le τ) (hg : ∀ p ∈ g, τ.imm p.1 = some p.2) : Sl d τ v xs := by
 obtain ⟨cells, ⟨h1, h2⟩, h3⟩ := h
 refine ⟨cells, ⟨h1, ?_⟩, h3.mono hl⟩
 rcases h2 with ⟨a1, a2, _⟩ | ⟨b, cap, cur, a1, rfl, a2, a3, a4, a5⟩
 ·exact .inl ⟨⟨_, a1⟩, a2⟩
 ·refine .inr ⟨b, 0, cap, cur, E, (0, 0), a1, a2, a3, hg _ (List.mem_cons_self), by omega, fun j u hj => ?_⟩
  rw [← a5, List.getElem?_take] at hj
  split at hj
  ·simpa using hj
  ·cases hj
def kSl {α : Type} (d : Kd α) : Kd (List α) := ⟨1, fun σ cs xs => ∃ v, cs = [v] ∧ Sl d σ v xs, fun hl h => let ⟨v, h1, h2⟩ := h; ⟨v, h1, h2.up hl⟩, fun h => by obtain ⟨v, rfl, _⟩ := h; rfl,
 fun h u hu => by obtain ⟨v, rfl, h2⟩ := h; simp at hu; subst hu; exact h2.one'⟩
end

def Cel (σ : Sto) (ad : Addr) (v : Value) : Prop := ∃ cs E fr, σ.imm ad.block = some (.cells cs E fr) ∧ cs[ad.off]? = some v ∧ ad.spot = none
def CelN (σ : Sto) (ad : Addr) (vs : List Value) : Prop := ∀ j v, vs[j]? = some v → Cel σ ⟨ad.block, ad.off + j, none⟩ v
theorem Cel.up {σ τ : Sto} {ad : Addr} {v : Value} (h : Cel σ ad v) (hl : σ.Le τ) : Cel τ ad v := let ⟨cs, E, fr, h1, h2, h3⟩ := h; ⟨cs, E, fr, hl.imm _ _ h1, h2, h3⟩
theorem CelN.up {σ τ : Sto} {ad : Addr} {vs : List Value} (h : CelN σ ad vs) (hl : σ.Le τ) : CelN τ ad vs := fun j v hv => (h j v hv).up hl
theorem Cel.cell {σ : Sto} {gs : List Grp} {w : World} {ad : Addr} {v : Value} (h : Cel σ ad v) (hw : Wor σ gs w) : w.cell? ad = some v := by
 obtain ⟨cs, E, fr, h1, h2, h3⟩ := h
 have := hw.imm _ _ h1
 simp [World.cell?, this, h3, h2]

theorem add_plain (b off j : Nat) : (⟨b, off, none⟩ : Addr).add j = ⟨b, off + j, none⟩ := by unfold Addr.add; split <;> simp_all

section
variable {σ : Sto} {gs fs : List Grp} {w w' : World} {j : Nat} {g : Grp}
theorem Wor.get (h : Wor σ (gs ++ fs) w) (hj : gs[j]? = some g) {b : Nat} {o : Obj} (hc : (b, o) ∈ g) : w.heap[b]? = some o :=
 h.has (b, o) (by simp only [List.flatten_append, List.mem_append]; exact .inl (List.mem_flatten.2 ⟨g, List.mem_of_getElem? hj, hc⟩))
theorem Wor.put {b : Nat} {o o' : Obj} (h : Wor σ (gs ++ fs) w) (hj : gs[j]? = some [(b, o)]) (hos : w'.os = w.os) (htape : w'.tape = w.tape) (hout : w'.output = w.output)
    (hb : w'.heap[b]? = some o') (hother : ∀ k, k ≠ b → w'.heap[k]? = w.heap[k]?) : Wor σ (gs.set j [(b, o')] ++ fs) w' := by
  have hlt := (List.getElem?_eq_some_iff.1 hj).1
  have hget := (List.getElem?_eq_some_iff.1 hj).2
  have e1 : gs = gs.take j ++ [(b, o)] :: gs.drop (j + 1) := by
    rw [← hget, List.getElem_cons_drop, List.take_append_drop]
  rw [List.set_eq_take_append_cons_drop, if_pos hlt, List.append_assoc, List.cons_append]
  rw [e1, List.append_assoc, List.cons_append] at h
  exact h.turnMid hos htape hout hb hother
end

section
variable {P : Program} {n : Nat} {c : Ctx P n} {ρ : Env} {σ : Sto} {gs : List Grp} {k : List Item} {ops : Array Oper} {i : Nat} {rest : List Nat}
variable {d : Option Nat} {ty : TypeId} {pos : String} {after : Array Edge} {g : Option (Nat × Bool)} {x y z : Operand} {v u : Value} {t : TypeId}

theorem o_box {cs : List Value} (ho : ops[i]? = some ⟨d, .box t x, ty, pos, after, g⟩) (hg : wants ops ρ g = true) (hf : fits n d = true) (hx : ev ρ x = some v) (hc : v.cells.toList = cs)
    (h : ∀ b, St c (put ρ d (.pointer (some ⟨b, 0, none⟩))) σ ([(b, .cells cs.toArray t (0, 0))] :: gs) (.inRegion ops rest :: k)) : St c ρ σ gs (.inRegion ops (i :: rest) :: k) :=
  st_op ho hg hf rfl fun ds a w ha hw => ⟨_, w.alloc (.cells cs.toArray t (0, 0)), σ, _, .inl (by
    have : v.cells = cs.toArray := by rw [← hc]
    simp [execOp, ha.eval hx, Instr.box, newVar, newRow, this]), hw.alloc _, h w.heap.size⟩
theorem o_alloc {zs : List Value} (ho : ops[i]? = some ⟨d, .alloc t, ty, pos, after, g⟩) (hg : wants ops ρ g = true) (hf : fits n d = true) (hz : zeroT P t = some zs)
    (h : ∀ b, St c (put ρ d (.pointer (some ⟨b, 0, none⟩))) σ ([(b, .cells zs.toArray t (0, 0))] :: gs) (.inRegion ops rest :: k)) : St c ρ σ gs (.inRegion ops (i :: rest) :: k) :=
  st_op ho hg hf rfl fun ds a w ha hw => ⟨_, w.alloc (.cells zs.toArray t (0, 0)), σ, _, .inl (by
    obtain ⟨z, h1, h2⟩ := run_zeroT hz w
    have : z.cells = zs.toArray := by rw [← h2]
    simp [execOp, Instr.alloc, newVar, newRow, h1, this]), hw.alloc _, h w.heap.size⟩

theorem run_load1 {w : World} {a : Addr} (ht : isScalar P t = true) (hc : w.cell? a = some v) : (Instr.loadAt t (.pointer (some a))).run P w = .ok v w := by
 simp [Instr.loadAt, Instr.sureAddr, loadVar, run_isAgg_no ht, hc]
theorem run_loadN {w : World} {a : Addr} {vs : List Value} (ht : aggSize P t = some vs.length) (hc : ∀ j v, vs[j]? = some v → w.cell? (a.add j) = some v) : (Instr.loadAt t (.pointer (some a))).run P w = .ok (.agg vs.toArray) w := by
 simp [Instr.loadAt, Instr.sureAddr, loadVar, (run_isAgg_yes ht w).1, (run_isAgg_yes ht w).2, run_loadCells_list w a vs hc]

theorem o_load {b off j : Nat} {cs : Array Value} {E : TypeId} {fr : Nat × Nat} (ho : ops[i]? = some ⟨d, .load t x, ty, pos, after, g⟩) (hg : wants ops ρ g = true) (hf : fits n d = true) (ht : isScalar P t = true)
    (hx : ev ρ x = some (.pointer (some ⟨b, off, none⟩))) (hj : gs[j]? = some [(b, .cells cs E fr)]) (hc : cs[off]? = some v)
    (h : St c (put ρ d v) σ gs (.inRegion ops rest :: k)) : St c ρ σ gs (.inRegion ops (i :: rest) :: k) :=
  st_op ho hg hf rfl fun ds a w ha hw => ⟨v, w, σ, gs, .inl (by
    have hb := hw.get hj (List.mem_cons_self)
    simp only [execOp, ha.eval hx, Sem.run_bind]
    rw [run_load1 (v := v) ht (by simp [World.cell?, hb, hc])]; rfl), hw, h⟩
theorem o_loadN {b off j : Nat} {cs : Array Value} {E : TypeId} {fr : Nat × Nat} {vs : List Value} (ho : ops[i]? = some ⟨d, .load t x, ty, pos, after, g⟩) (hg : wants ops ρ g = true) (hf : fits n d = true) (ht : aggSize P t = some vs.length)
    (hx : ev ρ x = some (.pointer (some ⟨b, off, none⟩))) (hj : gs[j]? = some [(b, .cells cs E fr)]) (hc : (cs.toList.drop off).take vs.length = vs)
    (h : St c (put ρ d (.agg vs.toArray)) σ gs (.inRegion ops rest :: k)) : St c ρ σ gs (.inRegion ops (i :: rest) :: k) :=
  st_op ho hg hf rfl fun ds a w ha hw => ⟨_, w, σ, gs, .inl (by
    have hb := hw.get hj (List.mem_cons_self)
    simp only [execOp, ha.eval hx, Sem.run_bind]
    rw [run_loadN (vs := vs) ht (fun q u hq => by
      rw [add_plain]
      rw [← hc, List.getElem?_take] at hq
      split at hq
      · rw [List.getElem?_drop] at hq; simp [World.cell?, hb, ← hq]
      · cases hq)]; rfl), hw, h⟩
theorem o_loadI {a : Addr} (ho : ops[i]? = some ⟨d, .load t x, ty, pos, after, g⟩) (hg : wants ops ρ g = true) (hf : fits n d = true) (ht : isScalar P t = true) (hx : ev ρ x = some (.pointer (some a))) (hc : Cel σ a v)
    (h : St c (put ρ d v) σ gs (.inRegion ops rest :: k)) : St c ρ σ gs (.inRegion ops (i :: rest) :: k) :=
  st_op ho hg hf rfl fun ds a' w ha hw => ⟨v, w, σ, gs, .inl (by
    simp only [execOp, ha.eval hx, Sem.run_bind]
    rw [run_load1 (v := v) ht (hc.cell hw)]; rfl), hw, h⟩
theorem o_loadIN {a : Addr} {vs : List Value} (ho : ops[i]? = some ⟨d, .load t x, ty, pos, after, g⟩) (hg : wants ops ρ g = true) (hf : fits n d = true) (ht : aggSize P t = some vs.length) (hx : ev ρ x = some (.pointer (some a))) (ha0 : a.spot = none) (hc : CelN σ a vs)
    (h : St c (put ρ d (.agg vs.toArray)) σ gs (.inRegion ops rest :: k)) : St c ρ σ gs (.inRegion ops (i :: rest) :: k) :=
  st_op ho hg hf rfl fun ds a' w ha hw => ⟨_, w, σ, gs, .inl (by
    simp only [execOp, ha.eval hx, Sem.run_bind]
    rw [run_loadN (vs := vs) ht (fun q u hq => by
      obtain ⟨b, off, sp⟩ := a
      simp only at ha0; subst ha0
      rw [add_plain]; exact (hc q u hq).cell hw)]; rfl), hw, h⟩

theorem o_store {b off j : Nat} {cs : Array Value} {E : TypeId} {vs cs' : List Value} (ho : ops[i]? = some ⟨d, .store t x y, ty, pos, after, g⟩) (hg : wants ops ρ g = true) (hf : fits n d = true) (ht : sizeT P t = some vs.length)
    (hx : ev ρ x = some (.pointer (some ⟨b, off, none⟩))) (hy : ev ρ y = some v) (hv : v.cells.toList = vs) (h1 : ∀ u ∈ vs, u.oneCell' = true) (hj : gs[j]? = some [(b, .cells cs E (0, 0))]) (hl : Nat.ble (off + vs.length) cs.size = true)
    (hc : cs.toList.take off ++ vs ++ cs.toList.drop (off + vs.length) = cs')
    (h : St c (put ρ d undef) σ (gs.set j [(b, .cells cs'.toArray E (0, 0))]) (.inRegion ops rest :: k)) : St c ρ σ gs (.inRegion ops (i :: rest) :: k) :=
  st_op ho hg hf rfl fun ds a w ha hw => by
    have hb := hw.get hj (List.mem_cons_self)
    have hle := Nat.le_of_ble_eq_true hl
    have hst := run_storeCells_at P b off E vs 0 cs w hb (by omega) h1
    rw [Nat.add_zero, hc] at hst
    refine ⟨undef, w.setRow b cs'.toArray, σ, _, .inr ⟨?_, rfl⟩, ?_, h⟩
    · have hvs : v.cells.size = vs.length := by rw [← hv]; simp
      simp only [execOp, ha.eval hx, ha.eval hy, Sem.run_bind, Instr.storeAt, Instr.sureAddr, Sem.run_pure, Result.andThen_ok, storeVar, run_sizeT ht, hvs, hv]
      simp [hst]
    · exact hw.put hj rfl rfl rfl (setRow_heap w b cs cs'.toArray E _ hb) (fun q hq => setRow_other w b q _ hq)

theorem o_fieldAddr {b off o f : Nat} (ho : ops[i]? = some ⟨d, .fieldAddr t x f, ty, pos, after, g⟩) (hg : wants ops ρ g = true) (hf : fits n d = true) (ht : fieldT P t f = some o) (hx : ev ρ x = some (.pointer (some ⟨b, off, none⟩)))
    (h : St c (put ρ d (.pointer (some ⟨b, off + o, none⟩))) σ gs (.inRegion ops rest :: k)) : St c ρ σ gs (.inRegion ops (i :: rest) :: k) :=
  st_pure ho hg hf rfl (fun ds a w ha => by
    unfold fieldT at ht
    cases hu : P.underlying t with
    | none => rw [hu] at ht; cases ht
    | some e =>
      rw [hu] at ht
      cases e <;> try cases ht
      rename_i fs
      simp only at ht
      cases hfd : fs[f]? with
      | none => rw [hfd] at ht; cases ht
      | some fd =>
        rw [hfd] at ht
        simp only at ht
        cases hs : sizeT P fd.type with
        | none => rw [hs] at ht; cases ht
        | some m =>
          rw [hs] at ht
          cases m with
          | zero => cases ht
          | succ m =>
            cases ht
            simp [execOp, ha.eval hx, Instr.fieldAt, run_underlying hu, hfd, Instr.sureAddr, fieldPlace, run_sizeT hs, add_plain]) h
theorem o_field {o f : Nat} {vs : List Value} (ho : ops[i]? = some ⟨d, .field t x f, ty, pos, after, g⟩) (hg : wants ops ρ g = true) (hf : fits n d = true) (ht : partT P t f = some (o, none)) (hx : ev ρ x = some (.agg vs.toArray)) (hv : vs[o]? = some v)
    (h : St c (put ρ d v) σ gs (.inRegion ops rest :: k)) : St c ρ σ gs (.inRegion ops (i :: rest) :: k) :=
  st_pure ho hg hf rfl (fun ds a w ha => by
    unfold partT at ht
    cases hu : P.underlying t with
    | none => rw [hu] at ht; cases ht
    | some e =>
      rw [hu] at ht
      cases e <;> try cases ht
      rename_i fs
      simp only at ht
      cases hfd : fs[f]? with
      | none => rw [hfd] at ht; cases ht
      | some fd =>
        rw [hfd] at ht
        simp only at ht
        cases hs : aggSize P fd.type with
        | some m => rw [hs] at ht; cases ht
        | none =>
          rw [hs] at ht
          cases hsc : isScalar P fd.type with
          | false => rw [hsc] at ht; cases ht
          | true =>
            rw [hsc] at ht; cases ht
            simp [execOp, ha.eval hx, Instr.field, run_underlying hu, hfd, asAgg, part, run_isAgg_no hsc, hv]) h
theorem o_fieldN {o f m : Nat} {vs us : List Value} (ho : ops[i]? = some ⟨d, .field t x f, ty, pos, after, g⟩) (hg : wants ops ρ g = true) (hf : fits n d = true) (ht : partT P t f = some (o, some m)) (hx : ev ρ x = some (.agg vs.toArray)) (hv : (vs.drop o).take m = us)
    (h : St c (put ρ d (.agg us.toArray)) σ gs (.inRegion ops rest :: k)) : St c ρ σ gs (.inRegion ops (i :: rest) :: k) :=
  st_pure ho hg hf rfl (fun ds a w ha => by
    unfold partT at ht
    cases hu : P.underlying t with
    | none => rw [hu] at ht; cases ht
    | some e =>
      rw [hu] at ht
      cases e <;> try cases ht
      rename_i fs
      simp only at ht
      cases hfd : fs[f]? with
      | none => rw [hfd] at ht; cases ht
      | some fd =>
        rw [hfd] at ht
        simp only at ht
        cases hs : aggSize P fd.type with
        | none => rw [hs] at ht; cases hsc : isScalar P fd.type <;> rw [hsc] at ht <;> cases ht
        | some m' =>
          rw [hs] at ht; cases ht
          have he : (vs.toArray.extract fd.offset (fd.offset + m)) = us.toArray := by
            rw [← hv]; simp [List.extract_eq_take_drop]
          simp only [execOp, ha.eval hx, Instr.field, Sem.run_bind, run_underlying hu, Result.andThen_ok, hfd, asAgg, Sem.run_pure, part, (run_isAgg_yes hs w).1, (run_isAgg_yes hs w).2, if_true, he]) h
end
end Go.Eng
