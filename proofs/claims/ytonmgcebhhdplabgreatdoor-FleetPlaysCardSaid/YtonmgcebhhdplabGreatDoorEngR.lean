import Derived.Test.YtonmgcebhhdplabGreatDoorEngI
import Derived.ChangeArms
import Derived.DataReads
import Derived.OpenShut
import Derived.Test.YtonmgcebhhdplabGreatDoorEngJ
/-! The engine, part R: what came in, as plain data. -/
namespace Go.Eng
open Go

section
variable {H : Type} {enc : TypeId × Value → H} {P : Program} {w : World} {t : TypeId}
theorem addr_add2 (a : Addr) (i j : Nat) : (a.add i).add j = a.add (i + j) := by
 by_cases hi : i = 0
 ·subst hi; simp [Addr.add]
 ·by_cases hj : j = 0
  ·subst hj; simp [Addr.add]
  ·simp [Addr.add, hi, hj, Nat.add_assoc]
def Reads {α : Type} (enc : TypeId × Value → H) (P : Program) (w : World) (t : TypeId) (d : Kd α) (ok : α → Prop) : Prop :=
 ∀ (fuel : Nat) (cs : List Value) (x : DataW H × List MemPlace), DataW.trod enc P w 0 (fun _ => true) true fuel t cs = some x → ∃ a, d.rep (Sto.of w) cs a ∧ ok a
theorem wf_ok {k : IntKind} {n : Int} (h : (Lit.int k n).wf = true) : IntOk k n := by
 simp only [Lit.wf, Bool.and_eq_true, decide_eq_true_eq] at h
 exact h
theorem reads_int {k : IntKind} (ht : P.underlying t = some (.int k)) : Reads enc P w t (kI k) (IntOk k) := by
 intro fuel cs x h
 obtain ⟨n, rfl, _, hw⟩ := DataW.trod_int ht h
 refine ⟨n, rfl, ?_⟩
 simp only [Lit.wf, Bool.and_eq_true, decide_eq_true_eq] at hw
 exact hw
theorem reads_string (ht : P.underlying t = some .string) : Reads enc P w t kS StrOk := by
 intro fuel cs x h
 obtain ⟨n, rfl, _, hs⟩ := DataW.trod_string ht h
 exact ⟨n, rfl, hs⟩
theorem reads_slice {α : Type} {d : Kd α} {ok : α → Prop} {e : TypeId} (ht : P.underlying t = some (.slice e)) (hc : P.cellsOf e = d.sz) (hp : 0 < d.sz) (he : Reads enc P w e d ok) : Reads enc P w t (kSl d) (ListOk ok) := by
 intro fuel cs x h
 rcases DataW.trod_slice ht h with ⟨rfl, _⟩ | ⟨a, len, cap, elems, rest, n, _, rfl, _, _, hl, hm, hlen, hel, hrest, _⟩
 ·exact ⟨[], ⟨_, rfl, Sl.nil⟩, fun x hx => (by cases hx), Nat.zero_le _⟩
 ·obtain ⟨hrl, hrs⟩ := hrest rfl
  -- each element's cells
  have each : ∀ i, i < cap → ∃ cs q, w.cells? 0 (a.add (i * d.sz)) d.sz = some cs ∧ d.rep (Sto.of w) cs q ∧ ok q := by
   intro i hi
   have hb : ∃ y, (w.cells? 0 (a.add (i * P.cellsOf e)) (P.cellsOf e)).bind (DataW.trod enc P w 0 (fun _ => true) true n e) = some y := by
    by_cases h1 : i < len
    ·rw [hel i h1]; exact ⟨_, List.getElem?_eq_getElem (by omega)⟩
    ·have := hrs (i - len) (by omega)
     rw [show len + (i - len) = i by omega] at this
     rw [this]; exact ⟨_, List.getElem?_eq_getElem (by omega)⟩
   obtain ⟨y, hy⟩ := hb
   obtain ⟨cs, hcs, hty⟩ := Option.bind_eq_some_iff.1 hy
   obtain ⟨q, hq, hok⟩ := he n cs y hty
   rw [hc] at hcs
   exact ⟨cs, q, hcs, hq, hok⟩
  by_cases h0 : cap = 0
  ·subst h0
   have hl0 : len = 0 := by omega
   subst hl0
   exact ⟨[], ⟨_, rfl, [], ⟨by simp, .inl ⟨⟨_, rfl⟩, rfl⟩⟩, .nil⟩, fun x hx => (by cases hx), Nat.zero_le _⟩
  ·have cellAt : ∀ i j, i < cap → j < d.sz → ∃ u, w.cell? (a.add (i * d.sz + j)) = some u := by
    intro i j hi hj
    obtain ⟨cs, q, h1, h2, _⟩ := each i hi
    obtain ⟨_, h3, h4⟩ := World.cells?_some h1
    have := h4 j hj
    rw [addr_add2] at this
    exact ⟨_, this.trans (List.getElem?_eq_getElem (by omega))⟩
   obtain ⟨u0, hu0⟩ := cellAt 0 0 (by omega) hp
   have hspot : a.spot = none := by
    have := World.cell?_spot hu0
    simpa [Addr.add] using this
   obtain ⟨b, off, sp⟩ := a
   simp only at hspot
   subst hspot
   obtain ⟨bcs, E, fr, hblk⟩ : ∃ bcs E fr, w.heap[b]? = some (.cells bcs E fr) := by
    rw [add_plain] at hu0
    unfold World.cell? at hu0
    split at hu0
    ·rename_i cs E fr h1; exact ⟨cs, E, fr, h1⟩
    ·cases hu0
   have cellIn : ∀ p, w.cell? ((⟨b, off, none⟩ : Addr).add p) = bcs[off + p]? := by
    intro p; rw [add_plain]; simp [World.cell?, hblk]
   have hfit : off + cap * d.sz ≤ bcs.size := by
    obtain ⟨u, hu⟩ := cellAt (cap - 1) (d.sz - 1) (by omega) (by omega)
    rw [cellIn] at hu
    have := (Array.getElem?_eq_some_iff.1 hu).1
    have e1 : (cap - 1) * d.sz + (d.sz - 1) + 1 = cap * d.sz := by
     have : cap * d.sz = (cap - 1) * d.sz + d.sz := by
      rw [← Nat.succ_mul]; congr 1; omega
     omega
    omega
   -- the first m elements
   have build : ∀ m, m ≤ len → ∃ (cells : List Value) (xs : List α), xs.length = m ∧ d.Many (Sto.of w) cells xs ∧ (∀ j u, cells[j]? = some u → bcs[off + j]? = some u) ∧ (∀ x ∈ xs, ok x) := by
    intro m
    induction m with
    | zero => intro _; exact ⟨[], [], rfl, .nil, fun j u h => by simp at h, fun x hx => by cases hx⟩
    | succ m ih =>
     intro hm2
     obtain ⟨cells, xs, h1, h2, h3, h4⟩ := ih (by omega)
     obtain ⟨cs, q, h5, h6, h7⟩ := each m (by omega)
     have hcl := d.len h6
     have hmany : d.Many (Sto.of w) (cells ++ cs) (xs ++ [q]) := by
      have := h2.append (Kd.Many.cons h6 .nil)
      simpa using this
     refine ⟨cells ++ cs, xs ++ [q], by simp [h1], hmany, fun j u hj => ?_, fun x hx => ?_⟩
     ·by_cases hlt : j < cells.length
      ·rw [List.getElem?_append_left hlt] at hj; exact h3 j u hj
      ·rw [List.getElem?_append_right (by omega)] at hj
       obtain ⟨_, _, h8⟩ := World.cells?_some h5
       have hj2 := (List.getElem?_eq_some_iff.1 hj).1
       have := h8 (j - cells.length) (by omega)
       rw [addr_add2, cellIn, hj] at this
       have hlen2 : cells.length = m * d.sz := by rw [h2.len, h1]
       rw [← this]; congr 1; omega
     ·rcases List.mem_append.1 hx with h8 | h8
      ·exact h4 x h8
      ·simp at h8; subst h8; exact h7
   obtain ⟨cells, xs, h1, h2, h3, h4⟩ := build len (Nat.le_refl _)
   refine ⟨xs, ⟨_, rfl, cells, ⟨h2.len, .inr ⟨b, off, cap, bcs, E, fr, by rw [h1], by omega, hm, hblk, hfit, h3⟩⟩, h2⟩, h4, by simp only [maxLen] at hm; omega⟩
theorem reads_arrI {k : IntKind} {n : Nat} {e : TypeId} (ht : P.underlying t = some (.array n e)) (he : P.underlying e = some (.int k)) (hc : P.cellsOf e = 1) (hct : P.cellsOf t = n) : Reads enc P w t (kA k n) (fun xs => xs.length = n ∧ ∀ x ∈ xs, IntOk k x) := by
 intro fuel cs x h
 obtain ⟨ys, m, _, _, hl, hyl, hat⟩ := DataW.trod_array ht h
 rw [hct] at hl
 have each : ∀ i (hi : i < cs.length), ∃ v, cs[i] = .int k v ∧ IntOk k v := by
  intro i hi
  have h1 := hat i (by omega)
  rw [hc, Nat.mul_one, List.getElem?_eq_getElem (by omega)] at h1
  obtain ⟨v, h2, _, h3⟩ := DataW.trod_int he h1
  refine ⟨v, ?_, wf_ok h3⟩
  have h4 : ((cs.drop i).take 1)[0]? = some (.int k v) := by rw [h2]; rfl
  rw [List.getElem?_take, if_pos (by decide), List.getElem?_drop, Nat.add_zero, List.getElem?_eq_getElem hi] at h4
  exact Option.some.inj h4
 let g : Value → Int := fun v => match v with
  | .int _ m => m
  | _ => 0
 refine ⟨cs.map g, ?_, by rw [List.length_map, hl], fun x hx => ?_⟩
 ·show cs = cellsN (Value.int k) 0 n (cs.map g)
  rw [cellsN_eq (by rw [List.length_map, hl])]
  refine List.ext_getElem (by simp) fun i h1 h2 => ?_
  obtain ⟨v, hv, _⟩ := each i h1
  simp [hv, g]
 ·obtain ⟨v, hv, rfl⟩ := List.mem_map.1 hx
  obtain ⟨i, hi, rfl⟩ := List.getElem_of_mem hv
  obtain ⟨u, hu, hok⟩ := each i hi
  rw [hu]; exact hok
def ReadsF {α : Type} (enc : TypeId × Value → H) (P : Program) (w : World) (fs : List Field) (off : Nat) (d : Kd α) (ok : α → Prop) : Prop :=
 ∀ (n : Nat) (cs : List Value), cs.length = off + d.sz → (∀ f ∈ fs, ∃ y, DataW.trod enc P w 0 (fun _ => true) true n f.type ((cs.drop f.offset).take (P.cellsOf f.type)) = some y) → ∃ a, d.rep (Sto.of w) (cs.drop off) a ∧ ok a
theorem readsF_last {α : Type} {d : Kd α} {ok : α → Prop} {f : Field} {off : Nat} (ho : f.offset = off) (hc : P.cellsOf f.type = d.sz) (h : Reads enc P w f.type d ok) : ReadsF enc P w [f] off d ok := by
 intro n cs hl hf
 obtain ⟨y, hy⟩ := hf f (List.mem_cons_self)
 obtain ⟨a, h1, h2⟩ := h n _ _ hy
 refine ⟨a, ?_, h2⟩
 rw [ho, hc, List.take_of_length_le (by rw [List.length_drop]; omega)] at h1
 exact h1
theorem readsF_cons {α β : Type} {d : Kd α} {d' : Kd β} {ok : α → Prop} {ok' : β → Prop} {f : Field} {fs : List Field} {off : Nat} (ho : f.offset = off) (hc : P.cellsOf f.type = d.sz) (h : Reads enc P w f.type d ok) (h' : ReadsF enc P w fs (off + d.sz) d' ok') :
    ReadsF enc P w (f :: fs) off (kP d d') (fun x => ok x.1 ∧ ok' x.2) := by
  intro n cs hl hf
  have hl' : cs.length = off + (d.sz + d'.sz) := hl
  obtain ⟨y, hy⟩ := hf f (List.mem_cons_self)
  obtain ⟨a, h1, h2⟩ := h n _ _ hy
  obtain ⟨b, h3, h4⟩ := h' n cs (by omega) (fun g hg => hf g (List.mem_cons_of_mem _ hg))
  rw [ho, hc] at h1
  refine ⟨(a, b), ⟨_, _, ?_, h1, h3⟩, h2, h4⟩
  rw [← List.drop_drop]
  exact (List.take_append_drop _ _).symm
theorem reads_struct {α : Type} {d : Kd α} {ok : α → Prop} {fs : Array Field} (ht : P.underlying t = some (.struct fs)) (hc : P.cellsOf t = d.sz) (h : ReadsF enc P w fs.toList 0 d ok) : Reads enc P w t d ok := by
 intro fuel cs x hx
 obtain ⟨xs, n, _, _, hl, hxl, hat⟩ := DataW.trod_struct ht hx
 have := h n cs (by rw [hl, hc]; omega) (fun f hf => by
  obtain ⟨i, hi, rfl⟩ := List.getElem_of_mem hf
  have h1 : i < fs.size := by simpa using hi
  have h2 := hat i (fs[i]) (Array.getElem?_eq_getElem h1)
  refine ⟨xs[i]'(by omega), ?_⟩
  rw [Array.getElem_toList, h2]
  exact List.getElem?_eq_getElem (by omega))
 simpa using this
end
end Go.Eng
