import Derived.Test.YtonmgcebhhdplabGreatDoorEngU
import Derived.Test.YtonmgcebhhdplabGreatDoorEngQ
import Derived.Maps.RangeRun
/-! The engine, part Z: maps that are held; ranges over them. -/
namespace Go.Eng
open Go
open Go.MapKept (Stamped)

structure Vr (V : Type) where
 r : Sto → V → Value → Prop
 mono : ∀ {σ τ x v}, σ.Le τ → r σ x v → r τ x v
def rF {V : Type} (f : V → Value) : Vr V := ⟨fun _ x v => v = f x, fun _ h => h⟩
section
variable {K V : Type} [DecidableEq K]
def Ents (fk : K → Value) (rv : Vr V) (σ : Sto) (es : List MapEntry) (m : List (K × V)) : Prop :=
 es.map (·.key) = m.map (fun p => fk p.1) ∧ ∀ (i : Nat) (e : MapEntry) (p : K × V), es[i]? = some e → m[i]? = some p → rv.r σ p.2 e.val
omit [DecidableEq K] in
theorem Ents.up {fk : K → Value} {rv : Vr V} {σ τ : Sto} {es : List MapEntry} {m : List (K × V)} (h : Ents fk rv σ es m) (hl : σ.Le τ) : Ents fk rv τ es m := ⟨h.1, fun i e p he hp => rv.mono hl (h.2 i e p he hp)⟩
omit [DecidableEq K] in
theorem Ents.len {fk : K → Value} {rv : Vr V} {σ : Sto} {es : List MapEntry} {m : List (K × V)} (h : Ents fk rv σ es m) : es.length = m.length := by have := congrArg List.length h.1; simpa using this
omit [DecidableEq K] in
theorem Ents.get {fk : K → Value} {rv : Vr V} {σ : Sto} {es : List MapEntry} {m : List (K × V)} (h : Ents fk rv σ es m) {i : Nat} {p : K × V} (hp : m[i]? = some p) : ∃ e, es[i]? = some e ∧ e.key = fk p.1 ∧ rv.r σ p.2 e.val := by
 have hlt : i < es.length := by rw [h.len]; exact (List.getElem?_eq_some_iff.1 hp).1
 refine ⟨es[i], List.getElem?_eq_getElem hlt, ?_, h.2 i _ p (List.getElem?_eq_getElem hlt) hp⟩
 have := congrArg (·[i]?) h.1
 simp only [List.getElem?_map, hp, List.getElem?_eq_getElem hlt, Option.map_some] at this
 exact Option.some.inj this
def Mp (fk : K → Value) (rv : Vr V) (σ : Sto) (v : Value) (m : List (K × V)) (g : Grp) : Prop :=
 ∃ b es clock, v = .map (some b) ∧ g = [(b, .map es clock)] ∧ Stamped es clock ∧ Ents fk rv σ es.toList m
omit [DecidableEq K] in
theorem Mp.up {fk : K → Value} {rv : Vr V} {σ τ : Sto} {v : Value} {m : List (K × V)} {g : Grp} (h : Mp fk rv σ v m g) (hl : σ.Le τ) : Mp fk rv τ v m g := by
 obtain ⟨b, es, cl, h1, h2, h3, h4⟩ := h; exact ⟨b, es, cl, h1, h2, h3, h4.up hl⟩
omit [DecidableEq K] in
theorem Mp.one' {fk : K → Value} {rv : Vr V} {σ : Sto} {v : Value} {m : List (K × V)} {g : Grp} (h : Mp fk rv σ v m g) : v.oneCell' = true := by obtain ⟨b, es, cl, rfl, _⟩ := h; rfl
omit [DecidableEq K] in
theorem oneL_mp {fk : K → Value} {rv : Vr V} {σ : Sto} {v : Value} {m : List (K × V)} {g : Grp} (h : Mp fk rv σ v m g) : v.cells.toList = [v] := by obtain ⟨b, es, cl, rfl, _⟩ := h; rfl

def mfind (a : K) : List K → Option Nat
  | [] => none
  | b :: m => if a = b then some 0 else (mfind a m).map (· + 1)
theorem mfind_some {a : K} : ∀ {m : List (K × V)} {i : Nat}, mfind a (m.map (·.1)) = some i → (∃ x, m[i]? = some (a, x) ∧ mget m a = some x) ∧ ∀ q, mput m a q = m.set i (a, q)
 | [], _, h => by cases h
 | p :: m, i, h => by
  simp only [List.map_cons, mfind] at h
  by_cases e : a = p.1
  ·rw [if_pos e] at h
   have h0 : i = 0 := (Option.some.inj h).symm
   subst h0
   refine ⟨⟨p.2, ?_, ?_⟩, fun q => ?_⟩
   ·rw [e]; rfl
   ·simp [mget, e]
   ·simp [mput, e]
  ·rw [if_neg e] at h
   cases hm : mfind a (m.map (·.1)) with
   | none => rw [hm] at h; cases h
   | some i' =>
    rw [hm] at h
    have h0 : i = i' + 1 := (Option.some.inj h).symm
    subst h0
    obtain ⟨⟨x, h1, h2⟩, h3⟩ := mfind_some hm
    refine ⟨⟨x, by simpa using h1, by simp only [mget, if_neg e]; exact h2⟩, fun q => ?_⟩
    simp only [mput, if_neg e, List.set_cons_succ, h3 q]
theorem mfind_none {a : K} : ∀ {m : List (K × V)}, mfind a (m.map (·.1)) = none → mget m a = none ∧ ∀ q, mput m a q = m ++ [(a, q)]
 | [], _ => ⟨rfl, fun _ => rfl⟩
 | p :: m, h => by
  simp only [List.map_cons, mfind] at h
  by_cases e : a = p.1
  ·rw [if_pos e] at h; cases h
  ·rw [if_neg e] at h
   cases hm : mfind a (m.map (·.1)) with
   | none =>
    obtain ⟨h2, h3⟩ := mfind_none hm
    exact ⟨by simp only [mget, if_neg e]; exact h2, fun q => by simp only [mput, if_neg e, h3 q, List.cons_append]⟩
   | some i' => rw [hm] at h; cases h

theorem mfind_no {a : K} : ∀ {m : List (K × V)}, mfind a (m.map (·.1)) = none → ∀ p ∈ m, a ≠ p.1
 | [], _, _, hp => nomatch hp
 | q :: m, h, p, hp => by
  simp only [List.map_cons, mfind] at h
  by_cases e : a = q.1
  ·rw [if_pos e] at h; cases h
  ·rw [if_neg e] at h
   rcases List.mem_cons.1 hp with rfl | hp
   ·exact e
   ·cases hm : mfind a (m.map (·.1)) with
    | none => exact mfind_no hm p hp
    | some i => rw [hm] at h; cases h
structure KeyOk (P : Program) (kt : TypeId) (fk : K → Value) : Prop where
 check : ∀ e a w, (Instr.checkKey e 10000 kt (fk a)).run P w = .ok () w
 find : ∀ a (ks : List K) (es : List MapEntry) w, es.map (·.key) = ks.map fk → (Instr.findKey kt (fk a) es).run P w = .ok ((mfind a ks).bind fun i => es[i]?.map fun e => (i, e.val)) w
 stay : ∀ a, Instr.sameBits 10000 (fk a) (fk a) = true
 inj : ∀ a b, fk a = fk b → a = b

theorem findNow_fk {td : TypeDesc} {fk : K → Value} (hs : ∀ a b, Instr.sameNow td (fk a) (fk b) = some (decide (a = b))) (a : K) : ∀ (ks : List K) (es : List MapEntry) (j : Nat), es.map (·.key) = ks.map fk →
    Instr.findNow td (fk a) es j = some ((mfind a ks).bind fun i => es[i]?.map fun e => (j + i, e.val))
  | [], [], j, _ => rfl
  | [], _ :: _, _, h => by cases h
  | _ :: _, [], _, h => by cases h
  | b :: ks, e :: es, j, h => by
    simp only [List.map_cons, List.cons.injEq] at h
    simp only [Instr.findNow, h.1, hs, mfind]
    by_cases hab : a = b
    · simp [hab]
    · have := findNow_fk hs a ks es (j + 1) h.2
      simp only [decide_eq_false hab, this, if_neg hab]
      cases mfind a ks with
      | none => rfl
      | some i => simp [Nat.add_assoc, Nat.add_comm 1]

theorem keyOf {P : Program} {kt : TypeId} {td : TypeDesc} {fk : K → Value} (ht : P.underlying kt = some td) (hp : (∃ k, td = .int k) ∨ td = .string ∨ td = .bool) (hs : ∀ a b, Instr.sameNow td (fk a) (fk b) = some (decide (a = b))) (hb : ∀ a, Instr.sameBits 10000 (fk a) (fk a) = true) (hi : ∀ a b, fk a = fk b → a = b) : KeyOk P kt fk where
 check e a w := by
  rw [show (10000 : Nat) = 9999 + 1 from rfl, Instr.checkKey.eq_def]; rcases hp with ⟨k, rfl⟩ | rfl | rfl <;> simp [run_underlying ht]
 find a ks es w h := by
  have := findNow_fk hs a ks es 0 h
  simp only [Nat.zero_add] at this
  simp [Instr.findKey, run_underlying ht, this]
 stay := hb
 inj := hi
theorem keyI {P : Program} {kt : TypeId} {k : IntKind} (ht : P.underlying kt = some (.int k)) : KeyOk P kt (Value.int k) :=
 keyOf ht (.inl ⟨k, rfl⟩) (fun a b => by simp only [Instr.sameNow]; exact congrArg some (by rw [Bool.eq_iff_iff]; simp)) (fun a => by simp [Instr.sameBits]) (fun a b h => by cases h; rfl)

end

theorem getObj_mp {P : Program} {w : World} {r : Nat} {es : Array MapEntry} {cl : Nat} (hb : w.heap[r]? = some (.map es cl)) : (getObj r).run P w = .ok (.map es cl) w := by
 simp [getObj, Sem.run, hb]
theorem setObj_mp {P : Program} {w : World} {r : Nat} {es : Array MapEntry} {cl : Nat} (o : Obj) (hb : w.heap[r]? = some (.map es cl)) : (setObj r o).run P w = .ok () { w with heap := w.heap.setIfInBounds r o } := by
 simp [setObj, Sem.run, hb]

def mapT (P : Program) (t : TypeId) : Option (TypeId × TypeId) := match P.underlying t with
 | some (.map k e) => some (k, e)
 | _ => none
theorem mapT_und {P : Program} {t kt vt : TypeId} (h : mapT P t = some (kt, vt)) : P.underlying t = some (.map kt vt) := by
 unfold mapT at h
 split at h
 ·next k e he => cases h; exact he
 ·cases h
def zeroV (P : Program) (t : TypeId) : Option Value := (P.info? t).bind (·.zero)
theorem run_zeroV {P : Program} {t : TypeId} {z : Value} (h : zeroV P t = some z) (w : World) : (zeroValue t).run P w = .ok z w := by
 unfold zeroV at h
 cases hi : P.info? t with
 | none => rw [hi] at h; cases h
 | some i =>
  rw [hi] at h
  simp only [Option.bind_some] at h
  simp [zeroValue, typeInfo, hi, h]

theorem map_modify {α β : Type} (h : α → β) (f : α → α) (c : β) (hf : ∀ e, h (f e) = c) : ∀ (l : List α) (i : Nat), (l.modify i f).map h = (l.map h).set i c
 | [], i => by cases i <;> simp
 | e :: l, 0 => by simp [hf]
 | e :: l, i + 1 => by simp [map_modify h f c hf l i]
theorem inj_nodup {α β : Type} {f : α → β} : ∀ {l : List α}, (l.map f).Nodup → ∀ {a b : α}, a ∈ l → b ∈ l → f a = f b → a = b
 | [], _, _, _, h, _, _ => nomatch h
 | x :: l, hn, a, b, ha, hb, e => by
  simp only [List.map_cons, List.nodup_cons] at hn
  rcases List.mem_cons.1 ha with h1 | h1 <;> rcases List.mem_cons.1 hb with h2 | h2
  ·rw [h1, h2]
  ·exact absurd (by rw [← h1, e]; exact List.mem_map_of_mem h2) hn.1
  ·exact absurd (by rw [← h2, ← e]; exact List.mem_map_of_mem h1) hn.1
  ·exact inj_nodup hn.2 h1 h2 e
theorem set_same {α : Type} : ∀ {l : List α} {i : Nat} {x : α}, l[i]? = some x → l.set i x = l
 | [], _, _, _ => rfl
 | y :: l, 0, x, h => by simp at h; subst h; rfl
 | y :: l, i + 1, x, h => by simp at h; simp [set_same h]
theorem map_modify_same {α β : Type} (h : α → β) (f : α → α) (hf : ∀ e, h (f e) = h e) : ∀ (l : List α) (i : Nat), (l.modify i f).map h = l.map h
 | [], i => by cases i <;> simp
 | e :: l, 0 => by simp [hf]
 | e :: l, i + 1 => by simp [map_modify_same h f hf l i]

section
variable {P : Program} {n : Nat} {c : Ctx P n} {ρ : Env} {σ : Sto} {gs : List Grp} {k : List Item} {ops : Array Oper} {i : Nat} {rest : List Nat}
variable {d : Option Nat} {ty : TypeId} {pos : String} {after : Array Edge} {g : Option (Nat × Bool)} {x y z : Operand} {v u : Value} {t kt vt : TypeId}
variable {K V : Type} [DecidableEq K] {fk : K → Value} {rv : Vr V} {fv : V → Value} {m : List (K × V)} {gr : Grp} {j : Nat} {a : K} {q : V}
omit [DecidableEq K] in
theorem o_makeMap (ho : ops[i]? = some ⟨d, .makeMap t none, ty, pos, after, g⟩) (hg : wants ops ρ g = true) (hf : fits n d = true)
    (h : ∀ v g', Mp fk rv σ v [] g' → St c (put ρ d v) σ (g' :: gs) (.inRegion ops rest :: k)) : St c ρ σ gs (.inRegion ops (i :: rest) :: k) :=
  st_op ho hg hf rfl fun ds a w ha hw => ⟨_, w.alloc (.map #[] 0), σ, _, .inl (by simp [execOp, Instr.makeMap]), hw.alloc _, h _ _ ⟨w.heap.size, #[], 0, rfl, rfl, ⟨by simp, by simp, by simp⟩, by simp [Ents]⟩⟩

theorem o_mapPut (ho : ops[i]? = some ⟨d, .mapUpdate t x y z, ty, pos, after, g⟩) (hg : wants ops ρ g = true) (hf : fits n d = true) (ht : mapT P t = some (kt, vt)) (hk : KeyOk P kt fk)
    (hx : ev ρ x = some v) (hm : Mp fk rv σ v m gr) (hj : gs[j]? = some gr) (hy : ev ρ y = some (fk a)) (hz : ev ρ z = some u) (hu : rv.r σ q u)
    (h : ∀ g', Mp fk rv σ v (mput m a q) g' → St c (put ρ d undef) σ (gs.set j g') (.inRegion ops rest :: k)) : St c ρ σ gs (.inRegion ops (i :: rest) :: k) := by
  obtain ⟨b, es, cl, rfl, rfl, hs, he⟩ := hm
  have hun := mapT_und ht
  refine st_op ho hg hf rfl fun ds a' w ha hw => ?_
  have hb := hw.get hj (List.mem_cons_self)
  have hkeys : es.toList.map (·.key) = (m.map (·.1)).map fk := by rw [he.1, List.map_map]; rfl
  have hfind := hk.find a (m.map (·.1)) es.toList w hkeys
  cases hmf : mfind a (m.map (·.1)) with
  | none =>
    rw [hmf] at hfind
    have hno := mfind_no hmf
    refine ⟨undef, { w with heap := w.heap.setIfInBounds b (.map (es.push { key := fk a, val := u, born := cl }) (cl + 1)) }, σ, _, .inr ⟨?_, rfl⟩, ?_, h [(b, .map (es.push { key := fk a, val := u, born := cl }) (cl + 1))] ⟨b, _, _, rfl, rfl, ⟨?_, ?_, ?_⟩, ?_, ?_⟩⟩
    · simp [execOp, ha.eval hx, ha.eval hy, ha.eval hz, Instr.mapUpdate, run_underlying hun, getObj_mp hb, setObj_mp _ hb, hk.check, hfind]
    · exact hw.put hj rfl rfl rfl (by simp [(Array.getElem?_eq_some_iff.1 hb).1]) (fun q hq => by simp [Ne.symm hq])
    · intro e hme
      rw [Array.toList_push, List.mem_append] at hme
      rcases hme with hme | hme
      · exact Nat.lt_succ_of_lt (hs.1 e hme)
      · rw [List.mem_singleton] at hme; subst hme; exact Nat.lt_succ_self _
    · rw [Array.toList_push, List.map_append]
      refine List.nodup_append.2 ⟨hs.2.1, by simp, fun x hx y hy e => ?_⟩
      simp only [List.map_cons, List.map_nil, List.mem_singleton] at hy
      obtain ⟨e0, h0, rfl⟩ := List.mem_map.1 hx
      have := hs.1 e0 h0
      omega
    · rw [Array.toList_push, List.map_append]
      refine List.nodup_append.2 ⟨hs.2.2, by simp, fun x hx y hy e => ?_⟩
      simp only [List.map_cons, List.map_nil, List.mem_singleton] at hy
      subst hy; subst e
      rw [he.1] at hx
      obtain ⟨p, hp, h1⟩ := List.mem_map.1 hx
      exact hno p hp (hk.inj _ _ h1).symm
    · rw [(mfind_none hmf).2 q, Array.toList_push, List.map_append, List.map_append, he.1]; rfl
    · intro i0 e p h1 h2
      rw [(mfind_none hmf).2 q] at h2
      rw [Array.toList_push] at h1
      have hlen := he.len
      by_cases hi : i0 < m.length
      · rw [List.getElem?_append_left (by omega)] at h1
        rw [List.getElem?_append_left hi] at h2
        exact he.2 i0 e p h1 h2
      · rw [List.getElem?_append_right (by omega)] at h1 h2
        rw [hlen] at h1
        cases hi2 : i0 - m.length with
        | zero =>
          rw [hi2] at h1 h2
          simp only [List.getElem?_cons_zero, Option.some.injEq] at h1 h2
          subst h1; subst h2; exact hu
        | succ q => rw [hi2] at h1; simp at h1
  | some i0 =>
    obtain ⟨⟨x0, h1, h2⟩, h3⟩ := mfind_some hmf
    obtain ⟨e0, hei, hke, _⟩ := he.get h1
    rw [hmf] at hfind
    simp only [Option.bind_some, hei, Option.map_some] at hfind
    have hei' : es[i0]? = some e0 := by rw [← Array.getElem?_toList]; exact hei
    have hlt : i0 < es.toList.length := (List.getElem?_eq_some_iff.1 hei).1
    refine ⟨undef, { w with heap := w.heap.setIfInBounds b (.map (es.modify i0 fun e => { e with key := fk a, val := u }) cl) }, σ, _, .inr ⟨?_, rfl⟩, ?_, h [(b, .map (es.modify i0 fun e => { e with key := fk a, val := u }) cl)] ⟨b, _, _, rfl, rfl, ⟨?_, ?_, ?_⟩, ?_, ?_⟩⟩
    · simp [execOp, ha.eval hx, ha.eval hy, ha.eval hz, Instr.mapUpdate, run_underlying hun, getObj_mp hb, setObj_mp _ hb, hk.check, hfind, hei', hke, Instr.keyThatStays, hk.stay]
    · exact hw.put hj rfl rfl rfl (by simp [(Array.getElem?_eq_some_iff.1 hb).1]) (fun q hq => by simp [Ne.symm hq])
    · intro e hme
      rw [Array.toList_modify] at hme
      obtain ⟨q0, hq0⟩ := List.getElem?_of_mem hme
      rw [List.getElem?_modify] at hq0
      cases hes : es.toList[q0]? with
      | none => rw [hes] at hq0; simp at hq0
      | some e1 =>
        have hb1 := hs.1 e1 (List.mem_of_getElem? hes)
        rw [hes] at hq0
        by_cases hqi : i0 = q0
        · simp only [hqi, if_true, Option.map_eq_map, Option.map_some, Option.some.injEq] at hq0; subst hq0; exact hb1
        · simp only [hqi, if_false, Option.map_eq_map, Option.map_some, Option.some.injEq] at hq0; subst hq0; exact hb1
    · rw [Array.toList_modify, map_modify_same (fun e : MapEntry => e.born) (fun e => { e with key := fk a, val := u }) (fun _ => rfl)]; exact hs.2.1
    · rw [Array.toList_modify, map_modify (fun e : MapEntry => e.key) (fun e => { e with key := fk a, val := u }) (fk a) (fun _ => rfl), set_same (by rw [List.getElem?_map, hei]; exact congrArg some hke)]; exact hs.2.2
    · rw [Array.toList_modify, map_modify (fun e : MapEntry => e.key) (fun e => { e with key := fk a, val := u }) (fk a) (fun _ => rfl), h3 q, List.map_set, he.1]
    · intro q0 e p hq1 hq2
      rw [Array.toList_modify, List.getElem?_modify] at hq1
      rw [h3 q, List.getElem?_set] at hq2
      by_cases hqi : i0 = q0
      · subst hqi
        rw [if_pos rfl, if_pos (by rw [← he.len]; exact hlt)] at hq2
        simp only [hei, Option.map_eq_map, Option.map_some, if_true, Option.some.injEq] at hq1 hq2
        subst hq1; subst hq2; exact hu
      · rw [if_neg hqi] at hq2
        cases hes : es.toList[q0]? with
        | none => rw [hes] at hq1; simp at hq1
        | some e1 =>
          rw [hes] at hq1
          simp only [Option.map_eq_map, Option.map_some, Option.some.injEq, if_neg hqi] at hq1
          subst hq1
          exact he.2 q0 _ p hes hq2
theorem look_run {ok : Bool} {w : World} {b : Nat} {es : Array MapEntry} {cl : Nat} {z0 : Value} {q0 : V} (ht : mapT P t = some (kt, vt)) (hk : KeyOk P kt fk) (h0 : zeroV P vt = some z0) (hz : rv.r σ q0 z0) (hb : w.heap[b]? = some (.map es cl)) (he : Ents fk rv σ es.toList m) (a : K) :
    ∃ u, rv.r σ ((mget m a).getD q0) u ∧ (Instr.lookup t (.map (some b)) (fk a) ok).run P w = .ok (if ok then .tuple #[u, .bool (mget m a).isSome] else u) w := by
  have hun := mapT_und ht
  have hkeys : es.toList.map (·.key) = (m.map (·.1)).map fk := by rw [he.1, List.map_map]; rfl
  have hfind := hk.find a (m.map (·.1)) es.toList w hkeys
  cases hmf : mfind a (m.map (·.1)) with
  | none =>
    rw [hmf] at hfind
    refine ⟨z0, by rw [(mfind_none hmf).1]; exact hz, ?_⟩
    cases ok <;> simp [Instr.lookup, run_underlying hun, getObj_mp hb, hk.check, hfind, run_zeroV h0, (mfind_none hmf).1]
  | some i0 =>
    obtain ⟨⟨x0, h1, h2⟩, h3⟩ := mfind_some hmf
    obtain ⟨e0, hei, hke, hv⟩ := he.get h1
    rw [hmf] at hfind
    simp only [Option.bind_some, hei, Option.map_some] at hfind
    refine ⟨e0.val, by rw [h2]; exact hv, ?_⟩
    cases ok <;> simp [Instr.lookup, run_underlying hun, getObj_mp hb, hk.check, hfind, h2]
theorem o_lookR {z0 : Value} {q0 : V} (ho : ops[i]? = some ⟨d, .lookup t x y false, ty, pos, after, g⟩) (hg : wants ops ρ g = true) (hf : fits n d = true) (ht : mapT P t = some (kt, vt)) (hk : KeyOk P kt fk) (h0 : zeroV P vt = some z0) (hz0 : rv.r σ q0 z0)
    (hx : ev ρ x = some v) (hm : Mp fk rv σ v m gr) (hj : gs[j]? = some gr) (hy : ev ρ y = some (fk a))
    (h : ∀ u, rv.r σ ((mget m a).getD q0) u → St c (put ρ d u) σ gs (.inRegion ops rest :: k)) : St c ρ σ gs (.inRegion ops (i :: rest) :: k) := by
  obtain ⟨b, es, cl, rfl, rfl, hs, he⟩ := hm
  refine st_op ho hg hf rfl fun ds a' w ha hw => ?_
  obtain ⟨u, hu, hr⟩ := look_run (ok := false) ht hk h0 hz0 (hw.get hj (List.mem_cons_self)) he a
  exact ⟨u, w, σ, gs, .inl (by simp only [execOp, ha.eval hx, ha.eval hy]; simp [hr]), hw, h u hu⟩
theorem o_lookR2 {z0 : Value} {q0 : V} (ho : ops[i]? = some ⟨d, .lookup t x y true, ty, pos, after, g⟩) (hg : wants ops ρ g = true) (hf : fits n d = true) (ht : mapT P t = some (kt, vt)) (hk : KeyOk P kt fk) (h0 : zeroV P vt = some z0) (hz0 : rv.r σ q0 z0)
    (hx : ev ρ x = some v) (hm : Mp fk rv σ v m gr) (hj : gs[j]? = some gr) (hy : ev ρ y = some (fk a))
    (h : ∀ u, rv.r σ ((mget m a).getD q0) u → St c (put ρ d (.tuple #[u, .bool (mget m a).isSome])) σ gs (.inRegion ops rest :: k)) : St c ρ σ gs (.inRegion ops (i :: rest) :: k) := by
  obtain ⟨b, es, cl, rfl, rfl, hs, he⟩ := hm
  refine st_op ho hg hf rfl fun ds a' w ha hw => ?_
  obtain ⟨u, hu, hr⟩ := look_run (ok := true) ht hk h0 hz0 (hw.get hj (List.mem_cons_self)) he a
  exact ⟨_, w, σ, gs, .inl (by simp only [execOp, ha.eval hx, ha.eval hy]; simp [hr]), hw, h u hu⟩
theorem o_lookup {q0 : V} (ho : ops[i]? = some ⟨d, .lookup t x y false, ty, pos, after, g⟩) (hg : wants ops ρ g = true) (hf : fits n d = true) (ht : mapT P t = some (kt, vt)) (hk : KeyOk P kt fk) (h0 : zeroV P vt = some (fv q0))
    (hx : ev ρ x = some v) (hm : Mp fk (rF fv) σ v m gr) (hj : gs[j]? = some gr) (hy : ev ρ y = some (fk a))
    (h : St c (put ρ d (fv ((mget m a).getD q0))) σ gs (.inRegion ops rest :: k)) : St c ρ σ gs (.inRegion ops (i :: rest) :: k) :=
  o_lookR ho hg hf ht hk h0 (rv := rF fv) rfl hx hm hj hy (fun u hu => by have hu : u = _ := hu; subst hu; exact h)
omit [DecidableEq K] in
theorem o_lenM {ats : TypeId} (ho : ops[i]? = some ⟨d, .call ⟨.builtin .len, #[x], #[ats]⟩, ty, pos, after, g⟩) (hg : wants ops ρ g = true) (hf : fits n d = true) (ht : mapT P ats = some (kt, vt)) (hx : ev ρ x = some v) (hm : Mp fk rv σ v m gr) (hj : gs[j]? = some gr)
    (h : St c (put ρ d (.int .i64 m.length)) σ gs (.inRegion ops rest :: k)) : St c ρ σ gs (.inRegion ops (i :: rest) :: k) := by
  obtain ⟨b, es, cl, rfl, rfl, hs, he⟩ := hm
  have hun := mapT_und ht
  refine st_op ho hg hf rfl fun ds a' w ha hw => ?_
  have hb := hw.get hj (List.mem_cons_self)
  have hlen : es.size = m.length := by rw [← he.len]; simp
  refine ⟨_, w, σ, gs, .inl ?_, hw, h⟩
  simp [execOp, resolve, ha.eval hx, invoke, builtin, Builtin.len_, run_underlying hun, getObj_mp hb, hlen, goInt]
end

/-! ### A range over a map that does not change meanwhile -/
section
variable {P : Program} {n : Nat} {c : Ctx P n} {ρ : Env} {σ : Sto} {gs : List Grp} {k : List Item} {ops : Array Oper} {i : Nat} {rest : List Nat}
variable {d : Option Nat} {ty : TypeId} {pos : String} {after : Array Edge} {g : Option (Nat × Bool)} {x y z : Operand} {v u : Value} {t kt vt : TypeId}
variable {K V : Type} [DecidableEq K] {fk : K → Value} {rv : Vr V} {m left : List (K × V)} {gi gm : Grp} {j jm : Nat} {a : K} {q : V}
def MIt (fk : K → Value) (rv : Vr V) (σ : Sto) (it vm : Value) (left : List (K × V)) (gi gm : Grp) : Prop :=
 ∃ b mb es cl seen, it = .pointer (some ⟨b, 0, none⟩) ∧ vm = .map (some mb) ∧ gi = [(b, .mapIter (some mb) cl seen cl)] ∧ gm = [(mb, .map es cl)] ∧ Stamped es cl ∧ Ents fk rv σ (leftOf es seen).toList left
def MIe (fk : K → Value) (rv : Vr V) (σ : Sto) (it vm : Value) (p : K × V) (gi gm : Grp) : Prop :=
 ∃ b mb es cl seen st e, it = .pointer (some ⟨b, 0, none⟩) ∧ vm = .map (some mb) ∧ gi = [(b, .mapIter (some mb) cl seen cl)] ∧ gm = [(mb, .map es cl)] ∧ seen.back? = some st ∧ es.find? (fun e => e.born == st) = some e ∧ e.key = fk p.1 ∧ rv.r σ p.2 e.val
omit [DecidableEq K] in
theorem MIt.up {σ τ : Sto} {it vm : Value} (h : MIt fk rv σ it vm left gi gm) (hl : σ.Le τ) : MIt fk rv τ it vm left gi gm := by
 obtain ⟨b, mb, es, cl, seen, h1, h2, h3, h4, h5, h6⟩ := h; exact ⟨b, mb, es, cl, seen, h1, h2, h3, h4, h5, h6.up hl⟩
omit [DecidableEq K] in
theorem MIe.up {σ τ : Sto} {it vm : Value} {p : K × V} (h : MIe fk rv σ it vm p gi gm) (hl : σ.Le τ) : MIe fk rv τ it vm p gi gm := by
 obtain ⟨b, mb, es, cl, seen, st, e, h1, h2, h3, h4, h5, h6, h7, h8⟩ := h; exact ⟨b, mb, es, cl, seen, st, e, h1, h2, h3, h4, h5, h6, h7, rv.mono hl h8⟩
omit [DecidableEq K] in
theorem MIt.one' {it vm : Value} (h : MIt fk rv σ it vm left gi gm) : it.oneCell' = true := by obtain ⟨b, mb, es, cl, seen, rfl, _⟩ := h; rfl
omit [DecidableEq K] in
theorem o_range (ho : ops[i]? = some ⟨d, .range t x, ty, pos, after, g⟩) (hg : wants ops ρ g = true) (hf : fits n d = true) (ht : mapT P t = some (kt, vt)) (hx : ev ρ x = some v) (hm : Mp fk rv σ v m gm) (hj : gs[jm]? = some gm)
    (h : ∀ it gi, MIt fk rv σ it v m gi gm → St c (put ρ d it) σ (gi :: gs) (.inRegion ops rest :: k)) : St c ρ σ gs (.inRegion ops (i :: rest) :: k) := by
  obtain ⟨b, es, cl, rfl, rfl, hs, he⟩ := hm
  have hun := mapT_und ht
  refine st_op ho hg hf rfl fun ds a' w ha hw => ?_
  have hb := hw.get hj (List.mem_cons_self)
  refine ⟨_, w.alloc (.mapIter (some b) cl #[] cl), σ, _, .inl ?_, hw.alloc _, h (.pointer (some ⟨w.heap.size, 0, none⟩)) [(w.heap.size, .mapIter (some b) cl #[] cl)] ⟨_, _, es, cl, #[], rfl, rfl, rfl, rfl, hs, ?_⟩⟩
  · simp [execOp, ha.eval hx, Instr.range, run_underlying hun, getObj_mp hb]
  · have : leftOf es #[] = es := by unfold leftOf; simp
    rw [this]; exact he
omit [DecidableEq K] in
theorem filter_ents {es : List MapEntry} {f : MapEntry → Bool} {h : K × V → Bool} (he : Ents fk rv σ es left) (hfh : ∀ (q : Nat) (e : MapEntry) (p : K × V), es[q]? = some e → left[q]? = some p → f e = h p) : Ents fk rv σ (es.filter f) (left.filter h) := by
 induction es generalizing left with
 | nil =>
  have : left = [] := List.eq_nil_of_length_eq_zero (by rw [← he.len]; rfl)
  subst this; exact ⟨rfl, fun _ _ _ h => by simp at h⟩
 | cons e es ih =>
  cases left with
  | nil => have := he.len; simp at this
  | cons p left =>
   have hk : e.key = fk p.1 ∧ es.map (·.key) = left.map (fun p => fk p.1) := by have := he.1; simpa using this
   have ht : Ents fk rv σ es left := ⟨hk.2, fun q e' p' h1 h2 => he.2 (q + 1) e' p' (by simpa using h1) (by simpa using h2)⟩
   have hi := ih ht (fun q e' p' h1 h2 => hfh (q + 1) e' p' (by simpa using h1) (by simpa using h2))
   have h0 := hfh 0 e p rfl rfl
   have hv := he.2 0 e p rfl rfl
   simp only [List.filter_cons, h0]
   split
   ·refine ⟨by simp [hk.1, hi.1], fun q e' p' h1 h2 => ?_⟩
    cases q with
    | zero => simp at h1 h2; subst h1; subst h2; exact hv
    | succ q => exact hi.2 q e' p' (by simpa using h1) (by simpa using h2)
   ·exact hi
theorem o_next (ho : ops[i]? = some ⟨d, .next x false, ty, pos, after, g⟩) (hg : wants ops ρ g = true) (hf : fits n d = true) (hk : ∀ a b, fk a = fk b → a = b) (hx : ev ρ x = some u) (hm : MIt fk rv σ u v left gi gm) (hj : gs[j]? = some gi) (hjm : gs[jm]? = some gm)
    (h0 : left = [] → St c (put ρ d (.tuple #[.bool false])) σ gs (.inRegion ops rest :: k))
    (h1 : ∀ p gi' v', p ∈ left → rv.r σ p.2 v' → MIt fk rv σ u v (mdel left p.1) gi' gm → MIe fk rv σ u v p gi' gm → St c (put ρ d (.tuple #[.bool true, fk p.1, v'])) σ (gs.set j gi') (.inRegion ops rest :: k)) : St c ρ σ gs (.inRegion ops (i :: rest) :: k) := by
  obtain ⟨b, mb, es, cl, seen, rfl, rfl, rfl, rfl, hs, he⟩ := hm
  refine st_op ho hg hf rfl fun ds a' w ha hw => ?_
  have hb := hw.get hj (List.mem_cons_self)
  have hbm := hw.get hjm (List.mem_cons_self)
  rcases run_next_at (P := P) w ty b mb cl cl seen es cl hb hbm (fun e he => hs.1 e he) (Nat.le_refl _) with ⟨hz, hr⟩ | ⟨e, hel, w1, hw1, hr⟩
  · have : left = [] := List.eq_nil_of_length_eq_zero (by rw [← he.len]; simpa using hz)
    refine ⟨_, w, σ, gs, .inl ?_, hw, h0 this⟩
    simp only [execOp, ha.eval hx]; simp [hr]
  · obtain ⟨q0, hq0⟩ := List.getElem?_of_mem hel
    have hlt := (List.getElem?_eq_some_iff.1 hq0).1
    have hl : left[q0]? = some (left[q0]'(by rw [← he.len]; exact hlt)) := List.getElem?_eq_getElem _
    obtain ⟨e', he1, he2, he3⟩ := he.get hl
    obtain rfl : e = e' := Option.some.inj (hq0.symm.trans he1)
    generalize hp : left[q0]'(by rw [← he.len]; exact hlt) = p at *
    have hes : e ∈ es.toList := by unfold leftOf at hel; simp at hel; simpa using hel.1
    have hnd : ∀ e1 ∈ es.toList, ∀ e2 ∈ es.toList, e1.key = e2.key → e1 = e2 := fun e1 h1 e2 h2 hke => inj_nodup hs.2.2 h1 h2 hke
    have hnb : ∀ e1 ∈ es.toList, ∀ e2 ∈ es.toList, e1.born = e2.born → e1 = e2 := fun e1 h1 e2 h2 hke => inj_nodup hs.2.1 h1 h2 hke
    have hle : leftOf es (seen.push e.born) = (leftOf es seen).filter (fun x => decide (x.born ≠ e.born)) := by
      unfold leftOf
      rw [Array.filter_filter]
      congr 1
      funext x
      rw [Array.contains_push]
      by_cases hxe : x.born = e.born <;> simp [hxe, Bool.and_comm]
    refine ⟨_, { w1 with heap := w1.heap.setIfInBounds b (.mapIter (some mb) cl (seen.push e.born) cl) }, σ, _, .inl ?_, ?_, h1 p [(b, .mapIter (some mb) cl (seen.push e.born) cl)] e.val (List.mem_of_getElem? hl) he3 ⟨b, mb, es, cl, _, rfl, rfl, rfl, rfl, hs, ?_⟩ ⟨b, mb, es, cl, _, e.born, e, rfl, rfl, rfl, rfl, by simp, ?_, he2, he3⟩⟩
    · simp only [execOp, ha.eval hx]; simp [hr, ← he2]; rfl
    · have hw1' : Wor σ (gs ++ marks ds :: c.fr) w1 := by
        rcases hw1 with rfl | rfl
        · exact hw
        · exact hw.drawn _
      have hb1 : w1.heap[b]? = some (.mapIter (some mb) cl seen cl) := hw1'.get hj (List.mem_cons_self)
      exact hw1'.put hj rfl rfl rfl (by simp [(Array.getElem?_eq_some_iff.1 hb1).1]) (fun q hq => by simp [Ne.symm hq])
    · rw [hle, Array.toList_filter]
      refine filter_ents he (fun q1 e1 p1 hq1 hp1 => ?_)
      have h11 : e1 ∈ es.toList := by have := List.mem_of_getElem? hq1; unfold leftOf at this; simp at this; simpa using this.1
      obtain ⟨e1', h12, h13, _⟩ := he.get hp1
      obtain rfl : e1 = e1' := Option.some.inj (hq1.symm.trans h12)
      by_cases hpp : p1.1 = p.1
      · have : e1 = e := hnd _ h11 _ hes (by rw [h13, he2, hpp])
        simp [this, hpp]
      · have : e1.born ≠ e.born := fun hb => hpp (hk _ _ (by rw [← h13, ← he2, hnb _ h11 _ hes hb]))
        simp [this, hpp]
    · obtain ⟨e1, hf1⟩ : ∃ e1, es.find? (fun x => x.born == e.born) = some e1 := by
        rw [← Option.isSome_iff_exists, Array.find?_isSome]
        exact ⟨e, by simpa using hes, by simp⟩
      rw [hf1]
      have h11 := Array.mem_of_find?_eq_some hf1
      have h12 := Array.find?_some hf1
      exact congrArg some (hnb e1 (by simpa using h11) e hes (by simpa using h12))
omit [DecidableEq K] in
theorem o_entry {p : K × V} (ho : ops[i]? = some ⟨d, .entry x, ty, pos, after, g⟩) (hg : wants ops ρ g = true) (hf : fits n d = true) (hx : ev ρ x = some u) (hm : MIe fk rv σ u v p gi gm) (hj : gs[j]? = some gi) (hjm : gs[jm]? = some gm)
    (h : ∀ v', rv.r σ p.2 v' → St c (put ρ d (.tuple #[fk p.1, v'])) σ gs (.inRegion ops rest :: k)) : St c ρ σ gs (.inRegion ops (i :: rest) :: k) := by
  obtain ⟨b, mb, es, cl, seen, st, e, rfl, rfl, rfl, rfl, h5, h6, h7, h8⟩ := hm
  refine st_op ho hg hf rfl fun ds a' w ha hw => ?_
  have hb := hw.get hj (List.mem_cons_self)
  have hbm := hw.get hjm (List.mem_cons_self)
  refine ⟨_, w, σ, gs, .inl ?_, hw, h e.val h8⟩
  simp only [execOp, ha.eval hx, ← h7]
  simp [Instr.entry, getObj, Sem.run, hb, hbm, h5, h6]
theorem st_loopD {C S E : Type} {opts : S → C → Prop} {step : C → S → Sum S E → Prop} {Q : E → Prop} {s0 : S} {x : Code} {id : Nat} (hl : LoopsD opts step Q s0) (J : S → Env → Sto → List Grp → Prop) (h0 : J s0 ρ σ gs)
    (hb : ∀ s, (∀ cc, opts s cc → ∃ o, step cc s o ∧ (∀ e, o = .inr e → Q e) ∧ (∀ s' ρ' σ' gs', o = .inl s' → J s' ρ' σ' gs' → St c ρ' σ' gs' (.inLoop x :: .inBlock id :: k))) → ∀ ρ σ gs, J s ρ σ gs → St c ρ σ gs (.code x :: .inLoop x :: .inBlock id :: k)) :
    St c ρ σ gs (.code (.block id (.loop x)) :: k) := by
  have key : ∀ s, LoopsD opts step Q s → ∀ ρ σ gs, J s ρ σ gs → St c ρ σ gs (.code x :: .inLoop x :: .inBlock id :: k) := by
    intro s hl
    induction hl with
    | mk o h1 h2 h3 ih => exact fun ρ σ gs hJ => hb _ (fun cc hc => ⟨o cc, h1 cc hc, fun e he => h2 cc e hc he, fun s' ρ' σ' gs' he hJ' => st_inLoop0 (ih cc s' hc he _ _ _ hJ')⟩) ρ σ gs hJ
  exact st_block (st_loop0 (key s0 hl _ _ _ h0))
end
end Go.Eng
