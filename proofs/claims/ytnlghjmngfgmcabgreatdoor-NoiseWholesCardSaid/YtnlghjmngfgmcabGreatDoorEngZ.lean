import Derived.Test.YtnlghjmngfgmcabGreatDoorEngU
import Derived.Test.YtnlghjmngfgmcabGreatDoorEngQ
/-! The engine, part Z: maps that are held. -/
namespace Go.Eng
open Go

section
variable {K V : Type} [DecidableEq K]
/-- A map that is held, as the list of its entries. -/
def Mp (fk : K → Value) (fv : V → Value) (_ : Sto) (v : Value) (m : List (K × V)) (g : Grp) : Prop :=
  ∃ b es clock, v = .map (some b) ∧ g = [(b, .map es clock)] ∧ es.toList.map (fun e => (e.key, e.val)) = m.map (fun p => (fk p.1, fv p.2))
omit [DecidableEq K] in
theorem Mp.up {fk : K → Value} {fv : V → Value} {σ τ : Sto} {v : Value} {m : List (K × V)} {g : Grp} (h : Mp fk fv σ v m g) (_ : σ.Le τ) : Mp fk fv τ v m g := h
omit [DecidableEq K] in
theorem Mp.one' {fk : K → Value} {fv : V → Value} {σ : Sto} {v : Value} {m : List (K × V)} {g : Grp} (h : Mp fk fv σ v m g) : v.oneCell' = true := by obtain ⟨b, es, cl, rfl, _⟩ := h; rfl
omit [DecidableEq K] in
theorem oneL_mp {fk : K → Value} {fv : V → Value} {σ : Sto} {v : Value} {m : List (K × V)} {g : Grp} (h : Mp fk fv σ v m g) : v.cells.toList = [v] := by obtain ⟨b, es, cl, rfl, _⟩ := h; rfl

/-- Where a key lies. -/
def mfind (a : K) : List K → Option Nat
  | [] => none
  | b :: m => if a = b then some 0 else (mfind a m).map (· + 1)
theorem mfind_some {a : K} : ∀ {m : List (K × V)} {i : Nat}, mfind a (m.map (·.1)) = some i → (∃ x, m[i]? = some (a, x) ∧ mget m a = some x) ∧ ∀ q, mput m a q = m.set i (a, q)
  | [], _, h => by cases h
  | p :: m, i, h => by
    simp only [List.map_cons, mfind] at h
    by_cases e : a = p.1
    · rw [if_pos e] at h
      have h0 : i = 0 := (Option.some.inj h).symm
      subst h0
      refine ⟨⟨p.2, ?_, ?_⟩, fun q => ?_⟩
      · rw [e]; rfl
      · simp [mget, e]
      · simp [mput, e]
    · rw [if_neg e] at h
      cases hm : mfind a (m.map (·.1)) with
      | none => rw [hm] at h; cases h
      | some i' =>
        rw [hm] at h
        have h0 : i = i' + 1 := (Option.some.inj h).symm
        subst h0
        obtain ⟨⟨x, h1, h2⟩, h3⟩ := mfind_some hm
        refine ⟨⟨x, by simpa using h1, by simp only [mget, if_neg e]; exact h2⟩, fun q => ?_⟩
        simp only [mput, if_neg e, List.set_cons_succ, h3 q]
theorem mfind_none {a : K} : ∀ {m : List (K × V)}, mfind a (m.map (·.1)) = none → mget m a = none ∧ ∀ q, mput m a q = m ++ [(a, q)]
  | [], _ => ⟨rfl, fun _ => rfl⟩
  | p :: m, h => by
    simp only [List.map_cons, mfind] at h
    by_cases e : a = p.1
    · rw [if_pos e] at h; cases h
    · rw [if_neg e] at h
      cases hm : mfind a (m.map (·.1)) with
      | none =>
        obtain ⟨h2, h3⟩ := mfind_none hm
        exact ⟨by simp only [mget, if_neg e]; exact h2, fun q => by simp only [mput, if_neg e, h3 q, List.cons_append]⟩
      | some i' => rw [hm] at h; cases h

/-- Values of a type may be keys: it is told at once whether two are the same. -/
structure KeyOk (P : Program) (kt : TypeId) (fk : K → Value) : Prop where
  check : ∀ e a w, (Instr.checkKey e 10000 kt (fk a)).run P w = .ok () w
  find : ∀ a (ks : List K) (es : List MapEntry) w, es.map (·.key) = ks.map fk → (Instr.findKey kt (fk a) es).run P w = .ok ((mfind a ks).bind fun i => es[i]?.map fun e => (i, e.val)) w
  stay : ∀ a, Instr.sameBits 10000 (fk a) (fk a) = true

theorem findNow_fk {td : TypeDesc} {fk : K → Value} (hs : ∀ a b, Instr.sameNow td (fk a) (fk b) = some (decide (a = b))) (a : K) : ∀ (ks : List K) (es : List MapEntry) (j : Nat), es.map (·.key) = ks.map fk →
    Instr.findNow td (fk a) es j = some ((mfind a ks).bind fun i => es[i]?.map fun e => (j + i, e.val))
  | [], [], j, _ => rfl
  | [], _ :: _, _, h => by cases h
  | _ :: _, [], _, h => by cases h
  | b :: ks, e :: es, j, h => by
    simp only [List.map_cons, List.cons.injEq] at h
    simp only [Instr.findNow, h.1, hs, mfind]
    by_cases hab : a = b
    · simp [hab]
    · have := findNow_fk hs a ks es (j + 1) h.2
      simp only [decide_eq_false hab, this, if_neg hab]
      cases mfind a ks with
      | none => rfl
      | some i => simp [Nat.add_assoc, Nat.add_comm 1]

theorem keyOf {P : Program} {kt : TypeId} {td : TypeDesc} {fk : K → Value} (ht : P.underlying kt = some td) (hp : (∃ k, td = .int k) ∨ td = .string ∨ td = .bool) (hs : ∀ a b, Instr.sameNow td (fk a) (fk b) = some (decide (a = b))) (hb : ∀ a, Instr.sameBits 10000 (fk a) (fk a) = true) : KeyOk P kt fk where
  check e a w := by
    rw [show (10000 : Nat) = 9999 + 1 from rfl, Instr.checkKey.eq_def]; rcases hp with ⟨k, rfl⟩ | rfl | rfl <;> simp [run_underlying ht]
  find a ks es w h := by
    have := findNow_fk hs a ks es 0 h
    simp only [Nat.zero_add] at this
    simp [Instr.findKey, run_underlying ht, this]
  stay := hb
theorem beq_bs (a b : ByteArray) : (a == b) = decide (a = b) := by
  rw [Bool.eq_iff_iff, decide_eq_true_iff]
  rcases a with ⟨a⟩
  rcases b with ⟨b⟩
  show (a == b) = true ↔ _
  simp
theorem keyS {P : Program} {kt : TypeId} (ht : P.underlying kt = some .string) : KeyOk P kt Value.string :=
  keyOf ht (.inr (.inl rfl)) (fun a b => by simp only [Instr.sameNow]; exact congrArg some (beq_bs a b)) (fun a => by simp only [Instr.sameBits, beq_bs, decide_true])
theorem keyI {P : Program} {kt : TypeId} {k : IntKind} (ht : P.underlying kt = some (.int k)) : KeyOk P kt (Value.int k) :=
  keyOf ht (.inl ⟨k, rfl⟩) (fun a b => by simp only [Instr.sameNow]; exact congrArg some (by rw [Bool.eq_iff_iff]; simp)) (fun a => by simp [Instr.sameBits])

theorem map_modify {α β : Type} (h : α → β) (f : α → α) (c : β) (hf : ∀ e, h (f e) = c) : ∀ (l : List α) (i : Nat), (l.modify i f).map h = (l.map h).set i c
  | [], i => by cases i <;> simp
  | e :: l, 0 => by simp [hf]
  | e :: l, i + 1 => by simp [map_modify h f c hf l i]
end

theorem getObj_mp {P : Program} {w : World} {r : Nat} {es : Array MapEntry} {cl : Nat} (hb : w.heap[r]? = some (.map es cl)) : (getObj r).run P w = .ok (.map es cl) w := by
  simp [getObj, Sem.run, hb]
theorem setObj_mp {P : Program} {w : World} {r : Nat} {es : Array MapEntry} {cl : Nat} (o : Obj) (hb : w.heap[r]? = some (.map es cl)) : (setObj r o).run P w = .ok () { w with heap := w.heap.setIfInBounds r o } := by
  simp [setObj, Sem.run, hb]

/-- A map's type: its keys', its values'. -/
def mapT (P : Program) (t : TypeId) : Option (TypeId × TypeId) := match P.underlying t with
  | some (.map k e) => some (k, e)
  | _ => none
theorem mapT_und {P : Program} {t kt vt : TypeId} (h : mapT P t = some (kt, vt)) : P.underlying t = some (.map kt vt) := by
  unfold mapT at h
  split at h
  · next k e he => cases h; exact he
  · cases h
def zeroV (P : Program) (t : TypeId) : Option Value := (P.info? t).bind (·.zero)
theorem run_zeroV {P : Program} {t : TypeId} {z : Value} (h : zeroV P t = some z) (w : World) : (zeroValue t).run P w = .ok z w := by
  unfold zeroV at h
  cases hi : P.info? t with
  | none => rw [hi] at h; cases h
  | some i =>
    rw [hi] at h
    simp only [Option.bind_some] at h
    simp [zeroValue, typeInfo, hi, h]

section
variable {P : Program} {n : Nat} {c : Ctx P n} {ρ : Env} {σ : Sto} {gs : List Grp} {k : List Item} {ops : Array Oper} {i : Nat} {rest : List Nat}
variable {d : Option Nat} {ty : TypeId} {pos : String} {after : Array Edge} {g : Option (Nat × Bool)} {x y z : Operand} {v u : Value} {t kt vt : TypeId}
variable {K V : Type} [DecidableEq K] {fk : K → Value} {fv : V → Value} {m : List (K × V)} {gr : Grp} {j : Nat} {a : K} {q : V}
omit [DecidableEq K] in
/-- A new map. -/
theorem o_makeMap (ho : ops[i]? = some ⟨d, .makeMap t none, ty, pos, after, g⟩) (hg : wants ops ρ g = true) (hf : fits n d = true)
    (h : ∀ v g', Mp fk fv σ v [] g' → St c (put ρ d v) σ (g' :: gs) (.inRegion ops rest :: k)) : St c ρ σ gs (.inRegion ops (i :: rest) :: k) :=
  st_op ho hg hf rfl fun ds a w ha hw => ⟨_, w.alloc (.map #[] 0), σ, _, .inl (by simp [execOp, Instr.makeMap]), hw.alloc _, h _ _ ⟨w.heap.size, #[], 0, rfl, rfl, rfl⟩⟩

/-- An entry is put into a map. -/
theorem o_mapUpdate (ho : ops[i]? = some ⟨d, .mapUpdate t x y z, ty, pos, after, g⟩) (hg : wants ops ρ g = true) (hf : fits n d = true) (ht : mapT P t = some (kt, vt)) (hk : KeyOk P kt fk)
    (hx : ev ρ x = some v) (hm : Mp fk fv σ v m gr) (hj : gs[j]? = some gr) (hy : ev ρ y = some (fk a)) (hz : ev ρ z = some (fv q))
    (h : ∀ g', Mp fk fv σ v (mput m a q) g' → St c (put ρ d undef) σ (gs.set j g') (.inRegion ops rest :: k)) : St c ρ σ gs (.inRegion ops (i :: rest) :: k) := by
  obtain ⟨b, es, cl, rfl, rfl, he⟩ := hm
  have hu := mapT_und ht
  refine st_op ho hg hf rfl fun ds a' w ha hw => ?_
  have hb := hw.get hj (List.mem_cons_self)
  have hkeys : es.toList.map (·.key) = (m.map (·.1)).map fk := by
    have := congrArg (List.map Prod.fst) he
    simpa [List.map_map, Function.comp_def] using this
  have hfind := hk.find a (m.map (·.1)) es.toList w hkeys
  cases hmf : mfind a (m.map (·.1)) with
  | none =>
    rw [hmf] at hfind
    refine ⟨undef, { w with heap := w.heap.setIfInBounds b (.map (es.push { key := fk a, val := fv q, born := cl }) (cl + 1)) }, σ, _, .inr ⟨?_, rfl⟩, ?_, h [(b, .map (es.push { key := fk a, val := fv q, born := cl }) (cl + 1))] ⟨b, _, _, rfl, rfl, ?_⟩⟩
    · simp [execOp, ha.eval hx, ha.eval hy, ha.eval hz, Instr.mapUpdate, run_underlying hu, getObj_mp hb, setObj_mp _ hb, hk.check, hfind]
    · exact hw.put hj rfl rfl rfl (by simp [(Array.getElem?_eq_some_iff.1 hb).1]) (fun q hq => by simp [Ne.symm hq])
    · simp [he, (mfind_none hmf).2 q]
  | some i0 =>
    obtain ⟨⟨x0, h1, h2⟩, h3⟩ := mfind_some hmf
    have hes : (es.toList.map (fun e => (e.key, e.val)))[i0]? = some (fk a, fv x0) := by rw [he]; simp [h1]
    rw [List.getElem?_map] at hes
    cases hei : es.toList[i0]? with
    | none => rw [hei] at hes; cases hes
    | some e0 =>
      rw [hei] at hes
      have hke : e0.key = fk a := (Prod.mk.inj (Option.some.inj hes)).1
      rw [hmf] at hfind
      simp only [Option.bind_some, hei, Option.map_some] at hfind
      have hei' : es[i0]? = some e0 := by rw [← Array.getElem?_toList]; exact hei
      refine ⟨undef, { w with heap := w.heap.setIfInBounds b (.map (es.modify i0 fun e => { e with key := fk a, val := fv q }) cl) }, σ, _, .inr ⟨?_, rfl⟩, ?_, h [(b, .map (es.modify i0 fun e => { e with key := fk a, val := fv q }) cl)] ⟨b, _, _, rfl, rfl, ?_⟩⟩
      · simp [execOp, ha.eval hx, ha.eval hy, ha.eval hz, Instr.mapUpdate, run_underlying hu, getObj_mp hb, setObj_mp _ hb, hk.check, hfind, hei', hke, Instr.keyThatStays, hk.stay]
      · exact hw.put hj rfl rfl rfl (by simp [(Array.getElem?_eq_some_iff.1 hb).1]) (fun q hq => by simp [Ne.symm hq])
      · rw [Array.toList_modify, map_modify (fun e : MapEntry => (e.key, e.val)) (fun e => { e with key := fk a, val := fv q }) (fk a, fv q) (fun _ => rfl), he, h3 q]
        simp [List.map_set]

/-- What a map has for a key, or nothing. -/
theorem o_lookup {q0 : V} (ho : ops[i]? = some ⟨d, .lookup t x y false, ty, pos, after, g⟩) (hg : wants ops ρ g = true) (hf : fits n d = true) (ht : mapT P t = some (kt, vt)) (hk : KeyOk P kt fk) (h0 : zeroV P vt = some (fv q0))
    (hx : ev ρ x = some v) (hm : Mp fk fv σ v m gr) (hj : gs[j]? = some gr) (hy : ev ρ y = some (fk a))
    (h : St c (put ρ d (fv ((mget m a).getD q0))) σ gs (.inRegion ops rest :: k)) : St c ρ σ gs (.inRegion ops (i :: rest) :: k) := by
  obtain ⟨b, es, cl, rfl, rfl, he⟩ := hm
  have hu := mapT_und ht
  refine st_op ho hg hf rfl fun ds a' w ha hw => ⟨_, w, σ, gs, .inl ?_, hw, h⟩
  have hb := hw.get hj (List.mem_cons_self)
  have hkeys : es.toList.map (·.key) = (m.map (·.1)).map fk := by
    have := congrArg (List.map Prod.fst) he
    simpa [List.map_map, Function.comp_def] using this
  have hfind := hk.find a (m.map (·.1)) es.toList w hkeys
  cases hmf : mfind a (m.map (·.1)) with
  | none =>
    rw [hmf] at hfind
    simp [execOp, ha.eval hx, ha.eval hy, Instr.lookup, run_underlying hu, getObj_mp hb, hk.check, hfind, run_zeroV h0, (mfind_none hmf).1]
  | some i0 =>
    obtain ⟨⟨x0, h1, h2⟩, h3⟩ := mfind_some hmf
    have hes : (es.toList.map (fun e => (e.key, e.val)))[i0]? = some (fk a, fv x0) := by rw [he]; simp [h1]
    rw [List.getElem?_map] at hes
    cases hei : es.toList[i0]? with
    | none => rw [hei] at hes; cases hes
    | some e0 =>
      rw [hei] at hes
      have hke : e0.val = fv x0 := (Prod.mk.inj (Option.some.inj hes)).2
      rw [hmf] at hfind
      simp only [Option.bind_some, hei, Option.map_some] at hfind
      simp [execOp, ha.eval hx, ha.eval hy, Instr.lookup, run_underlying hu, getObj_mp hb, hk.check, hfind, h2, hke]
end
end Go.Eng
