import Derived.Test.YtonmgcebhhdplabGreatDoorEngZ
import Derived.WideKeyEntry
/-! The engine, part ZB: keys that are two numbers, values that are structs or slices, what is counted up in a map. -/
namespace Go.Eng
open Go
open Go.MapKept (Stamped)
def rK {α : Type} (d : Kd α) : Vr α := ⟨fun σ x v => ∃ cs, d.rep σ cs x ∧ v = .agg cs.toArray, fun hl ⟨cs, h1, h2⟩ => ⟨cs, d.mono hl h1, h2⟩⟩
def rSl {α : Type} (d : Kd α) : Vr (List α) := ⟨fun σ x v => Sl d σ v x, fun hl h => h.up hl⟩
def kPr (p : Int × Int) : Value := .agg #[.int .i64 p.1, .int .i64 p.2]
theorem findAsk_fk {P : Program} {kt : TypeId} {K : Type} [DecidableEq K] {fk : K → Value} (he : ∀ a b w, (Op.equal kt (fk a) (fk b)).run P w = .ok (decide (a = b)) w) (a : K) (w : World) : ∀ (ks : List K) (es : List MapEntry) (j : Nat), es.map (·.key) = ks.map fk →
    (Instr.findAsking kt (fk a) es j).run P w = .ok ((mfind a ks).bind fun i => es[i]?.map fun e => (j + i, e.val)) w
  | [], [], j, _ => by simp [Instr.findAsking, mfind]
  | [], _ :: _, _, h => by cases h
  | _ :: _, [], _, h => by cases h
  | b :: ks, e :: es, j, h => by
    simp only [List.map_cons, List.cons.injEq] at h
    have := findAsk_fk he a w ks es (j + 1) h.2
    simp only [Instr.findAsking, h.1, mfind, Sem.run_bind, he, Result.andThen_ok]
    by_cases hab : a = b
    · simp [hab]
    · simp only [hab, decide_false, Bool.false_eq_true, if_false, this]
      cases mfind a ks with
      | none => rfl
      | some i => simp [Nat.add_assoc, Nat.add_comm 1]
theorem kPr_inj (a b : Int × Int) (h : kPr a = kPr b) : a = b := by
 simp only [kPr, Value.agg.injEq] at h
 have := congrArg Array.toList h
 simp at this
 exact Prod.ext this.1 this.2
theorem keyP {P : Program} {kt : TypeId} {f0 f1 : Field} (ht : P.underlying kt = some (.struct #[f0, f1])) (hp : P.stoodInHeld kt = false) (n0 : (f0.name == "_") = false) (n1 : (f1.name == "_") = false) (o0 : f0.offset = 0) (o1 : f1.offset = 1)
    (s0 : isScalar P f0.type = true) (s1 : isScalar P f1.type = true) (u0 : P.underlying f0.type = some (.int .i64)) (u1 : P.underlying f1.type = some (.int .i64)) : KeyOk P kt kPr := by
  have heq : ∀ (a b : Int × Int) w, (Op.equal kt (kPr a) (kPr b)).run P w = .ok (decide (a = b)) w := by
    intro a b w
    have h1 : (Op.equalIn 10000 kt (.agg ([.int .i64 a.1, .int .i64 a.2] : List Value).toArray) (.agg ([.int .i64 b.1, .int .i64 b.2] : List Value).toArray)).run P w = .ok (decide (a.1 = b.1) && (decide (a.2 = b.2) && true)) w := by
      refine eq_struct ht hp ?_
      refine eqf_cons n0 (part_one s0 (by rw [o0]; rfl)) (part_one s0 (by rw [o0]; rfl)) (eq_int u0 _ _) ?_
      exact eqf_cons n1 (part_one s1 (by rw [o1]; rfl)) (part_one s1 (by rw [o1]; rfl)) (eq_int u1 _ _) (eqf_nil _ _ _ _)
    have h2 : (decide (a.1 = b.1) && (decide (a.2 = b.2) && true)) = decide (a = b) := by
      obtain ⟨a1, a2⟩ := a; obtain ⟨b1, b2⟩ := b
      rw [Bool.eq_iff_iff]; simp
    rw [← h2]; exact h1
  refine ⟨fun e a w => ?_, fun a ks es w h => ?_, fun a => ?_, fun a b h => ?_⟩
  · have p0 : ∀ w, (part f0.type #[Value.int .i64 a.1, Value.int .i64 a.2] f0.offset).run P w = .ok (.int .i64 a.1) w := fun w => part_one (cs := [.int .i64 a.1, .int .i64 a.2]) s0 (by rw [o0]; rfl)
    have p1 : ∀ w, (part f1.type #[Value.int .i64 a.1, Value.int .i64 a.2] f1.offset).run P w = .ok (.int .i64 a.2) w := fun w => part_one (cs := [.int .i64 a.1, .int .i64 a.2]) s1 (by rw [o1]; rfl)
    have c0 : ∀ w, (Instr.checkKey e 9999 f0.type (.int .i64 a.1)).run P w = .ok () w := fun w => by rw [show (9999 : Nat) = 9998 + 1 from rfl, Instr.checkKey.eq_def]; simp [run_underlying u0]
    have c1 : ∀ w, (Instr.checkKey e 9999 f1.type (.int .i64 a.2)).run P w = .ok () w := fun w => by rw [show (9999 : Nat) = 9998 + 1 from rfl, Instr.checkKey.eq_def]; simp [run_underlying u1]
    have m0 : f0.name ≠ "_" := by simpa using n0
    have m1 : f1.name ≠ "_" := by simpa using n1
    rw [show (10000 : Nat) = 9999 + 1 from rfl, Instr.checkKey.eq_def]
    simp only [kPr, Sem.run_bind, run_underlying ht, Result.andThen_ok]
    simp [m0, m1, p0, p1, c0, c1]
  · cases es with
    | nil =>
      cases ks with
      | nil => simp [Instr.findKey, run_underlying ht, Instr.findNow, mfind]
      | cons b ks => cases h
    | cons e0 es =>
      have h1 := findAsk_fk heq a w ks (e0 :: es) 0 h
      simp only [Nat.zero_add] at h1
      cases ks with
      | nil => cases h
      | cons b ks =>
        have hk : e0.key = kPr b := by simpa using (List.cons.inj h).1
        have hn : Instr.findNow (.struct #[f0, f1]) (kPr a) (e0 :: es) 0 = none := by simp [Instr.findNow, Instr.sameNow]
        simp only [Instr.findKey, Sem.run_bind, run_underlying ht, Result.andThen_ok, hn]
        exact h1
  · simp [kPr, Instr.sameBits]
  · exact kPr_inj a b h
section
variable {P : Program} {n : Nat} {c : Ctx P n} {ρ : Env} {σ : Sto} {gs : List Grp} {k : List Item} {ops : Array Oper} {i : Nat} {rest : List Nat}
variable {d : Option Nat} {ty : TypeId} {pos : String} {after : Array Edge} {g : Option (Nat × Bool)} {x y z : Operand} {v u : Value} {t kt vt : TypeId}
variable {K V : Type} [DecidableEq K] {fk : K → Value} {rv : Vr V} {m : List (K × V)} {gr : Grp} {j : Nat} {a : K} {q : V}
def MpE (fk : K → Value) (rv : Vr V) (q0 : V) (σ : Sto) (v : Value) (m : List (K × V)) (a : K) (st : Nat) (g : Grp) : Prop :=
 ∃ b es cl i e x0, x0 = (mget m a).getD q0 ∧ v = .map (some b) ∧ g = [(b, .map es cl)] ∧ Stamped es cl ∧ es.toList[i]? = some e ∧ e.born = st ∧ Ents fk rv σ es.toList (mput m a x0) ∧ ∀ q, mput m a q = (mput m a x0).set i (a, q)
theorem o_mapEntry {z0 : Value} {q0 : V} (ho : ops[i]? = some ⟨d, .mapEntry t x y, ty, pos, after, g⟩) (hg : wants ops ρ g = true) (hf : fits n d = true) (ht : mapT P t = some (kt, vt)) (hk : KeyOk P kt fk) (h0 : zeroV P vt = some z0) (hz : rv.r σ q0 z0)
    (hx : ev ρ x = some v) (hm : Mp fk rv σ v m gr) (hj : gs[j]? = some gr) (hy : ev ρ y = some (fk a))
    (h : ∀ (v0 : Value) (st : Nat) g', MpE fk rv q0 σ v m a st g' → St c (put ρ d (.tuple #[v0, .int .i64 ((st : Nat) : Int)])) σ (gs.set j g') (.inRegion ops rest :: k)) : St c ρ σ gs (.inRegion ops (i :: rest) :: k) := by
  obtain ⟨b, es, cl, rfl, rfl, hs, he⟩ := hm
  have hun := mapT_und ht
  refine st_op ho hg hf rfl fun ds a' w ha hw => ?_
  have hb := hw.get hj (List.mem_cons_self)
  have hkeys : es.toList.map (·.key) = (m.map (·.1)).map fk := by rw [he.1, List.map_map]; rfl
  have hfind := hk.find a (m.map (·.1)) es.toList w hkeys
  cases hmf : mfind a (m.map (·.1)) with
  | none =>
    rw [hmf] at hfind
    have hno := mfind_no hmf
    have hlen := he.len
    refine ⟨_, { w with heap := w.heap.setIfInBounds b (.map (es.push { key := fk a, val := z0, born := cl }) (cl + 1)) }, σ, _, .inl ?_, ?_, h z0 cl [(b, .map (es.push { key := fk a, val := z0, born := cl }) (cl + 1))] ⟨b, _, _, m.length, ⟨fk a, z0, cl⟩, q0, by rw [(mfind_none hmf).1]; rfl, rfl, rfl, ⟨?_, ?_, ?_⟩, ?_, rfl, ⟨?_, ?_⟩, ?_⟩⟩
    · simp [execOp, ha.eval hx, ha.eval hy, Instr.mapEntry, run_underlying hun, getObj_mp hb, setObj_mp _ hb, hk.check, hfind, run_zeroV h0, goInt]
    · exact hw.put hj rfl rfl rfl (by simp [(Array.getElem?_eq_some_iff.1 hb).1]) (fun q hq => by simp [Ne.symm hq])
    · intro e hme
      rw [Array.toList_push, List.mem_append] at hme
      rcases hme with hme | hme
      · exact Nat.lt_succ_of_lt (hs.1 e hme)
      · rw [List.mem_singleton] at hme; subst hme; exact Nat.lt_succ_self _
    · rw [Array.toList_push, List.map_append]
      refine List.nodup_append.2 ⟨hs.2.1, by simp, fun x hx y hy e => ?_⟩
      simp only [List.map_cons, List.map_nil, List.mem_singleton] at hy
      obtain ⟨e0, h0, rfl⟩ := List.mem_map.1 hx
      have := hs.1 e0 h0
      omega
    · rw [Array.toList_push, List.map_append]
      refine List.nodup_append.2 ⟨hs.2.2, by simp, fun x hx y hy e => ?_⟩
      simp only [List.map_cons, List.map_nil, List.mem_singleton] at hy
      subst hy; subst e
      rw [he.1] at hx
      obtain ⟨p, hp, h1⟩ := List.mem_map.1 hx
      exact hno p hp (hk.inj _ _ h1).symm
    · rw [Array.toList_push, List.getElem?_append_right (by omega), hlen, Nat.sub_self]; rfl
    · rw [(mfind_none hmf).2 q0, Array.toList_push, List.map_append, List.map_append, he.1]; rfl
    · intro i0 e p h1 h2
      rw [(mfind_none hmf).2 q0] at h2
      rw [Array.toList_push] at h1
      by_cases hi : i0 < m.length
      · rw [List.getElem?_append_left (by omega)] at h1
        rw [List.getElem?_append_left hi] at h2
        exact he.2 i0 e p h1 h2
      · rw [List.getElem?_append_right (by omega)] at h1 h2
        rw [hlen] at h1
        cases hi2 : i0 - m.length with
        | zero =>
          rw [hi2] at h1 h2
          simp only [List.getElem?_cons_zero, Option.some.injEq] at h1 h2
          subst h1; subst h2; exact hz
        | succ q => rw [hi2] at h1; simp at h1
    · intro q
      rw [(mfind_none hmf).2 q, (mfind_none hmf).2 q0, List.set_append_right _ _ (Nat.le_refl _), Nat.sub_self]; rfl
  | some i0 =>
    obtain ⟨⟨x0, h1, h2⟩, h3⟩ := mfind_some hmf
    obtain ⟨e0, hei, hke, _⟩ := he.get h1
    rw [hmf] at hfind
    simp only [Option.bind_some, hei, Option.map_some] at hfind
    have hei' : es[i0]? = some e0 := by rw [← Array.getElem?_toList]; exact hei
    have hsame : es.modify i0 (fun e => { e with key := fk a }) = es := by
      apply Array.ext'
      rw [Array.toList_modify]
      refine List.ext_getElem? fun q => ?_
      rw [List.getElem?_modify]
      by_cases hq : i0 = q
      · subst hq; simp [hei, ← hke]
      · simp [hq]
    have hx0 : mput m a x0 = m := by rw [h3 x0]; exact set_same h1
    refine ⟨_, { w with heap := w.heap.setIfInBounds b (.map es cl) }, σ, _, .inl ?_, ?_, h e0.val e0.born [(b, .map es cl)] ⟨b, es, cl, i0, e0, x0, by rw [h2]; rfl, rfl, rfl, hs, hei, rfl, by rw [hx0]; exact he, fun q => by rw [hx0]; exact h3 q⟩⟩
    · simp [execOp, ha.eval hx, ha.eval hy, Instr.mapEntry, run_underlying hun, getObj_mp hb, setObj_mp _ hb, hk.check, hfind, hei', hke, Instr.keyThatStays, hk.stay, hsame, goInt]
    · exact hw.put hj rfl rfl rfl (by simp [(Array.getElem?_eq_some_iff.1 hb).1]) (fun q hq => by simp [Ne.symm hq])
theorem o_entryStore {st : Nat} {q0 : V} (ho : ops[i]? = some ⟨d, .entryStore t x y z, ty, pos, after, g⟩) (hg : wants ops ρ g = true) (hf : fits n d = true)
    (hx : ev ρ x = some v) (hm : MpE fk rv q0 σ v m a st gr) (hj : gs[j]? = some gr) (hy : ev ρ y = some (.int .i64 ((st : Nat) : Int))) (hz : ev ρ z = some u) (hu : rv.r σ q u)
    (h : ∀ g', Mp fk rv σ v (mput m a q) g' → St c (put ρ d undef) σ (gs.set j g') (.inRegion ops rest :: k)) : St c ρ σ gs (.inRegion ops (i :: rest) :: k) := by
  obtain ⟨b, es, cl, i0, e0, x0, _, rfl, rfl, hs, hei, rfl, he, h3⟩ := hm
  refine st_op ho hg hf rfl fun ds a' w ha hw => ?_
  have hb := hw.get hj (List.mem_cons_self)
  have hidx : es.findIdx? (fun e => ((e.born : Nat) : Int) == ((e0.born : Nat) : Int)) = some i0 := by
    rw [WideElems.findIdx_arr]; exact WideElems.findIdx_born hs.2.1 hei
  have hlt : i0 < es.toList.length := (List.getElem?_eq_some_iff.1 hei).1
  have hp : (mput m a x0)[i0]? = some (a, x0) := by rw [h3 x0, List.getElem?_set, if_pos rfl, if_pos (by rw [← he.len]; exact hlt)]
  have hke : e0.key = fk a := by obtain ⟨e1, h1, h2, _⟩ := he.get hp; rw [hei] at h1; cases h1; exact h2
  refine ⟨undef, { w with heap := w.heap.setIfInBounds b (.map (es.modify i0 fun e => { e with val := u }) cl) }, σ, _, .inr ⟨?_, rfl⟩, ?_, h [(b, .map (es.modify i0 fun e => { e with val := u }) cl)] ⟨b, _, _, rfl, rfl, ⟨?_, ?_, ?_⟩, ?_, ?_⟩⟩
  · simp [execOp, ha.eval hx, ha.eval hy, ha.eval hz, Instr.entryStore, getObj_mp hb, setObj_mp _ hb, asInt, asIntOf, hidx]
  · exact hw.put hj rfl rfl rfl (by simp [(Array.getElem?_eq_some_iff.1 hb).1]) (fun q hq => by simp [Ne.symm hq])
  · intro e hme
    rw [Array.toList_modify] at hme
    obtain ⟨q0, hq0⟩ := List.getElem?_of_mem hme
    rw [List.getElem?_modify] at hq0
    cases hes : es.toList[q0]? with
    | none => rw [hes] at hq0; simp at hq0
    | some e1 =>
      have hb1 := hs.1 e1 (List.mem_of_getElem? hes)
      rw [hes] at hq0
      by_cases hqi : i0 = q0
      · simp only [hqi, if_true, Option.map_eq_map, Option.map_some, Option.some.injEq] at hq0; subst hq0; exact hb1
      · simp only [hqi, if_false, Option.map_eq_map, Option.map_some, Option.some.injEq] at hq0; subst hq0; exact hb1
  · rw [Array.toList_modify, map_modify_same (fun e : MapEntry => e.born) (fun e => { e with val := u }) (fun _ => rfl)]; exact hs.2.1
  · rw [Array.toList_modify, map_modify_same (fun e : MapEntry => e.key) (fun e => { e with val := u }) (fun _ => rfl)]; exact hs.2.2
  · rw [Array.toList_modify, map_modify_same (fun e : MapEntry => e.key) (fun e => { e with val := u }) (fun _ => rfl), h3 q, List.map_set, he.1, set_same (by rw [List.getElem?_map, hp]; rfl)]
  · intro q0 e p hq1 hq2
    rw [Array.toList_modify, List.getElem?_modify] at hq1
    rw [h3 q, List.getElem?_set] at hq2
    by_cases hqi : i0 = q0
    · subst hqi
      rw [if_pos rfl, if_pos (by rw [← he.len]; exact hlt)] at hq2
      simp only [hei, Option.map_eq_map, Option.map_some, if_true, Option.some.injEq] at hq1 hq2
      subst hq1; subst hq2; exact hu
    · rw [if_neg hqi] at hq2
      cases hes : es.toList[q0]? with
      | none => rw [hes] at hq1; simp at hq1
      | some e1 =>
        rw [hes] at hq1
        simp only [Option.map_eq_map, Option.map_some, Option.some.injEq, if_neg hqi] at hq1
        subst hq1
        exact he.2 q0 _ p hes hq2
theorem MpE.up {q0 : V} {σ τ : Sto} {st : Nat} (h : MpE fk rv q0 σ v m a st gr) (hl : σ.Le τ) : MpE fk rv q0 τ v m a st gr := by
 obtain ⟨b, es, cl, i0, e0, x0, h1, h2, h3, h4, h5, h6, h7, h8⟩ := h; exact ⟨b, es, cl, i0, e0, x0, h1, h2, h3, h4, h5, h6, h7.up hl, h8⟩
theorem mget_mput_same (x : V) : ∀ m : List (K × V), mget (mput m a x) a = some x
 | [] => by simp [mput, mget]
 | p :: m => by
  simp only [mput]
  split
  ·simp [mget]
  ·next h => simp only [mget, if_neg h]; exact mget_mput_same x m
theorem o_lookE {fv : V → Value} {q0 : V} {st : Nat} (ho : ops[i]? = some ⟨d, .lookup t x y false, ty, pos, after, g⟩) (hg : wants ops ρ g = true) (hf : fits n d = true) (ht : mapT P t = some (kt, vt)) (hk : KeyOk P kt fk) (h0 : zeroV P vt = some (fv q0))
    (hx : ev ρ x = some v) (hm : MpE fk (rF fv) q0 σ v m a st gr) (hj : gs[j]? = some gr) (hy : ev ρ y = some (fk a))
    (h : St c (put ρ d (fv ((mget m a).getD q0))) σ gs (.inRegion ops rest :: k)) : St c ρ σ gs (.inRegion ops (i :: rest) :: k) := by
  obtain ⟨b, es, cl, i0, e0, x0, h1, rfl, rfl, hs, hei, rfl, he, h3⟩ := hm
  refine st_op ho hg hf rfl fun ds a' w ha hw => ?_
  obtain ⟨u, hu, hr⟩ := look_run (ok := false) (rv := rF fv) ht hk h0 rfl (hw.get hj (List.mem_cons_self)) he a
  have hu : u = fv _ := hu
  rw [mget_mput_same, Option.getD_some, h1] at hu
  subst hu
  exact ⟨_, w, σ, gs, .inl (by simp only [execOp, ha.eval hx, ha.eval hy]; simp [hr]), hw, h⟩
end
def incrOps (tm tl ti tk : TypeId) (pos : String) : Array Oper := #[
 ⟨some 30, .move (.tmp 3), tm, pos, #[], none⟩,
 ⟨some 31, .fieldAddr tl (.tmp 4) 1, 0, pos, #[], none⟩,
 ⟨some 32, .load ti (.tmp 31), ti, pos, #[⟨1, .data⟩], none⟩,
 ⟨some 33, .move (.tmp 7), ti, pos, #[], none⟩,
 ⟨some 34, .build tk #[(0, .tmp 32), (1, .tmp 33)], tk, pos, #[⟨2, .data⟩, ⟨3, .data⟩], none⟩,
 ⟨some 35, .lookup tm (.tmp 30) (.tmp 34) false, ti, pos, #[⟨0, .data⟩, ⟨4, .data⟩], none⟩,
 ⟨some 36, .binOp .add ti (.tmp 35) (.const (.int .i64 1)) ti, ti, pos, #[⟨5, .data⟩], none⟩,
 ⟨some 37, .mapEntry tm (.tmp 30) (.tmp 34), 0, pos, #[⟨0, .data⟩, ⟨4, .data⟩, ⟨0, .phase⟩, ⟨1, .phase⟩, ⟨2, .phase⟩, ⟨3, .phase⟩, ⟨4, .phase⟩, ⟨5, .textOnly .mapOpAssignEntry⟩, ⟨6, .textOnly .mapOpAssignEntry⟩], none⟩,
 ⟨some 38, .extract (.tmp 37) 1, ti, pos, #[⟨7, .data⟩], none⟩,
 ⟨none, .entryStore tm (.tmp 30) (.tmp 38) (.tmp 36), 0, pos, #[⟨0, .data⟩, ⟨8, .data⟩, ⟨6, .data⟩, ⟨7, .chain⟩, ⟨0, .phase⟩, ⟨1, .phase⟩, ⟨2, .phase⟩, ⟨3, .phase⟩, ⟨4, .phase⟩, ⟨5, .phase⟩, ⟨6, .phase⟩, ⟨7, .phase⟩, ⟨8, .phase⟩], none⟩]
theorem gs_mid {gs : List Grp} {g p : Grp} : (gs ++ [g] ++ [p])[gs.length]? = some g := by simp
theorem gs_set {gs : List Grp} {g g' p : Grp} : (gs ++ [g] ++ [p]).set gs.length g' = gs ++ [g'] ++ [p] := by simp
theorem gs_low1 {gs : List Grp} {p q : Grp} {j : Nat} (h : gs[j]? = some q) : (gs ++ [p])[j]? = some q := by
 have := (List.getElem?_eq_some_iff.1 h).1
 rw [List.getElem?_append_left this]; exact h
theorem st_incr {P : Program} {n : Nat} {c : Ctx P n} {ρ : Env} {σ : Sto} {gs : List Grp} {k : List Item} {id : Nat} {tm tl ti tk : TypeId} {pos : String} {b j : Nat} {y q : Int} {cs : List Value} {E : TypeId} {fr : Nat × Nat} {v : Value} {m : List ((Int × Int) × Int)} {gr : Grp}
    (hmix : P.follows .mixedOrders = true) (hn : Nat.blt 38 n = true) (ht : mapT P tm = some (tk, ti)) (hk : KeyOk P tk kPr) (h0 : zeroV P ti = some (.int .i64 0)) (hfa : fieldT P tl 1 = some 1) (hsc : isScalar P ti = true) (hst : structT P tk = some ([.int .i64 0, .int .i64 0], [(0, 1), (1, 1)]))
    (h3 : look ρ 3 = some v) (h4 : look ρ 4 = some (.pointer (some ⟨b, 0, none⟩))) (h7 : look ρ 7 = some (.int .i64 q)) (hj : gs[j]? = some [(b, .cells cs.toArray E fr)]) (hc : cs[1]? = some (.int .i64 y)) (hm : Mp kPr (rF (Value.int .i64)) σ v m gr)
    (h : ∀ ρ' τ g', σ.Le τ → Mp kPr (rF (Value.int .i64)) τ v (mput m (y, q) (IntKind.i64.wrap ((mget m (y, q)).getD 0 + 1))) g' → (∀ t, (dstsO (incrOps tm tl ti tk pos) 9).contains t = false → look ρ' t = look ρ t) → St c ρ' τ (gs ++ [g']) k) :
    St c ρ σ (gs ++ [gr]) (.code (.region id (incrOps tm tl ti tk pos) true) :: k) := by
  have fit : ∀ d, Nat.ble d 38 = true → fits n (some d) = true := fun d hd => by
    have h1 := Nat.le_of_ble_eq_true hn; have h2 := Nat.le_of_ble_eq_true hd
    show Nat.ble (d + 1) n = true
    exact Nat.ble_eq_true_of_le (by omega)
  have hL : MonoD [.v v, .v (.pointer (some ⟨b, 1, none⟩)), .v (.int .i64 y), .v (.int .i64 q), .v (.agg [.int .i64 y, .int .i64 q].toArray), .v (.int .i64 ((mget m (y, q)).getD 0)), .v (.int .i64 (IntKind.i64.wrap ((mget m (y, q)).getD 0 + 1))), .t fun _ _ => True, .t fun _ _ => True] := ⟨fun _ _ _ _ _ => trivial, fun _ _ _ _ _ => trivial, trivial⟩
  have hI : MonoII [[fun τ _ F => ∃ g, F = [g] ∧ Mp kPr (rF (Value.int .i64)) τ v m g, fun τ u F => ∃ g v0 st, F = [g] ∧ u = .tuple #[v0, .int .i64 ((st : Nat) : Int)] ∧ MpE kPr (rF (Value.int .i64)) 0 τ v m (y, q) st g, fun τ u F => ∃ g st, F = [g] ∧ u = .int .i64 ((st : Nat) : Int) ∧ MpE kPr (rF (Value.int .i64)) 0 τ v m (y, q) st g]] :=
    ⟨⟨fun _ _ _ _ hl ⟨g, e, h⟩ => ⟨g, e, h.up hl⟩, fun _ _ _ _ hl ⟨g, v0, st, e, e', h⟩ => ⟨g, v0, st, e, e', h.up hl⟩, fun _ _ _ _ hl ⟨g, st, e, e', h⟩ => ⟨g, st, e, e', h.up hl⟩, trivial⟩, trivial⟩
  have key := st_draw5 (c := c) (ρ := ρ) (σ := σ) (gs := gs) (k := k) (id := id) (ops := incrOps tm tl ti tk pos) (fun _ => [gr]) 9 1 (fun _ => 2) (tlP [none, none, none, none, none, none, none, some (0, 0), some (0, 1)]) (fun _ => none) (fun i => if i = 5 then some 0 else none) (tlNN [[none, some 37, some 38]]) _ _
    hmix rfl (dl_mono hL) (tlII_mono hI) rfl rfl (lt1 ⟨gr, rfl, hm⟩) (fun i q hi h => by
      by_cases e : i = 5
      · rw [if_pos e] at h; cases h; decide
      · rw [if_neg e] at h; cases h) ?_ ?_
  · simpa [List.range_succ] using key
  · refine allB_cons (allB_cons (allB_cons (allB_cons (allB_cons (allB_cons (allB_cons (allB_cons (allB_cons allB_nil ?_) ?_) ?_) ?_) ?_) ?_) ?_) ?_) ?_
    · intro ρ' τ pool rs hl hd hout hw hk'
      exact o_move rfl rfl (fit _ rfl) ((hout 3 rfl).trans h3) (hk' _ _ (Sto.Le.refl _) rfl)
    · intro ρ' τ pool rs hl hd hout hw hk'
      exact o_fieldAddr rfl rfl (fit _ rfl) hfa ((hout 4 rfl).trans h4) (hk' _ _ (Sto.Le.refl _) rfl)
    · intro ρ' τ pool rs hl hd hout hw hk'
      obtain ⟨_, e1, rfl⟩ := hd 1 rfl _ rfl
      exact o_load (j := j) rfl rfl (fit _ rfl) hsc e1 (gs_low1 hj) (by simpa using hc) (hk' _ _ (Sto.Le.refl _) rfl)
    · intro ρ' τ pool rs hl hd hout hw hk'
      exact o_move rfl rfl (fit _ rfl) ((hout 7 rfl).trans h7) (hk' _ _ (Sto.Le.refl _) rfl)
    · intro ρ' τ pool rs hl hd hout hw hk'
      obtain ⟨_, e2, rfl⟩ := hd 2 rfl _ rfl
      obtain ⟨_, e3, rfl⟩ := hd 3 rfl _ rfl
      exact o_build rfl rfl (fit _ rfl) hst (ps := [(0, [.int .i64 y]), (1, [.int .i64 q])]) ⟨rfl, ⟨_, e2, rfl⟩, rfl, ⟨_, e3, rfl⟩, trivial⟩ rfl (hk' _ _ (Sto.Le.refl _) rfl)
    · refine ⟨rfl, fun r hr => ?_⟩
      intro ρ' τ u F pool rs hl hI hu hd hout hw hk'
      obtain ⟨_, e0, rfl⟩ := hd 0 rfl _ rfl
      obtain ⟨_, e4, rfl⟩ := hd 4 rfl _ rfl
      match r, hr, hI with
      | 0, _, hI =>
        obtain ⟨g, rfl, hm'⟩ := hI
        exact o_lookup (fv := Value.int .i64) (q0 := 0) (a := (y, q)) rfl rfl (fit _ rfl) ht hk h0 e0 hm' gs_mid e4 (hk' _ _ (Sto.Le.refl _) rfl)
      | 1, _, hI =>
        obtain ⟨g, v0, st, rfl, rfl, hm'⟩ := hI
        exact o_lookE (fv := Value.int .i64) (q0 := 0) (a := (y, q)) rfl rfl (fit _ rfl) ht hk h0 e0 hm' gs_mid e4 (hk' _ _ (Sto.Le.refl _) rfl)
      | 2, _, hI =>
        obtain ⟨g, st, rfl, rfl, hm'⟩ := hI
        exact o_lookE (fv := Value.int .i64) (q0 := 0) (a := (y, q)) rfl rfl (fit _ rfl) ht hk h0 e0 hm' gs_mid e4 (hk' _ _ (Sto.Le.refl _) rfl)
      | r + 3, hr, _ => omega
    · intro ρ' τ pool rs hl hd hout hw hk'
      obtain ⟨_, e5, rfl⟩ := hd 5 rfl _ rfl
      exact o_ibin rfl rfl (fit _ rfl) e5 rfl rfl (hk' _ _ (Sto.Le.refl _) rfl)
    · intro ρ' τ u F pool rs hl hI hu hd hout hw hk'
      obtain ⟨_, e0, rfl⟩ := hd 0 rfl _ rfl
      obtain ⟨_, e4, rfl⟩ := hd 4 rfl _ rfl
      obtain ⟨g, rfl, hm'⟩ := hI
      refine o_mapEntry (rv := rF (Value.int .i64)) (q0 := 0) (a := (y, q)) rfl rfl (fit _ rfl) ht hk h0 rfl e0 hm' gs_mid e4 (fun v0 st g' he => ?_)
      rw [gs_set]
      exact hk' _ _ [g'] (Sto.Le.refl _) trivial ⟨g', v0, st, rfl, rfl, he⟩
    · intro ρ' τ u F pool rs hl hI hu hd hout hw hk'
      obtain ⟨g, v0, st, rfl, rfl, hm'⟩ := hI
      exact o_extract (vs := [v0, .int .i64 ((st : Nat) : Int)]) (j := 1) rfl rfl (fit _ rfl) (hu (by decide) _ rfl) rfl (hk' _ _ [g] (Sto.Le.refl _) trivial ⟨g, st, rfl, rfl, hm'⟩)
  · intro ρ' τ vals u F hl hIu hv hout
    obtain ⟨⟨g, st, hF, hu, hm'⟩, hu2⟩ := hIu 0 (by decide)
    obtain ⟨a0, b0⟩ := hv 0 (by decide)
    obtain ⟨a6, b6⟩ := hv 6 (by decide)
    have b0 : v = vals 0 := b0
    have b6 : Value.int .i64 (IntKind.i64.wrap ((mget m (y, q)).getD 0 + 1)) = vals 6 := b6
    show St c ρ' τ (gs ++ (List.range 1).flatMap F) (.inRegion (incrOps tm tl ti tk pos) [9] :: k)
    have e1 : gs ++ (List.range 1).flatMap F = gs ++ [g] := by simp [List.range_succ, hF]
    rw [e1]
    refine o_entryStore (rv := rF (Value.int .i64)) (a := (y, q)) (q := IntKind.i64.wrap ((mget m (y, q)).getD 0 + 1)) (j := gs.length) (gr := g) rfl rfl rfl ((a0 30 rfl).trans (congrArg some b0.symm)) hm' (by simp) ((hu2 38 rfl).trans (congrArg some hu)) (a6 36 rfl) b6.symm (fun g' hm2 => ?_)
    refine st_end ?_
    have e2 : (gs ++ [g]).set gs.length g' = gs ++ [g'] := by simp
    rw [e2]
    exact h ρ' τ g' hl hm2 hout
end Go.Eng
