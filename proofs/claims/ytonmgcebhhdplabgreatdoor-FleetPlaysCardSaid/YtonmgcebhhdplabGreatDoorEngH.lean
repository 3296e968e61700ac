import Derived.Test.YtonmgcebhhdplabGreatDoorEngG
import Derived.Laws.StructEq
/-! The engine, part H: literals, equality of structs, arrays. -/
namespace Go.Eng
open Go

/-! ### Structs and slices that are written out -/
def fillL (places : Nat → Option (Nat × Nat)) : List Value → List (Nat × List Value) → Option (List Value)
 | cells, [] => some cells
 | cells, (i, cs) :: rest => match places i with
  | none => none
  | some (off, size) => match Nat.beq cs.length size && Nat.ble (off + cs.length) cells.length with
   | true => fillL places (cells.take off ++ cs ++ cells.drop (off + cs.length)) rest
   | false => none

theorem splice_eq (off : Nat) : ∀ (vs : List Value) (q : Nat) (cells : List Value), off + q + vs.length ≤ cells.length →
    ((vs.zipIdx q).foldl (fun (cs : Array Value) (c, j) => cs.setIfInBounds (off + j) c) cells.toArray) = (cells.take (off + q) ++ vs ++ cells.drop (off + q + vs.length)).toArray := by
  intro vs
  induction vs with
  | nil => intro q cells _; simp
  | cons v vs ih =>
    intro q cells h
    simp only [List.zipIdx_cons, List.foldl_cons]
    have hset : (cells.toArray.setIfInBounds (off + q) v) = (cells.set (off + q) v).toArray := by simp
    rw [hset, ih (q + 1) _ (by simp at h ⊢; omega)]
    congr 1
    simp only [List.length_cons] at h ⊢
    have := list_seg_step cells (off + q) v vs (by omega)
    rw [show off + (q + 1) = off + q + 1 by omega]
    exact this

theorem fill_eq (place : Nat → Option (Nat × Nat)) : ∀ (parts : List (Nat × Value)) (ps : List (Nat × List Value)) (cells cs : List Value), parts.map (fun p => (p.1, p.2.cells.toList)) = ps → fillL place cells ps = some cs →
    Instr.fill place cells.toArray parts = some cs.toArray := by
  intro parts
  induction parts with
  | nil => intro ps cells cs h1 h2; subst h1; simp [fillL] at h2; subst h2; rfl
  | cons p parts ih =>
    intro ps cells cs h1 h2
    subst h1
    obtain ⟨j, v⟩ := p
    simp only [List.map_cons, fillL] at h2
    simp only [Instr.fill]
    cases hp : place j with
    | none => rw [hp] at h2; cases h2
    | some q =>
      obtain ⟨off, size⟩ := q
      rw [hp] at h2
      simp only at h2 ⊢
      cases hb : Nat.beq v.cells.toList.length size && Nat.ble (off + v.cells.toList.length) cells.length with
      | false => rw [hb] at h2; cases h2
      | true =>
        rw [hb] at h2
        simp only at h2
        simp only [Bool.and_eq_true] at hb
        have e1 := Nat.eq_of_beq_eq_true hb.1
        have e2 := Nat.le_of_ble_eq_true hb.2
        simp only [Array.length_toList] at e1 e2
        rw [if_neg (by simp; omega)]
        have := splice_eq off v.cells.toList 0 cells (by simpa using e2)
        have h3 : v.cells.zipIdx.foldl (fun cs (c, j) => cs.setIfInBounds (off + j) c) cells.toArray = (cells.take off ++ v.cells.toList ++ cells.drop (off + v.cells.toList.length)).toArray := by
          rw [← Array.foldl_toList, Array.toList_zipIdx]
          simpa using this
        rw [h3]
        exact ih _ _ _ rfl h2

def pevs (ρ : Env) : List (Nat × Operand) → List (Nat × List Value) → Prop
 | [], [] => True
 | (i, x) :: l, (j, cs) :: m => i = j ∧ (∃ v, ev ρ x = some v ∧ v.cells.toList = cs) ∧ pevs ρ l m
 | _, _ => False
theorem Frm.parts {n : Nat} {a : Act} {ρ : Env} {ds : List Nat} (ha : Frm a n ρ ds) : ∀ {parts : List (Nat × Operand)} {ps : List (Nat × List Value)}, pevs ρ parts ps → (parts.map fun p => (p.1, (a.eval p.2).cells.toList)) = ps
 | [], [], _ => rfl
 | (i, x) :: l, (j, cs) :: m, h => by
  obtain ⟨rfl, ⟨v, hv, hc⟩, h2⟩ := h
  simp only [List.map_cons, ha.eval hv, hc, ha.parts h2]
 | [], _ :: _, h => h.elim
 | _ :: _, [], h => by obtain ⟨⟩ := h

def structT (P : Program) (t : TypeId) : Option (List Value × List (Nat × Nat)) := match P.underlying t, zeroT P t with
 | some (.struct fs), some zs => match fs.toList.mapM (fun f => (sizeT P f.type).map fun m => (f.offset, m)) with
  | some pl => some (zs, pl)
  | none => none
 | _, _ => none
def arrT (P : Program) (t : TypeId) : Option (List Value × Nat) := match P.underlying t, zeroT P t with
 | some (.array _ e), some zs => match sizeT P e with
  | some m => some (zs, m)
  | none => none
 | _, _ => none

theorem run_places {P : Program} : ∀ (fs : List Field) (pl : List (Nat × Nat)), fs.mapM (fun f => (sizeT P f.type).map fun m => (f.offset, m)) = some pl → ∀ w : World, (fs.mapM (m := Sem) fun f => do pure (f.offset, ← sizeOf f.type)).run P w = .ok pl w := by
 intro fs
 induction fs with
 | nil => intro pl h w; simp at h; subst h; simp
 | cons f fs ih =>
  intro pl h w
  simp only [List.mapM_cons] at h
  cases hs : sizeT P f.type with
  | none => rw [hs] at h; simp at h
  | some m =>
   rw [hs] at h
   cases hr : fs.mapM (fun f => (sizeT P f.type).map fun m => (f.offset, m)) with
   | none => rw [hr] at h; simp at h
   | some pl' =>
    rw [hr] at h
    simp at h
    subst h
    have h2 := ih pl' hr w
    simp only [List.mapM_cons, Sem.run_bind, run_sizeT hs, Result.andThen_ok, Sem.run_pure, h2]

section
variable {P : Program} {n : Nat} {c : Ctx P n} {ρ : Env} {σ : Sto} {gs : List Grp} {k : List Item} {ops : Array Oper} {i : Nat} {rest : List Nat}
variable {d : Option Nat} {ty : TypeId} {pos : String} {after : Array Edge} {g : Option (Nat × Bool)} {x y z : Operand} {v u : Value} {t : TypeId}

theorem st_addNil (h : St c ρ σ ([] :: gs) k) : St c ρ σ gs k := st_perm (by simp) h
theorem o_build {parts : Array (Nat × Operand)} {ps : List (Nat × List Value)} {zs cs : List Value} {pl : List (Nat × Nat)} (ho : ops[i]? = some ⟨d, .build t parts, ty, pos, after, g⟩) (hg : wants ops ρ g = true) (hf : fits n d = true) (ht : structT P t = some (zs, pl))
    (hp : pevs ρ parts.toList ps) (hc : fillL (fun j => pl[j]?) zs ps = some cs) (h : St c (put ρ d (.agg cs.toArray)) σ gs (.inRegion ops rest :: k)) : St c ρ σ gs (.inRegion ops (i :: rest) :: k) :=
  st_pure ho hg hf rfl (fun ds a w ha => by
    unfold structT at ht
    cases hu : P.underlying t with
    | none => rw [hu] at ht; cases ht
    | some e =>
      rw [hu] at ht
      cases hz : zeroT P t with
      | none => rw [hz] at ht; cases e <;> cases ht
      | some zs' =>
        rw [hz] at ht
        cases e <;> try cases ht
        rename_i fs
        simp only at ht
        cases hm : fs.toList.mapM (fun f => (sizeT P f.type).map fun m => (f.offset, m)) with
        | none => rw [hm] at ht; cases ht
        | some pl' =>
          rw [hm] at ht; cases ht
          obtain ⟨zv, hz1, hz2⟩ := run_zeroT hz w
          have hz3 : zv.cells = zs.toArray := by rw [← hz2]
          have hpl := run_places fs.toList pl hm w
          have hpl2 : (fs.mapM (m := Sem) fun f => do pure (f.offset, ← sizeOf f.type)).run P w = .ok pl.toArray w := by
            obtain ⟨fl⟩ := fs
            rw [List.mapM_toArray]; simp only [Sem.run_map, hpl]; rfl
          have hfill := fill_eq (fun j => pl.toArray[j]?) (parts.map (fun (i, x) => (i, a.eval x))).toList ps zs cs (by
            rw [Array.toList_map, List.map_map, ← ha.parts hp]; rfl) (by simpa using hc)
          simp only [execOp, Instr.build, Sem.run_bind, hz1, Result.andThen_ok, run_underlying hu, hz3]
          refine (congrArg (fun r => Result.andThen (Result.andThen r _) _) hpl2).trans ?_
          simp only [Result.andThen_ok]
          rw [hfill]
          simp) h

theorem o_buildA {parts : Array (Nat × Operand)} {ps : List (Nat × List Value)} {zs cs : List Value} {m : Nat} (ho : ops[i]? = some ⟨d, .build t parts, ty, pos, after, g⟩) (hg : wants ops ρ g = true) (hf : fits n d = true) (ht : arrT P t = some (zs, m))
    (hp : pevs ρ parts.toList ps) (hc : fillL (fun j => some (j * m, m)) zs ps = some cs) (h : St c (put ρ d (.agg cs.toArray)) σ gs (.inRegion ops rest :: k)) : St c ρ σ gs (.inRegion ops (i :: rest) :: k) :=
  st_pure ho hg hf rfl (fun ds a w ha => by
    unfold arrT at ht
    cases hu : P.underlying t with
    | none => rw [hu] at ht; cases ht
    | some e =>
      rw [hu] at ht
      cases hz : zeroT P t with
      | none => rw [hz] at ht; cases e <;> cases ht
      | some zs' =>
        rw [hz] at ht
        cases e <;> try cases ht
        rename_i len el
        simp only at ht
        cases hm : sizeT P el with
        | none => rw [hm] at ht; cases ht
        | some m' =>
          rw [hm] at ht; cases ht
          obtain ⟨zv, hz1, hz2⟩ := run_zeroT hz w
          have hz3 : zv.cells = zs.toArray := by rw [← hz2]
          have hfill := fill_eq (fun j => some (j * m, m)) (parts.map (fun (i, x) => (i, a.eval x))).toList ps zs cs (by
            rw [Array.toList_map, List.map_map, ← ha.parts hp]; rfl) hc
          simp only [execOp, Instr.build, Sem.run_bind, hz1, Result.andThen_ok, run_underlying hu, hz3, run_sizeT hm]
          rw [hfill]
          simp) h

theorem o_lit {α : Type} {dk : Kd α} {e by_ len : Nat} {xs : List α} {parts : Array (Nat × Operand)} {ps : List (Nat × List Value)} {zs cs : List Value} (ho : ops[i]? = some ⟨d, .buildSlice t len parts, ty, pos, after, g⟩) (hg : wants ops ρ g = true) (hf : fits n d = true)
    (ht : slT P t = some (e, dk.sz, by_)) (hz : zeroT P e = some zs) (hp : pevs ρ parts.toList ps) (hc : fillL (fun j => some (j * dk.sz, dk.sz)) ((List.replicate len zs).flatten) ps = some cs) (hl : xs.length = len) (hsm : Nat.ble (len * dk.sz) 65536 = true) (hp0 : Nat.ble 1 dk.sz = true) (hmany : dk.Many σ cs xs)
    (h : ∀ v' gr, Ow dk e σ v' xs gr → St c (put ρ d v') σ (gr :: gs) (.inRegion ops rest :: k)) : St c ρ σ gs (.inRegion ops (i :: rest) :: k) :=
  st_op ho hg hf rfl fun ds a w ha hw => by
    obtain ⟨hu, it, zt, hi, hzt, hs1, hs2, hzs⟩ := slT_parts ht
    have hzz : zt.cells.toList = zs := by
      unfold zeroT at hz; rw [hi] at hz; simp only [Option.bind_some, hzt, Option.map_some, Option.some.injEq] at hz; exact hz
    have hzl : zs.length = dk.sz := by rw [← hzz]; simpa using hzs
    refine ⟨.slice (some ⟨w.heap.size, 0, none⟩) len len, w.alloc (.cells cs.toArray e (0, 0)), σ, [(w.heap.size, .cells cs.toArray e (0, 0))] :: gs, .inl ?_, hw.alloc _, h _ _ ⟨cs, ⟨hmany.len, .inr ⟨w.heap.size, len, cs.toArray, by rw [hl], rfl, by omega, ?_, ?_, ?_⟩⟩, hmany⟩⟩
    · have hle := Nat.le_of_ble_eq_true hsm
      have hzero : ((Array.range (len * dk.sz)).map (zt.cells[· % zt.cells.size]!)) = ((List.replicate len zs).flatten).toArray := by
        apply Array.ext'
        simp only [Array.toList_map, Array.toList_range]
        apply List.ext_getElem?
        intro j
        rw [List.getElem?_map]
        by_cases hj : j < len * dk.sz
        · rw [List.getElem?_range hj]
          simp only [Option.map_some]
          have hpos : 0 < dk.sz := by
            rcases Nat.eq_zero_or_pos dk.sz with h0 | h0
            · rw [h0, Nat.mul_zero] at hj; omega
            · exact h0
          have hmod : j % zt.cells.size < zt.cells.size := Nat.mod_lt _ (by omega)
          rw [getElem!_pos zt.cells _ hmod]
          have hfl : ∀ (L q : Nat), q < L * dk.sz → ((List.replicate L zs).flatten)[q]? = zs[q % dk.sz]? := by
            intro L
            induction L with
            | zero => intro q hq; omega
            | succ L ih =>
              intro q hq
              rw [List.replicate_succ, List.flatten_cons]
              by_cases h1 : q < dk.sz
              · rw [List.getElem?_append_left (by omega), Nat.mod_eq_of_lt h1]
              · rw [List.getElem?_append_right (by omega), hzl, ih (q - dk.sz) (by rw [Nat.add_mul] at hq; omega)]
                congr 1
                exact (Nat.mod_eq_sub_mod (by omega)).symm
          rw [hfl len j hj, ← hzs, ← hzz, Array.getElem?_toList, Array.getElem?_eq_getElem hmod]
        · rw [List.getElem?_eq_none (by simp; omega), List.getElem?_eq_none (by simp [hzl]; omega)]; rfl
      have hfill := fill_eq (fun j => some (j * dk.sz, dk.sz)) (parts.map (fun (i, x) => (i, a.eval x))).toList ps _ cs (by
        rw [Array.toList_map, List.map_map, ← ha.parts hp]; rfl) hc
      have hbig : ¬ (len * dk.sz > 2 ^ 24) := by omega
      simp only [execOp, Instr.buildSlice, Sem.run_bind, run_underlying hu, Result.andThen_ok, run_sizeOf_sl ht, Sem.run_ite, if_neg hbig]
      by_cases h0 : len * dk.sz = 0
      · simp only [h0, if_true, Sem.run_pure, Result.andThen_ok]
        have he : ((List.replicate len zs).flatten) = [] := by
          apply List.eq_nil_of_length_eq_zero; simp [hzl, h0]
        rw [he] at hfill
        have he2 : ((Array.range 0).map ((#[] : Array Value)[· % (#[] : Array Value).size]!)) = ([] : List Value).toArray := by simp
        rw [he2, hfill]
        simp [newRow]
      · simp only [if_neg h0, Sem.run_pure]
        have hzr : (zeroValue e).run P w = .ok zt w := by simp [zeroValue, typeInfo, hi, hzt]
        simp only [hzr, Result.andThen_ok]
        rw [hzero, hfill]
        simp [newRow]
    · simp only [maxLen]; rw [← hl]; have := Nat.le_of_ble_eq_true hsm
      have : len ≤ len * dk.sz := Nat.le_mul_of_pos_right _ (Nat.le_of_ble_eq_true hp0); omega
    · simp [hmany.len, hl]
    · rw [hl, ← hl, ← hmany.len]; simp

theorem oneL_sl {α : Type} {dk : Kd α} {v : Value} {xs : List α} (h : Sl dk σ v xs) : v.cells.toList = [v] := by rw [h.one]
theorem oneL_ow {α : Type} {dk : Kd α} {E : TypeId} {v : Value} {xs : List α} {gr : Grp} (h : Ow dk E σ v xs gr) : v.cells.toList = [v] := by rw [h.one]
theorem cel_of {b : Nat} {cs : Array Value} {E : TypeId} {fr : Nat × Nat} (h : ∀ p ∈ [(b, Obj.cells cs E fr)], σ.imm p.1 = some p.2) {off : Nat} (hv : cs[off]? = some v) : Cel σ ⟨b, off, none⟩ v := ⟨cs, E, fr, h _ (List.mem_cons_self), hv, rfl⟩
theorem manyI {ki : IntKind} : ∀ (xs : List Int), (kI ki).Many σ (xs.map (Value.int ki)) xs
 | [] => .nil
 | x :: xs => by have := Kd.Many.cons (d := kI ki) (σ := σ) (a := [.int ki x]) rfl (manyI xs); exact this

/-! ### Equality of structs -/
theorem eqf_nil (dd : Nat) (xs ys : Array Value) (w : World) : (Op.eqFields dd xs ys []).run P w = .ok true w := by simp [Op.eqFields]
theorem eqf_cons {dd : Nat} {xs ys : Array Value} {f : Field} {fs : List Field} {p q : Value} {r r' : Bool} {w : World} (hn : (f.name == "_") = false) (ha : (part f.type xs f.offset).run P w = .ok p w) (hb : (part f.type ys f.offset).run P w = .ok q w) (he : (Op.equalIn dd f.type p q).run P w = .ok r w)
    (hr : (Op.eqFields dd xs ys fs).run P w = .ok r' w) : (Op.eqFields dd xs ys (f :: fs)).run P w = .ok (r && r') w := by
  have hn' : f.name ≠ "_" := by simpa using hn
  simp only [Op.eqFields, if_pos hn', Sem.run_bind, ha, hb, he, Result.andThen_ok]
  cases r <;> simp [hr]
theorem part_one {w : World} {cs : List Value} {off : Nat} {p : Value} (ht : isScalar P t = true) (hv : cs[off]? = some p) : (part t cs.toArray off).run P w = .ok p w := by
 simp [part, run_isAgg_no ht, hv]
theorem eq_int {w : World} {dd : Nat} {ki kj : IntKind} (ht : P.underlying t = some (.int kj)) (a b : Int) : (Op.equalIn (dd + 1) t (.int ki a) (.int ki b)).run P w = .ok (decide (a = b)) w := by
 rw [run_equalIn_int w dd t ki kj a b ht, beq_dec]
theorem eq_str {w : World} {dd : Nat} (ht : P.underlying t = some .string) (a b : ByteArray) : (Op.equalIn (dd + 1) t (.string a) (.string b)).run P w = .ok (decide (a = b)) w := by
 rw [run_equalIn_string w dd t a b ht, toList_eq]
theorem eq_struct {w : World} {dd : Nat} {fs : Array Field} {xs ys : Array Value} {r : Bool} (ht : P.underlying t = some (.struct fs)) (hp : P.stoodInHeld t = false) (hr : (Op.eqFields dd xs ys fs.toList).run P w = .ok r w) : (Op.equalIn (dd + 1) t (.agg xs) (.agg ys)).run P w = .ok r w := by
 have hf : P.fieldsOf t = fs := by simp [Program.fieldsOf, ht]
 rw [run_equalIn_struct w dd t xs ys (by rw [hf]; exact ht) hp, hf]; exact hr

theorem o_aggEq {op : BinOp} {t' : TypeId} {xs ys : List Value} {b e : Bool} (ho : ops[i]? = some ⟨d, .binOp op t x y t', ty, pos, after, g⟩) (hg : wants ops ρ g = true) (hf : fits n d = true) (hgd : P.eqGuardType P.depth t = false) (hx : ev ρ x = some (.agg xs.toArray)) (hy : ev ρ y = some (.agg ys.toArray))
    (he : ∀ w, (Op.equalIn 10000 t (.agg xs.toArray) (.agg ys.toArray)).run P w = .ok b w) (hv : (match op with | .eql => some b | .neq => some (!b) | _ => none) = some e)
    (h : St c (put ρ d (.bool e)) σ gs (.inRegion ops rest :: k)) : St c ρ σ gs (.inRegion ops (i :: rest) :: k) :=
  st_pure ho hg hf rfl (fun ds a w ha => by
    have h1 := run_eqGuard_agg (P := P) w op t x y xs.toArray ys.toArray hgd
    cases op <;> cases hv <;> simp only [execOp, ha.eval hx, ha.eval hy, Sem.run_bind, h1, Result.andThen_ok, run_eql_struct, run_neq_struct, he, Sem.run_pure]) h
end
end Go.Eng
