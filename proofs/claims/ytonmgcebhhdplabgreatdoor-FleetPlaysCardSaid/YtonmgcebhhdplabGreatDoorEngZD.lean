import Derived.Test.YtonmgcebhhdplabGreatDoorEngZ
/-! The engine, part ZD: an entry of a map goes. -/
namespace Go.Eng
open Go
open Go.MapKept (Stamped)
section
variable {P : Program} {n : Nat} {c : Ctx P n} {ρ : Env} {σ : Sto} {gs : List Grp} {k : List Item} {ops : Array Oper} {i : Nat} {rest : List Nat}
variable {d : Option Nat} {ty : TypeId} {pos : String} {after : Array Edge} {g : Option (Nat × Bool)} {x y : Operand} {v : Value} {t kt kt' vt : TypeId}
variable {K V : Type} [DecidableEq K] {fk : K → Value} {rv : Vr V} {m : List (K × V)} {gr : Grp} {j : Nat} {a : K}
theorem mdel_none : ∀ {m : List (K × V)}, mfind a (m.map (·.1)) = none → mdel m a = m := by
 intro m h
 unfold mdel
 rw [List.filter_eq_self]
 intro p hp
 exact decide_eq_true (fun e => mfind_no h p hp e.symm)
theorem mdel_some : ∀ {m : List (K × V)} {i : Nat}, mfind a (m.map (·.1)) = some i → (m.map (·.1)).Nodup → mdel m a = m.eraseIdx i
 | [], _, h, _ => by cases h
 | p :: m, i, h, hn => by
  simp only [List.map_cons, mfind] at h
  rw [List.map_cons, List.nodup_cons] at hn
  by_cases e : a = p.1
  ·rw [if_pos e] at h
   cases h
   have : mdel m a = m := by
    unfold mdel
    rw [List.filter_eq_self]
    intro q hq
    exact decide_eq_true (fun e2 => hn.1 (List.mem_map.2 ⟨q, hq, e2.trans e⟩))
   unfold mdel at this ⊢
   rw [List.filter_cons, if_neg (by simp [e]), this]; rfl
  ·rw [if_neg e] at h
   cases hm : mfind a (m.map (·.1)) with
   | none => rw [hm] at h; cases h
   | some i' =>
    rw [hm] at h
    cases h
    have ih := mdel_some hm hn.2
    unfold mdel at ih ⊢
    rw [List.filter_cons, if_pos (by simpa using Ne.symm e), ih]; rfl
omit [DecidableEq K] in
theorem ents_erase {es : List MapEntry} (he : Ents fk rv σ es m) (q : Nat) : Ents fk rv σ (es.eraseIdx q) (m.eraseIdx q) := by
 refine ⟨?_, fun i e p h1 h2 => ?_⟩
 ·have e1 : ∀ {α β : Type} (f : α → β) (l : List α), (l.eraseIdx q).map f = (l.map f).eraseIdx q := fun f l => by
   rw [List.eraseIdx_eq_take_drop_succ, List.eraseIdx_eq_take_drop_succ, List.map_append, List.map_take, List.map_drop]
  rw [e1, e1, he.1]
 ·rw [List.getElem?_eraseIdx] at h1 h2
  by_cases hi : i < q
  ·rw [if_pos hi] at h1 h2; exact he.2 i e p h1 h2
  ·rw [if_neg hi] at h1 h2; exact he.2 (i + 1) e p h1 h2
theorem o_delM (ho : ops[i]? = some ⟨d, .call ⟨.builtin .delete, #[x, y], #[t, kt']⟩, ty, pos, after, g⟩) (hg : wants ops ρ g = true) (hf : fits n d = true) (ht : mapT P t = some (kt, vt)) (hk : KeyOk P kt fk)
    (hx : ev ρ x = some v) (hm : Mp fk rv σ v m gr) (hj : gs[j]? = some gr) (hy : ev ρ y = some (fk a))
    (h : ∀ g', Mp fk rv σ v (mdel m a) g' → St c (put ρ d (.tuple #[])) σ (gs.set j g') (.inRegion ops rest :: k)) : St c ρ σ gs (.inRegion ops (i :: rest) :: k) := by
  obtain ⟨b, es, cl, rfl, rfl, hs, he⟩ := hm
  have hun := mapT_und ht
  refine st_op ho hg hf rfl fun ds a' w ha hw => ?_
  have hb := hw.get hj (List.mem_cons_self)
  have hkeys : es.toList.map (·.key) = (m.map (·.1)).map fk := by rw [he.1, List.map_map]; rfl
  have hfind := hk.find a (m.map (·.1)) es.toList w hkeys
  have hnd : (m.map (·.1)).Nodup := by
    have := hs.2.2
    rw [hkeys] at this
    exact (List.pairwise_map.1 this).imp fun hne e => hne (congrArg fk e)
  cases hmf : mfind a (m.map (·.1)) with
  | none =>
    rw [hmf] at hfind
    refine ⟨.tuple #[], { w with heap := w.heap.setIfInBounds b (.map es cl) }, σ, _, .inl ?_, ?_, h [(b, .map es cl)] ⟨b, es, cl, rfl, rfl, hs, by rw [mdel_none hmf]; exact he⟩⟩
    · simp [execOp, resolve, ha.eval hx, ha.eval hy, invoke, builtin, Builtin.delete_, run_underlying hun, getObj_mp hb, setObj_mp _ hb, hk.check, hfind]
    · exact hw.put hj rfl rfl rfl (by simp [(Array.getElem?_eq_some_iff.1 hb).1]) (fun q hq => by simp [Ne.symm hq])
  | some i0 =>
    obtain ⟨⟨x0, h1, h2⟩, h3⟩ := mfind_some hmf
    obtain ⟨e0, hei, hke, _⟩ := he.get h1
    rw [hmf] at hfind
    simp only [Option.bind_some, hei, Option.map_some] at hfind
    have hlt : i0 < es.toList.length := (List.getElem?_eq_some_iff.1 hei).1
    have hsub : (es.eraseIdxIfInBounds i0).toList = es.toList.eraseIdx i0 := by
      unfold Array.eraseIdxIfInBounds
      rw [dif_pos (by simpa using hlt)]
      simp
    refine ⟨.tuple #[], { w with heap := w.heap.setIfInBounds b (.map (es.eraseIdxIfInBounds i0) cl) }, σ, _, .inl ?_, ?_, h [(b, .map (es.eraseIdxIfInBounds i0) cl)] ⟨b, _, _, rfl, rfl, ⟨?_, ?_, ?_⟩, ?_⟩⟩
    · simp [execOp, resolve, ha.eval hx, ha.eval hy, invoke, builtin, Builtin.delete_, run_underlying hun, getObj_mp hb, setObj_mp _ hb, hk.check, hfind]
    · exact hw.put hj rfl rfl rfl (by simp [(Array.getElem?_eq_some_iff.1 hb).1]) (fun q hq => by simp [Ne.symm hq])
    · intro e hme
      rw [hsub] at hme
      exact hs.1 e ((List.eraseIdx_sublist _ _).subset hme)
    · rw [hsub]
      exact ((List.eraseIdx_sublist _ _).map _).nodup hs.2.1
    · rw [hsub]
      exact ((List.eraseIdx_sublist _ _).map _).nodup hs.2.2
    · rw [hsub, mdel_some hmf hnd]
      exact ents_erase he i0
end
end Go.Eng
