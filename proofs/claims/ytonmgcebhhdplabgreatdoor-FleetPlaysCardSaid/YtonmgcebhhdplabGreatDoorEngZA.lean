import Derived.Test.YtonmgcebhhdplabGreatDoorEngZ
import Derived.Shelf.SlIterI.Sorted
import Derived.Shelf.SlIterI.Nil
import Derived.Shelf.SlMaps.Clone
/-! The engine, part ZA: the library's contracts on maps. -/
set_option linter.unusedVariables false
namespace Go.Eng
open Go Go.Proofs Go.Shelf Go.RowKit Go.Maps Go.MapKept
variable {P : Program} {ρ ρ2 : Ren}
theorem wor_bel {σ : Sto} {fs : List Grp} {w w' : World} (h : Wor σ fs w) (B : Below w.heap.size w w') : Wor σ fs w' :=
 ⟨B.os.trans h.os, B.tape.trans h.tape, B.output.trans h.output, fun b o hb => (B.block b (Array.getElem?_eq_some_iff.1 (h.imm b o hb)).1).trans (h.imm b o hb), fun c hc => (B.block c.1 (h.lt hc)).trans (h.has c hc), h.nodup, h.apart⟩
theorem wor_new {σ : Sto} {fs : List Grp} {w w' : World} {b : Nat} {o : Obj} (h : Wor σ fs w) (B : Below w.heap.size w w') (hb : w.heap.size ≤ b) (ho : w'.heap[b]? = some o) : Wor σ ([(b, o)] :: fs) w' := by
 have h' := wor_bel h B
 refine ⟨h'.os, h'.tape, h'.output, h'.imm, fun c hc => ?_, ?_, fun c hc => ?_⟩
 ·simp only [List.flatten_cons, List.cons_append, List.nil_append, List.mem_cons] at hc
  rcases hc with rfl | hc
  ·exact ho
  ·exact h'.has c hc
 ·simp only [List.flatten_cons, List.cons_append, List.nil_append, List.map_cons, List.nodup_cons]
  refine ⟨fun hm => ?_, h.nodup⟩
  obtain ⟨c, hc, he⟩ := List.mem_map.1 hm
  have := h.lt hc
  omega
 ·simp only [List.flatten_cons, List.cons_append, List.nil_append, List.mem_cons] at hc
  rcases hc with rfl | hc
  ·cases hi : σ.imm b with
   | none => rfl
   | some o2 => have := (Array.getElem?_eq_some_iff.1 (h.imm b o2 hi)).1; omega
  ·exact h.apart c hc
section
variable {K V : Type} [DecidableEq K] {fk : K → Value} {rv : Vr V} {σ : Sto} {v : Value} {m : List (K × V)} {g : Grp}
omit [DecidableEq K] in
theorem keys_does (L : SlLaysZI.n7 P ρ) (hm : Mp fk rv σ v m g) : Does P (ρ.f 7) [v] σ [] (fun r τ gs => ∃ b, gs = [] ∧ .func (.func (ρ.f 10)) #[] [.pointer (some ⟨b, 0, none⟩)].toArray = r ∧ Cel τ ⟨b, 0, none⟩ v) := by
 obtain ⟨mb, es, cl, rfl, _, _, _⟩ := hm
 intro fs w hw cs
 obtain ⟨e, w', fr', ⟨rfl, rfl⟩, hst, hfn, hlv⟩ := callsIn_wide.1 (AnyZI.keys_in L Fence.wide 5 trivial rfl (some mb) w) cs
 have hw' : Wor σ ([(w.heap.size, .cells #[.map (some mb)] (ρ.t 23))] :: fs) (w.alloc (.cells #[.map (some mb)] (ρ.t 23))) := hw.alloc _
 obtain ⟨h1, h2, h3⟩ := hw'.freeze
 exact ⟨_, _, fr', _, [], ⟨w.heap.size, rfl, rfl, cel_of h3 rfl⟩, h1, h2, hst, hfn, hlv⟩
end
section
variable {V : Type} {rv : Vr V} {σ : Sto} {v : Value} {m : List (Int × V)} {g : Grp}
theorem key_lit {k : TypeId} (hk : P.underlying k = some (.int .i64)) {x : Int} (h : IntOk .i64 x) : Go.keyOf P k (.int .i64 x) = some (.int .i64 x) := by
 have : (Lit.int .i64 x).wf = true := by simpa [Lit.wf, IntOk] using h
 simp [Go.keyOf, hk, mapKey, this]
theorem owns_mp {k : TypeId} (hk : P.underlying k = some (.int .i64)) {w : World} {b cl : Nat} {es : Array MapEntry} (hb : w.heap[b]? = some (.map es cl)) (hs : Stamped es cl) (he : Ents (Value.int .i64) rv σ es.toList m) (hm : ∀ p ∈ m, IntOk .i64 p.1) (hn : m.length ≤ maxLen) :
    ∃ D : DataW Unit, w.ownsMap P k (fun _ => some (.nil, [])) b m.length D ∧ Maps.size D = m.length ∧ (intKeys D).Perm (m.map (·.1)) := by
  have hsz : es.size = m.length := by rw [← he.len]; simp
  have hrd : ∀ x ∈ es.toList, ∃ p ∈ m, x.key = .int .i64 p.1 ∧ WideElems.rd P k (fun _ => some ((.nil : DataW Unit), [])) x = some (.int .i64 p.1, .nil) := by
    intro x hx
    obtain ⟨i, hi⟩ := List.getElem?_of_mem hx
    have hlt := (List.getElem?_eq_some_iff.1 hi).1
    have hp : m[i]? = some (m[i]'(by rw [← he.len]; exact hlt)) := List.getElem?_eq_getElem _
    obtain ⟨e, h1, h2, _⟩ := he.get hp
    obtain rfl : x = e := Option.some.inj (hi.symm.trans h1)
    refine ⟨_, List.mem_of_getElem? hp, h2, ?_⟩
    unfold WideElems.rd
    rw [h2, key_lit hk (hm _ (List.mem_of_getElem? hp))]; rfl
  refine ⟨_, ⟨es, cl, hb, ⟨by omega, hs, fun x hx => let ⟨p, _, _, h⟩ := hrd x hx; ⟨_, h⟩⟩, by omega, rfl⟩, ?_, ?_⟩
  · show List.length _ = _
    rw [DataW.length_sorted]; simp [hsz]
  · show (List.map (fun p : Lit × DataW Unit => intOf p.1) _).Perm _
    refine ((WideShapes.sorted_perm _).map _).trans ?_
    have : (es.toList.map (WideElems.rg P k (fun _ => some ((.nil : DataW Unit), [])))).map (fun p : Lit × DataW Unit => intOf p.1) = m.map (·.1) := by
      refine List.ext_getElem? fun i => ?_
      simp only [List.getElem?_map]
      cases hp : m[i]? with
      | none =>
        have : es.toList[i]? = none := by rw [List.getElem?_eq_none_iff] at hp ⊢; rw [he.len]; exact hp
        simp [this]
      | some p =>
        obtain ⟨e, h1, h2, _⟩ := he.get hp
        rw [h1]
        simp only [Option.map_some, Option.some.injEq]
        unfold WideElems.rg WideElems.rd
        rw [h2, key_lit hk (hm _ (List.mem_of_getElem? hp))]; rfl
    rw [this]
theorem sorted_does (L : SlLaysZI.n6 P ρ) (L7 : SlLaysZI.n7 P ρ2) (hS : ∀ n, AnyZI.SortsIn P ρ Fence.wide n) (e9 : ∀ args w, (callFunc (ρ.f 9) args).run P w = .ok (.enter (ρ.f 9) args) w) (eg : ∀ args w, (callFunc (ρ2.f 10) args).run P w = .ok (.enter (ρ2.f 10) args) w)
    {bm : Nat} (hc : Cel σ ⟨bm, 0, none⟩ v) (hm : Mp (Value.int .i64) rv σ v m g) (hk : ∀ p ∈ m, IntOk .i64 p.1) (hn : m.length * 8 ≤ 140737488355328) :
    Does P (ρ.f 6) [.func (.func (ρ2.f 10)) #[] [.pointer (some ⟨bm, 0, none⟩)].toArray] σ [g] (fun r τ gs => ∃ v' g', gs = [g', g] ∧ v' = r ∧ Ow (kI .i64) (ρ.t 26) τ v' (skeys m) g') := by
  obtain ⟨mb, es, cl, rfl, rfl, hs, he⟩ := hm
  have hml : m.length ≤ maxLen := by have : maxLen = 9223372036854775807 := rfl; omega
  intro fs w hw cs
  have hmb : w.heap[mb]? = some (.map es cl) := hw.has (mb, _) (by simp)
  obtain ⟨D, hD, hDs, hDk⟩ := owns_mp (P := P) (k := ρ2.t 26) L7.t26 hmb hs he hk hml
  have hcell : w.cell? ⟨bm, 0, none⟩ = some (.map (some mb)) := hc.cell hw
  have hbm : bm < w.heap.size := by
    obtain ⟨c0, E, fr, h1, _⟩ := hc
    exact (Array.getElem?_eq_some_iff.1 (hw.imm _ _ h1)).1
  have hseq : SeqGives Fence.wide 2 P (ρ2.f 10) #[.pointer (some ⟨bm, 0, none⟩)] encZ (fun ss => ss.Perm (intKeys D)) (Maps.size D) w :=
    AnyZI.keys_gives (ρ := ρ2) { L7 with } Fence.wide _ trivial rfl (by omega) bm mb _ D w hbm hcell hD
  obtain ⟨e, w', fr', ⟨v', ss, rfl, hp, hrow, hnil, hB⟩, hst, hfn, hlv⟩ := callsIn_wide.1 (AnyZI.sorted_in L Fence.wide 5 trivial trivial trivial trivial rfl (by omega) (hS _) e9 (ρ2.f 10) #[.pointer (some ⟨bm, 0, none⟩)] trivial eg _ _ (by omega) (by omega) w hseq) cs
  have hsk : ss.mergeSort (fun x y => decide (x ≤ y)) = skeys m := mergeSort_of_perm_i (hp.trans hDk)
  have hlen : ss.length = (skeys m).length := by rw [← hsk, List.length_mergeSort]
  rw [hsk] at hrow
  rw [hlen] at hrow
  obtain ⟨hr1, ⟨rfl, hz⟩ | ⟨gb, cap, cur, rfl, hbase, hgb, r1, r2, r3, r4⟩⟩ := hrow
  · refine ⟨_, w', fr', σ, [[], [(mb, .map es cl)]], ⟨_, _, rfl, rfl, ⟨(skeys m).map encZ, ⟨hr1, .inl ⟨rfl, hz, rfl⟩⟩, manyI _⟩⟩, Sto.Le.refl _, ?_, hst, hfn, hlv⟩
    have := wor_bel hw hB
    exact ⟨this.os, this.tape, this.output, this.imm, by simpa using this.has, by simpa using this.nodup, by simpa using this.apart⟩
  · exact ⟨_, w', fr', σ, [[(gb, .cells cur (ρ.t 26) (0, 0))], [(mb, .map es cl)]], ⟨_, _, rfl, rfl, ⟨(skeys m).map encZ, ⟨hr1, .inr ⟨gb, cap, cur, rfl, rfl, r1, r2, r3, r4⟩⟩, manyI _⟩⟩, Sto.Le.refl _, wor_new hw hB hbase hgb, hst, hfn, hlv⟩
end
end Go.Eng
