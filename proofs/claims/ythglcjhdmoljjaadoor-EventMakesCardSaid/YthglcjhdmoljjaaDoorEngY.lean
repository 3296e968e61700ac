import Derived.Test.YthglcjhdmoljjaaDoorEngU
/-! The engine, part Y: arrays of places. -/
namespace Go.Eng
open Go
section
variable {P : Program} {n : Nat} {c : Ctx P n} {ρ : Env} {σ : Sto} {gs : List Grp} {k : List Item} {ops : Array Oper} {i : Nat} {rest : List Nat}
variable {d : Option Nat} {ty : TypeId} {pos : String} {after : Array Edge} {g : Option (Nat × Bool)} {x y : Operand}
end

/-! What was frozen may be held anew, as long as what is told further on was told ahead of it. -/
section
variable {P : Program} {n : Nat} {c : Ctx P n} {ρ : Env} {σ : Sto} {gs : List Grp} {k : List Item}
def Sto.minus (σ : Sto) (g : Grp) : Sto := { σ with imm := fun b => if (g.map (·.1)).contains b then none else σ.imm b }
theorem st_freeze2 {g : Grp} (h : ∀ σ', σ.Le σ' → (∀ p ∈ g, σ'.imm p.1 = some p.2) → (∀ p ∈ g, σ.imm p.1 = none) → (g.map (·.1)).Nodup → St c ρ σ' gs k) : St c ρ σ (g :: gs) k :=
  fun ds a w ha hw => by
    obtain ⟨h1, h2, h3⟩ := Wor.freeze (g := g) (gs := gs ++ marks ds :: c.fr) hw
    refine h _ h1 h3 (fun p hp => hw.apart p (by simp [hp])) ?_ ds a w ha h2
    have := hw.nodup
    simp only [List.cons_append, List.flatten_cons, List.map_append] at this
    exact (List.nodup_append.1 this).1
theorem st_thaw {g : Grp} {τ : Sto} (hl : σ.Le τ) (hg : ∀ p ∈ g, τ.imm p.1 = some p.2) (ha : ∀ p ∈ g, σ.imm p.1 = none) (hn : (g.map (·.1)).Nodup) (h : ∀ τ', σ.Le τ' → St c ρ τ' (g :: gs) k) : St c ρ τ gs k := by
  have hin : ∀ b, (g.map (·.1)).contains b = true ↔ ∃ p ∈ g, p.1 = b := fun b => by simp
  intro ds a w hf hw
  refine h (τ.minus g) ⟨fun b o hb => ?_, hl.os, hl.tape, hl.output⟩ ds a w hf ⟨hw.os, hw.tape, hw.output, fun b o hb => ?_, fun x hx => ?_, ?_, fun x hx => ?_⟩
  · have hno : ¬ (g.map (·.1)).contains b = true := fun e => by
      obtain ⟨p, hp, rfl⟩ := (hin b).1 e
      rw [ha p hp] at hb; cases hb
    simp only [Sto.minus, if_neg hno]
    exact hl.imm b o hb
  · simp only [Sto.minus] at hb
    split at hb
    · cases hb
    · exact hw.imm b o hb
  · simp only [List.cons_append, List.flatten_cons, List.mem_append] at hx
    rcases hx with hx | hx
    · exact hw.imm _ _ (hg x hx)
    · exact hw.has x (by simpa using hx)
  · simp only [List.cons_append, List.flatten_cons, List.map_append]
    refine List.nodup_append.2 ⟨hn, hw.nodup, fun b hb b' hb' e => ?_⟩
    subst e
    obtain ⟨p, hp, rfl⟩ := List.mem_map.1 hb
    obtain ⟨q, hq, e⟩ := List.mem_map.1 hb'
    have h1 := hw.apart q hq
    rw [e, hg p hp] at h1; cases h1
  · simp only [List.cons_append, List.flatten_cons, List.mem_append] at hx
    simp only [Sto.minus]
    split
    · rfl
    · next hno =>
      rcases hx with hx | hx
      · exact absurd ((hin _).2 ⟨x, hx, rfl⟩) hno
      · exact hw.apart x (by simpa using hx)
end
end Go.Eng
