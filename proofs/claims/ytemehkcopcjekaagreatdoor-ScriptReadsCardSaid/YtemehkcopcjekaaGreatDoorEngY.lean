import Derived.Test.YtemehkcopcjekaaGreatDoorEngU
/-! The engine, part Y: arrays of places. -/
namespace Go.Eng
open Go
section
variable {P : Program} {n : Nat} {c : Ctx P n} {ρ : Env} {σ : Sto} {gs : List Grp} {k : List Item} {ops : Array Oper} {i : Nat} {rest : List Nat}
variable {d : Option Nat} {ty : TypeId} {pos : String} {after : Array Edge} {g : Option (Nat × Bool)} {x y : Operand}
theorem o_indexP {t : TypeId} {b o l e : Nat} {ki : IntKind} {I : Int} {cs : List Value} (ho : ops[i]? = some ⟨d, .index t x y, ty, pos, after, g⟩) (hg : wants ops ρ g = true) (hf : fits n d = true) (ht : arrP P t = some (l, e, 1)) (hs : isScalar P e = true)
    (hx : ev ρ x = some (.agg cs.toArray)) (hcs : cs = (List.range l).map fun k => Value.pointer (some ⟨b, o + k, none⟩)) (hy : ev ρ y = some (.int ki I)) (h0 : 0 ≤ I) (h1 : I < l)
    (h : St c (put ρ d (.pointer (some ⟨b, o + I.toNat, none⟩))) σ gs (.inRegion ops rest :: k)) : St c ρ σ gs (.inRegion ops (i :: rest) :: k) := by
  refine o_indexV (f := fun k : Nat => Value.pointer (some ⟨b, o + k, none⟩)) (zz := 0) (xs := List.range l) ho hg hf ht hs hx ?_ hy h0 h1 ?_
  · rw [hcs]
    unfold cellsN
    refine List.map_congr_left fun j hj => ?_
    have := List.mem_range.1 hj
    rw [List.getD_eq_getElem?_getD, List.getElem?_range this]; rfl
  · have hj : I.toNat < l := by omega
    rw [List.getD_eq_getElem?_getD, List.getElem?_range hj]; exact h
end

/-! What was frozen may be held anew, as long as what is told further on was told ahead of it. -/
section
variable {P : Program} {n : Nat} {c : Ctx P n} {ρ : Env} {σ : Sto} {gs : List Grp} {k : List Item}
end
end Go.Eng
