import Derived.Test.YtonmgcebhhdplabGreatDoorEngJ
import Derived.ChangeKeysEq
/-! The engine, part K: a region that draws its order and turns what is held. -/
namespace Go.Eng
open Go

/-! Slices without room. -/
section
variable {P : Program} {n : Nat} {c : Ctx P n} {ρ : Env} {σ : Sto} {gs : List Grp} {k : List Item} {ops : Array Oper} {i : Nat} {rest : List Nat}
variable {d : Option Nat} {ty : TypeId} {pos : String} {after : Array Edge} {g : Option (Nat × Bool)} {x y z : Operand} {v u : Value} {t : TypeId}
end
/-! Equality of arrays of whole numbers. -/
theorem run_eqItems_int {P : Program} {w : World} {dd e : Nat} {ki kj : IntKind} {l : Nat} {xs ys : List Int} (he : P.underlying e = some (.int kj)) : ∀ (is : List Nat), (∀ j ∈ is, j < l) →
    (Op.eqItems (dd + 1) e 1 (cellsN (Value.int ki) 0 l xs).toArray (cellsN (Value.int ki) 0 l ys).toArray is).run P w = .ok (is.all fun j => decide (xs.getD j 0 = ys.getD j 0)) w
  | [], _ => by simp [Op.eqItems]
  | j :: is, h => by
    have hj := h j (List.mem_cons_self)
    have hsc : isScalar P e = true := by simp [isScalar, he]
    have p1 := part_one (P := P) (t := e) (w := w) (cs := cellsN (Value.int ki) 0 l xs) (off := j * 1) hsc (by rw [Nat.mul_one]; exact cellsN_get hj)
    have p2 := part_one (P := P) (t := e) (w := w) (cs := cellsN (Value.int ki) 0 l ys) (off := j * 1) hsc (by rw [Nat.mul_one]; exact cellsN_get hj)
    have ih := run_eqItems_int (dd := dd) (w := w) (ki := ki) (xs := xs) (ys := ys) he is (fun q hq => h q (List.mem_cons_of_mem _ hq))
    simp only [Op.eqItems, Sem.run_bind, p1, p2, eq_int he, Result.andThen_ok, List.all_cons]
    by_cases hd : xs.getD j 0 = ys.getD j 0
    · simp only [hd, decide_true, Bool.true_and]
      simpa using ih
    · simp only [decide_eq_false hd, Bool.false_and, Bool.not_false, if_true, Sem.run_pure]
theorem eq_arr {P : Program} {w : World} {dd t e l : Nat} {ki kj : IntKind} {xs ys : List Int} (hu : P.underlying t = some (.array l e)) (he : P.underlying e = some (.int kj)) (hi : (P.info? e).isSome = true) (hc : P.cellsOf e = 1) :
    (Op.equalIn (dd + 2) t (.agg (cellsN (Value.int ki) 0 l xs).toArray) (.agg (cellsN (Value.int ki) 0 l ys).toArray)).run P w = .ok (eqN l 0 xs ys) w := by
  obtain ⟨i, hi⟩ := Option.isSome_iff_exists.1 hi
  rw [run_equalIn_array w (dd + 1) _ _ hu hi, hc]
  exact run_eqItems_int he _ (fun j hj => List.mem_range.1 hj)
def tlI (l : List (Sto → Value → List Grp → Prop)) (i : Nat) : Sto → Value → List Grp → Prop := match l[i]? with
 | some p => p
 | none => fun _ _ _ => True
def MonoI : List (Sto → Value → List Grp → Prop) → Prop
 | [] => True
 | p :: l => (∀ σ τ v F, σ.Le τ → p σ v F → p τ v F) ∧ MonoI l
theorem tlI_mono {l : List (Sto → Value → List Grp → Prop)} (h : MonoI l) : ∀ i σ τ v F, σ.Le τ → tlI l i σ v F → tlI l i τ v F := by
 intro i
 induction l generalizing i with
 | nil => intro σ τ v F _ h; simp [tlI]
 | cons p l ih =>
  cases i with
  | zero => exact h.1
  | succ i => have := ih h.2 i; simpa [tlI] using this
end Go.Eng
