import Derived.Test.YtonmgcebhhdplabDoorEngK
import Derived.Laws.Strings
import Derived.Laws.Strings3
import Derived.Laws.DeepStrings4
import Derived.Laws.Slices
/-! The engine, part L: elements by value; strings. -/
namespace Go.Eng
open Go

section
variable {P : Program} {n : Nat} {c : Ctx P n} {ρ : Env} {σ : Sto} {gs : List Grp} {k : List Item} {ops : Array Oper} {i : Nat} {rest : List Nat}
variable {d : Option Nat} {ty : TypeId} {pos : String} {after : Array Edge} {g : Option (Nat × Bool)} {x y z : Operand} {v u : Value} {t : TypeId}

theorem o_sliceSh {s : ByteArray} {ki : IntKind} {H : Int} (ho : ops[i]? = some ⟨d, .slice t x none (some z) none, ty, pos, after, g⟩) (hg : wants ops ρ g = true) (hf : fits n d = true) (ht : P.underlying t = some .string)
    (hx : ev ρ x = some (.string s)) (hz : ev ρ z = some (.int ki H)) (h0 : 0 ≤ H) (h1 : H ≤ s.size)
    (h : St c (put ρ d (.string (s.extract 0 H.toNat))) σ gs (.inRegion ops rest :: k)) : St c ρ σ gs (.inRegion ops (i :: rest) :: k) :=
  st_pure ho hg hf rfl (fun ds a w ha => by
    simp only [execOp, ha.eval hx, ha.eval hz, Option.map_some, Option.map_none, run_sliceAt_string (h := ht), Sem.run_bind, run_slice_string_to_if (h := ht)]
    rw [if_pos ⟨h0, h1⟩]; rfl) h
theorem ev_str {s u : ByteArray} (h : s = u) : ev ρ (.const (.string s)) = some (.string u) := by subst h; rfl
end
end Go.Eng
