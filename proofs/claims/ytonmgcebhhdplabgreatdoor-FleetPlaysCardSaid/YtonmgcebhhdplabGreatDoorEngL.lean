import Derived.Test.YtonmgcebhhdplabGreatDoorEngK
import Derived.Laws.Strings
import Derived.Laws.Strings3
import Derived.Laws.DeepStrings4
import Derived.Laws.Slices
/-! The engine, part L: elements by value; strings. -/
namespace Go.Eng
open Go

section
variable {P : Program} {n : Nat} {c : Ctx P n} {ρ : Env} {σ : Sto} {gs : List Grp} {k : List Item} {ops : Array Oper} {i : Nat} {rest : List Nat}
variable {d : Option Nat} {ty : TypeId} {pos : String} {after : Array Edge} {g : Option (Nat × Bool)} {x y z : Operand} {v u : Value} {t : TypeId}

theorem bints_at {s : ByteArray} {I q : Int} (h : idx (bints s) I q) : ∃ b, s[I.toNat]? = some b ∧ q = (b.toNat : Int) ∧ 0 ≤ I := by
 obtain ⟨h0, h1⟩ := h
 simp only [bints, List.getElem?_map, Option.map_eq_some_iff] at h1
 obtain ⟨b, hb, rfl⟩ := h1
 refine ⟨b, ?_, rfl, h0⟩
 rw [Array.getElem?_toList] at hb
 have hlt := (Array.getElem?_eq_some_iff.1 hb).1
 have hv := (Array.getElem?_eq_some_iff.1 hb).2
 have hlt2 : I.toNat < s.size := hlt
 rw [getElem?_pos s _ hlt2]
 exact congrArg some hv
theorem o_indexS {ki : IntKind} {I q : Int} {s : ByteArray} (ho : ops[i]? = some ⟨d, .index t x y, ty, pos, after, g⟩) (hg : wants ops ρ g = true) (hf : fits n d = true) (ht : P.underlying t = some .string)
    (hx : ev ρ x = some (.string s)) (hy : ev ρ y = some (.int ki I)) (hq : idx (bints s) I q)
    (h : St c (put ρ d (.int .u8 q)) σ gs (.inRegion ops rest :: k)) : St c ρ σ gs (.inRegion ops (i :: rest) :: k) :=
  st_pure ho hg hf rfl (fun ds a w ha => by
    obtain ⟨b, hb, rfl, h0⟩ := bints_at hq
    simp only [execOp, ha.eval hx, ha.eval hy, Instr.index, asIntOf, Sem.run_bind, Sem.run_pure, Result.andThen_ok, run_underlying ht, h0, if_true, hb]) h
theorem o_sliceSh {s : ByteArray} {ki : IntKind} {H : Int} (ho : ops[i]? = some ⟨d, .slice t x none (some z) none, ty, pos, after, g⟩) (hg : wants ops ρ g = true) (hf : fits n d = true) (ht : P.underlying t = some .string)
    (hx : ev ρ x = some (.string s)) (hz : ev ρ z = some (.int ki H)) (h0 : 0 ≤ H) (h1 : H ≤ s.size)
    (h : St c (put ρ d (.string (s.extract 0 H.toNat))) σ gs (.inRegion ops rest :: k)) : St c ρ σ gs (.inRegion ops (i :: rest) :: k) :=
  st_pure ho hg hf rfl (fun ds a w ha => by
    simp only [execOp, ha.eval hx, ha.eval hz, Option.map_some, Option.map_none, run_sliceAt_string (h := ht), Sem.run_bind, run_slice_string_to_if (h := ht)]
    rw [if_pos ⟨h0, h1⟩]; rfl) h
theorem ev_str {s u : ByteArray} (h : s = u) : ev ρ (.const (.string s)) = some (.string u) := by subst h; rfl
end
end Go.Eng
