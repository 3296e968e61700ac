import Derived.Test.YtemehkcopcjekaaGreatDoorEngK
import Derived.Laws.Strings
import Derived.Laws.Strings3
import Derived.Laws.DeepStrings4
import Derived.Laws.Slices
/-! The engine, part L: elements by value; strings. -/
namespace Go.Eng
open Go

section
variable {P : Program} {n : Nat} {c : Ctx P n} {ρ : Env} {σ : Sto} {gs : List Grp} {k : List Item} {ops : Array Oper} {i : Nat} {rest : List Nat}
variable {d : Option Nat} {ty : TypeId} {pos : String} {after : Array Edge} {g : Option (Nat × Bool)} {x y z : Operand} {v u : Value} {t : TypeId}

theorem ones_cellsNB {l : Nat} {xs : List Bool} : ∀ u ∈ cellsN Value.bool false l xs, u.oneCell' = true := by
 intro u hu
 simp only [cellsN, List.mem_map] at hu
 obtain ⟨j, _, rfl⟩ := hu; rfl
theorem o_indexV {α : Type} {f : α → Value} {zz : α} {l e : Nat} {ki : IntKind} {I : Int} {xs : List α} {cs : List Value} (ho : ops[i]? = some ⟨d, .index t x y, ty, pos, after, g⟩) (hg : wants ops ρ g = true) (hf : fits n d = true) (ht : arrP P t = some (l, e, 1)) (hs : isScalar P e = true)
    (hx : ev ρ x = some (.agg cs.toArray)) (hcs : cs = cellsN f zz l xs) (hy : ev ρ y = some (.int ki I)) (h0 : 0 ≤ I) (h1 : I < l)
    (h : St c (put ρ d (f (xs.getD I.toNat zz))) σ gs (.inRegion ops rest :: k)) : St c ρ σ gs (.inRegion ops (i :: rest) :: k) :=
  st_pure ho hg hf rfl (fun ds a w ha => by
    obtain ⟨hu, hsz⟩ := arrP_parts ht
    subst hcs
    have hp := part_one (P := P) (t := e) (w := w) (cs := cellsN f zz l xs) (off := I.toNat * 1) hs (by rw [Nat.mul_one]; exact cellsN_get (show I.toNat < l by omega))
    simp only [execOp, ha.eval hx, ha.eval hy, Instr.index, asIntOf, Sem.run_bind, Sem.run_pure, Result.andThen_ok, run_underlying hu, h0, h1, and_self, if_true, run_sizeT hsz, hp]) h
theorem bints_at {s : ByteArray} {I q : Int} (h : idx (bints s) I q) : ∃ b, s[I.toNat]? = some b ∧ q = (b.toNat : Int) ∧ 0 ≤ I := by
 obtain ⟨h0, h1⟩ := h
 simp only [bints, List.getElem?_map, Option.map_eq_some_iff] at h1
 obtain ⟨b, hb, rfl⟩ := h1
 refine ⟨b, ?_, rfl, h0⟩
 rw [Array.getElem?_toList] at hb
 have hlt := (Array.getElem?_eq_some_iff.1 hb).1
 have hv := (Array.getElem?_eq_some_iff.1 hb).2
 have hlt2 : I.toNat < s.size := hlt
 rw [getElem?_pos s _ hlt2]
 exact congrArg some hv
theorem o_indexS {ki : IntKind} {I q : Int} {s : ByteArray} (ho : ops[i]? = some ⟨d, .index t x y, ty, pos, after, g⟩) (hg : wants ops ρ g = true) (hf : fits n d = true) (ht : P.underlying t = some .string)
    (hx : ev ρ x = some (.string s)) (hy : ev ρ y = some (.int ki I)) (hq : idx (bints s) I q)
    (h : St c (put ρ d (.int .u8 q)) σ gs (.inRegion ops rest :: k)) : St c ρ σ gs (.inRegion ops (i :: rest) :: k) :=
  st_pure ho hg hf rfl (fun ds a w ha => by
    obtain ⟨b, hb, rfl, h0⟩ := bints_at hq
    simp only [execOp, ha.eval hx, ha.eval hy, Instr.index, asIntOf, Sem.run_bind, Sem.run_pure, Result.andThen_ok, run_underlying ht, h0, if_true, hb]) h
theorem o_sliceS {s : ByteArray} {ki kj : IntKind} {L H : Int} (ho : ops[i]? = some ⟨d, .slice t x (some y) (some z) none, ty, pos, after, g⟩) (hg : wants ops ρ g = true) (hf : fits n d = true) (ht : P.underlying t = some .string)
    (hx : ev ρ x = some (.string s)) (hy : ev ρ y = some (.int ki L)) (hz : ev ρ z = some (.int kj H)) (h0 : 0 ≤ L) (h1 : L ≤ H) (h2 : H ≤ s.size)
    (h : St c (put ρ d (.string (s.extract L.toNat H.toNat))) σ gs (.inRegion ops rest :: k)) : St c ρ σ gs (.inRegion ops (i :: rest) :: k) :=
  st_pure ho hg hf rfl (fun ds a w ha => by
    simp only [execOp, ha.eval hx, ha.eval hy, ha.eval hz, Option.map_some, Option.map_none, run_sliceAt_string (h := ht), Sem.run_bind, run_slice_string_if (h := ht)]
    rw [if_pos ⟨by omega, h2⟩, if_pos ⟨h0, h1⟩]; rfl) h
theorem o_sliceSl {s : ByteArray} {ki : IntKind} {L : Int} (ho : ops[i]? = some ⟨d, .slice t x (some y) none none, ty, pos, after, g⟩) (hg : wants ops ρ g = true) (hf : fits n d = true) (ht : P.underlying t = some .string)
    (hx : ev ρ x = some (.string s)) (hy : ev ρ y = some (.int ki L)) (h0 : 0 ≤ L) (h1 : L ≤ s.size)
    (h : St c (put ρ d (.string (s.extract L.toNat s.size))) σ gs (.inRegion ops rest :: k)) : St c ρ σ gs (.inRegion ops (i :: rest) :: k) :=
  st_pure ho hg hf rfl (fun ds a w ha => by
    simp only [execOp, ha.eval hx, ha.eval hy, Option.map_some, Option.map_none, run_sliceAt_string (h := ht), Sem.run_bind, run_slice_string_from_if (h := ht)]
    rw [if_pos ⟨h0, h1⟩]; rfl) h
theorem o_sliceSh {s : ByteArray} {ki : IntKind} {H : Int} (ho : ops[i]? = some ⟨d, .slice t x none (some z) none, ty, pos, after, g⟩) (hg : wants ops ρ g = true) (hf : fits n d = true) (ht : P.underlying t = some .string)
    (hx : ev ρ x = some (.string s)) (hz : ev ρ z = some (.int ki H)) (h0 : 0 ≤ H) (h1 : H ≤ s.size)
    (h : St c (put ρ d (.string (s.extract 0 H.toNat))) σ gs (.inRegion ops rest :: k)) : St c ρ σ gs (.inRegion ops (i :: rest) :: k) :=
  st_pure ho hg hf rfl (fun ds a w ha => by
    simp only [execOp, ha.eval hx, ha.eval hz, Option.map_some, Option.map_none, run_sliceAt_string (h := ht), Sem.run_bind, run_slice_string_to_if (h := ht)]
    rw [if_pos ⟨h0, h1⟩]; rfl) h
theorem ev_str {s u : ByteArray} (h : s = u) : ev ρ (.const (.string s)) = some (.string u) := by subst h; rfl
end
end Go.Eng
