import Derived.Test.YtonmgcebhhdplaaGreatEngH
import Derived.Lib.AppendStr
/-! The engine, part ZC: append of a string's bytes. -/
namespace Go.Eng
open Go
section
variable {P : Program} {n : Nat} {c : Ctx P n} {ρ : Env} {σ : Sto} {gs : List Grp} {k : List Item} {ops : Array Oper} {i : Nat} {rest : List Nat}
variable {d : Option Nat} {ty : TypeId} {pos : String} {after : Array Edge} {g : Option (Nat × Bool)} {x y : Operand} {v : Value} {t tu : TypeId}
theorem str_cells (s : ByteArray) : Lib.strCells s = (bints s).map (Value.int .u8) := by simp [Lib.strCells, bints]
theorem bintsLen (s : ByteArray) : (bints s).length = s.size := by unfold bints; rw [List.length_map, Array.length_toList]; rfl
theorem o_appendS {e ty' : Nat} {xs : List Int} {gr : Grp} {ats : Array TypeId} {s : ByteArray} (ho : ops[i]? = some ⟨d, .call ⟨.builtin .append, #[x, y], ats⟩, ty', pos, after, g⟩) (hats : ats = #[t, tu]) (hg : wants ops ρ g = true) (hf : fits n d = true) (ht : slT P t = some (e, 1, 1)) (htu : P.underlying tu = some .string)
    (hx : ev ρ x = some v) (hs : Ow (kI .u8) e σ v xs gr) (hy : ev ρ y = some (.string s)) (hb : (xs.length + s.size) * 1 ≤ 140737488355328) (hb2 : xs.length + s.size ≤ 4611686018427387904)
    (h : ∀ v' gr', Ow (kI .u8) e σ v' (xs ++ bints s) gr' → St c (put ρ d v') σ (gr' :: gs) (.inRegion ops rest :: k)) : St c ρ σ (gr :: gs) (.inRegion ops (i :: rest) :: k) := by
  subst hats
  obtain ⟨hut, it, z, hi, hz, hs1, hs2, hzs⟩ := slT_parts ht
  refine st_op ho hg hf rfl fun ds a w ha hw => ?_
  have hex : ∀ r, (Builtin.append_ #[t, tu] ty' #[v, .string s]).run P w = r → (execOp a.eval (⟨d, .call ⟨.builtin .append, #[x, y], #[t, tu]⟩, ty', pos, after, g⟩ : Oper)).run P w = r.andThen fun v w => .ok (.value v) w := by
    intro r hr
    simp [execOp, resolve, invoke, builtin, ha.eval hx, ha.eval hy, hr]
  obtain ⟨cells, hC, hmany⟩ := hs
  have hmany2 : (kI .u8).Many σ (Lib.strCells s) (bints s) := by rw [str_cells]; exact manyI _
  have hl2 : (Lib.strCells s).length = s.size := Lib.strCells_length s
  have hbl : (bints s).length = s.size := bintsLen s
  have hmany3 := hmany.append hmany2
  obtain ⟨hl1, hv⟩ := hC
  have hl1 : cells.length = xs.length := by simpa [kI] using hl1
  have h63 : xs.length + s.size ≤ maxLen := by simp only [maxLen]; omega
  have hall : (cells ++ Lib.strCells s).length = (xs ++ bints s).length := by rw [List.length_append, List.length_append, hl1, hl2, hbl]
  have hlen : (xs ++ bints s).length = xs.length + s.size := by rw [List.length_append, hbl]
  have grown : ∀ (old : Nat), old < xs.length + s.size → Wor σ (([(w.heap.size, .cells (cells.toArray ++ (Lib.strCells s).toArray ++ Builtin.zeroCells z.cells (grownCap w (xs.length + s.size) old e - (xs.length + s.size))) e (0, 0))] :: gs) ++ marks ds :: c.fr) (w.drew.alloc (.cells (cells.toArray ++ (Lib.strCells s).toArray ++ Builtin.zeroCells z.cells (grownCap w (xs.length + s.size) old e - (xs.length + s.size))) e (0, 0))) ∧
      Ow (kI .u8) e σ (.slice (some ⟨w.heap.size, 0, none⟩) (xs.length + s.size) (grownCap w (xs.length + s.size) old e)) (xs ++ bints s) [(w.heap.size, .cells (cells.toArray ++ (Lib.strCells s).toArray ++ Builtin.zeroCells z.cells (grownCap w (xs.length + s.size) old e - (xs.length + s.size))) e (0, 0))] := by
    intro old hold
    constructor
    · have hw1 : Wor σ (gs ++ marks ds :: c.fr) w := hw.sub (by simp only [List.cons_append, List.flatten_cons]; exact List.sublist_append_right _ _)
      exact (hw1.drawn (w.drawn + 1)).alloc _
    · refine ⟨cells ++ Lib.strCells s, ⟨by rw [hall]; simp [kI], .inr ⟨w.heap.size, _, _, by rw [hlen], rfl, ?_, grownCap_le_maxLen w _ old e h63, ?_, ?_⟩⟩, hmany3⟩
      · rw [hlen]; exact grownCap_ge w _ old e
      · have hge := grownCap_ge w (xs.length + s.size) old e
        simp only [Array.size_append, List.size_toArray, size_zeroCells, hzs, hl1, hl2]
        show _ = _ * 1
        omega
      · simp only [Array.toList_append, List.append_assoc]
        rw [← List.append_assoc]
        show List.take ((xs ++ bints s).length * 1) _ = _
        rw [Nat.mul_one, ← hall]
        exact List.take_left
  rcases hv with ⟨rfl, hn, rfl⟩ | ⟨b, cap, cur, rfl, rfl, hle, hml, hcs, hc⟩
  · have hx0 : xs = [] := List.eq_nil_of_length_eq_zero hn
    subst hx0
    have hc0 : cells = [] := List.eq_nil_of_length_eq_zero (by simpa using hl1)
    subst hc0
    by_cases hm : s.size = 0
    · have hy0 : bints s = [] := List.eq_nil_of_length_eq_zero (by rw [hbl, hm])
      have hr : (Builtin.append_ #[t, tu] ty' #[.slice none 0 0, .string s]).run P w = .ok (.slice none 0 0) w := by
        simp [Builtin.append_, run_underlying hut, run_underlying htu, sizeOf, typeInfo, hi, Builtin.lenOf, Builtin.firstCells, hm]
      refine ⟨_, w, σ, [] :: gs, .inl (hex _ hr), hw, h _ [] ?_⟩
      rw [hy0]; exact Ow.nil
    · have hr := run_append_nil_string (P := P) w t tu ty' e it z hut htu hi hz s (by omega) (by simp only [List.length_nil, Nat.zero_add] at hb2; omega) (by rw [hs2]; simp only [List.length_nil, Nat.zero_add] at hb; omega)
      obtain ⟨g1, g2⟩ := grown 0 (by omega)
      have e1 : s.data.map (fun b => Value.int .u8 b.toNat) = (Lib.strCells s).toArray := by apply Array.ext'; simp [Lib.strCells]
      rw [e1] at hr
      simp only [List.length_nil, Nat.zero_add, List.nil_append, Array.empty_append] at g1 g2
      exact ⟨_, _, σ, _, .inl (hex _ hr), g1, h _ _ g2⟩
  · have hget : w.heap[b]? = some (.cells cur e (0, 0)) := hw.get (j := 0) rfl (List.mem_cons_self)
    have hcs : cur.size = cap := by simpa [kI] using hcs
    have hc : cur.toList.take xs.length = cells := by simpa [kI] using hc
    by_cases hroom : xs.length + s.size ≤ cap
    · have hr := Lib.run_append_room_string (P := P) w t tu ty' e it hut htu hi hs1 b xs.length cap cur hget s hroom (by omega)
      refine ⟨_, _, σ, [(b, .cells (cur.toList.take xs.length ++ Lib.strCells s ++ cur.toList.drop (xs.length + s.size)).toArray e (0, 0))] :: gs, .inl (hex _ hr), ?_, h _ _ ⟨cells ++ Lib.strCells s, ⟨by rw [hall]; simp [kI], .inr ⟨b, cap, _, by rw [hlen], rfl, by rw [hlen]; exact hroom, hml, ?_, ?_⟩⟩, hmany3⟩⟩
      · exact hw.put (j := 0) rfl rfl rfl rfl (setRow_heap w b cur _ e _ hget) (fun q hq => setRow_other w b q _ hq)
      · simp only [List.size_toArray, List.length_append, List.length_take, List.length_drop, Array.length_toList]
        show _ = cap * 1
        omega
      · show List.take ((xs ++ bints s).length * 1) (_ : List Value) = _
        rw [Nat.mul_one, ← hall, hc]
        exact List.take_left
    · have holds : ∀ j q, cells[j]? = some q → w.cell? ((⟨b, 0, none⟩ : Addr).add j) = some q := by
        intro j q hq
        rw [← hc, List.getElem?_take] at hq
        split at hq
        · rw [add_plain, Nat.zero_add]; simp [World.cell?, hget]; simpa using hq
        · cases hq
      have hr := Lib.run_append_grow_string (P := P) w t tu ty' e it z hut htu hi hz ⟨b, 0, none⟩ xs.length cap cells (by rw [hs1]; omega) holds s (by omega) (by omega) (by rw [hs2]; exact growslice_fits (by omega) hb)
      obtain ⟨g1, g2⟩ := grown cap (by omega)
      exact ⟨_, _, σ, _, .inl (hex _ hr), g1, h _ _ g2⟩
end
end Go.Eng
