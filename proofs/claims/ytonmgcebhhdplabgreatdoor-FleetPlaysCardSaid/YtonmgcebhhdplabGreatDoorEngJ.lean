import Derived.Test.YtonmgcebhhdplabGreatDoorEngI
import Derived.Laws.BytesString
import Derived.ChangeKeysEq
/-! The engine, part J: arrays, bytes and strings. -/
namespace Go.Eng
open Go

def arrP (P : Program) (t : TypeId) : Option (Nat × Nat × Nat) := match P.underlying t with
 | some (.array n e) => (sizeT P e).map fun m => (n, e, m)
 | _ => none
theorem arrP_parts {P : Program} {t n e m : Nat} (h : arrP P t = some (n, e, m)) : P.underlying t = some (.array n e) ∧ sizeT P e = some m := by
 unfold arrP at h
 cases hu : P.underlying t with
 | none => rw [hu] at h; cases h
 | some d =>
  rw [hu] at h
  cases d <;> try cases h
  rename_i n' e'
  simp only at h
  cases hs : sizeT P e' with
  | none => rw [hs] at h; cases h
  | some m' => rw [hs] at h; cases h; exact ⟨rfl, hs⟩

theorem many_int {ki : IntKind} {σ : Sto} : ∀ {cs : List Value} {xs : List Int}, (kI ki).Many σ cs xs → cs = xs.map (Value.int ki)
 | _, _, .nil => rfl
 | _, _, .cons h h' => by
  have h1 : _ = [Value.int ki _] := h
  rw [h1, many_int h']; rfl

def cellsN {α : Type} (f : α → Value) (z : α) (n : Nat) (xs : List α) : List Value := (List.range n).map fun j => f (xs.getD j z)
theorem cellsN_eq {α : Type} {f : α → Value} {z : α} {n : Nat} {xs : List α} (h : xs.length = n) : cellsN f z n xs = xs.map f := by
 apply List.ext_getElem?
 intro j
 simp only [cellsN, List.getElem?_map]
 by_cases hj : j < n
 ·rw [List.getElem?_range hj]; simp [List.getD, List.getElem?_eq_getElem (show j < xs.length by omega)]
 ·rw [List.getElem?_eq_none (by simp; omega), List.getElem?_eq_none (by omega)]; rfl
def kA (ki : IntKind) (n : Nat) : Kd (List Int) := ⟨n, fun _ cs xs => cs = cellsN (Value.int ki) 0 n xs, fun _ h => h, fun h => by rw [h]; simp [cellsN],
 fun h u hu => by
  rw [h] at hu
  simp only [cellsN, List.mem_map] at hu
  obtain ⟨j, _, rfl⟩ := hu; rfl⟩
section
variable {P : Program} {n : Nat} {c : Ctx P n} {ρ : Env} {σ : Sto} {gs : List Grp} {k : List Item} {ops : Array Oper} {i : Nat} {rest : List Nat}
variable {d : Option Nat} {ty : TypeId} {pos : String} {after : Array Edge} {g : Option (Nat × Bool)} {x y z : Operand} {v u : Value} {t : TypeId}

theorem fill_from : ∀ (vs pre zs : List Value), zs.length = vs.length → fillL (fun j => some (j * 1, 1)) (pre ++ zs) ((vs.zipIdx pre.length).map fun p => (p.2, [p.1])) = some (pre ++ vs)
 | [], pre, zs, h => by
  have : zs = [] := List.eq_nil_of_length_eq_zero h
  subst this; rfl
 | v :: vs, pre, zs, h => by
  cases zs with
  | nil => cases h
  | cons z zs =>
   have ih := fill_from vs (pre ++ [v]) zs (by simpa using h)
   simp only [List.zipIdx_cons, List.map_cons, fillL]
   have h1 : (Nat.beq [v].length 1 && Nat.ble (pre.length * 1 + [v].length) (pre ++ z :: zs).length) = true := by
    have : Nat.ble (pre.length * 1 + [v].length) (pre ++ z :: zs).length = true := Nat.ble_eq_true_of_le (by simp)
    rw [this]; rfl
   rw [h1]
   have h2 : (pre ++ z :: zs).take (pre.length * 1) ++ [v] ++ (pre ++ z :: zs).drop (pre.length * 1 + [v].length) = (pre ++ [v]) ++ zs := by
    simp
   simp only [h2]
   have h3 : pre.length + 1 = (pre ++ [v]).length := by simp
   rw [h3, ih]; simp
theorem fill_all (vs zs : List Value) (h : zs.length = vs.length) : fillL (fun j => some (j * 1, 1)) zs ((vs.zipIdx 0).map fun p => (p.2, [p.1])) = some vs := by
 have := fill_from vs [] zs h
 simpa using this

theorem o_indexA {b off l e m : Nat} {ki : IntKind} {I : Int} (ho : ops[i]? = some ⟨d, .indexAddr t x y, ty, pos, after, g⟩) (hg : wants ops ρ g = true) (hf : fits n d = true) (ht : arrP P t = some (l, e, m))
    (hx : ev ρ x = some (.pointer (some ⟨b, off, none⟩))) (hy : ev ρ y = some (.int ki I)) (h0 : 0 ≤ I) (h1 : I < l)
    (h : St c (put ρ d (.pointer (some ⟨b, off + I.toNat * m, none⟩))) σ gs (.inRegion ops rest :: k)) : St c ρ σ gs (.inRegion ops (i :: rest) :: k) :=
  st_pure ho hg hf rfl (fun ds a w ha => by
    obtain ⟨hu, hs⟩ := arrP_parts ht
    simp [execOp, ha.eval hx, ha.eval hy, Instr.indexAt, Instr.sureAddr, asIntOf, run_underlying hu, h0, h1, run_sizeT hs, add_plain]) h

theorem cellsN_get {α : Type} {f : α → Value} {z : α} {l q : Nat} {xs : List α} (hq : q < l) : (cellsN f z l xs)[q]? = some (f (xs.getD q z)) := by
 simp [cellsN, hq]
theorem cellsN_put {α : Type} {f : α → Value} {z v : α} {l q : Nat} {xs : List α} (hq : q < l) : (cellsN f z l xs).take q ++ [f v] ++ (cellsN f z l xs).drop (q + 1) = cellsN f z l (putN l z xs q v) := by
 apply List.ext_getElem?
 intro j
 have hlen : (cellsN f z l xs).length = l := by simp [cellsN]
 by_cases hj : j < l
 ·rw [cellsN_get hj]
  have e : (putN l z xs q v).getD j z = if j = q then v else xs.getD j z := by
   simp [putN, List.getD, hj]
  rw [e, List.append_assoc]
  by_cases h1 : j < q
  ·rw [List.getElem?_append_left (by rw [List.length_take, hlen]; omega), List.getElem?_take, if_pos h1, cellsN_get hj, if_neg (by omega)]
  ·rw [List.getElem?_append_right (by rw [List.length_take, hlen]; omega), List.length_take, hlen, Nat.min_eq_left (by omega)]
   by_cases h2 : j = q
   ·subst h2; simp
   ·rw [if_neg h2]
    obtain ⟨r, hr⟩ : ∃ r, j - q = r + 1 := ⟨j - q - 1, by omega⟩
    rw [hr]
    simp only [List.cons_append, List.nil_append, List.getElem?_cons_succ, List.getElem?_drop]
    rw [show q + 1 + r = j by omega, cellsN_get hj]
 ·rw [List.getElem?_eq_none (by simp [hlen]; omega), List.getElem?_eq_none (by simp [cellsN]; omega)]
theorem o_loadV {α : Type} {f : α → Value} {zz : α} (q : Nat) {l b off j : Nat} {E : TypeId} {fr : Nat × Nat} {xs : List α} (pre post : List Value) (ho : ops[i]? = some ⟨d, .load t x, ty, pos, after, g⟩) (hg : wants ops ρ g = true) (hf : fits n d = true) (ht : isScalar P t = true)
    (hx : ev ρ x = some (.pointer (some ⟨b, off, none⟩))) (hj : gs[j]? = some [(b, .cells (pre ++ (cellsN f zz l xs ++ post)).toArray E fr)]) (hq : off = pre.length + q) (hql : q < l)
    (h : St c (put ρ d (f (xs.getD q zz))) σ gs (.inRegion ops rest :: k)) : St c ρ σ gs (.inRegion ops (i :: rest) :: k) :=
  o_load ho hg hf ht hx hj (by
    subst hq
    simp only [List.getElem?_toArray]
    rw [List.getElem?_append_right (by omega), Nat.add_sub_cancel_left, List.getElem?_append_left (by simp [cellsN]; omega)]
    exact cellsN_get hql) h
theorem o_storeV {α : Type} {f : α → Value} {zz a : α} (q : Nat) {l b off j : Nat} {E : TypeId} {xs : List α} (pre post : List Value) (ho : ops[i]? = some ⟨d, .store t x y, ty, pos, after, g⟩) (hg : wants ops ρ g = true) (hf : fits n d = true) (ht : sizeT P t = some 1)
    (hx : ev ρ x = some (.pointer (some ⟨b, off, none⟩))) (hy : ev ρ y = some (f a)) (hv : (f a).cells.toList = [f a]) (h1 : (f a).oneCell' = true) (hj : gs[j]? = some [(b, .cells (pre ++ (cellsN f zz l xs ++ post)).toArray E (0, 0))]) (hq : off = pre.length + q) (hql : q < l)
    (h : St c (put ρ d undef) σ (gs.set j [(b, .cells (pre ++ (cellsN f zz l (putN l zz xs q a) ++ post)).toArray E (0, 0))]) (.inRegion ops rest :: k)) : St c ρ σ gs (.inRegion ops (i :: rest) :: k) := by
  subst hq
  have hlen : (cellsN f zz l xs).length = l := by simp [cellsN]
  exact o_store (vs := [f a]) (cs' := pre ++ (cellsN f zz l (putN l zz xs q a) ++ post)) ho hg hf ht hx hy hv (ones_cons h1 ones_nil) hj (by
    exact Nat.ble_eq_true_of_le (by simp [hlen]; omega)) (by
    rw [← cellsN_put (f := f) hql]
    simp only [List.length_cons, List.length_nil]
    rw [List.take_append, List.take_of_length_le (by omega), Nat.add_sub_cancel_left, List.take_append, hlen, show q - l = 0 by omega, List.take_zero, List.append_nil]
    rw [List.drop_append, List.drop_of_length_le (by omega), List.nil_append, show pre.length + q + (0 + 1) - pre.length = q + 1 by omega, List.drop_append, hlen, show q + 1 - l = 0 by omega, List.drop_zero]
    simp only [List.append_assoc]) h
theorem o_bstr {e t' : TypeId} {xs : List Int} (ho : ops[i]? = some ⟨d, .convert t t' x, ty, pos, after, g⟩) (hg : wants ops ρ g = true) (hf : fits n d = true) (ht : P.underlying t = some (.slice e)) (he : P.underlying e = some (.int .u8)) (ht' : P.underlying t' = some .string)
    (hx : ev ρ x = some v) (hs : Sl (kI .u8) σ v xs) (h : St c (put ρ d (.string (bstr xs))) σ gs (.inRegion ops rest :: k)) : St c ρ σ gs (.inRegion ops (i :: rest) :: k) :=
  st_op ho hg hf rfl fun ds a w ha hw => by
    obtain ⟨cells, ⟨hcl, hv⟩, hmany⟩ := hs
    refine ⟨_, w, σ, gs, .inl ?_, hw, h⟩
    rcases hv with ⟨⟨a0, rfl⟩, hn⟩ | ⟨b, off, cap, cs, E, fr, rfl, hle, hml, himm, hcs, hc⟩
    · have hx0 : xs = [] := List.eq_nil_of_length_eq_zero hn
      subst hx0
      simp only [execOp, ha.eval hx]
      cases a0 with
      | none => simp [run_convert_bytes_string w t t' e none 0 0 ht he ht', Conv.bytesToString, bstr]
      | some a0 =>
        have := run_bytesToString (P := P) w a0 0 0 [] (by simp [loadCells, loadCellsFrom])
        simp [run_convert_bytes_string w t t' e (some a0) 0 0 ht he ht', this, bstr]
    · have hl : (loadCells (⟨b, off, none⟩ : Addr) xs.length).run P w = .ok (xs.map (Value.int .u8)).toArray w := by
        have h1 := run_loadCells_list (P := P) w ⟨b, off, none⟩ (xs.map (Value.int .u8)) (fun j q hj => by
          rw [add_plain]
          have := hw.imm _ _ himm
          simp only [World.cell?, this]
          rw [← many_int hmany] at hj
          simpa using hc j q hj)
        simpa using h1
      simp [execOp, ha.eval hx, run_convert_bytes_string w t t' e (some ⟨b, off, none⟩) xs.length cap ht he ht', run_bytesToString w _ xs.length cap xs hl, bstr]
end
end Go.Eng
