import Derived.Test.YtonmgcebhhdplabGreatDoorEngF
import Derived.Laws.OwnMore
/-! The engine, part G: slices and strings. -/
namespace Go.Eng
open Go

def slT (P : Program) (t : TypeId) : Option (Nat × Nat × Nat) := match P.underlying t with
 | some (.slice e) => match P.info? e with
  | some i => match i.zero with
   | some z => match Nat.beq z.cells.size i.size with
    | true => some (e, i.size, i.bytes)
    | false => none
   | none => none
  | none => none
 | _ => none
theorem slT_parts {P : Program} {t e m by_ : Nat} (h : slT P t = some (e, m, by_)) : P.underlying t = some (.slice e) ∧ ∃ i z, P.info? e = some i ∧ i.zero = some z ∧ i.size = m ∧ i.bytes = by_ ∧ z.cells.size = m := by
 unfold slT at h
 cases hu : P.underlying t with
 | none => rw [hu] at h; cases h
 | some d =>
  rw [hu] at h
  cases d <;> try cases h
  rename_i e'
  simp only at h
  cases hi : P.info? e' with
  | none => rw [hi] at h; cases h
  | some i =>
   rw [hi] at h
   simp only at h
   cases hz : i.zero with
   | none => rw [hz] at h; cases h
   | some z =>
    rw [hz] at h
    simp only at h
    cases hb : Nat.beq z.cells.size i.size with
    | false => rw [hb] at h; cases h
    | true =>
     rw [hb] at h; cases h
     exact ⟨rfl, i, z, hi, hz, rfl, rfl, Nat.eq_of_beq_eq_true hb⟩
theorem run_sizeOf_sl {P : Program} {t e m by_ : Nat} (h : slT P t = some (e, m, by_)) (w : World) : (sizeOf e).run P w = .ok m w := by
 obtain ⟨_, i, z, hi, _, hs, _⟩ := slT_parts h
 simp [sizeOf, typeInfo, hi, hs]

def bnd (ρ : Env) (o : Option Operand) (dflt : Int) (l : Int) : Prop := match o with
 | none => l = dflt
 | some x => ∃ k, ev ρ x = some (.int k l)
def bndM (ρ : Env) (o : Option Operand) (h len : Int) : Prop := match o with
 | none => True
 | some x => ∃ k m, ev ρ x = some (.int k m) ∧ h ≤ m ∧ m ≤ len

section
variable {P : Program} {n : Nat} {c : Ctx P n} {ρ : Env} {σ : Sto} {gs : List Grp} {k : List Item} {ops : Array Oper} {i : Nat} {rest : List Nat}
variable {d : Option Nat} {ty : TypeId} {pos : String} {after : Array Edge} {g : Option (Nat × Bool)} {x y z : Operand} {v u : Value} {t : TypeId}

theorem run_bounds {a : Act} {ds : List Nat} (ha : Frm a n ρ ds) {isS : Bool} {len cap : Nat} {lo hi mx : Option Operand} {L H : Int} (hlo : bnd ρ lo 0 L) (hhi : bnd ρ hi len H) (h0 : 0 ≤ L) (h1 : L ≤ H) (h2 : H ≤ len) (h3 : len ≤ cap) (hmx : bndM ρ mx H len) (hmh : mx.isSome = true → hi.isSome = true) (w : World) :
    ∃ m : Nat, H ≤ m ∧ m ≤ cap ∧ (Instr.sliceBounds isS len cap (lo.map a.eval) (hi.map a.eval) (mx.map a.eval)).run P w = .ok (L.toNat, H.toNat, m) w := by
  have sb : ∀ (kk : IntKind) (q : Int) (y : Nat) (code : BoundsCode), 0 ≤ q → q ≤ y → (Instr.sliceBound (.int kk q) y code).run P w = .ok q.toNat w := by
    intro kk q y code hq hy
    simp [Instr.sliceBound, asIntOf, hq, hy]
  cases mx with
  | none =>
    refine ⟨cap, by omega, Nat.le_refl _, ?_⟩
    cases hi with
    | none =>
      simp only [bnd] at hhi
      subst hhi
      cases lo with
      | none => simp only [bnd] at hlo; subst hlo; simp [Instr.sliceBounds]
      | some xl =>
        obtain ⟨kl, hl⟩ := hlo
        have := sb kl L len .sliceB h0 h1
        simp [Instr.sliceBounds, ha.eval hl, this]
    | some xh =>
      obtain ⟨kh, hh⟩ := hhi
      have e1 := sb kh H cap (if isS then .sliceAcap else .sliceAlen) (by omega) (by omega)
      cases lo with
      | none => simp only [bnd] at hlo; subst hlo; simp [Instr.sliceBounds, ha.eval hh, e1]
      | some xl =>
        obtain ⟨kl, hl⟩ := hlo
        have := sb kl L H.toNat .sliceB h0 (by omega)
        simp [Instr.sliceBounds, ha.eval hl, ha.eval hh, e1, this]
  | some xm =>
    obtain ⟨km, M, hm, hm1, hm2⟩ := hmx
    refine ⟨M.toNat, by omega, by omega, ?_⟩
    have e0 := sb km M cap (if isS then .slice3Acap else .slice3Alen) (by omega) (by omega)
    cases hi with
    | none => simp at hmh
    | some xh =>
      obtain ⟨kh, hh⟩ := hhi
      have e1 := sb kh H M.toNat .slice3B (by omega) (by omega)
      cases lo with
      | none => simp only [bnd] at hlo; subst hlo; simp [Instr.sliceBounds, ha.eval hm, ha.eval hh, e0, e1]
      | some xl =>
        obtain ⟨kl, hl⟩ := hlo
        have := sb kl L H.toNat .slice3C h0 (by omega)
        simp [Instr.sliceBounds, ha.eval hl, ha.eval hh, ha.eval hm, e0, e1, this]

theorem take_drop_get {α : Type} {l : List α} {a m j : Nat} {u : α} (h : ((l.drop a).take m)[j]? = some u) : l[a + j]? = some u := by
 rw [List.getElem?_take] at h
 split at h
 ·rwa [List.getElem?_drop] at h
 ·cases h

theorem o_slice {α : Type} {dk : Kd α} {e m by_ : Nat} {xs : List α} {lo hi mx : Option Operand} {L H : Int} (ho : ops[i]? = some ⟨d, .slice t x lo hi mx, ty, pos, after, g⟩) (hg : wants ops ρ g = true) (hf : fits n d = true) (ht : slT P t = some (e, m, by_)) (hm : m = dk.sz)
    (hx : ev ρ x = some v) (hs : Sl dk σ v xs) (hlo : bnd ρ lo 0 L) (hhi : bnd ρ hi xs.length H) (h0 : 0 ≤ L) (h1 : L ≤ H) (h2 : H ≤ xs.length) (hmx : bndM ρ mx H xs.length) (hmh : mx.isSome = true → hi.isSome = true)
    (h : ∀ v', Sl dk σ v' ((xs.drop L.toNat).take (H - L).toNat) → St c (put ρ d v') σ gs (.inRegion ops rest :: k)) : St c ρ σ gs (.inRegion ops (i :: rest) :: k) := by
  obtain ⟨cells, ⟨hcl, hv⟩, hmany⟩ := hs
  have hlen : ((xs.drop L.toNat).take (H - L).toNat).length = (H - L).toNat := by
    rw [List.length_take, List.length_drop]; omega
  have hmany2 : dk.Many σ ((cells.drop (L.toNat * dk.sz)).take ((H - L).toNat * dk.sz)) ((xs.drop L.toNat).take (H - L).toNat) :=
    (hmany.drop (by omega)).take (by rw [List.length_drop]; omega)
  have hcl2 : ((cells.drop (L.toNat * dk.sz)).take ((H - L).toNat * dk.sz)).length = ((xs.drop L.toNat).take (H - L).toNat).length * dk.sz := hmany2.len
  obtain ⟨a0, cap, rfl, hcap⟩ : ∃ a0 cap, v = .slice a0 xs.length cap ∧ xs.length ≤ cap := by
    rcases hv with ⟨⟨a1, rfl⟩, hn⟩ | ⟨b, off, cap, cs, E, fr, rfl, hle, _⟩
    · exact ⟨a1, 0, by rw [hn], by omega⟩
    · exact ⟨_, _, rfl, hle⟩
  refine st_op ho hg hf rfl fun ds a w ha hw => ?_
  obtain ⟨M, hM1, hM2, hrun⟩ := run_bounds (P := P) ha (isS := true) hlo hhi h0 h1 h2 hcap hmx hmh w
  have hu := (slT_parts ht).1
  refine ⟨.slice (if M = L.toNat then a0 else a0.map (·.add (L.toNat * m))) (H.toNat - L.toNat) (M - L.toNat), w, σ, gs, .inl ?_, hw, h _ ⟨_, ⟨hcl2, ?_⟩, hmany2⟩⟩
  · simp only [execOp, ha.eval hx, Sem.run_bind, Instr.sliceAt, run_underlying hu, Result.andThen_ok, Instr.slice, hrun, run_sizeOf_sl ht, Sem.run_pure]
  · rw [hlen]
    rcases hv with ⟨⟨a1, hvn⟩, hn⟩ | ⟨b, off, cap', cs, E, fr, hvs, hle, hml, himm, hcs, hc⟩
    · injection hvn with e1 e2 e3
      subst e1 e3
      have hz1 : L.toNat = 0 := by omega
      have hz2 : M = 0 := by omega
      have hz3 : H.toNat = 0 := by omega
      refine .inl ⟨⟨a0, ?_⟩, by omega⟩
      rw [hz1, hz2, hz3]; rfl
    · cases hvs
      rw [hm]
      have hHL : H.toNat - L.toNat = (H - L).toNat := by omega
      rw [hHL]
      by_cases hML : M = L.toNat
      · have hz : (H - L).toNat = 0 := by omega
        rw [if_pos hML, hz]
        refine .inr ⟨b, off, M - L.toNat, cs, E, fr, rfl, by omega, by omega, himm, ?_, ?_⟩
        · rw [hML, Nat.sub_self, Nat.zero_mul]; have := Nat.zero_le (cap * dk.sz); omega
        · intro j u hj; rw [Nat.zero_mul, List.take_zero] at hj; cases hj
      · rw [if_neg hML]
        refine .inr ⟨b, off + L.toNat * dk.sz, M - L.toNat, cs, E, fr, by simp [add_plain], by omega, by omega, himm, ?_, ?_⟩
        · have hmul : (M - L.toNat) * dk.sz + L.toNat * dk.sz ≤ cap * dk.sz := by
            rw [← Nat.add_mul]; exact Nat.mul_le_mul_right _ (by omega)
          omega
        · intro j u hj
          have := hc _ _ (take_drop_get hj)
          rw [Nat.add_assoc]; exact this

theorem o_index {α : Type} {dk : Kd α} {e m by_ : Nat} {xs : List α} {ki : IntKind} {I : Int} {q : α} (ho : ops[i]? = some ⟨d, .indexAddr t x y, ty, pos, after, g⟩) (hg : wants ops ρ g = true) (hf : fits n d = true) (ht : slT P t = some (e, m, by_)) (hm : m = dk.sz)
    (hx : ev ρ x = some v) (hs : Sl dk σ v xs) (hy : ev ρ y = some (.int ki I)) (hi : idx xs I q)
    (h : ∀ b off vs, CelN σ ⟨b, off, none⟩ vs → dk.rep σ vs q → St c (put ρ d (.pointer (some ⟨b, off, none⟩))) σ gs (.inRegion ops rest :: k)) : St c ρ σ gs (.inRegion ops (i :: rest) :: k) := by
  obtain ⟨cells, ⟨hcl, hv⟩, hmany⟩ := hs
  have hlt := hi.lt
  have h0 := hi.1
  rcases hv with ⟨_, hn⟩ | ⟨b, off, cap, cs, E, fr, rfl, hle, hml, himm, hcs, hc⟩
  · omega
  · obtain ⟨vs, hrep, hat⟩ := hmany.at_ hi.2
    refine st_pure ho hg hf rfl (v := .pointer (some ⟨b, off + I.toNat * dk.sz, none⟩)) (fun ds a w ha => ?_) (h b (off + I.toNat * dk.sz) vs (fun j u hj => ⟨cs, E, fr, himm, ?_, rfl⟩) hrep)
    · have hu := (slT_parts ht).1
      simp [execOp, ha.eval hx, ha.eval hy, Instr.indexAt, asIntOf, run_underlying hu, h0, hlt, run_sizeOf_sl ht, add_plain, hm]
    · have := hc _ _ (hat j u hj)
      rw [Nat.add_assoc]; exact this

def Src {α : Type} (dk : Kd α) (σ : Sto) (gs : List Grp) (u : Value) (ys : List α) : Prop := ∃ cells, dk.Many σ cells ys ∧ cells.length = ys.length * dk.sz ∧ (((∃ a, u = .slice a 0 0) ∧ ys.length = 0) ∨
 ∃ b off cap, u = .slice (some ⟨b, off, none⟩) ys.length cap ∧ ∀ fs w, Wor σ (gs ++ fs) w → ∀ j q, cells[j]? = some q → w.cell? ⟨b, off + j, none⟩ = some q)
theorem Sl.src {α : Type} {dk : Kd α} {ys : List α} (h : Sl dk σ u ys) : Src dk σ gs u ys := by
 obtain ⟨cells, ⟨h1, h2⟩, h3⟩ := h
 refine ⟨cells, h3, h1, ?_⟩
 rcases h2 with h2 | ⟨b, off, cap, cs, E, fr, rfl, _, _, himm, _, hc⟩
 ·exact .inl h2
 ·exact .inr ⟨b, off, cap, rfl, fun fs w hw j q hq => by
   have := hw.imm _ _ himm
   simp [World.cell?, this, hc j q hq]⟩
theorem Ow.src {α : Type} {dk : Kd α} {E j : Nat} {gr : Grp} {ys : List α} (h : Ow dk E σ u ys gr) (hj : gs[j]? = some gr) : Src dk σ gs u ys := by
 obtain ⟨cells, ⟨h1, h2⟩, h3⟩ := h
 refine ⟨cells, h3, h1, ?_⟩
 rcases h2 with ⟨rfl, hn, _⟩ | ⟨b, cap, cur, rfl, rfl, _, _, _, hc⟩
 ·exact .inl ⟨⟨_, rfl⟩, hn⟩
 ·exact .inr ⟨b, 0, cap, rfl, fun fs w hw i q hq => by
   have := hw.get hj (List.mem_cons_self)
   rw [← hc, List.getElem?_take] at hq
   split at hq
   ·simp [World.cell?, this]; simpa using hq
   ·cases hq⟩
theorem o_append {α : Type} {dk : Kd α} {e by_ ty' : Nat} {xs ys : List α} {gr : Grp} {ats : Array TypeId} (ho : ops[i]? = some ⟨d, .call ⟨.builtin .append, #[x, y], ats⟩, ty', pos, after, g⟩) (hats : ats = #[t, t]) (hg : wants ops ρ g = true) (hf : fits n d = true) (ht : slT P t = some (e, dk.sz, by_))
    (hx : ev ρ x = some v) (hs : Ow dk e σ v xs gr) (hy : ev ρ y = some u) (hu : Src dk σ (gr :: gs) u ys) (hb : (xs.length + ys.length) * by_ ≤ 140737488355328) (hb2 : xs.length + ys.length ≤ 4611686018427387904)
    (h : ∀ v' gr', Ow dk e σ v' (xs ++ ys) gr' → St c (put ρ d v') σ (gr' :: gs) (.inRegion ops rest :: k)) : St c ρ σ (gr :: gs) (.inRegion ops (i :: rest) :: k) := by
  subst hats
  obtain ⟨hut, it, z, hi, hz, hs1, hs2, hzs⟩ := slT_parts ht
  refine st_op ho hg hf rfl fun ds a w ha hw => ?_
  have hex : ∀ r, (Builtin.append_ #[t, t] ty' #[v, u]).run P w = r → (execOp a.eval (⟨d, .call ⟨.builtin .append, #[x, y], #[t, t]⟩, ty', pos, after, g⟩ : Oper)).run P w = r.andThen fun v w => .ok (.value v) w := by
    intro r hr
    simp [execOp, resolve, invoke, builtin, ha.eval hx, ha.eval hy, hr]
  obtain ⟨cells, hC, hmany⟩ := hs
  obtain ⟨cells2, hmany2, hl2, hv2⟩ := hu
  have hmany3 := hmany.append hmany2
  have h1 : ∀ q ∈ cells2, q.oneCell' = true := hmany2.one
  obtain ⟨hl1, hv⟩ := hC
  have h63 : xs.length + ys.length ≤ maxLen := by simp only [maxLen]; omega
  rcases hv2 with ⟨⟨a2, rfl⟩, hn2⟩ | ⟨b2, off2, cap2, rfl, hread⟩
  · -- nothing is appended
    have hy0 : ys = [] := List.eq_nil_of_length_eq_zero hn2
    subst hy0
    rw [List.append_nil] at h
    have hown : w.ownsRow 0 e dk.sz v xs.length cells := by
      refine ⟨hl1, ?_⟩
      rcases hv with ⟨a1, a2, _⟩ | ⟨b, cap, cur, a1, rfl, a2, a3, a4, a5⟩
      · exact .inl ⟨a1, a2⟩
      · exact .inr ⟨b, cap, cur, a1, Nat.zero_le _, hw.get (j := 0) rfl (List.mem_cons_self), a2, a3, a4, a5⟩
    have hr : (Builtin.append_ #[t, t] ty' #[v, .slice a2 0 0]).run P w = .ok v w := by
      rcases hown.2 with ⟨rfl, hnx⟩ | ⟨g, cap, cur, rfl, _, _, hnc, _⟩
      · cases a2 <;> simp [Builtin.append_, run_underlying hut, sizeOf, typeInfo, hi, Builtin.lenOf, Builtin.firstCells, loadCells, loadCellsFrom]
      · cases a2 <;> simp [Builtin.append_, run_underlying hut, sizeOf, typeInfo, hi, Builtin.lenOf, Builtin.firstCells, hnc, storeCells, loadCells, loadCellsFrom]
    exact ⟨v, w, σ, gr :: gs, .inl (hex _ hr), hw, h v gr ⟨cells, ⟨hl1, hv⟩, hmany⟩⟩
  · have hnews : ∀ j q, cells2[j]? = some q → w.cell? ((⟨b2, off2, none⟩ : Addr).add j) = some q := by
      intro j q hq
      rw [add_plain]; exact hread _ w hw j q hq
    have hl2' : cells2.length = ys.length * it.size := by rw [hs1]; exact hl2
    have grown : ∀ (old : Nat), old < xs.length + ys.length → Wor σ (([(w.heap.size, .cells (cells.toArray ++ cells2.toArray ++ Builtin.zeroCells z.cells (grownCap w (xs.length + ys.length) old e - (xs.length + ys.length))) e (0, 0))] :: gs) ++ marks ds :: c.fr) (w.drew.alloc (.cells (cells.toArray ++ cells2.toArray ++ Builtin.zeroCells z.cells (grownCap w (xs.length + ys.length) old e - (xs.length + ys.length))) e (0, 0))) ∧
        Ow dk e σ (.slice (some ⟨w.heap.size, 0, none⟩) (xs.length + ys.length) (grownCap w (xs.length + ys.length) old e)) (xs ++ ys) [(w.heap.size, .cells (cells.toArray ++ cells2.toArray ++ Builtin.zeroCells z.cells (grownCap w (xs.length + ys.length) old e - (xs.length + ys.length))) e (0, 0))] := by
      intro old hold
      constructor
      · have hw1 : Wor σ (gs ++ marks ds :: c.fr) w := hw.sub (by simp only [List.cons_append, List.flatten_cons]; exact List.sublist_append_right _ _)
        exact (hw1.drawn (w.drawn + 1)).alloc _
      · refine ⟨cells ++ cells2, ⟨by rw [List.length_append, List.length_append, hl1, hl2, Nat.add_mul], .inr ⟨w.heap.size, _, _, by rw [List.length_append], rfl, ?_, grownCap_le_maxLen w _ old e h63, ?_, ?_⟩⟩, hmany3⟩
        · rw [List.length_append]; exact grownCap_ge w _ old e
        · have hge := grownCap_ge w (xs.length + ys.length) old e
          simp only [Array.size_append, List.size_toArray, size_zeroCells, hzs, hl1, hl2, ← Nat.add_mul]
          congr 1; omega
        · simp only [Array.toList_append, List.append_assoc]
          rw [← List.append_assoc, List.length_append, Nat.add_mul, ← hl1, ← hl2, ← List.length_append]
          exact List.take_left
    rcases hv with ⟨rfl, hn, rfl⟩ | ⟨b, cap, cur, rfl, rfl, hle, hml, hcs, hc⟩
    · have hx0 : xs = [] := List.eq_nil_of_length_eq_zero hn
      subst hx0
      have hc0 : cells = [] := List.eq_nil_of_length_eq_zero (by simpa using hl1)
      subst hc0
      by_cases hm : ys.length = 0
      · have hy0 : ys = [] := List.eq_nil_of_length_eq_zero hm
        subst hy0
        have hc0 : cells2 = [] := List.eq_nil_of_length_eq_zero (by simpa using hl2)
        subst hc0
        have hr : (Builtin.append_ #[t, t] ty' #[.slice none 0 0, .slice (some ⟨b2, off2, none⟩) 0 cap2]).run P w = .ok (.slice none 0 0) w := by
          simp [Builtin.append_, run_underlying hut, sizeOf, typeInfo, hi, Builtin.lenOf, Builtin.firstCells, loadCells, loadCellsFrom]
        exact ⟨_, w, σ, [] :: gs, .inl (hex _ hr), hw, h _ [] Ow.nil⟩
      · have hr := run_append_nil (P := P) w t ty' e it z hut hi hz ⟨b2, off2, none⟩ ys.length cap2 cells2 hl2' hnews (by omega) (by simp only [List.length_nil, Nat.zero_add] at hb2; omega) (by rw [hs2]; simp only [List.length_nil, Nat.zero_add] at hb; omega)
        obtain ⟨g1, g2⟩ := grown 0 (by omega)
        simp only [List.length_nil, Nat.zero_add, List.nil_append, Array.empty_append] at g1 g2
        exact ⟨_, _, σ, _, .inl (hex _ hr), g1, h _ _ g2⟩
    · have hget : w.heap[b]? = some (.cells cur e (0, 0)) := hw.get (j := 0) rfl (List.mem_cons_self)
      by_cases hroom : xs.length + ys.length ≤ cap
      · have hfit : xs.length * it.size + cells2.length ≤ cur.size := by rw [hs1, hl2, hcs, ← Nat.add_mul]; exact Nat.mul_le_mul_right _ hroom
        have hr := run_append_room (P := P) w t ty' e it hut hi b xs.length cap cur hget ⟨b2, off2, none⟩ ys.length cap2 cells2 hl2' hnews h1 hroom hfit
        rw [hs1] at hr hfit
        refine ⟨_, _, σ, [(b, .cells (cur.toList.take (xs.length * dk.sz) ++ cells2 ++ cur.toList.drop (xs.length * dk.sz + cells2.length)).toArray e (0, 0))] :: gs, .inl (hex _ hr), ?_, h _ _ ⟨cells ++ cells2, ⟨by rw [List.length_append, List.length_append, hl1, hl2, Nat.add_mul], .inr ⟨b, cap, _, by rw [List.length_append], rfl, by rw [List.length_append]; exact hroom, hml, ?_, ?_⟩⟩, hmany3⟩⟩
        · exact hw.put (j := 0) rfl rfl rfl rfl (setRow_heap w b cur _ e _ hget) (fun q hq => setRow_other w b q _ hq)
        · simp only [List.size_toArray, List.length_append, List.length_take, List.length_drop, Array.length_toList]
          omega
        · rw [hc, List.length_append, Nat.add_mul, ← hl1, ← hl2, ← List.length_append]
          exact List.take_left
      · have holds : ∀ j q, cells[j]? = some q → w.cell? ((⟨b, 0, none⟩ : Addr).add j) = some q := by
          intro j q hq
          rw [← hc, List.getElem?_take] at hq
          split at hq
          · rw [add_plain, Nat.zero_add]; simp [World.cell?, hget]; simpa using hq
          · cases hq
        have hr := run_append_grow (P := P) w t ty' e it z hut hi hz ⟨b, 0, none⟩ xs.length cap cells (by rw [hs1]; exact hl1) holds ⟨b2, off2, none⟩ ys.length cap2 cells2 hl2' hnews (by omega) (by omega) (by rw [hs2]; exact growslice_fits (by omega) hb)
        obtain ⟨g1, g2⟩ := grown cap (by omega)
        exact ⟨_, _, σ, _, .inl (hex _ hr), g1, h _ _ g2⟩

theorem o_lenI {α : Type} {dk : Kd α} {e m by_ : Nat} {xs : List α} (ho : ops[i]? = some ⟨d, .call ⟨.builtin .len, #[x], #[t]⟩, ty, pos, after, g⟩) (hg : wants ops ρ g = true) (hf : fits n d = true) (ht : slT P t = some (e, m, by_)) (hx : ev ρ x = some v) (hs : Sl dk σ v xs)
    (h : St c (put ρ d (.int .i64 xs.length)) σ gs (.inRegion ops rest :: k)) : St c ρ σ gs (.inRegion ops (i :: rest) :: k) := by
  obtain ⟨a, cap, rfl⟩ := hs.slice
  exact o_len ho hg hf (slT_parts ht).1 hx h
theorem o_lenO {α : Type} {dk : Kd α} {e m by_ E : Nat} {xs : List α} {gr : Grp} (ho : ops[i]? = some ⟨d, .call ⟨.builtin .len, #[x], #[t]⟩, ty, pos, after, g⟩) (hg : wants ops ρ g = true) (hf : fits n d = true) (ht : slT P t = some (e, m, by_)) (hx : ev ρ x = some v) (hs : Ow dk E σ v xs gr)
    (h : St c (put ρ d (.int .i64 xs.length)) σ gs (.inRegion ops rest :: k)) : St c ρ σ gs (.inRegion ops (i :: rest) :: k) := by
  obtain ⟨a, cap, rfl⟩ := hs.slice
  exact o_len ho hg hf (slT_parts ht).1 hx h
end
end Go.Eng
