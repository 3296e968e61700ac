import Derived.Test.YtonmgcebhhdplabGreatDoorEngL
import Derived.Laws.MakeOwn
import Derived.Laws.IdiomStrings
import Derived.Lib.ItoaMem
/-! The engine, part M: what the library's contracts tell; places in held slices; slices that are made; bytes of strings. -/
namespace Go.Eng
open Go

/-! ### The library's contracts -/
def Tab (P : Program) (σ : Sto) : Prop := ∀ w : World, (∀ b o, σ.imm b = some o → w.heap[b]? = some o) → Lib.TabIs P w "internal/strconv.uint64pow10" .u64 Lib.pow10Tab
theorem Tab.up {P : Program} {σ τ : Sto} (h : Tab P σ) (hl : σ.Le τ) : Tab P τ := fun w hw => h w fun b o hb => hw b o (hl.imm b o hb)
theorem Tab.of {P : Program} {w : World} (h : Lib.TabIs P w "internal/strconv.uint64pow10" .u64 Lib.pow10Tab) : Tab P (Sto.of w) := by
 intro w' hw
 unfold Lib.TabIs World.var? at *
 cases hg : P.globalNamed "internal/strconv.uint64pow10" with
 | none => rw [hg] at h; simp at h
 | some g =>
  rw [hg] at h
  simp only [Option.bind_some] at h ⊢
  cases hb : w.heap[g]? with
  | none => rw [hb] at h; simp at h
  | some o => rw [hw g o hb]; rw [hb] at h; exact h

theorem wor_grow {σ : Sto} {gs : List Grp} {w : World} (h : Wor σ gs w) (k : Nat) (os : Array Obj) : Wor σ gs (Sort.grow (w.drewN k) os) := by
 have hlt : ∀ b o, w.heap[b]? = some o → (w.heap ++ os)[b]? = some o := fun b o hb => by
  rw [Array.getElem?_append_left (Array.getElem?_eq_some_iff.1 hb).1]; exact hb
 exact ⟨h.os, h.tape, h.output, fun b o hb => hlt b o (h.imm b o hb), fun c hc => hlt _ _ (h.has c hc), h.nodup, h.apart⟩
theorem does_grow {P : Program} {f : FuncId} {args : List Value} {σ : Sto} {u : Value} (h : ∀ w : World, (∀ b o, σ.imm b = some o → w.heap[b]? = some o) → Calls P f args.toArray w fun e w' => e = .returned u ∧ ∃ k os, w' = Sort.grow (w.drewN k) os) :
    Does P f args σ [] (fun v _ gs => gs = [] ∧ u = v) := by
  intro fs w hw cs
  obtain ⟨e, w', fr', ⟨rfl, k, os, rfl⟩, hst, hfn, hl⟩ := h w hw.imm cs
  exact ⟨u, _, fr', σ, [], ⟨rfl, rfl⟩, Sto.Le.refl _, by simpa using wor_grow (by simpa using hw) k os, hst, hfn, hl⟩
theorem i64_lo {n : Int} (h : IntOk .i64 n) : -9223372036854775808 ≤ n := h.1
theorem i64_hi {n : Int} (h : IntOk .i64 n) : n ≤ 9223372036854775807 := h.2
theorem bstr_eq (ns : List Int) : bstr ns = ⟨(ns.map fun n => UInt8.ofNat n.toNat).toArray⟩ := by
 have key : ∀ (ns : List Int) (r : ByteArray), ns.foldl (fun r n => r.push (UInt8.ofNat n.toNat)) r = ⟨r.data ++ (ns.map fun n => UInt8.ofNat n.toNat).toArray⟩ := by
  intro ns
  induction ns with
  | nil => intro r; simp
  | cons n ns ih => intro r; simp only [List.foldl_cons, ih, List.map_cons]; simp [ByteArray.push]
 unfold bstr
 rw [key]
 have he0 : ByteArray.empty.data = #[] := rfl
 rw [he0]; simp
theorem decF_lib : ∀ (f u : Nat), u ≤ f → (decF f u).map (fun n => UInt8.ofNat n.toNat) = Lib.decDigits u
 | 0, u, h => by
  obtain rfl : u = 0 := by omega
  rw [Lib.decDigits_one (by decide)]; rfl
 | f + 1, u, h => by
  rw [Lib.decDigits]
  by_cases h1 : u < 10
  ·rw [dif_pos h1]; simp only [decF, if_pos h1, List.map_cons, List.map_nil]
   congr 2
  ·rw [dif_neg h1]; simp only [decF, if_neg h1, List.map_append, List.map_cons, List.map_nil]
   rw [decF_lib f (u / 10) (by omega)]
   congr 3
theorem itoa_lib (n : Int) : bstr (decI n) = ⟨(Lib.itoa n).toArray⟩ := by
 rw [bstr_eq]
 congr 2
 unfold decI Lib.itoa
 split
 ·simp only [List.map_cons]; rw [decL, decF_lib _ _ (Nat.le_refl _)]; rfl
 ·rw [decL, decF_lib _ _ (Nat.le_refl _)]

/-! ### Places in held slices -/
def OwAt (gr : Grp) (b o : Nat) (vs : List Value) : Prop := ∃ cur E, gr = [(b, Obj.cells cur E (0, 0))] ∧ ∀ r u, vs[r]? = some u → cur[o + r]? = some u

section
variable {P : Program} {n : Nat} {c : Ctx P n} {ρ : Env} {σ : Sto} {gs : List Grp} {k : List Item} {ops : Array Oper} {i : Nat} {rest : List Nat}
variable {d : Option Nat} {ty : TypeId} {pos : String} {after : Array Edge} {g : Option (Nat × Bool)} {x y z : Operand} {v u : Value} {t : TypeId}

theorem o_indexOw {α : Type} {dk : Kd α} {e m by_ E : Nat} {xs : List α} {gr : Grp} {ki : IntKind} {I : Int} {q : α} (ho : ops[i]? = some ⟨d, .indexAddr t x y, ty, pos, after, g⟩) (hg : wants ops ρ g = true) (hf : fits n d = true) (ht : slT P t = some (e, m, by_)) (hm : m = dk.sz)
    (hx : ev ρ x = some v) (hs : Ow dk E σ v xs gr) (hy : ev ρ y = some (.int ki I)) (hi : idx xs I q)
    (h : ∀ b, (∃ n cap, v = .slice (some ⟨b, 0, none⟩) n cap) → St c (put ρ d (.pointer (some ⟨b, I.toNat * dk.sz, none⟩))) σ gs (.inRegion ops rest :: k)) : St c ρ σ gs (.inRegion ops (i :: rest) :: k) := by
  obtain ⟨cells, ⟨hcl, hv⟩, hmany⟩ := hs
  have hlt := hi.lt
  have h0 := hi.1
  rcases hv with ⟨_, hn, _⟩ | ⟨b, cap, cur, rfl, rfl, hle, hml, hcs, hc⟩
  · omega
  · refine st_pure ho hg hf rfl (v := .pointer (some ⟨b, I.toNat * dk.sz, none⟩)) (fun ds a w ha => ?_) (h b ⟨_, _, rfl⟩)
    have hu := (slT_parts ht).1
    simp [execOp, ha.eval hx, ha.eval hy, Instr.indexAt, asIntOf, run_underlying hu, h0, hlt, run_sizeOf_sl ht, add_plain, hm]

theorem Ow.at {α : Type} {dk : Kd α} {E b : Nat} {xs : List α} {gr : Grp} {I : Int} {q : α} (hs : Ow dk E σ v xs gr) (hb : ∃ n cap, v = .slice (some ⟨b, 0, none⟩) n cap) (hi : idx xs I q) : ∃ vs, dk.rep σ vs q ∧ OwAt gr b (I.toNat * dk.sz) vs := by
 obtain ⟨cells, ⟨hcl, hv⟩, hmany⟩ := hs
 have hlt := hi.lt
 have h0 := hi.1
 obtain ⟨n', cap', hb⟩ := hb
 rcases hv with ⟨_, hn, _⟩ | ⟨b', cap, cur, rfl, rfl, hle, hml, hcs, hc⟩
 ·omega
 ·cases hb
  obtain ⟨vs, hrep, hat⟩ := hmany.at_ hi.2
  refine ⟨vs, hrep, cur, E, rfl, fun r u hr => ?_⟩
  have h3 := hat r u hr
  rw [← hc, List.getElem?_take] at h3
  split at h3
  ·simpa using h3
  ·cases h3
theorem o_loadOw {b o off j : Nat} {gr : Grp} {vs : List Value} (ho : ops[i]? = some ⟨d, .load t x, ty, pos, after, g⟩) (hg : wants ops ρ g = true) (hf : fits n d = true) (ht : isScalar P t = true)
    (hx : ev ρ x = some (.pointer (some ⟨b, o + off, none⟩))) (hat : OwAt gr b o vs) (hj : gs[j]? = some gr) (hc : vs[off]? = some v)
    (h : St c (put ρ d v) σ gs (.inRegion ops rest :: k)) : St c ρ σ gs (.inRegion ops (i :: rest) :: k) := by
  obtain ⟨cur, E, rfl, hat⟩ := hat
  exact o_load ho hg hf ht hx hj (hat _ _ hc) h
theorem o_loadOwN {b o off j : Nat} {gr : Grp} {vs us : List Value} (ho : ops[i]? = some ⟨d, .load t x, ty, pos, after, g⟩) (hg : wants ops ρ g = true) (hf : fits n d = true) (ht : aggSize P t = some us.length)
    (hx : ev ρ x = some (.pointer (some ⟨b, o + off, none⟩))) (hat : OwAt gr b o vs) (hj : gs[j]? = some gr) (hc : (vs.drop off).take us.length = us)
    (h : St c (put ρ d (.agg us.toArray)) σ gs (.inRegion ops rest :: k)) : St c ρ σ gs (.inRegion ops (i :: rest) :: k) := by
  obtain ⟨cur, E, rfl, hat⟩ := hat
  refine o_loadN ho hg hf ht hx hj ?_ h
  apply List.ext_getElem?
  intro r
  rw [List.getElem?_take]
  split
  · rename_i hr
    have h1 : us[r]? = some us[r] := List.getElem?_eq_getElem hr
    have h2 : vs[off + r]? = some us[r] := by rw [← h1]; conv => rhs; rw [← hc]
                                              rw [List.getElem?_take, if_pos (by simpa using hr), List.getElem?_drop]
    rw [List.getElem?_drop, h1, Nat.add_assoc, Array.getElem?_toList]
    exact hat _ _ h2
  · rename_i hr; rw [List.getElem?_eq_none (by omega)]
/-! ### Slices that are made -/
theorem o_bytes {e : Nat} {s : ByteArray} {t2 : TypeId} (ho : ops[i]? = some ⟨d, .convert t t2 x, ty, pos, after, g⟩) (hg : wants ops ρ g = true) (hf : fits n d = true) (ht : P.underlying t = some .string) (hd : P.underlying t2 = some (.slice e)) (he : P.underlying e = some (.int .u8)) (hx : ev ρ x = some (.string s)) (hsm : s.size ≤ 4611686018427387904)
    (h : ∀ v' τ, σ.Le τ → Sl (kI .u8) τ v' (bints s) → St c (put ρ d v') τ gs (.inRegion ops rest :: k)) : St c ρ σ gs (.inRegion ops (i :: rest) :: k) :=
  st_op ho hg hf rfl fun ds a w ha hw => by
    have hrun := run_bytes_of_string (P := P) w t t2 e s ht hd he
    have h63 : s.size ≤ maxLen := by simp only [maxLen]; omega
    have hge := grownCap_ge w s.size 0 e
    have hml := grownCap_le_maxLen w s.size 0 e h63
    have hbl : (bints s).length = s.size := by simp [bints]
    obtain ⟨hle, hwo, hmem⟩ := ((hw.drawn (w.drawn + 1)).alloc (.cells (bytesRow s (grownCap w s.size 0 e)) e ((bytesRow s (grownCap w s.size 0 e)).size, (bytesRow s (grownCap w s.size 0 e)).size + 1))).freeze
    refine ⟨.slice (some ⟨w.heap.size, 0, none⟩) s.size (grownCap w s.size 0 e), _, _, gs, .inl (by simp only [execOp, ha.eval hx, Sem.run_bind, hrun, Result.andThen_ok]; rfl), hwo, h _ _ hle ⟨(bints s).map (Value.int .u8), ⟨by simp [kI], .inr ⟨w.heap.size, 0, grownCap w s.size 0 e, bytesRow s (grownCap w s.size 0 e), e, _, by rw [hbl], by rw [hbl]; exact hge, hml, hmem _ (List.mem_cons_self), ?_, ?_⟩⟩, manyI _⟩⟩
    · show 0 + grownCap w s.size 0 e * 1 ≤ _
      simp only [bytesRow, Array.size_append, Array.size_map, Array.size_replicate]
      have : s.data.size = s.size := rfl
      omega
    · intro j u hj
      rw [List.getElem?_map, Option.map_eq_some_iff] at hj
      obtain ⟨x, hx1, rfl⟩ := hj
      simp only [bints, List.getElem?_map, Option.map_eq_some_iff] at hx1
      obtain ⟨b, hb, rfl⟩ := hx1
      rw [Array.getElem?_toList] at hb
      have hlt := (Array.getElem?_eq_some_iff.1 hb).1
      rw [Nat.zero_add]
      rw [bytesRow_at s _ j hlt, (Array.getElem?_eq_some_iff.1 hb).2]
end
end Go.Eng
