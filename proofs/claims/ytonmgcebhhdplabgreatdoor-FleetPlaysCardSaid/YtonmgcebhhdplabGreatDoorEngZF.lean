import Derived.Test.YtonmgcebhhdplabGreatDoorEngZA
import Derived.Test.YtonmgcebhhdplabGreatDoorEngZE
import Derived.Shelf.GgSortFunc.InsertionK
import Derived.Shelf.SortM.Plain
import Derived.Shelf.SortM.SortNone
/-! The engine, part ZF: slices.SortFunc over pairs of numbers. -/
set_option linter.unusedVariables false
namespace Go.Eng
open Go Go.Proofs Go.Shelf Go.RowKit Go.Sort
def encP (x : Int × Int) : List Value := [.int .i64 x.1, .int .i64 x.2]
structure SortsF (P : Program) (f g : Nat) : Prop where
 some_ : ∀ (blk cap : Nat) (d : Array (Int × Int)) (w : World), HoldsK encP 2 w blk 0 d → blk < w.heap.size → d.size < 4611686018427387904 →
  Calls P f #[.slice (some ⟨blk, 0, none⟩) d.size cap, .func (.func g) #[] #[]] w fun e w' => e = .returned (.tuple #[]) ∧ ∃ n os, w' = sortWorldK encP 2 w blk 0 n (sortP d.toList).toArray os
 none_ : ∀ (cap : Nat) (w : World), Calls P f #[.slice none 0 cap, .func (.func g) #[] #[]] w fun e w' => e = .returned (.tuple #[]) ∧ w' = w
theorem flatP (d : Array (Int × Int)) : (flatK encP 2 d).toList = d.toList.flatMap encP := by
 have hl : ∀ l : List (Int × Int), (l.flatMap encP).length = l.length * 2 := by
  intro l; induction l with
  | nil => rfl
  | cons x l ih => rw [List.flatMap_cons, List.length_append, ih, List.length_cons]; simp [encP]; omega
 have hg : ∀ (l : List (Int × Int)) (t : Nat) (h : t < l.length * 2), (l.flatMap encP)[t]? = some ((encP (l[t / 2]'(by omega)))[t % 2]!) := by
  intro l; induction l with
  | nil => intro t h; simp at h
  | cons x l ih =>
   intro t h
   rw [List.flatMap_cons]
   match t, h with
   | 0, _ => rfl
   | 1, _ => rfl
   | t + 2, h =>
    rw [List.getElem?_append_right (by simp [encP])]
    rw [show t + 2 - (encP x).length = t by simp [encP], ih t (by simp at h; omega)]
    have h1 : (t + 2) / 2 = t / 2 + 1 := by omega
    have h2 : (t + 2) % 2 = t % 2 := by omega
    simp only [h1, h2, List.getElem_cons_succ]
 refine List.ext_getElem? fun t => ?_
 by_cases ht : t < d.size * 2
 ·rw [hg _ _ (by simpa using ht)]
  have h1 := get_flatK encP 2 d t ht
  rw [getElem!_pos _ t (by simpa using ht), getElem!_pos _ (t / 2) (by omega)] at h1
  rw [Array.getElem?_toList, Array.getElem?_eq_getElem (by simpa using ht), h1]
  simp
 ·rw [List.getElem?_eq_none (by simp; omega), List.getElem?_eq_none (by rw [hl]; simp; omega)]
theorem manyP {σ : Sto} {cs : List Value} {xs : List (Int × Int)} (h : (kP (kI .i64) (kI .i64)).Many σ cs xs) : cs = xs.flatMap encP := by
 induction h with
 | nil => rfl
 | cons h _ ih =>
  obtain ⟨c1, c2, rfl, h1, h2⟩ := h
  have h1 : c1 = _ := h1
  have h2 : c2 = _ := h2
  subst h1 h2
  rw [List.flatMap_cons, ih]; rfl
theorem pMany {σ : Sto} : ∀ xs : List (Int × Int), (kP (kI .i64) (kI .i64)).Many σ (xs.flatMap encP) xs
 | [] => .nil
 | x :: xs => by
  rw [List.flatMap_cons]
  exact .cons (d := kP (kI .i64) (kI .i64)) ⟨[.int .i64 x.1], [.int .i64 x.2], rfl, rfl, rfl⟩ (pMany xs)
theorem putCells_size {α : Type} [Inhabited α] (enc : α → Value) (off : Nat) (d : Array α) (c : Array Value) : (putCells enc off d c).size = c.size := by simp [putCells]
theorem putCells_take (F c : Array Value) (h : F.size ≤ c.size) : (putCells id 0 F c).toList.take F.size = F.toList := by
 refine List.ext_getElem? fun t => ?_
 by_cases ht : t < F.size
 ·rw [List.getElem?_take_of_lt ht, Array.getElem?_toList, Array.getElem?_toList]
  have hc : t < (putCells id 0 F c).size := by rw [putCells_size]; omega
  rw [Array.getElem?_eq_getElem hc, Array.getElem?_eq_getElem ht]
  simp only [putCells, Array.getElem_mapIdx]
  rw [if_pos (by omega), Nat.sub_zero, getElem!_pos F t ht]; rfl
 ·rw [List.getElem?_eq_none (by simp; omega), List.getElem?_eq_none (by simpa using ht)]
theorem flatP_len (xs : List (Int × Int)) : (xs.flatMap encP).length = xs.length * 2 := by
 have := congrArg List.length (flatP xs.toArray)
 simpa using this.symm
theorem wor_put {α : Type} [Inhabited α] (enc : α → Value) {σ : Sto} {fs : List Grp} {w : World} {b n : Nat} {cur : Array Value} {E : TypeId} (F : Array α) (os : Array Obj) (hw : Wor σ ([[(b, .cells cur E (0, 0))]] ++ fs) w) :
    Wor σ ([[(b, .cells (putCells enc 0 F cur) E (0, 0))]] ++ fs) (grow (putRow enc (Sort.ahead w n) b 0 F) os) := by
  have hb : w.heap[b]? = some (.cells cur E (0, 0)) := hw.has (b, _) (by simp)
  have hold : Wor σ ([(b, .cells (putCells enc 0 F cur) E (0, 0))] :: fs) (mapBlock (Sort.ahead w n) b (putCells enc 0 F)) := by
    refine Wor.turn (g := []) (hw.drawn _ : Wor σ ([(b, .cells cur E (0, 0))] :: fs) (Sort.ahead w n)) rfl rfl rfl ?_ (fun k hk => ?_)
    · simp only [mapBlock, Array.getElem?_modify, Sort.ahead, hb]; simp [onCells]
    · simp only [mapBlock, Array.getElem?_modify]; rw [if_neg (Ne.symm hk)]; rfl
  have hle : ∀ (k : Nat) (o : Obj), (mapBlock (Sort.ahead w n) b (putCells enc 0 F)).heap[k]? = some o → (grow (putRow enc (Sort.ahead w n) b 0 F) os).heap[k]? = some o := by
    intro k o hk
    simp only [grow, putRow]
    rw [Array.getElem?_append_left (Array.getElem?_eq_some_iff.1 hk).1]; exact hk
  exact ⟨hold.os, hold.tape, hold.output, fun k o hk => hle k o (hold.imm k o hk), fun c hc => hle _ _ (hold.has c hc), hold.nodup, hold.apart⟩
theorem sortF_does {P : Program} {f g : Nat} (S : SortsF P f g) {σ : Sto} {E : TypeId} {v : Value} {xs : List (Int × Int)} {gr : Grp} (h : Ow (kP (kI .i64) (kI .i64)) E σ v xs gr) (hn : xs.length < 4611686018427387904) :
    Does P f [v, .func (.func g) #[] [].toArray] σ [gr] (fun r τ gs => ∃ g', gs = [g'] ∧ .tuple [].toArray = r ∧ Ow (kP (kI .i64) (kI .i64)) E τ v (sortP xs) g') := by
  obtain ⟨cells, ⟨hl, hcase⟩, hm⟩ := h
  have hlen : (sortP xs).length = xs.length := List.length_mergeSort _
  intro fs w hw cs
  rcases hcase with ⟨rfl, h0, rfl⟩ | ⟨b, cap, cur, rfl, rfl, h1, h2, h3, h4⟩
  · obtain ⟨e, w', fr', ⟨rfl, rfl⟩, hst, hfn, hlv⟩ := S.none_ 0 w cs
    have hx : xs = [] := List.length_eq_zero_iff.1 h0
    subst hx
    have hs : sortP [] = [] := by simp [sortP]
    rw [hs]
    exact ⟨_, _, fr', σ, [[]], ⟨_, rfl, rfl, [], ⟨rfl, .inl ⟨rfl, rfl, rfl⟩⟩, .nil⟩, Sto.Le.refl _, hw, hst, hfn, hlv⟩
  · have hb : w.heap[b]? = some (.cells cur E (0, 0)) := hw.has (b, _) (by simp)
    have hcells := manyP hm
    subst hcells
    have hk : (kP (kI .i64) (kI .i64)).sz = 2 := rfl
    rw [hk] at h3 h4
    have hH : HoldsK encP 2 w b 0 xs.toArray := by
      intro j hj
      rw [size_flatK] at hj
      have hjc : j < cur.size := by rw [h3]; simp at hj; omega
      refine ⟨?_, ?_⟩
      · simp only [World.cell?, hb, Option.isSome_none, Bool.false_eq_true, if_false, Nat.zero_add, id]
        rw [getElem!_pos _ j (by simpa using hj)]
        have e1 : (flatK encP 2 xs.toArray).toList[j]? = cur.toList[j]? := by
          rw [flatP]
          show (xs.flatMap encP)[j]? = _
          rw [← h4, List.getElem?_take_of_lt (by simpa using hj)]
        rw [Array.getElem?_toList, Array.getElem?_toList, Array.getElem?_eq_getElem (by simpa using hj)] at e1
        exact e1.symm
      · simp only [World.frozen?, hb]; simp
    have hblk : b < w.heap.size := (Array.getElem?_eq_some_iff.1 hb).1
    obtain ⟨e, w', fr', ⟨rfl, n, os, rfl⟩, hst, hfn, hlv⟩ := S.some_ b cap xs.toArray w hH hblk (by simpa using hn) cs
    refine ⟨_, _, fr', σ, [[(b, .cells (putCells id 0 (flatK encP 2 (sortP xs).toArray) cur) E (0, 0))]], ⟨_, rfl, rfl, (sortP xs).flatMap encP, ⟨?_, .inr ⟨b, cap, _, ?_, rfl, ?_, h2, ?_, ?_⟩⟩, pMany _⟩, Sto.Le.refl _, ?_, hst, hfn, hlv⟩
    · rw [flatP_len, hk]
    · rw [hlen]
    · rw [hlen]; exact h1
    · rw [putCells_size, hk]; exact h3
    · have hF : (flatK encP 2 (sortP xs).toArray).size = (sortP xs).length * 2 := by simp
      have := putCells_take (flatK encP 2 (sortP xs).toArray) cur (by rw [hF, hlen, h3]; omega)
      rw [hF, flatP] at this
      rw [hk]; exact this
    · exact wor_put id _ os hw
theorem sortI_does {P : Program} {ρ : Ren} (L : SlLaysM.n5 P ρ) {σ : Sto} {E : TypeId} {v : Value} {xs : List Int} {gr : Grp} (h : Ow (kI .i64) E σ v xs gr) (hn : xs.length < 4611686018427387904) :
    Does P (ρ.f 5) [v] σ [gr] (fun r τ gs => ∃ g', gs = [g'] ∧ .tuple [].toArray = r ∧ Ow (kI .i64) E τ v (xs.mergeSort fun x y => decide (x ≤ y)) g') := by
  obtain ⟨cells, ⟨hl, hcase⟩, hm⟩ := h
  have hlen : (xs.mergeSort fun x y => decide (x ≤ y)).length = xs.length := List.length_mergeSort _
  have hsz : (kI .i64).sz = 1 := rfl
  have hmany : ∀ {cs : List Value} {ys : List Int}, (kI .i64).Many σ cs ys → cs = ys.map (Value.int .i64) := by
    intro cs ys h
    induction h with
    | nil => rfl
    | cons h _ ih => rw [ih, show _ = [_] from h]; rfl
  intro fs w hw cs
  rcases hcase with ⟨rfl, h0, rfl⟩ | ⟨b, cap, cur, rfl, rfl, h1, h2, h3, h4⟩
  · obtain ⟨e, w', fr', ⟨rfl, rfl⟩, hst, hfn, hlv⟩ := AnyM.slices_Sort_int_none L none 0 w cs
    have hx : xs = [] := List.length_eq_zero_iff.1 h0
    subst hx
    have hs : ([] : List Int).mergeSort (fun x y => decide (x ≤ y)) = [] := by simp
    rw [hs]
    exact ⟨_, _, fr', σ, [[]], ⟨_, rfl, rfl, [], ⟨rfl, .inl ⟨rfl, rfl, rfl⟩⟩, .nil⟩, Sto.Le.refl _, hw, hst, hfn, hlv⟩
  · have hb : w.heap[b]? = some (.cells cur E (0, 0)) := hw.has (b, _) (by simp)
    have hcells := hmany hm
    subst hcells
    rw [hsz, Nat.mul_one] at h3 h4
    have hH : Holds (Value.int .i64) w b 0 xs.toArray := by
      intro j hj
      have hj' : j < xs.length := by simpa using hj
      have hjc : j < cur.size := by omega
      refine ⟨?_, ?_⟩
      · simp only [World.cell?, hb, Option.isSome_none, Bool.false_eq_true, if_false, Nat.zero_add]
        have e1 : (xs.map (Value.int .i64))[j]? = cur.toList[j]? := by rw [← h4, List.getElem?_take_of_lt hj']
        rw [List.getElem?_map, List.getElem?_eq_getElem hj', Array.getElem?_toList] at e1
        rw [getElem!_pos _ j hj]; simpa using e1.symm
      · simp only [World.frozen?, hb]; simp
    have hblk : b < w.heap.size := (Array.getElem?_eq_some_iff.1 hb).1
    obtain ⟨e, w', fr', ⟨rfl, n, os, rfl⟩, hst, hfn, hlv⟩ := AnyM.slices_Sort_int L b 0 cap xs w hH hblk hn cs
    have hpm : ∀ ys : List Int, (kI .i64).Many σ (ys.map (Value.int .i64)) ys := by
      intro ys; induction ys with
      | nil => exact .nil
      | cons y ys ih => exact .cons (d := kI .i64) (a := [.int .i64 y]) rfl ih
    refine ⟨_, _, fr', σ, [[(b, .cells (putCells (Value.int .i64) 0 (xs.mergeSort fun x y => decide (x ≤ y)).toArray cur) E (0, 0))]], ⟨_, rfl, rfl, (xs.mergeSort fun x y => decide (x ≤ y)).map (Value.int .i64), ⟨?_, .inr ⟨b, cap, _, ?_, rfl, ?_, h2, ?_, ?_⟩⟩, hpm _⟩, Sto.Le.refl _, wor_put _ _ os hw, hst, hfn, hlv⟩
    · rw [List.length_map, hsz]; omega
    · rw [hlen]
    · rw [hlen]; exact h1
    · rw [putCells_size, hsz]; omega
    · rw [hsz, Nat.mul_one]
      refine List.ext_getElem? fun t => ?_
      by_cases ht : t < (xs.mergeSort fun x y => decide (x ≤ y)).length
      · rw [List.getElem?_take_of_lt ht, Array.getElem?_toList, List.getElem?_map, List.getElem?_eq_getElem ht]
        have hc : t < (putCells (Value.int .i64) 0 (xs.mergeSort fun x y => decide (x ≤ y)).toArray cur).size := by rw [putCells_size]; omega
        rw [Array.getElem?_eq_getElem hc]
        simp only [putCells, Array.getElem_mapIdx]
        rw [if_pos ⟨by omega, by simpa using ht⟩, Nat.sub_zero, getElem!_pos _ t (by simpa using ht)]; simp
      · rw [List.getElem?_eq_none (by simp; omega), List.getElem?_eq_none (by simpa using ht)]
theorem copyF_does {P : Program} {f : Nat} {E : TypeId} (H : ∀ (b m1 m2 : Nat) (es1 es2 : Array MapEntry) (c1 c2 : Nat) (w : World), w.cell? ⟨b, 0, none⟩ = some (.map (some m1)) → w.cell? ⟨b, 1, none⟩ = some (.map (some m2)) → w.heap[m1]? = some (.map es1 c1) → w.heap[m2]? = some (.map es2 c2) →
      Calls P f #[.pointer (some ⟨b, 0, none⟩)] w fun e w' => e = .returned (.pointer (some ⟨w.heap.size + 2, 0, none⟩)) ∧ w' = ((w.drew.alloc (.map es1 c1)).alloc (.map es2 c2)).alloc (.cells #[.map (some w.heap.size), .map (some (w.heap.size + 1))] E))
    {K1 V1 K2 V2 : Type} {fk1 : K1 → Value} {rv1 : Vr V1} {fk2 : K2 → Value} {rv2 : Vr V2} {σ : Sto} {ba : Nat} {v1 v2 : Value} {m1 : List (K1 × V1)} {m2 : List (K2 × V2)} {g1 g2 : Grp} (h1 : Mp fk1 rv1 σ v1 m1 g1) (h2 : Mp fk2 rv2 σ v2 m2 g2) :
    Does P f [.pointer (some ⟨ba, 0, none⟩)] σ [[(ba, .cells [v1, v2].toArray E (0, 0))], g1, g2] (fun v τ gs => ∃ (b : Nat) (w1 : Value) (k1 : Grp) (w2 : Value) (k2 : Grp), gs = [[(ba, .cells [v1, v2].toArray E (0, 0))], g1, g2, [(b, .cells [w1, w2].toArray E (0, 0))], k1, k2] ∧ .pointer (some ⟨b, 0, none⟩) = v ∧ Mp fk1 rv1 τ w1 m1 k1 ∧ Mp fk2 rv2 τ w2 m2 k2) := by
  obtain ⟨a1, es1, c1, rfl, rfl, hs1, he1⟩ := h1
  obtain ⟨a2, es2, c2, rfl, rfl, hs2, he2⟩ := h2
  intro fs w hw cs
  have hb : w.heap[ba]? = some (.cells [.map (some a1), .map (some a2)].toArray E (0, 0)) := hw.has (ba, _) (by simp)
  have e1 : w.heap[a1]? = some (.map es1 c1) := hw.has (a1, _) (by simp)
  have e2 : w.heap[a2]? = some (.map es2 c2) := hw.has (a2, _) (by simp)
  obtain ⟨e, w', fr', ⟨rfl, rfl⟩, hst, hfn, hlv⟩ := H ba a1 a2 es1 es2 c1 c2 w (by simp [World.cell?, hb]) (by simp [World.cell?, hb]) e1 e2 cs
  have k1 := (hw.drawn (w.drawn + 1)).alloc (.map es1 c1)
  have k2 := k1.alloc (.map es2 c2)
  have k3 := k2.alloc (.cells #[.map (some w.heap.size), .map (some (w.heap.size + 1))] E)
  have z1 : ({ w with drawn := w.drawn + 1 } : World).heap.size = w.heap.size := rfl
  have z2 : (({ w with drawn := w.drawn + 1 } : World).alloc (.map es1 c1)).heap.size = w.heap.size + 1 := by simp [World.alloc]
  have z3 : ((({ w with drawn := w.drawn + 1 } : World).alloc (.map es1 c1)).alloc (.map es2 c2)).heap.size = w.heap.size + 2 := by simp [World.alloc]
  rw [z3, z2, z1] at k3
  refine ⟨_, _, fr', σ, _, ⟨w.heap.size + 2, _, _, _, _, rfl, rfl, ⟨w.heap.size, es1, c1, rfl, rfl, hs1, he1⟩, ⟨w.heap.size + 1, es2, c2, rfl, rfl, hs2, he2⟩⟩, Sto.Le.refl _, ?_, hst, hfn, hlv⟩
  refine k3.perm ?_
  have := (ordG_perm [3, 3, 3, 0, 1, 0] (gs := [[(w.heap.size + 2, .cells #[.map (some w.heap.size), .map (some (w.heap.size + 1))] E (0, 0))], [(w.heap.size + 1, .map es2 c2)], [(w.heap.size, .map es1 c1)], [(ba, .cells [.map (some a1), .map (some a2)].toArray E (0, 0))], [(a1, .map es1 c1)], [(a2, .map es2 c2)]]) _ rfl rfl).append_right fs.flatten
  simpa using this
end Go.Eng
