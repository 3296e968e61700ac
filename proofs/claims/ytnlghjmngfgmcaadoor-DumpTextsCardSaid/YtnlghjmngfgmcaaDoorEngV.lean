import Derived.Test.YtnlghjmngfgmcaaDoorEngU
import Derived.Shelf.Strings.Builder1
/-! The engine, part V: a strings.Builder that is held. -/
set_option linter.unusedVariables false
namespace Go.Eng
open Go Go.Proofs Go.Shelf Go.RowKit
variable {P : Program} {ρ : Ren}
/-- All but one block is kept. -/
def Keeps (g : Nat) (w w' : World) : Prop := w'.os = w.os ∧ w'.tape = w.tape ∧ w'.output = w.output ∧ ∀ k o, k ≠ g → w.heap[k]? = some o → w'.heap[k]? = some o
theorem keeps_drew (g : Nat) (w : World) : Keeps g w w.drew := ⟨rfl, rfl, rfl, fun _ _ _ h => h⟩
theorem keeps_freeze (g n : Nat) (w : World) : Keeps g w (w.drew.freeze ⟨g, 0, none⟩ n) := by
  unfold World.freeze
  split
  · exact keeps_drew g w
  · exact ⟨rfl, rfl, rfl, fun k o hk h => by simp only [Array.getElem?_modify]; rw [if_neg (fun e => hk e.symm)]; exact h⟩
theorem keeps_alloc (g : Nat) (w : World) (o : Obj) : Keeps g w (w.drew.alloc o) := ⟨rfl, rfl, rfl, fun k o' _ h => by
  show (w.heap.push o)[k]? = some o'
  rw [Array.getElem?_push, if_neg (Nat.ne_of_lt (Array.getElem?_eq_some_iff.1 h).1)]; exact h⟩

set_option maxHeartbeats 1000000 in
set_option maxRecDepth 100000 in
theorem bString_row (L : Lays.n169 P ρ) (X : Builder.Extra P ρ) (b g cap : Nat) (p : Value) (cur : Array Value) (l : List UInt8) (w : World) (h0 : l ≠ [])
    (hbk : w.heap[b]? = some (.cells #[p, .slice (some ⟨g, 0, none⟩) l.length cap] (ρ.t 72) (0, 0))) (hg : w.heap[g]? = some (.cells cur (ρ.t 5) (0, 0))) (hnc : l.length ≤ cap) (hcm : cap ≤ maxLen) (hcs : cur.size = cap) (htake : cur.toList.take l.length = l.map fun x => Value.int .u8 x.toNat) :
    Calls P (ρ.f 169) #[.pointer (some ⟨b, 0, none⟩)] w fun e w' => e = .returned (.string ⟨l.toArray⟩) ∧ Keeps g w w' := by
  have hl0 : l.length ≠ 0 := by simpa using h0
  have c1 : w.drew.cell? ⟨b, 1, none⟩ = some (.slice (some ⟨g, 0, none⟩) l.length cap) := by
    have : w.drew.heap[b]? = some (.cells #[p, .slice (some ⟨g, 0, none⟩) l.length cap] (ρ.t 72) (0, 0)) := hbk
    rw [Lib.cell_of_heap this]; rfl
  have hSD : (Builtin.unsafeSliceData_ #[(ρ.t 37)] (ρ.t 127) #[.slice (some ⟨g, 0, none⟩) l.length cap]).run P w.drew = .ok (.pointer (some ⟨g, 0, none⟩)) w.drew :=
    Lib.run_unsafeSliceData_row _ _ _ _ _ _ (by omega)
  have hUS : (Builtin.unsafeString_ #[(ρ.t 127), (ρ.t 3)] (ρ.t 9) #[.pointer (some ⟨g, 0, none⟩), .int .i64 l.length]).run P w.drew = .ok (.string ⟨l.toArray⟩) (w.drew.freeze ⟨g, 0, none⟩ l.length) := by
    have hg' : w.drew.heap[g]? = some (.cells cur (ρ.t 5) (0, 0)) := hg
    refine Lib.run_unsafeString_row w.drew (ρ.t 127) (ρ.t 3) (ρ.t 9) (ρ.t 5) L.t127 X.cellsByte g cur.size (by simp [World.shape?, hg']) l h0 (by omega) (by unfold maxLen at hcm; omega) ?_
    intro j x hx
    have hj : j < l.length := (List.getElem?_eq_some_iff.1 hx).1
    have h1 : cur.toList[j]? = some (.int .u8 x.toNat) := by
      have := congrArg (·[j]?) htake
      simp only [List.getElem?_take, List.getElem?_map, hx, if_pos hj, Option.map_some] at this
      exact this
    have h2 : (⟨g, 0, none⟩ : Addr).add j = ⟨g, j, none⟩ := by unfold Addr.add; by_cases hj0 : j = 0 <;> simp [hj0]
    rw [h2, Lib.cell_of_heap hg']
    simpa using h1
  have mixed := L.mixed
  have t72 := L.t72; have a72 := L.a72; have z72 := L.z72; have v72 := L.v72; have u72 := run_underlying L.t72
  have t70 := L.t70; have a70 := L.a70; have z70 := L.z70; have v70 := L.v70; have u70 := run_underlying L.t70
  have t37 := L.t37; have a37 := L.a37; have z37 := L.z37; have v37 := L.v37; have u37 := run_underlying L.t37
  have t127 := L.t127; have a127 := L.a127; have z127 := L.z127; have v127 := L.v127; have u127 := run_underlying L.t127
  have t3 := L.t3; have a3 := L.a3; have z3 := L.z3; have v3 := L.v3; have u3 := run_underlying L.t3
  have t9 := L.t9; have a9 := L.a9; have z9 := L.z9; have v9 := L.v9; have u9 := run_underlying L.t9
  have t5 := X.t5; have a5 := X.a5; have z5 := X.z5; have v5 := X.v5; have u5 := run_underlying X.t5
  go_enter L.f169, Body.n169_ntmps ρ
  go_wp2
  go_region_o
  all_goals (go_wp2; go_ret; exact ⟨rfl, keeps_freeze g _ w⟩)

set_option maxHeartbeats 2000000 in
set_option maxRecDepth 100000 in
theorem bString_nil (L : Lays.n169 P ρ) (X : Builder.Extra P ρ) (b : Nat) (p : Value) (w : World) (hbk : w.heap[b]? = some (.cells #[p, .slice none 0 0] (ρ.t 72) (0, 0))) :
    Calls P (ρ.f 169) #[.pointer (some ⟨b, 0, none⟩)] w fun e w' => e = .returned (.string ⟨#[]⟩) ∧ Keeps b w w' := by
  have hUS := Any.unsafeString_none L X
  have c1 : w.drew.cell? ⟨b, 1, none⟩ = some (.slice none 0 0) := by
    have : w.drew.heap[b]? = some (.cells #[p, .slice none 0 0] (ρ.t 72) (0, 0)) := hbk
    rw [Lib.cell_of_heap this]; rfl
  have hSD : (Builtin.unsafeSliceData_ #[(ρ.t 37)] (ρ.t 127) #[.slice none 0 0]).run P w.drew = .ok (.pointer none) w.drew := rfl
  have mixed := L.mixed
  have t72 := L.t72; have a72 := L.a72; have z72 := L.z72; have v72 := L.v72; have u72 := run_underlying L.t72
  have t70 := L.t70; have a70 := L.a70; have z70 := L.z70; have v70 := L.v70; have u70 := run_underlying L.t70
  have t37 := L.t37; have a37 := L.a37; have z37 := L.z37; have v37 := L.v37; have u37 := run_underlying L.t37
  have t127 := L.t127; have a127 := L.a127; have z127 := L.z127; have v127 := L.v127; have u127 := run_underlying L.t127
  have t3 := L.t3; have a3 := L.a3; have z3 := L.z3; have v3 := L.v3; have u3 := run_underlying L.t3
  have t9 := L.t9; have a9 := L.a9; have z9 := L.z9; have v9 := L.v9; have u9 := run_underlying L.t9
  have t5 := X.t5; have a5 := X.a5; have z5 := X.z5; have v5 := X.v5; have u5 := run_underlying X.t5
  go_enter L.f169, Body.n169_ntmps ρ
  go_wp2
  go_region_o
  all_goals (go_wp2; go_ret; exact ⟨rfl, keeps_drew b w⟩)

set_option maxHeartbeats 2000000 in
set_option maxRecDepth 100000 in
theorem bString_zero (L : Lays.n169 P ρ) (X : Builder.Extra P ρ) (b g : Nat) (p : Value) (cur : Array Value) (w : World) (hbk : w.heap[b]? = some (.cells #[p, .slice (some ⟨g, 0, none⟩) 0 0] (ρ.t 72) (0, 0))) (hg : w.heap[g]? = some (.cells cur (ρ.t 5) (0, 0))) :
    Calls P (ρ.f 169) #[.pointer (some ⟨b, 0, none⟩)] w fun e w' => e = .returned (.string ⟨#[]⟩) ∧ Keeps b w w' := by
  have hUS := Any.unsafeString_none L X
  have hlt : b < w.heap.size := by
    rcases Nat.lt_or_ge b w.heap.size with h' | h'
    · exact h'
    · simp [Array.getElem?_eq_none h'] at hbk
  have c1 : w.drew.cell? ⟨b, 1, none⟩ = some (.slice (some ⟨g, 0, none⟩) 0 0) := by
    have : w.drew.heap[b]? = some (.cells #[p, .slice (some ⟨g, 0, none⟩) 0 0] (ρ.t 72) (0, 0)) := hbk
    rw [Lib.cell_of_heap this]; rfl
  have hSD : (Builtin.unsafeSliceData_ #[(ρ.t 37)] (ρ.t 127) #[.slice (some ⟨g, 0, none⟩) 0 0]).run P w.drew = .ok (.pointer (some ⟨w.drew.heap.size, 0, none⟩)) (w.drew.alloc (.view ⟨g, 0, none⟩ (ρ.t 5))) :=
    Lib.run_unsafeSliceData_zero w.drew _ _ (ρ.t 5) L.t127 ⟨g, 0, none⟩ 0 ((ρ.t 5), cur.size) (by have hg' : w.drew.heap[g]? = some (.cells cur (ρ.t 5) (0, 0)) := hg; simp [World.shape?, hg'])
  have c2 : (w.drew.alloc (.view ⟨g, 0, none⟩ (ρ.t 5))).cell? ⟨b, 1, none⟩ = some (.slice (some ⟨g, 0, none⟩) 0 0) := by
    have : (w.drew.alloc (.view ⟨g, 0, none⟩ (ρ.t 5))).heap[b]? = _ := (Lib.alloc_old w.drew _ b hlt).trans hbk
    rw [Lib.cell_of_heap this]; rfl
  have c3 : (w.alloc (.view ⟨g, 0, none⟩ (ρ.t 5))).drew.cell? ⟨b, 1, none⟩ = some (.slice (some ⟨g, 0, none⟩) 0 0) := c2
  have c0 : w.cell? ⟨b, 1, none⟩ = some (.slice (some ⟨g, 0, none⟩) 0 0) := c1
  have mixed := L.mixed
  have t72 := L.t72; have a72 := L.a72; have z72 := L.z72; have v72 := L.v72; have u72 := run_underlying L.t72
  have t70 := L.t70; have a70 := L.a70; have z70 := L.z70; have v70 := L.v70; have u70 := run_underlying L.t70
  have t37 := L.t37; have a37 := L.a37; have z37 := L.z37; have v37 := L.v37; have u37 := run_underlying L.t37
  have t127 := L.t127; have a127 := L.a127; have z127 := L.z127; have v127 := L.v127; have u127 := run_underlying L.t127
  have t3 := L.t3; have a3 := L.a3; have z3 := L.z3; have v3 := L.v3; have u3 := run_underlying L.t3
  have t9 := L.t9; have a9 := L.a9; have z9 := L.z9; have v9 := L.v9; have u9 := run_underlying L.t9
  have t5 := X.t5; have a5 := X.a5; have z5 := X.z5; have v5 := X.v5; have u5 := run_underlying X.t5
  go_enter L.f169, Body.n169_ntmps ρ
  go_wp2
  go_region_o
  all_goals (go_wp2; go_ret; exact ⟨rfl, keeps_alloc b w _⟩)

set_option maxHeartbeats 2000000 in
set_option maxRecDepth 100000 in
theorem bString_room (L : Lays.n169 P ρ) (X : Builder.Extra P ρ) (b g cap : Nat) (p : Value) (w : World) (hc0 : cap ≠ 0) (hbk : w.heap[b]? = some (.cells #[p, .slice (some ⟨g, 0, none⟩) 0 cap] (ρ.t 72) (0, 0))) :
    Calls P (ρ.f 169) #[.pointer (some ⟨b, 0, none⟩)] w fun e w' => e = .returned (.string ⟨#[]⟩) ∧ Keeps b w w' := by
  have hUS := Any.unsafeString_none L X
  have c1 : w.drew.cell? ⟨b, 1, none⟩ = some (.slice (some ⟨g, 0, none⟩) 0 cap) := by
    have : w.drew.heap[b]? = some (.cells #[p, .slice (some ⟨g, 0, none⟩) 0 cap] (ρ.t 72) (0, 0)) := hbk
    rw [Lib.cell_of_heap this]; rfl
  have hSD : (Builtin.unsafeSliceData_ #[(ρ.t 37)] (ρ.t 127) #[.slice (some ⟨g, 0, none⟩) 0 cap]).run P w.drew = .ok (.pointer (some ⟨g, 0, none⟩)) w.drew :=
    Lib.run_unsafeSliceData_row _ _ _ _ _ _ hc0
  clear hc0
  have mixed := L.mixed
  have t72 := L.t72; have a72 := L.a72; have z72 := L.z72; have v72 := L.v72; have u72 := run_underlying L.t72
  have t70 := L.t70; have a70 := L.a70; have z70 := L.z70; have v70 := L.v70; have u70 := run_underlying L.t70
  have t37 := L.t37; have a37 := L.a37; have z37 := L.z37; have v37 := L.v37; have u37 := run_underlying L.t37
  have t127 := L.t127; have a127 := L.a127; have z127 := L.z127; have v127 := L.v127; have u127 := run_underlying L.t127
  have t3 := L.t3; have a3 := L.a3; have z3 := L.z3; have v3 := L.v3; have u3 := run_underlying L.t3
  have t9 := L.t9; have a9 := L.a9; have z9 := L.z9; have v9 := L.v9; have u9 := run_underlying L.t9
  have t5 := X.t5; have a5 := X.a5; have z5 := X.z5; have v5 := X.v5; have u5 := run_underlying X.t5
  go_enter L.f169, Body.n169_ntmps ρ
  go_wp2
  go_region_o
  all_goals (go_wp2; go_ret; exact ⟨rfl, keeps_drew b w⟩)

/-- What a builder keeps of its own address: nothing, before it is written to. -/
def bself (b : Nat) : Bool → Value
  | true => .pointer (some ⟨b, 0, none⟩)
  | false => .pointer none
section
variable {σ : Sto} {b : Nat} {u : Bool} {v : Value} {g : Grp}
theorem wor_keeps {p : Nat × Obj} {fs : List Grp} {w w' : World} {x : Nat} {G : List Grp} (h : Wor σ (G ++ fs) w) (hp : p ∈ G.flatten) (hx : x = p.1) (k : Keeps x w w') : Wor σ ([] ++ fs) w' := by
  subst hx
  obtain ⟨k1, k2, k3, k4⟩ := k
  have hn := h.nodup
  rw [List.flatten_append, List.map_append] at hn
  refine ⟨k1.trans h.os, k2.trans h.tape, k3.trans h.output, fun k o hk => k4 k o (fun e => ?_) (h.imm k o hk), fun c hc => k4 _ _ (fun e => ?_) (h.has c (by simp at hc ⊢; exact .inr hc)), ?_, fun c hc => h.apart c (by simp at hc ⊢; exact .inr hc)⟩
  · have := h.apart p (by rw [List.flatten_append]; exact List.mem_append_left _ hp)
    rw [← e, hk] at this; cases this
  · exact (List.nodup_append.1 hn).2.2 _ (List.mem_map_of_mem hp) _ (List.mem_map_of_mem hc) e.symm
  · simpa using (List.nodup_append.1 hn).2.1
/-- (*strings.Builder).String: the builder is used no more behind it. -/
theorem string_does (L : Lays.n169 P ρ) (X : Builder.Extra P ρ) {xs : List Int} (hx : ∀ x ∈ xs, IntOk .u8 x) (ho : Ow (kI .u8) (ρ.t 5) σ v xs g) :
    Does P (ρ.f 169) [.pointer (some ⟨b, 0, none⟩)] σ [[(b, .cells #[bself b u, v] (ρ.t 72) (0, 0))], g] (fun r _ gs => gs = [] ∧ .string (bstr xs) = r) := by
  intro fs w hw cs
  have hb : w.heap[b]? = some (.cells #[bself b u, v] (ρ.t 72) (0, 0)) := hw.has (b, _) (by simp)
  obtain ⟨cells, ⟨hcl, hv⟩, hm⟩ := ho
  have hc := many_int hm
  have done : ∀ {l : List UInt8} {x : Nat} {p : Nat × Obj}, (⟨l.toArray⟩ : ByteArray) = bstr xs → p ∈ ([[(b, Obj.cells #[bself b u, v] (ρ.t 72) (0, 0))], g] : List Grp).flatten → x = p.1 → Calls P (ρ.f 169) #[.pointer (some ⟨b, 0, none⟩)] w (fun e w' => e = .returned (.string ⟨l.toArray⟩) ∧ Keeps x w w') →
      ∃ v w' fr' σ' gs', (gs' = [] ∧ Value.string (bstr xs) = v) ∧ σ.Le σ' ∧ Wor σ' (gs' ++ fs) w' ∧ Steps P (lone (Frame.enter P (ρ.f 169) [.pointer (some ⟨b, 0, none⟩)].toArray .normal) cs w) (lone fr' cs w') ∧ fr'.fn = ρ.f 169 ∧ fr'.leaving P w' (.returned v) := by
    intro l x p hl hp hxp hC
    obtain ⟨e, w', fr', ⟨rfl, hk⟩, hst, hfn, hlv⟩ := hC cs
    exact ⟨_, _, fr', σ, [], ⟨rfl, by rw [hl]⟩, Sto.Le.refl _, wor_keeps hw hp hxp hk, hst, hfn, hlv⟩
  rcases hv with ⟨rfl, hn, rfl⟩ | ⟨q, cap, cur, rfl, rfl, h1, h2, h3, h4⟩
  · obtain rfl := List.eq_nil_of_length_eq_zero hn
    exact done (l := []) (p := (b, .cells #[bself b u, _] (ρ.t 72) (0, 0))) rfl List.mem_cons_self rfl (bString_nil L X b _ w hb)
  · have hg : w.heap[q]? = some (.cells cur (ρ.t 5) (0, 0)) := hw.has (q, _) (by simp)
    by_cases h0 : xs = []
    · subst h0
      by_cases hc0 : cap = 0
      · subst hc0
        exact done (l := []) (p := (b, .cells #[bself b u, _] (ρ.t 72) (0, 0))) rfl List.mem_cons_self rfl (bString_zero L X b q _ cur w hb hg)
      · exact done (l := []) (p := (b, .cells #[bself b u, _] (ρ.t 72) (0, 0))) rfl List.mem_cons_self rfl (bString_room L X b q cap _ w hc0 hb)
    · refine done (l := xs.map fun n => UInt8.ofNat n.toNat) (x := q) (p := (q, .cells cur (ρ.t 5) (0, 0))) (bstr_eq xs).symm (by simp) rfl ?_
      have e : (xs.map fun n => UInt8.ofNat n.toNat).length = xs.length := by simp
      have hsz : (kI .u8).sz = 1 := rfl
      rw [hsz, Nat.mul_one] at h3 h4
      refine bString_row L X b q cap _ cur _ w (by simpa using h0) (by rw [e]; exact hb) hg (by rw [e]; exact h1) h2 h3 ?_
      rw [e, h4, hc, List.map_map]
      refine List.map_congr_left fun x hxm => ?_
      have hk : (0 : Int) ≤ x ∧ x ≤ 255 := hx x hxm
      have h5 : (UInt8.ofNat x.toNat).toNat = x.toNat := by
        rw [UInt8.toNat_ofNat']; omega
      simp only [Function.comp_apply, h5]
      rw [Int.toNat_of_nonneg hk.1]
/-- (*strings.Builder).copyCheck. -/
theorem check_does (L : Lays.n240 P ρ) (X : Builder.X72 P ρ) : 
    Does P (ρ.f 240) [.pointer (some ⟨b, 0, none⟩)] σ [[(b, .cells #[bself b u, v] (ρ.t 72) (0, 0))], g] (fun r τ gs => τ = σ ∧ gs = [[(b, .cells #[bself b true, v] (ρ.t 72) (0, 0))], g] ∧ .tuple #[] = r) := by
  intro fs w hw cs
  have hb : w.heap[b]? = some (.cells #[bself b u, v] (ρ.t 72) (0, 0)) := hw.has (b, _) (by simp)
  have h0 : w.cell? ⟨b, 0, none⟩ = some (bself b u) := by rw [Lib.cell_of_heap hb]; rfl
  cases u with
  | true =>
    obtain ⟨e, w', fr', ⟨rfl, rfl⟩, hst, hfn, hl⟩ := Any.Builder_copyCheck_used L X b w h0 cs
    exact ⟨_, _, fr', σ, _, ⟨rfl, rfl, rfl⟩, Sto.Le.refl _, hw, hst, hfn, hl⟩
  | false =>
    have hsh : w.shape? b = some ((ρ.t 72), 2) := by simp [World.shape?, hb]
    have hfz : w.frozen? ⟨b, 0, none⟩ = false := Lib.frozen_of_heap hb 0
    obtain ⟨e, w', fr', ⟨rfl, rfl⟩, hst, hfn, hl⟩ := Any.Builder_copyCheck_fresh L X b w h0 hsh hfz cs
    refine ⟨_, _, fr', σ, _, ⟨rfl, rfl, rfl⟩, Sto.Le.refl _, ?_, hst, hfn, hl⟩
    refine hw.turn (g := []) rfl rfl rfl ?_ (fun k hk => ?_)
    · simp [World.setCell, Array.getElem?_modify, hb, bself]
    · simp only [World.setCell, Array.getElem?_modify]; rw [if_neg (fun e => hk e.symm)]
end
end Go.Eng
