import Derived.Test.YtonmgcebhhdplabGreatDoorEngC
import Derived.Orders
/-! The engine, part D: a region that draws its order. -/
namespace Go.Eng
open Go

def AllB (p : Nat → Prop) : Nat → Prop
 | 0 => True
 | m + 1 => AllB p m ∧ p m
theorem AllB.at_ {p : Nat → Prop} : ∀ {m : Nat}, AllB p m → ∀ i, i < m → p i
 | 0, _, i, h => by omega
 | m + 1, h, i, hi => by
  by_cases e : i = m
  ·subst e; exact h.2
  ·exact h.1.at_ i (by omega)

theorem beq_no {a b : Nat} (h : a ≠ b) : Nat.beq a b = false := by
 cases hb : Nat.beq a b with
 | true => exact absurd (Nat.eq_of_beq_eq_true hb) h
 | false => rfl
theorem flatMap_same {α β : Type} {l : List α} {f g : α → List β} (h : ∀ x ∈ l, f x = g x) : l.flatMap f = l.flatMap g := by
 induction l with
 | nil => rfl
 | cons x xs ih => rw [List.flatMap_cons, List.flatMap_cons, h x List.mem_cons_self, ih fun y hy => h y (List.mem_cons_of_mem _ hy)]

def dstOf (ops : Array Oper) (i : Nat) : Nat := ((ops[i]?).bind (·.dst)).getD 0
def dstsOf (ops : Array Oper) (m : Nat) : List Nat := (List.range m).map (dstOf ops)
def isDep (ops : Array Oper) (i j : Nat) : Bool := match ops[i]? with
 | some o => o.after.toList.any fun e => Region.binds .any e && e.on == j
 | none => false
def drawOk (ops : Array Oper) (m : Nat) : Bool :=
 Nat.ble m ops.size &&
 ((List.range ops.size).all fun i => match ops[i]? with
  | some o => (o.after.toList.all fun e => !Region.binds .any e || Nat.blt e.on i) && (Nat.blt i m || ((List.range i).all fun j => isDep ops i j) || (Nat.blt m i && isDep ops i (i - 1))) && (Nat.ble m i || o.dst.isSome)
  | none => true) &&
 ((List.range m).all fun i => (List.range m).all fun j => i == j || dstOf ops i != dstOf ops j)

section
variable {ops : Array Oper} {m : Nat}
theorem drawOk_size (h : drawOk ops m = true) : m ≤ ops.size := by
 simp only [drawOk, Bool.and_eq_true] at h; exact Nat.le_of_ble_eq_true h.1.1
theorem drawOk_at (h : drawOk ops m = true) {i : Nat} {o : Oper} (ho : ops[i]? = some o) :
    (∀ e ∈ o.after.toList, Region.binds .any e = true → e.on < i) ∧ (m ≤ i → (∀ j, j < i → isDep ops i j = true) ∨ (m < i ∧ isDep ops i (i - 1) = true)) ∧ (i < m → ∃ d, o.dst = some d) := by
  simp only [drawOk, Bool.and_eq_true, List.all_eq_true, List.mem_range] at h
  have hi := (Array.getElem?_eq_some_iff.1 ho).1
  have := h.1.2 i hi
  rw [ho] at this
  simp only [Bool.and_eq_true, Bool.or_eq_true, List.all_eq_true, List.mem_range, Bool.not_eq_true'] at this
  refine ⟨fun e he hb => ?_, fun hm => ?_, fun hm => ?_⟩
  · rcases this.1.1 e he with h1 | h1
    · rw [h1] at hb; cases hb
    · simp only [Nat.blt, Nat.ble_eq] at h1; exact h1
  · rcases this.1.2 with (h1 | h1) | h1
    · simp only [Nat.blt, Nat.ble_eq] at h1; omega
    · exact .inl h1
    · simp only [Nat.blt, Nat.ble_eq] at h1; exact .inr ⟨h1.1, h1.2⟩
  · rcases this.2 with h1 | h1
    · simp only [Nat.ble_eq] at h1; omega
    · exact Option.isSome_iff_exists.1 h1
theorem drawOk_apart (h : drawOk ops m = true) {i j : Nat} (hi : i < m) (hj : j < m) (hne : i ≠ j) : dstOf ops i ≠ dstOf ops j := by
 simp only [drawOk, Bool.and_eq_true, List.all_eq_true, List.mem_range] at h
 have := h.2 i hi j hj
 simpa [hne] using this

theorem mem_ready {listed : Array Bool} {i : Nat} : i ∈ Region.ready .any ops listed ↔ i < ops.size ∧ listed.getD i true = false ∧ ∃ o, ops[i]? = some o ∧ ∀ e ∈ o.after.toList, Region.binds .any e = true → listed.getD e.on false = true := by
 simp only [Region.ready, List.mem_filter, List.mem_range, Bool.and_eq_true, Bool.not_eq_true']
 constructor
 ·rintro ⟨h1, h2, h3⟩
  refine ⟨h1, h2, ?_⟩
  cases ho : ops[i]? with
  | none => rw [ho] at h3; simp at h3
  | some o =>
   rw [ho] at h3
   simp only [Option.map_some, Option.getD_some] at h3
   refine ⟨o, rfl, fun e he hb => ?_⟩
   have := Array.all_eq_true_iff_forall_mem.1 h3 e (by simpa using he)
   simpa [hb] using this
 ·rintro ⟨h1, h2, o, ho, h3⟩
  refine ⟨h1, h2, ?_⟩
  rw [ho]
  simp only [Option.map_some, Option.getD_some]
  refine Array.all_eq_true_iff_forall_mem.2 fun e he => ?_
  by_cases hb : Region.binds .any e = true
  ·simp [h3 e (by simpa using he) hb]
  ·simp [hb]

theorem go_step {fuel t : Nat} {listed : Array Bool} : Region.linearise.go .any ops (fuel + 1) t listed [] =
    match (Region.ready .any ops listed)[t % (Region.ready .any ops listed).length]? with
    | some i => i :: Region.linearise.go .any ops fuel (t / (Region.ready .any ops listed).length) (listed.setIfInBounds i true) []
    | none => [] := by
  rw [show Region.linearise.go .any ops (fuel + 1) t listed [] = match (Region.ready .any ops listed)[t % (Region.ready .any ops listed).length]? with
    | some i => Region.linearise.go .any ops fuel (t / (Region.ready .any ops listed).length) (listed.setIfInBounds i true) [i]
    | none => [].reverse from rfl]
  cases (Region.ready .any ops listed)[t % (Region.ready .any ops listed).length]? with
  | none => rfl
  | some i => simp only; rw [linearise_go_acc]; rfl

theorem ready_pick {listed : Array Bool} (t : Nat) (h : Region.ready .any ops listed ≠ []) : ∃ i, i ∈ Region.ready .any ops listed ∧ (Region.ready .any ops listed)[t % (Region.ready .any ops listed).length]? = some i := by
 have hl : 0 < (Region.ready .any ops listed).length := List.length_pos_iff.2 h
 have hlt := Nat.mod_lt t hl
 exact ⟨_, List.getElem_mem hlt, List.getElem?_eq_getElem hlt⟩

theorem go_tail (hok : drawOk ops m = true) : ∀ (r i t : Nat) (listed : Array Bool), m ≤ i → i + r = ops.size → listed.size = ops.size → (∀ j, j < i → listed.getD j false = true) → (∀ j, i ≤ j → j < ops.size → listed.getD j true = false) →
    Region.linearise.go .any ops r t listed [] = List.range' i r := by
  intro r
  induction r with
  | zero => intro i t listed _ _ _ _ _; rfl
  | succ r ih =>
    intro i t listed hm hir hsz h1 h2
    have hi : i < ops.size := by omega
    have hready : ∀ j, j ∈ Region.ready .any ops listed ↔ j = i := by
      intro j
      rw [mem_ready]
      constructor
      · rintro ⟨hj, hl, o, ho, hd⟩
        by_cases e : j < i
        · have := h1 j e
          have h3 : listed.getD j true = listed.getD j false := by
            simp only [Array.getD_eq_getD_getElem?]; rw [Array.getElem?_eq_getElem (by omega)]; rfl
          rw [h3, this] at hl; cases hl
        · by_cases e2 : j = i
          · exact e2
          · have hdep : ∃ q, i ≤ q ∧ q < j ∧ isDep ops j q = true := by
              rcases (drawOk_at hok ho).2.1 (by omega) with h | ⟨h, h'⟩
              · exact ⟨i, Nat.le_refl _, by omega, h i (by omega)⟩
              · exact ⟨j - 1, by omega, by omega, h'⟩
            obtain ⟨q, hq1, hq2, hdep⟩ := hdep
            simp only [isDep, ho, List.any_eq_true, Bool.and_eq_true, beq_iff_eq] at hdep
            obtain ⟨e', he', hb, rfl⟩ := hdep
            have h4 := hd e' he' hb
            have h5 := h2 e'.on hq1 (by omega)
            have h3 : listed.getD e'.on true = listed.getD e'.on false := by
              simp only [Array.getD_eq_getD_getElem?]; rw [Array.getElem?_eq_getElem (by omega)]; rfl
            rw [h3, h4] at h5; cases h5
      · rintro rfl
        refine ⟨hi, h2 j (Nat.le_refl _) hi, ops[j], Array.getElem?_eq_getElem hi, fun e he hb => h1 _ ((drawOk_at hok (Array.getElem?_eq_getElem hi)).1 e he hb)⟩
    have hne : Region.ready .any ops listed ≠ [] := by
      intro e; have := (hready i).2 rfl; rw [e] at this; cases this
    obtain ⟨j, hj, hp⟩ := ready_pick t hne
    obtain rfl := (hready j).1 hj
    rw [go_step, hp]
    simp only
    rw [ih (j + 1) _ _ (by omega) (by omega) (by simp [hsz]) ?_ ?_]
    · rw [List.range'_succ]
    · intro k hk
      simp only [Array.getD_eq_getD_getElem?]
      by_cases e : k = j
      · subst e; simp [hsz, hi]
      · rw [Array.getElem?_setIfInBounds_ne (Ne.symm e)]
        have := h1 k (by omega)
        simpa [Array.getD_eq_getD_getElem?] using this
    · intro k hk hks
      simp only [Array.getD_eq_getD_getElem?]
      rw [Array.getElem?_setIfInBounds_ne (by omega)]
      have := h2 k (by omega) hks
      simpa [Array.getD_eq_getD_getElem?] using this
end

theorem st_draw {P : Program} {n : Nat} {c : Ctx P n} {ρ : Env} {σ : Sto} {gs : List Grp} {k : List Item} {id : Nat} {ops : Array Oper} (m : Nat) (T : Nat → Sto → Value → Prop) (G : Nat → Value → Grp)
    (hmix : P.follows .mixedOrders = true) (hok : drawOk ops m = true) (hT : ∀ i σ σ' v, σ.Le σ' → T i σ v → T i σ' v)
    (hstep : AllB (fun i => ∀ ρ' σ' pool rest, σ.Le σ' → (∀ j, isDep ops i j = true → ∃ v, look ρ' (dstOf ops j) = some v ∧ T j σ' v) → (∀ t, (dstsOf ops m).contains t = false → look ρ' t = look ρ t) →
      (∀ v σ'', σ'.Le σ'' → T i σ'' v → St c (put ρ' (some (dstOf ops i)) v) σ'' (G i v :: (gs ++ [pool])) (.inRegion ops rest :: k)) → St c ρ' σ' (gs ++ [pool]) (.inRegion ops (i :: rest) :: k)) m)
    (hfin : ∀ (ρ' : Env) (σ' : Sto) (vals : Nat → Value), σ.Le σ' → (∀ j, j < m → look ρ' (dstOf ops j) = some (vals j) ∧ T j σ' (vals j)) → (∀ t, (dstsOf ops m).contains t = false → look ρ' t = look ρ t) →
      St c ρ' σ' (gs ++ [(List.range m).flatMap fun j => G j (vals j)]) (.inRegion ops (List.range' m (ops.size - m)) :: k)) :
    St c ρ σ gs (.code (.region id ops true) :: k) := by
  have hmn := drawOk_size hok
  have key : ∀ (fuel t : Nat) (listed : Array Bool) (ρ' : Env) (σ' : Sto) (pool : Grp) (vals : Nat → Value), listed.size = ops.size → ((List.range ops.size).filter fun j => !listed.getD j true).length = fuel → (∀ j, m ≤ j → j < ops.size → listed.getD j true = false) → σ.Le σ' →
      (∀ j, j < m → listed.getD j false = true → look ρ' (dstOf ops j) = some (vals j) ∧ T j σ' (vals j)) → (∀ t, (dstsOf ops m).contains t = false → look ρ' t = look ρ t) →
      pool.Perm ((List.range m).flatMap fun j => if listed.getD j false then G j (vals j) else []) → St c ρ' σ' (gs ++ [pool]) (.inRegion ops (Region.linearise.go .any ops fuel t listed []) :: k) := by
    intro fuel
    induction fuel with
    | zero =>
      intro t listed ρ' σ' pool vals hsz hcnt htail hle hvals hout hpool
      have hall : ∀ j, j < ops.size → listed.getD j false = true := by
        intro j hj
        have := List.filter_eq_nil_iff.1 (List.eq_nil_of_length_eq_zero hcnt) j (List.mem_range.2 hj)
        have h3 : listed.getD j true = listed.getD j false := by
          simp only [Array.getD_eq_getD_getElem?]; rw [Array.getElem?_eq_getElem (by omega)]; rfl
        simpa [h3] using this
      have hm : m = ops.size := by
        by_cases e : m < ops.size
        · have h1 := htail m (Nat.le_refl _) e
          have h2 := hall m e
          have h3 : listed.getD m true = listed.getD m false := by
            simp only [Array.getD_eq_getD_getElem?]; rw [Array.getElem?_eq_getElem (by omega)]; rfl
          rw [h3, h2] at h1; cases h1
        · omega
      have hf := hfin ρ' σ' vals hle (fun j hj => hvals j hj (hall j (by omega))) hout
      rw [show ops.size - m = 0 by omega] at hf
      refine st_perm ?_ hf
      simp only [List.flatten_append, List.flatten_cons, List.flatten_nil, List.append_nil]
      refine List.Perm.append_left _ (hpool.trans ?_)
      exact List.Perm.of_eq (flatMap_same fun j hj => by rw [if_pos (hall j (by have := List.mem_range.1 hj; omega))])
    | succ fuel ih =>
      intro t listed ρ' σ' pool vals hsz hcnt htail hle hvals hout hpool
      have hsame : ∀ j, j < ops.size → listed.getD j true = listed.getD j false := fun j hj => by
        simp only [Array.getD_eq_getD_getElem?]; rw [Array.getElem?_eq_getElem (by omega)]; rfl
      by_cases hbody : ∀ j, j < m → listed.getD j false = true
      · -- all of the body has been carried out: the rest is forced
        have hlen : fuel + 1 = ops.size - m := by
          rw [← hcnt]
          have h1 : ((List.range ops.size).filter fun j => !listed.getD j true) = (List.range ops.size).filter fun j => decide (m ≤ j) := by
            refine List.filter_congr fun j hj => ?_
            have hj := List.mem_range.1 hj
            by_cases e : m ≤ j
            · simp [htail j e hj, e]
            · rw [hsame j hj, hbody j (by omega)]; simp [e]
          rw [h1]
          have h2 : List.range ops.size = List.range m ++ List.range' m (ops.size - m) := by
            rw [List.range_eq_range', List.range_eq_range']
            have h9 := List.range'_append_1 (s := 0) (m := m) (n := ops.size - m)
            rw [Nat.zero_add] at h9
            rw [h9]; congr 1; omega
          rw [h2, List.filter_append]
          have h3 : (List.range m).filter (fun j => decide (m ≤ j)) = [] := by
            rw [List.filter_eq_nil_iff]; intro j hj; have := List.mem_range.1 hj; simp; omega
          have h4 : (List.range' m (ops.size - m)).filter (fun j => decide (m ≤ j)) = List.range' m (ops.size - m) := by
            rw [List.filter_eq_self]; intro j hj; have := (List.mem_range'_1.1 hj).1; simpa using this
          rw [h3, h4]; simp
        rw [hlen, go_tail hok (ops.size - m) m t listed (Nat.le_refl _) (by omega) hsz hbody htail]
        have hf := hfin ρ' σ' vals hle (fun j hj => hvals j hj (hbody j hj)) hout
        refine st_perm ?_ hf
        simp only [List.flatten_append, List.flatten_cons, List.flatten_nil, List.append_nil]
        refine List.Perm.append_left _ (hpool.trans ?_)
        exact List.Perm.of_eq (flatMap_same fun j hj => by rw [if_pos (hbody j (List.mem_range.1 hj))])
      · -- some of the body lacks: one of it is next
        have hlacks : ∃ j, j < m ∧ listed.getD j false = false := by
          by_cases e : ∃ j, j < m ∧ listed.getD j false = false
          · exact e
          · refine absurd (fun j hj => ?_) hbody
            cases hb : listed.getD j false with
            | true => rfl
            | false => exact absurd ⟨j, hj, hb⟩ e
        have hready : ∀ j, j ∈ Region.ready .any ops listed → j < m := by
          intro j hj
          obtain ⟨hjs, hl, o, ho, hd⟩ := mem_ready.1 hj
          by_cases e : j < m
          · exact e
          · obtain ⟨q, hq, hql⟩ := hlacks
            rcases (drawOk_at hok ho).2.1 (by omega) with hdep | ⟨hm1, hdep⟩
            · have hdep := hdep q (by omega)
              simp only [isDep, ho, List.any_eq_true, Bool.and_eq_true, beq_iff_eq] at hdep
              obtain ⟨e', he', hb, rfl⟩ := hdep
              rw [hd e' he' hb] at hql; cases hql
            · simp only [isDep, ho, List.any_eq_true, Bool.and_eq_true, beq_iff_eq] at hdep
              obtain ⟨e', he', hb, he1⟩ := hdep
              have h4 := hd e' he' hb
              have h5 := htail (j - 1) (by omega) (by omega)
              have h3 : listed.getD (j - 1) true = listed.getD (j - 1) false := by
                simp only [Array.getD_eq_getD_getElem?]; rw [Array.getElem?_eq_getElem (by omega)]; rfl
              rw [he1] at h4; rw [h3, h4] at h5; cases h5
        have hne : Region.ready .any ops listed ≠ [] := by
          -- the least that lacks is ready
          have hmin : ∃ j, j < m ∧ listed.getD j false = false ∧ ∀ q, q < j → listed.getD q false = true := by
            obtain ⟨j, hj, hjl⟩ := hlacks
            induction j using Nat.strongRecOn with
            | _ j ihj =>
              by_cases e : ∃ q, q < j ∧ listed.getD q false = false
              · obtain ⟨q, hq, hql⟩ := e
                exact ihj q hq (by omega) hql
              · refine ⟨j, hj, hjl, fun q hq => ?_⟩
                cases hb : listed.getD q false with
                | true => rfl
                | false => exact absurd ⟨q, hq, hb⟩ e
          obtain ⟨j, hj, hjl, hlt⟩ := hmin
          have hjs : j < ops.size := by omega
          have : j ∈ Region.ready .any ops listed := mem_ready.2 ⟨hjs, by rw [hsame j hjs, hjl], ops[j], Array.getElem?_eq_getElem hjs, fun e he hb => hlt _ ((drawOk_at hok (Array.getElem?_eq_getElem hjs)).1 e he hb)⟩
          intro e; rw [e] at this; cases this
        obtain ⟨i, hi, hp⟩ := ready_pick t hne
        have him := hready i hi
        obtain ⟨his, hil, o, ho, hd⟩ := mem_ready.1 hi
        rw [go_step, hp]
        simp only
        refine hstep.at_ i him ρ' σ' pool _ hle (fun j hj => ?_) hout (fun v σ'' hle2 hTv => ?_)
        · simp only [isDep, ho, List.any_eq_true, Bool.and_eq_true, beq_iff_eq] at hj
          obtain ⟨e, he, hb, rfl⟩ := hj
          have h1 := hd e he hb
          have h2 := (drawOk_at hok ho).1 e he hb
          obtain ⟨h3, h4⟩ := hvals e.on (by omega) h1
          exact ⟨_, h3, h4⟩
        · have hset : ∀ j, (listed.setIfInBounds i true).getD j false = if j = i then true else listed.getD j false := by
            intro j
            simp only [Array.getD_eq_getD_getElem?]
            by_cases e : j = i
            · subst e; simp [hsz, his]
            · rw [Array.getElem?_setIfInBounds_ne (Ne.symm e), if_neg e]
          have hset2 : ∀ j, j ≠ i → (listed.setIfInBounds i true).getD j true = listed.getD j true := by
            intro j e
            simp only [Array.getD_eq_getD_getElem?]
            rw [Array.getElem?_setIfInBounds_ne (Ne.symm e)]
          have := ih (t / (Region.ready .any ops listed).length) (listed.setIfInBounds i true) (put ρ' (some (dstOf ops i)) v) σ'' (G i v ++ pool) (fun j => if j = i then v else vals j) (by simp [hsz]) ?_ ?_ (hle.trans hle2) ?_ ?_ ?_
          · refine st_perm ?_ this
            simp only [List.flatten_append, List.flatten_cons, List.flatten_nil, List.append_nil]
            exact perm_mid _ _ _
          · -- one fewer lacks
            have h1 : ((List.range ops.size).filter fun j => !(listed.setIfInBounds i true).getD j true) = ((List.range ops.size).filter fun j => !listed.getD j true).filter fun j => decide (j ≠ i) := by
              rw [List.filter_filter]
              refine List.filter_congr fun j hj => ?_
              have hj := List.mem_range.1 hj
              by_cases e : j = i
              · subst e
                have : (listed.setIfInBounds j true).getD j true = true := by simp [Array.getD_eq_getD_getElem?, hsz, hj]
                simp [this]
              · rw [hset2 j e]; simp [e]
            rw [h1]
            have h2 : i ∈ (List.range ops.size).filter fun j => !listed.getD j true := List.mem_filter.2 ⟨List.mem_range.2 his, by rw [hil]; rfl⟩
            have hnd : ((List.range ops.size).filter fun j => !listed.getD j true).Nodup := List.nodup_range.filter _
            generalize ((List.range ops.size).filter fun j => !listed.getD j true) = L at *
            have : L.filter (fun j => decide (j ≠ i)) = L.erase i := by
              rw [hnd.erase_eq_filter]
              refine List.filter_congr fun j _ => ?_
              by_cases e : j = i <;> simp [e]
            rw [this, List.length_erase_of_mem h2]; omega
          · intro j hj hjs
            rw [hset2 j (by omega)]; exact htail j hj hjs
          · intro j hj hl
            rw [hset] at hl
            by_cases e : j = i
            · subst e
              simp only [if_true]
              refine ⟨by simp [put, look], hTv⟩
            · rw [if_neg e] at hl
              obtain ⟨h1, h2⟩ := hvals j hj hl
              have hne2 := drawOk_apart hok hj him e
              simp only [if_neg e]
              refine ⟨?_, hT _ _ _ _ hle2 h2⟩
              simp only [put, look]
              rw [beq_no hne2]
              exact h1
          · intro t ht
            have hne2 : t ≠ dstOf ops i := by
              rintro rfl
              have : (dstsOf ops m).contains (dstOf ops i) = true := by
                simp only [List.contains_eq_mem, dstsOf, List.mem_map, List.mem_range, decide_eq_true_eq]; exact ⟨i, him, rfl⟩
              rw [this] at ht; cases ht
            simp only [put, look]
            rw [beq_no hne2]
            exact hout t ht
          · -- the blocks
            have hi0 : listed.getD i false = false := by rw [← hsame i his]; exact hil
            have h1 : ∀ (l : List Nat), l.Nodup → i ∈ l → (G i v ++ l.flatMap fun j => if listed.getD j false then G j (vals j) else []).Perm (l.flatMap fun j => if (listed.setIfInBounds i true).getD j false then G j (if j = i then v else vals j) else []) := by
              intro l
              induction l with
              | nil => intro _ h; cases h
              | cons x xs ihx =>
                intro hnd hmem
                simp only [List.flatMap_cons]
                by_cases e : x = i
                · subst e
                  rw [hset, if_pos rfl, if_pos rfl, if_pos rfl, hi0, if_neg (by simp)]
                  simp only [List.nil_append]
                  refine List.Perm.append_left _ (List.Perm.of_eq ?_)
                  refine flatMap_same fun j hj => ?_
                  have hne3 : j ≠ x := by rintro rfl; exact (List.nodup_cons.1 hnd).1 hj
                  rw [hset, if_neg hne3, if_neg hne3]
                · rw [hset, if_neg e, if_neg e]
                  refine (perm_mid _ _ _).trans (List.Perm.append_left _ ?_)
                  refine ihx (List.nodup_cons.1 hnd).2 ?_
                  rcases List.mem_cons.1 hmem with h | h
                  · exact absurd h.symm e
                  · exact h
            exact (List.Perm.append_left _ hpool).trans (h1 _ List.nodup_range (List.mem_range.2 him))
  intro ds a w ha hw
  have h0 := key ops.size (w.tape w.drawn (.order c.b.fn id)) (Array.replicate ops.size false) ρ σ [] (fun _ => undef) (by simp) (by
      rw [List.filter_eq_self.2]
      · simp
      · intro j hj; have := List.mem_range.1 hj; simp [Array.getD_eq_getD_getElem?, this]) (by
      intro j _ hj; simp [Array.getD_eq_getD_getElem?, hj]) (Sto.Le.refl σ) (by
      intro j _ hl
      have : (Array.replicate ops.size false).getD j false = false := by
        simp only [Array.getD_eq_getD_getElem?, Array.getElem?_replicate]; split <;> rfl
      rw [this] at hl; cases hl) (fun _ _ => rfl) (by
      rw [List.flatMap_eq_nil_iff.2]
      intro j hj
      have : (Array.replicate ops.size false).getD j false = false := by
        simp only [Array.getD_eq_getD_getElem?, Array.getElem?_replicate]; split <;> rfl
      rw [this]; rfl)
  have hs := stepR_region_draw (P := P) (b := c.b) (a := a) (k := k) (cs := c.cs) (w := w) (ops := ops) (id := id)
  have hsch : Region.schedule (P.follows .mixedOrders) ops (w.tape w.drawn (.order c.b.fn id)) = Region.linearise.go .any ops ops.size (w.tape w.drawn (.order c.b.fn id)) (Array.replicate ops.size false) [] := by
    simp only [Region.schedule, hmix, Bool.true_or, if_true]; rfl
  rw [hsch] at hs
  obtain ⟨m', h1, h2⟩ := h0 ds a { w with drawn := w.drawn + 1 } ha ((hw.drawn (w.drawn + 1)).sub (by simp only [List.flatten_append, List.flatten_cons, List.flatten_nil, List.append_nil]; exact List.Sublist.refl _))
  exact ⟨m', .head hs h1, h2⟩
end Go.Eng
