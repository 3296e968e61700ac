import Derived.Test.YtnlghjmngfgmcabGreatDoorEngJ
import Derived.ChangeKeysEq
/-! The engine, part K: a region that draws its order and turns what is held. -/
namespace Go.Eng
open Go

/-- Operations that stand in one row, each hanging on the one ahead: their places in the row. -/
def rowOk (ops : Array Oper) (m S : Nat) (sp : Nat → Option Nat) : Bool :=
  ((List.range m).all fun i => match sp i with
    | some r => Nat.blt r S && (r == 0 || (List.range m).any fun j => sp j == some (r - 1) && isDep ops i j)
    | none => true) &&
  ((List.range m).all fun i => (List.range m).all fun j => match sp i, sp j with
    | some r, some r' => r != r' || i == j
    | _, _ => true) && Nat.blt 0 S && ((List.range m).any fun i => sp i == some (S - 1))
theorem rowOk_parts {ops : Array Oper} {m S : Nat} {sp : Nat → Option Nat} (h : rowOk ops m S sp = true) :
    (∀ i r, i < m → sp i = some r → r < S ∧ (r = 0 ∨ ∃ j, j < m ∧ sp j = some (r - 1) ∧ isDep ops i j = true)) ∧ (∀ i j r, i < m → j < m → sp i = some r → sp j = some r → i = j) ∧ 0 < S ∧ ∃ i, i < m ∧ sp i = some (S - 1) := by
  simp only [rowOk, Bool.and_eq_true, List.all_eq_true, List.mem_range, List.any_eq_true, beq_iff_eq] at h
  obtain ⟨⟨⟨h1, h2⟩, h3⟩, i0, hi0, hs0⟩ := h
  refine ⟨fun i r hi hr => ?_, fun i j r hi hj hr hr' => ?_, Nat.le_of_ble_eq_true h3, i0, hi0, hs0⟩
  · have := h1 i hi
    rw [hr] at this
    simp only [Bool.and_eq_true, Bool.or_eq_true, beq_iff_eq, List.any_eq_true, List.mem_range] at this
    refine ⟨by have := Nat.le_of_ble_eq_true this.1; omega, ?_⟩
    rcases this.2 with h4 | ⟨j, hj, h4, h5⟩
    · exact .inl h4
    · exact .inr ⟨j, hj, h4, h5⟩
  · have := h2 i hi j hj
    rw [hr, hr'] at this
    simpa using this

/-- **The same where some operations, in a row, turn what is held**: I tells of the memory behind each of them. -/
theorem st_draw2 {P : Program} {n : Nat} {c : Ctx P n} {ρ : Env} {σ : Sto} {gs F0 : List Grp} {k : List Item} {id : Nat} {ops : Array Oper} (m : Nat) (S : Nat) (sp : Nat → Option Nat) (sd : Nat → Nat) (T : Nat → Sto → Value → Prop) (I : Nat → Sto → Value → List Grp → Prop)
    (hmix : P.follows .mixedOrders = true) (hok : drawOk ops m = true) (hT : ∀ i σ σ' v, σ.Le σ' → T i σ v → T i σ' v)
    (hI : ∀ s σ σ' v F, σ.Le σ' → I s σ v F → I s σ' v F) (hrow : rowOk ops m S sp = true) (hsd : ∀ i r, i < m → sp i = some r → sd (r + 1) = dstOf ops i) (hI0 : I 0 σ undef F0)
    (hstep : AllB (fun i => match sp i with
      | none => ∀ ρ' σ' F rest, σ.Le σ' → (∀ j, isDep ops i j = true → ∃ v, look ρ' (dstOf ops j) = some v ∧ T j σ' v) → (∀ t, (dstsOf ops m).contains t = false → look ρ' t = look ρ t) →
        (∀ v σ'', σ'.Le σ'' → T i σ'' v → St c (put ρ' (some (dstOf ops i)) v) σ'' (gs ++ F) (.inRegion ops rest :: k)) → St c ρ' σ' (gs ++ F) (.inRegion ops (i :: rest) :: k)
      | some r => ∀ ρ' σ' u F rest, σ.Le σ' → I r σ' u F → (r ≠ 0 → look ρ' (sd r) = some u) → (∀ j, isDep ops i j = true → ∃ v, look ρ' (dstOf ops j) = some v ∧ T j σ' v) → (∀ t, (dstsOf ops m).contains t = false → look ρ' t = look ρ t) →
        (∀ v σ'' F', σ'.Le σ'' → T i σ'' v → I (r + 1) σ'' v F' → St c (put ρ' (some (dstOf ops i)) v) σ'' (gs ++ F') (.inRegion ops rest :: k)) → St c ρ' σ' (gs ++ F) (.inRegion ops (i :: rest) :: k)) m)
    (hfin : ∀ (ρ' : Env) (σ' : Sto) (vals : Nat → Value) (u : Value) (F : List Grp), σ.Le σ' → I S σ' u F → look ρ' (sd S) = some u → (∀ j, j < m → look ρ' (dstOf ops j) = some (vals j) ∧ T j σ' (vals j)) → (∀ t, (dstsOf ops m).contains t = false → look ρ' t = look ρ t) →
      St c ρ' σ' (gs ++ F) (.inRegion ops (List.range' m (ops.size - m)) :: k)) :
    St c ρ σ (gs ++ F0) (.code (.region id ops true) :: k) := by
  obtain ⟨hr1, hr2, hr3, top, htop, hstop⟩ := rowOk_parts hrow
  have hmn := drawOk_size hok
  have key : ∀ (fuel t : Nat) (listed : Array Bool) (ρ' : Env) (σ' : Sto) (s : Nat) (u : Value) (F : List Grp) (vals : Nat → Value), listed.size = ops.size → ((List.range ops.size).filter fun j => !listed.getD j true).length = fuel → (∀ j, m ≤ j → j < ops.size → listed.getD j true = false) → σ.Le σ' →
      (∀ j, j < m → listed.getD j false = true → look ρ' (dstOf ops j) = some (vals j) ∧ T j σ' (vals j)) → (∀ t, (dstsOf ops m).contains t = false → look ρ' t = look ρ t) →
      I s σ' u F → (s ≠ 0 → look ρ' (sd s) = some u) → s ≤ S → (∀ i r, i < m → sp i = some r → (listed.getD i false = true ↔ r < s)) → St c ρ' σ' (gs ++ F) (.inRegion ops (Region.linearise.go .any ops fuel t listed []) :: k) := by
    intro fuel
    induction fuel with
    | zero =>
      intro t listed ρ' σ' s u F vals hsz hcnt htail hle hvals hout hIs hus hsS hrow2
      have hall : ∀ j, j < ops.size → listed.getD j false = true := by
        intro j hj
        have := List.filter_eq_nil_iff.1 (List.eq_nil_of_length_eq_zero hcnt) j (List.mem_range.2 hj)
        have h3 : listed.getD j true = listed.getD j false := by
          simp only [Array.getD_eq_getD_getElem?]; rw [Array.getElem?_eq_getElem (by omega)]; rfl
        simpa [h3] using this
      have hm : m = ops.size := by
        by_cases e : m < ops.size
        · have h1 := htail m (Nat.le_refl _) e
          have h2 := hall m e
          have h3 : listed.getD m true = listed.getD m false := by
            simp only [Array.getD_eq_getD_getElem?]; rw [Array.getElem?_eq_getElem (by omega)]; rfl
          rw [h3, h2] at h1; cases h1
        · omega
      have hsE : s = S := by
        have := (hrow2 top (S - 1) htop hstop).1 (hall top (by omega))
        omega
      subst hsE
      have hf := hfin ρ' σ' vals u F hle hIs (hus (by omega)) (fun j hj => hvals j hj (hall j (by omega))) hout
      rw [show ops.size - m = 0 by omega] at hf
      exact hf
    | succ fuel ih =>
      intro t listed ρ' σ' s u F vals hsz hcnt htail hle hvals hout hIs hus hsS hrow2
      have hsame : ∀ j, j < ops.size → listed.getD j true = listed.getD j false := fun j hj => by
        simp only [Array.getD_eq_getD_getElem?]; rw [Array.getElem?_eq_getElem (by omega)]; rfl
      by_cases hbody : ∀ j, j < m → listed.getD j false = true
      · -- all of the body has been carried out: the rest is forced
        have hlen : fuel + 1 = ops.size - m := by
          rw [← hcnt]
          have h1 : ((List.range ops.size).filter fun j => !listed.getD j true) = (List.range ops.size).filter fun j => decide (m ≤ j) := by
            refine List.filter_congr fun j hj => ?_
            have hj := List.mem_range.1 hj
            by_cases e : m ≤ j
            · simp [htail j e hj, e]
            · rw [hsame j hj, hbody j (by omega)]; simp [e]
          rw [h1]
          have h2 : List.range ops.size = List.range m ++ List.range' m (ops.size - m) := by
            rw [List.range_eq_range', List.range_eq_range']
            have h9 := List.range'_append_1 (s := 0) (m := m) (n := ops.size - m)
            rw [Nat.zero_add] at h9
            rw [h9]; congr 1; omega
          rw [h2, List.filter_append]
          have h3 : (List.range m).filter (fun j => decide (m ≤ j)) = [] := by
            rw [List.filter_eq_nil_iff]; intro j hj; have := List.mem_range.1 hj; simp; omega
          have h4 : (List.range' m (ops.size - m)).filter (fun j => decide (m ≤ j)) = List.range' m (ops.size - m) := by
            rw [List.filter_eq_self]; intro j hj; have := (List.mem_range'_1.1 hj).1; simpa using this
          rw [h3, h4]; simp
        rw [hlen, go_tail hok (ops.size - m) m t listed (Nat.le_refl _) (by omega) hsz hbody htail]
        have hsE : s = S := by
          have := (hrow2 top (S - 1) htop hstop).1 (hbody top htop)
          omega
        subst hsE
        exact hfin ρ' σ' vals u F hle hIs (hus (by omega)) (fun j hj => hvals j hj (hbody j hj)) hout
      · -- some of the body lacks: one of it is next
        have hlacks : ∃ j, j < m ∧ listed.getD j false = false := by
          by_cases e : ∃ j, j < m ∧ listed.getD j false = false
          · exact e
          · refine absurd (fun j hj => ?_) hbody
            cases hb : listed.getD j false with
            | true => rfl
            | false => exact absurd ⟨j, hj, hb⟩ e
        have hready : ∀ j, j ∈ Region.ready .any ops listed → j < m := by
          intro j hj
          obtain ⟨hjs, hl, o, ho, hd⟩ := mem_ready.1 hj
          by_cases e : j < m
          · exact e
          · obtain ⟨q, hq, hql⟩ := hlacks
            have hdep := (drawOk_at hok ho).2.1 (by omega) q (by omega)
            simp only [isDep, ho, List.any_eq_true, Bool.and_eq_true, beq_iff_eq] at hdep
            obtain ⟨e', he', hb, rfl⟩ := hdep
            rw [hd e' he' hb] at hql; cases hql
        have hne : Region.ready .any ops listed ≠ [] := by
          -- the least that lacks is ready
          have hmin : ∃ j, j < m ∧ listed.getD j false = false ∧ ∀ q, q < j → listed.getD q false = true := by
            obtain ⟨j, hj, hjl⟩ := hlacks
            induction j using Nat.strongRecOn with
            | _ j ihj =>
              by_cases e : ∃ q, q < j ∧ listed.getD q false = false
              · obtain ⟨q, hq, hql⟩ := e
                exact ihj q hq (by omega) hql
              · refine ⟨j, hj, hjl, fun q hq => ?_⟩
                cases hb : listed.getD q false with
                | true => rfl
                | false => exact absurd ⟨q, hq, hb⟩ e
          obtain ⟨j, hj, hjl, hlt⟩ := hmin
          have hjs : j < ops.size := by omega
          have : j ∈ Region.ready .any ops listed := mem_ready.2 ⟨hjs, by rw [hsame j hjs, hjl], ops[j], Array.getElem?_eq_getElem hjs, fun e he hb => hlt _ ((drawOk_at hok (Array.getElem?_eq_getElem hjs)).1 e he hb)⟩
          intro e; rw [e] at this; cases this
        obtain ⟨i, hi, hp⟩ := ready_pick t hne
        have him := hready i hi
        obtain ⟨his, hil, o, ho, hd⟩ := mem_ready.1 hi
        rw [go_step, hp]
        simp only
        have hdeps : ∀ j, isDep ops i j = true → ∃ v, look ρ' (dstOf ops j) = some v ∧ T j σ' v := fun j hj => by
          simp only [isDep, ho, List.any_eq_true, Bool.and_eq_true, beq_iff_eq] at hj
          obtain ⟨e, he, hb, rfl⟩ := hj
          have h1 := hd e he hb
          have h2 := (drawOk_at hok ho).1 e he hb
          obtain ⟨h3, h4⟩ := hvals e.on (by omega) h1
          exact ⟨_, h3, h4⟩
        have hset : ∀ j, (listed.setIfInBounds i true).getD j false = if j = i then true else listed.getD j false := by
          intro j
          simp only [Array.getD_eq_getD_getElem?]
          by_cases e : j = i
          · subst e; simp [hsz, his]
          · rw [Array.getElem?_setIfInBounds_ne (Ne.symm e), if_neg e]
        have hset2 : ∀ j, j ≠ i → (listed.setIfInBounds i true).getD j true = listed.getD j true := by
          intro j e
          simp only [Array.getD_eq_getD_getElem?]
          rw [Array.getElem?_setIfInBounds_ne (Ne.symm e)]
        have hi0 : listed.getD i false = false := by rw [← hsame i his]; exact hil
        have go : ∀ (v : Value) (σ'' : Sto) (s' : Nat) (u' : Value) (F' : List Grp), σ'.Le σ'' → T i σ'' v → I s' σ'' u' F' → (s' ≠ 0 → look (put ρ' (some (dstOf ops i)) v) (sd s') = some u') → s' ≤ S →
            (∀ j r, j < m → sp j = some r → ((listed.setIfInBounds i true).getD j false = true ↔ r < s')) → St c (put ρ' (some (dstOf ops i)) v) σ'' (gs ++ F') (.inRegion ops (Region.linearise.go .any ops fuel (t / (Region.ready .any ops listed).length) (listed.setIfInBounds i true) []) :: k) := by
          intro v σ'' s' u' F' hle2 hTv hI2 hus2 hs2 hrow3
          refine ih (t / (Region.ready .any ops listed).length) (listed.setIfInBounds i true) (put ρ' (some (dstOf ops i)) v) σ'' s' u' F' (fun j => if j = i then v else vals j) (by simp [hsz]) ?_ ?_ (hle.trans hle2) ?_ ?_ hI2 hus2 hs2 hrow3
          · have h1 : ((List.range ops.size).filter fun j => !(listed.setIfInBounds i true).getD j true) = ((List.range ops.size).filter fun j => !listed.getD j true).filter fun j => decide (j ≠ i) := by
              rw [List.filter_filter]
              refine List.filter_congr fun j hj => ?_
              have hj := List.mem_range.1 hj
              by_cases e : j = i
              · subst e
                have : (listed.setIfInBounds j true).getD j true = true := by simp [Array.getD_eq_getD_getElem?, hsz, hj]
                simp [this]
              · rw [hset2 j e]; simp [e]
            rw [h1]
            have h2 : i ∈ (List.range ops.size).filter fun j => !listed.getD j true := List.mem_filter.2 ⟨List.mem_range.2 his, by rw [hil]; rfl⟩
            have hnd : ((List.range ops.size).filter fun j => !listed.getD j true).Nodup := List.nodup_range.filter _
            generalize ((List.range ops.size).filter fun j => !listed.getD j true) = L at *
            have : L.filter (fun j => decide (j ≠ i)) = L.erase i := by
              rw [hnd.erase_eq_filter]
              refine List.filter_congr fun j _ => ?_
              by_cases e : j = i <;> simp [e]
            rw [this, List.length_erase_of_mem h2]; omega
          · intro j hj hjs
            rw [hset2 j (by omega)]; exact htail j hj hjs
          · intro j hj hl
            rw [hset] at hl
            by_cases e : j = i
            · subst e
              simp only [if_true]
              refine ⟨by simp [put, look], hTv⟩
            · rw [if_neg e] at hl
              obtain ⟨h1, h2⟩ := hvals j hj hl
              have hne2 := drawOk_apart hok hj him e
              simp only [if_neg e]
              refine ⟨?_, hT _ _ _ _ hle2 h2⟩
              simp only [put, look]
              rw [beq_no hne2]
              exact h1
          · intro t ht
            have hne2 : t ≠ dstOf ops i := by
              rintro rfl
              have : (dstsOf ops m).contains (dstOf ops i) = true := by
                simp only [List.contains_eq_mem, dstsOf, List.mem_map, List.mem_range, decide_eq_true_eq]; exact ⟨i, him, rfl⟩
              rw [this] at ht; cases ht
            simp only [put, look]
            rw [beq_no hne2]
            exact hout t ht
        have hst := hstep.at_ i him
        cases hspi : sp i with
        | none =>
          rw [hspi] at hst
          refine hst ρ' σ' F _ hle hdeps hout (fun v σ'' hle2 hTv => go v σ'' s u F hle2 hTv (hI _ _ _ _ _ hle2 hIs) (fun h0 => ?_) hsS (fun j r hj hr => ?_))
          · -- the row's last place is another's
            obtain ⟨j, hj, hjs⟩ : ∃ j, j < m ∧ sp j = some (s - 1) := by
              by_cases e : s = S
              · exact ⟨top, htop, by rw [e]; exact hstop⟩
              · -- go down from the top
                have down : ∀ q, q < S → ∃ j, j < m ∧ sp j = some (S - 1 - q) := by
                  intro q
                  induction q with
                  | zero => intro _; exact ⟨top, htop, by simpa using hstop⟩
                  | succ q ihq =>
                    intro hq
                    obtain ⟨j, hj, hjs⟩ := ihq (by omega)
                    rcases (hr1 j _ hj hjs).2 with h9 | ⟨j', hj', hjs', _⟩
                    · omega
                    · exact ⟨j', hj', by rw [hjs']; congr 1⟩
                obtain ⟨j, hj, hjs⟩ := down (S - s) (by omega)
                exact ⟨j, hj, by rw [hjs]; congr 1; omega⟩
            have hji : j ≠ i := by rintro rfl; rw [hspi] at hjs; cases hjs
            have h9 := hsd j (s - 1) hj hjs
            rw [show s - 1 + 1 = s by omega] at h9
            simp only [put, look]
            rw [h9, beq_no (drawOk_apart hok hj him hji), ← h9]
            exact hus h0
          · have hji : j ≠ i := by rintro rfl; rw [hspi] at hr; cases hr
            rw [hset, if_neg hji]; exact hrow2 j r hj hr
        | some r =>
          rw [hspi] at hst
          have hrs : r = s := by
            have h9 : ¬ r < s := fun h9 => by rw [(hrow2 i r him hspi).2 h9] at hi0; cases hi0
            rcases (hr1 i r him hspi).2 with h10 | ⟨j, hj, hjs, hdep⟩
            · subst h10
              by_cases e : s = 0
              · exact e.symm
              · omega
            · have hlj : listed.getD j false = true := by
                simp only [isDep, ho, List.any_eq_true, Bool.and_eq_true, beq_iff_eq] at hdep
                obtain ⟨e, he, hb, rfl⟩ := hdep
                exact hd e he hb
              have := (hrow2 j _ hj hjs).1 hlj
              omega
          subst hrs
          refine hst ρ' σ' u F _ hle hIs hus hdeps hout (fun v σ'' F' hle2 hTv hI2 => go v σ'' (r + 1) v F' hle2 hTv hI2 (fun _ => ?_) (by have := (hr1 i r him hspi).1; omega) (fun j r' hj hr => ?_))
          · rw [hsd i r him hspi]; simp [put, look]
          · rw [hset]
            by_cases e : j = i
            · subst e
              rw [hspi] at hr; cases hr
              simp
            · rw [if_neg e, hrow2 j r' hj hr]
              have : r' ≠ r := by rintro rfl; exact e (hr2 j i r' hj him hr hspi)
              omega
  intro ds a w ha hw
  have hrep : ∀ j, (Array.replicate ops.size false).getD j false = false := by
    intro j
    simp only [Array.getD_eq_getD_getElem?, Array.getElem?_replicate]; split <;> rfl
  have h0 := key ops.size (w.tape w.drawn (.order c.b.fn id)) (Array.replicate ops.size false) ρ σ 0 undef F0 (fun _ => undef) (by simp) (by
      rw [List.filter_eq_self.2]
      · simp
      · intro j hj; have := List.mem_range.1 hj; simp [Array.getD_eq_getD_getElem?, this]) (by
      intro j _ hj; simp [Array.getD_eq_getD_getElem?, hj]) (Sto.Le.refl σ) (by
      intro j _ hl
      rw [hrep j] at hl; cases hl) (fun _ _ => rfl) hI0 (fun h => absurd rfl h) (Nat.zero_le _) (fun i r _ _ => by rw [hrep i]; simp)
  have hs := stepR_region_draw (P := P) (b := c.b) (a := a) (k := k) (cs := c.cs) (w := w) (ops := ops) (id := id)
  have hsch : Region.schedule (P.follows .mixedOrders) ops (w.tape w.drawn (.order c.b.fn id)) = Region.linearise.go .any ops ops.size (w.tape w.drawn (.order c.b.fn id)) (Array.replicate ops.size false) [] := by
    simp only [Region.schedule, hmix, Bool.true_or, if_true]; rfl
  rw [hsch] at hs
  obtain ⟨m', h1, h2⟩ := h0 ds a { w with drawn := w.drawn + 1 } ha (hw.drawn (w.drawn + 1))
  exact ⟨m', .head hs h1, h2⟩
theorem st_flat {P : Program} {n : Nat} {c : Ctx P n} {ρ : Env} {σ : Sto} {gs F : List Grp} {k : List Item} (h : ∀ pool, pool = F.flatten → St c ρ σ (gs ++ [pool]) k) : St c ρ σ (gs ++ F) k :=
  st_perm (by simp) (h _ rfl)
theorem st_unflat {P : Program} {n : Nat} {c : Ctx P n} {ρ : Env} {σ : Sto} {gs F : List Grp} {k : List Item} {pool : Grp} (hp : pool = F.flatten) (h : St c ρ σ (gs ++ F) k) : St c ρ σ (gs ++ [pool]) k :=
  st_perm (by subst hp; simp) h
/-! Slices without room. -/
def Full (v : Value) : Prop := ∃ a n, v = .slice a n n
theorem full_nil : Full (.slice none 0 0) := ⟨none, 0, rfl⟩
section
variable {P : Program} {n : Nat} {c : Ctx P n} {ρ : Env} {σ : Sto} {gs : List Grp} {k : List Item} {ops : Array Oper} {i : Nat} {rest : List Nat}
variable {d : Option Nat} {ty : TypeId} {pos : String} {after : Array Edge} {g : Option (Nat × Bool)} {x y z : Operand} {v u : Value} {t : TypeId}
/-- The whole of an array that never changes. -/
theorem o_sliceF {α : Type} {dk : Kd α} {b l e : Nat} {bcs : Array Value} {E : TypeId} {fr : Nat × Nat} {xs : List α} (ho : ops[i]? = some ⟨d, .slice t x none none none, ty, pos, after, g⟩) (hg : wants ops ρ g = true) (hf : fits n d = true)
    (ht : arrP P t = some (l, e, dk.sz)) (hx : ev ρ x = some (.pointer (some ⟨b, 0, none⟩))) (himm : σ.imm b = some (.cells bcs E fr)) (hmany : dk.Many σ bcs.toList xs) (hl : xs.length = l) (hsm : Nat.ble l 65536 = true)
    (h : ∀ v', Sl dk σ v' xs → Full v' → St c (put ρ d v') σ gs (.inRegion ops rest :: k)) : St c ρ σ gs (.inRegion ops (i :: rest) :: k) := by
  subst hl
  obtain ⟨hu, hs⟩ := arrP_parts ht
  have hml : xs.length ≤ maxLen := by have := Nat.le_of_ble_eq_true hsm; simp only [maxLen]; omega
  have hsz : bcs.size = xs.length * dk.sz := by have := hmany.len; simpa using this
  refine st_pure ho hg hf rfl (v := .slice (some ⟨b, 0, none⟩) xs.length xs.length) (fun ds a w ha => ?_) (h _ ⟨bcs.toList, ⟨hmany.len, .inr ⟨b, 0, xs.length, bcs, E, fr, rfl, Nat.le_refl _, hml, himm, by omega, fun j q hj => by simpa using hj⟩⟩, hmany⟩ ⟨_, _, rfl⟩)
  by_cases h0 : xs.length = 0
  · simp [execOp, ha.eval hx, Instr.sliceAt, Instr.sureAddr, Instr.sliceBounds, run_underlying hu, run_sizeT hs, h0]
  · have h1 : ¬ xs.length = 0 := h0
    simp [execOp, ha.eval hx, Instr.sliceAt, Instr.sureAddr, Instr.sliceBounds, run_underlying hu, run_sizeT hs, add_plain]
/-- append onto a slice without room, that never changes: what comes out never changes either. -/
theorem o_appendF {α : Type} {dk : Kd α} {e by_ ty' : Nat} {xs ys : List α} {ats : Array TypeId} (ho : ops[i]? = some ⟨d, .call ⟨.builtin .append, #[x, y], ats⟩, ty', pos, after, g⟩) (hats : ats = #[t, t]) (hg : wants ops ρ g = true) (hf : fits n d = true) (ht : slT P t = some (e, dk.sz, by_))
    (hx : ev ρ x = some v) (hs : Sl dk σ v xs) (hfull : Full v) (hy : ev ρ y = some u) (hu : Src dk σ gs u ys) (hb : (xs.length + ys.length) * by_ ≤ 140737488355328) (hb2 : xs.length + ys.length ≤ 4611686018427387904)
    (h : ∀ v' σ', σ.Le σ' → Sl dk σ' v' (xs ++ ys) → St c (put ρ d v') σ' gs (.inRegion ops rest :: k)) : St c ρ σ gs (.inRegion ops (i :: rest) :: k) := by
  subst hats
  obtain ⟨hut, it, z, hi, hz, hs1, hs2, hzs⟩ := slT_parts ht
  refine st_op ho hg hf rfl fun ds a w ha hw => ?_
  have hex : ∀ r, (Builtin.append_ #[t, t] ty' #[v, u]).run P w = r → (execOp a.eval (⟨d, .call ⟨.builtin .append, #[x, y], #[t, t]⟩, ty', pos, after, g⟩ : Oper)).run P w = r.andThen fun v w => .ok (.value v) w := by
    intro r hr
    simp [execOp, resolve, invoke, builtin, ha.eval hx, ha.eval hy, hr]
  have hs0 := hs
  obtain ⟨cells, ⟨hl1, hv⟩, hmany⟩ := hs
  obtain ⟨cells2, hmany2, hl2, hv2⟩ := hu
  have hmany3 := hmany.append hmany2
  have h63 : xs.length + ys.length ≤ maxLen := by simp only [maxLen]; omega
  obtain ⟨a0, n0, hfv⟩ := hfull
  obtain ⟨a1, cap1, hfv1⟩ := hs0.slice
  have hn0 : n0 = xs.length := by rw [hfv] at hfv1; injection hfv1
  subst hn0
  have run0 : ys.length = 0 → (Builtin.append_ #[t, t] ty' #[v, u]).run P w = .ok v w := by
    intro h0
    rw [hfv]
    rcases hv2 with ⟨⟨a2, rfl⟩, _⟩ | ⟨b2, off2, cap2, rfl, _⟩
    · cases a0 <;> cases a2 <;> simp [Builtin.append_, run_underlying hut, sizeOf, typeInfo, hi, Builtin.lenOf, Builtin.firstCells, storeCells, loadCells, loadCellsFrom]
    · rw [h0]
      cases a0 <;> simp [Builtin.append_, run_underlying hut, sizeOf, typeInfo, hi, Builtin.lenOf, Builtin.firstCells, storeCells, loadCells, loadCellsFrom]
  by_cases h0 : ys.length = 0
  · have hy0 : ys = [] := List.eq_nil_of_length_eq_zero h0
    subst hy0
    exact ⟨v, w, σ, gs, .inl (hex _ (run0 h0)), hw, h v σ (Sto.Le.refl _) (by rw [List.append_nil]; exact hs0)⟩
  · rcases hv2 with ⟨_, hn2⟩ | ⟨b2, off2, cap2, rfl, hread⟩
    · exact absurd hn2 h0
    · have hnews : ∀ j q, cells2[j]? = some q → w.cell? ((⟨b2, off2, none⟩ : Addr).add j) = some q := by
        intro j q hq
        rw [add_plain]; exact hread _ w hw j q hq
      have hl2' : cells2.length = ys.length * it.size := by rw [hs1]; exact hl2
      have fin : ∀ (old : Nat), (Builtin.append_ #[t, t] ty' #[v, .slice (some ⟨b2, off2, none⟩) ys.length cap2]).run P w = .ok (.slice (some ⟨w.heap.size, 0, none⟩) (xs.length + ys.length) (grownCap w (xs.length + ys.length) old e)) (w.drew.alloc (.cells (cells.toArray ++ cells2.toArray ++ Builtin.zeroCells z.cells (grownCap w (xs.length + ys.length) old e - (xs.length + ys.length))) e (0, 0))) →
          ∃ v1 w' σ' gs', ((execOp a.eval (⟨d, .call ⟨.builtin .append, #[x, y], #[t, t]⟩, ty', pos, after, g⟩ : Oper)).run P w = .ok (.value v1) w' ∨ ((execOp a.eval (⟨d, .call ⟨.builtin .append, #[x, y], #[t, t]⟩, ty', pos, after, g⟩ : Oper)).run P w = .ok .skip w' ∧ v1 = undef)) ∧ Wor σ' (gs' ++ marks ds :: c.fr) w' ∧ St c (put ρ d v1) σ' gs' (.inRegion ops rest :: k) := by
        intro old hr
        have hw1 := (hw.drawn (w.drawn + 1)).alloc (.cells (cells.toArray ++ cells2.toArray ++ Builtin.zeroCells z.cells (grownCap w (xs.length + ys.length) old e - (xs.length + ys.length))) e (0, 0))
        obtain ⟨f1, f2, f3⟩ := hw1.freeze
        have hge := grownCap_ge w (xs.length + ys.length) old e
        refine ⟨_, _, _, gs, .inl (hex _ hr), f2, h _ _ f1 ⟨cells ++ cells2, ⟨hmany3.len, .inr ⟨w.heap.size, 0, grownCap w (xs.length + ys.length) old e, _, e, (0, 0), by rw [List.length_append], by rw [List.length_append]; exact hge, grownCap_le_maxLen w _ old e h63, f3 _ (List.mem_cons_self), ?_, fun j q hj => ?_⟩⟩, hmany3.mono f1⟩⟩
        · simp only [Array.size_append, List.size_toArray, size_zeroCells, hzs, hl1, hl2, ← Nat.add_mul, Nat.zero_add]
          exact Nat.le_of_eq (by congr 1; omega)
        · have hc : cells.toArray ++ cells2.toArray = (cells ++ cells2).toArray := by simp
          have hlt := (List.getElem?_eq_some_iff.1 hj).1
          rw [Nat.zero_add, hc, Array.getElem?_append_left (by rw [List.size_toArray]; exact hlt)]
          rw [List.getElem?_toArray]; exact hj
      cases a0 with
      | none =>
        have hx0 : xs = [] := by
          rcases hv with ⟨_, hn⟩ | ⟨b', off', cap, cs, E, fr, hv', _⟩
          · exact List.eq_nil_of_length_eq_zero hn
          · rw [hfv] at hv'; cases hv'
        subst hx0
        have hc0 : cells = [] := List.eq_nil_of_length_eq_zero (by simpa using hl1)
        subst hc0
        have hr := run_append_nil (P := P) w t ty' e it z hut hi hz ⟨b2, off2, none⟩ ys.length cap2 cells2 hl2' hnews (by omega) (by simp only [List.length_nil, Nat.zero_add] at hb2; omega) (by rw [hs2]; simp only [List.length_nil, Nat.zero_add] at hb; omega)
        refine fin 0 ?_
        rw [hfv]
        simpa using hr
      | some a0 =>
        have holds2 : ∀ j q, cells[j]? = some q → w.cell? (a0.add j) = some q := by
          intro j q hq
          rcases hv with ⟨_, hn⟩ | ⟨b', off', cap, cs, E, fr, hv', _, _, himm, _, hc⟩
          · have : cells = [] := List.eq_nil_of_length_eq_zero (by rw [hl1, hn, Nat.zero_mul])
            rw [this] at hq; simp at hq
          · rw [hfv] at hv'
            injection hv' with e1 e2 e3
            injection e1 with e1
            subst e1
            have := hw.imm _ _ himm
            rw [add_plain]; simp [World.cell?, this, hc j q hq]
        have hr := run_append_grow (P := P) w t ty' e it z hut hi hz a0 xs.length xs.length cells (by rw [hs1]; exact hl1) holds2 ⟨b2, off2, none⟩ ys.length cap2 cells2 hl2' hnews (by omega) (by omega) (by rw [hs2]; exact growslice_fits (by omega) hb)
        refine fin xs.length ?_
        rw [hfv]
        exact hr
end
/-! Equality of arrays of whole numbers. -/
theorem run_eqItems_int {P : Program} {w : World} {dd e : Nat} {ki kj : IntKind} {l : Nat} {xs ys : List Int} (he : P.underlying e = some (.int kj)) : ∀ (is : List Nat), (∀ j ∈ is, j < l) →
    (Op.eqItems (dd + 1) e 1 (cellsN (Value.int ki) 0 l xs).toArray (cellsN (Value.int ki) 0 l ys).toArray is).run P w = .ok (is.all fun j => decide (xs.getD j 0 = ys.getD j 0)) w
  | [], _ => by simp [Op.eqItems]
  | j :: is, h => by
    have hj := h j (List.mem_cons_self)
    have hsc : isScalar P e = true := by simp [isScalar, he]
    have p1 := part_one (P := P) (t := e) (w := w) (cs := cellsN (Value.int ki) 0 l xs) (off := j * 1) hsc (by rw [Nat.mul_one]; exact cellsN_get hj)
    have p2 := part_one (P := P) (t := e) (w := w) (cs := cellsN (Value.int ki) 0 l ys) (off := j * 1) hsc (by rw [Nat.mul_one]; exact cellsN_get hj)
    have ih := run_eqItems_int (dd := dd) (w := w) (ki := ki) (xs := xs) (ys := ys) he is (fun q hq => h q (List.mem_cons_of_mem _ hq))
    simp only [Op.eqItems, Sem.run_bind, p1, p2, eq_int he, Result.andThen_ok, List.all_cons]
    by_cases hd : xs.getD j 0 = ys.getD j 0
    · simp only [hd, decide_true, Bool.true_and]
      simpa using ih
    · simp only [decide_eq_false hd, Bool.false_and, Bool.not_false, if_true, Sem.run_pure]
theorem eq_arr {P : Program} {w : World} {dd t e l : Nat} {ki kj : IntKind} {xs ys : List Int} (hu : P.underlying t = some (.array l e)) (he : P.underlying e = some (.int kj)) (hi : (P.info? e).isSome = true) (hc : P.cellsOf e = 1) :
    (Op.equalIn (dd + 2) t (.agg (cellsN (Value.int ki) 0 l xs).toArray) (.agg (cellsN (Value.int ki) 0 l ys).toArray)).run P w = .ok (eqN l 0 xs ys) w := by
  obtain ⟨i, hi⟩ := Option.isSome_iff_exists.1 hi
  rw [run_equalIn_array w (dd + 1) _ _ hu hi, hc]
  exact run_eqItems_int he _ (fun j hj => List.mem_range.1 hj)
def tlS (l : List (Option Nat)) (i : Nat) : Option Nat := match l[i]? with
  | some p => p
  | none => none
def tlN (l : List Nat) (i : Nat) : Nat := l.getD i 0
def tlI (l : List (Sto → Value → List Grp → Prop)) (i : Nat) : Sto → Value → List Grp → Prop := match l[i]? with
  | some p => p
  | none => fun _ _ _ => True
def MonoI : List (Sto → Value → List Grp → Prop) → Prop
  | [] => True
  | p :: l => (∀ σ τ v F, σ.Le τ → p σ v F → p τ v F) ∧ MonoI l
theorem tlI_mono {l : List (Sto → Value → List Grp → Prop)} (h : MonoI l) : ∀ i σ τ v F, σ.Le τ → tlI l i σ v F → tlI l i τ v F := by
  intro i
  induction l generalizing i with
  | nil => intro σ τ v F _ h; simp [tlI]
  | cons p l ih =>
    cases i with
    | zero => exact h.1
    | succ i => have := ih h.2 i; simpa [tlI] using this
def rowSdB (ops : Array Oper) (m : Nat) (sp : Nat → Option Nat) (sd : Nat → Nat) : Bool := (List.range m).all fun i => match sp i with
  | some r => Nat.beq (sd (r + 1)) (dstOf ops i)
  | none => true
theorem rowSd {ops : Array Oper} {m : Nat} {sp : Nat → Option Nat} {sd : Nat → Nat} (h : rowSdB ops m sp sd = true) : ∀ i r, i < m → sp i = some r → sd (r + 1) = dstOf ops i := by
  intro i r hi hr
  simp only [rowSdB, List.all_eq_true, List.mem_range] at h
  have := h i hi
  rw [hr] at this
  exact Nat.eq_of_beq_eq_true this
end Go.Eng
