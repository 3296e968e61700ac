import Derived.Test.YtonmgcebhhdplabGreatDoorEngM
import Derived.Lib.Join
import Derived.Laws.Cover3
/-! The engine, part N: a region that draws its order and turns what is held, in several rows; operations without a place; readers. -/
namespace Go.Eng
open Go

def dstO (ops : Array Oper) (i : Nat) : Option Nat := (ops[i]?).bind (·.dst)
def dstsO (ops : Array Oper) (m : Nat) : List Nat := (List.range m).filterMap (dstO ops)
def drawOk4 (ops : Array Oper) (m : Nat) : Bool :=
 Nat.ble m ops.size &&
 ((List.range ops.size).all fun i => match ops[i]? with
  | some o => (o.after.toList.all fun e => !Region.binds .any e || Nat.blt e.on i) && (Nat.blt i m || ((List.range i).all fun j => isDep ops i j) || (Nat.blt m i && isDep ops i (i - 1)))
  | none => true) &&
 ((List.range m).all fun i => (List.range m).all fun j => i == j || (match dstO ops i, dstO ops j with
  | some a, some b => a != b
  | _, _ => true))
section
variable {ops : Array Oper} {m : Nat}
theorem drawOk4_size (h : drawOk4 ops m = true) : m ≤ ops.size := by
 simp only [drawOk4, Bool.and_eq_true] at h; exact Nat.le_of_ble_eq_true h.1.1
theorem drawOk4_at (h : drawOk4 ops m = true) {i : Nat} {o : Oper} (ho : ops[i]? = some o) :
    (∀ e ∈ o.after.toList, Region.binds .any e = true → e.on < i) ∧ (m ≤ i → (∀ j, j < i → isDep ops i j = true) ∨ (m < i ∧ isDep ops i (i - 1) = true)) := by
  simp only [drawOk4, Bool.and_eq_true, List.all_eq_true, List.mem_range] at h
  have hi := (Array.getElem?_eq_some_iff.1 ho).1
  have := h.1.2 i hi
  rw [ho] at this
  simp only [Bool.and_eq_true, Bool.or_eq_true, List.all_eq_true, List.mem_range, Bool.not_eq_true'] at this
  refine ⟨fun e he hb => ?_, fun hm => ?_⟩
  · rcases this.1 e he with h1 | h1
    · rw [h1] at hb; cases hb
    · simp only [Nat.blt, Nat.ble_eq] at h1; exact h1
  · rcases this.2 with (h1 | h1) | h1
    · simp only [Nat.blt, Nat.ble_eq] at h1; omega
    · exact .inl h1
    · simp only [Nat.blt, Nat.ble_eq] at h1; exact .inr ⟨h1.1, h1.2⟩
theorem drawOk4_apart (h : drawOk4 ops m = true) {i j : Nat} (hi : i < m) (hj : j < m) (hne : i ≠ j) {a b : Nat} (ha : dstO ops i = some a) (hb : dstO ops j = some b) : a ≠ b := by
 simp only [drawOk4, Bool.and_eq_true, List.all_eq_true, List.mem_range] at h
 have := h.2 i hi j hj
 rw [ha, hb] at this
 simpa [hne] using this
theorem go_tail4 (hok : drawOk4 ops m = true) : ∀ (r i t : Nat) (listed : Array Bool), m ≤ i → i + r = ops.size → listed.size = ops.size → (∀ j, j < i → listed.getD j false = true) → (∀ j, i ≤ j → j < ops.size → listed.getD j true = false) →
    Region.linearise.go .any ops r t listed [] = List.range' i r := by
  intro r
  induction r with
  | zero => intro i t listed _ _ _ _ _; rfl
  | succ r ih =>
    intro i t listed hm hir hsz h1 h2
    have hi : i < ops.size := by omega
    have hready : ∀ j, j ∈ Region.ready .any ops listed ↔ j = i := by
      intro j
      rw [mem_ready]
      constructor
      · rintro ⟨hj, hl, o, ho, hd⟩
        by_cases e : j < i
        · have := h1 j e
          have h3 : listed.getD j true = listed.getD j false := by
            simp only [Array.getD_eq_getD_getElem?]; rw [Array.getElem?_eq_getElem (by omega)]; rfl
          rw [h3, this] at hl; cases hl
        · by_cases e2 : j = i
          · exact e2
          · have hdep : ∃ q, i ≤ q ∧ q < j ∧ isDep ops j q = true := by
              rcases (drawOk4_at hok ho).2 (by omega) with h | ⟨h, h'⟩
              · exact ⟨i, Nat.le_refl _, by omega, h i (by omega)⟩
              · exact ⟨j - 1, by omega, by omega, h'⟩
            obtain ⟨q, hq1, hq2, hdep⟩ := hdep
            simp only [isDep, ho, List.any_eq_true, Bool.and_eq_true, beq_iff_eq] at hdep
            obtain ⟨e', he', hb, rfl⟩ := hdep
            have h4 := hd e' he' hb
            have h5 := h2 e'.on hq1 (by omega)
            have h3 : listed.getD e'.on true = listed.getD e'.on false := by
              simp only [Array.getD_eq_getD_getElem?]; rw [Array.getElem?_eq_getElem (by omega)]; rfl
            rw [h3, h4] at h5; cases h5
      · rintro rfl
        refine ⟨hi, h2 j (Nat.le_refl _) hi, ops[j], Array.getElem?_eq_getElem hi, fun e he hb => h1 _ ((drawOk4_at hok (Array.getElem?_eq_getElem hi)).1 e he hb)⟩
    have hne : Region.ready .any ops listed ≠ [] := by
      intro e; have := (hready i).2 rfl; rw [e] at this; cases this
    obtain ⟨j, hj, hp⟩ := ready_pick t hne
    obtain rfl := (hready j).1 hj
    rw [go_step, hp]
    simp only
    rw [ih (j + 1) _ _ (by omega) (by omega) (by simp [hsz]) ?_ ?_]
    · rw [List.range'_succ]
    · intro k hk
      simp only [Array.getD_eq_getD_getElem?]
      by_cases e : k = j
      · subst e; simp [hsz, hi]
      · rw [Array.getElem?_setIfInBounds_ne (Ne.symm e)]
        have := h1 k (by omega)
        simpa [Array.getD_eq_getD_getElem?] using this
    · intro k hk hks
      simp only [Array.getD_eq_getD_getElem?]
      rw [Array.getElem?_setIfInBounds_ne (by omega)]
      have := h2 k (by omega) hks
      simpa [Array.getD_eq_getD_getElem?] using this
end

def rowOk4 (ops : Array Oper) (m K : Nat) (S : Nat → Nat) (wr rd : Nat → Option (Nat × Nat)) : Bool :=
 ((List.range m).all fun i => match wr i with
  | some (q, r) => Nat.blt q K && Nat.blt r (S q) && (r == 0 || (List.range m).any fun j => wr j == some (q, r - 1) && isDep ops i j)
  | none => true) &&
 ((List.range m).all fun i => (List.range m).all fun j => match wr i, wr j with
  | some p, some p' => p != p' || i == j
  | _, _ => true) &&
 ((List.range K).all fun q => Nat.blt 0 (S q) && (List.range m).any fun i => wr i == some (q, S q - 1)) &&
 ((List.range m).all fun i => match rd i with
  | some (q, r) => Nat.blt q K && Nat.ble r (S q) && (r == 0 || (List.range m).any fun j => wr j == some (q, r - 1) && isDep ops i j) && (r == S q || (List.range m).any fun j => wr j == some (q, r) && isDep ops j i)
  | none => true)
theorem rowOk4_parts {ops : Array Oper} {m K : Nat} {S : Nat → Nat} {wr rd : Nat → Option (Nat × Nat)} (h : rowOk4 ops m K S wr rd = true) :
    (∀ i q r, i < m → wr i = some (q, r) → q < K ∧ r < S q ∧ (r = 0 ∨ ∃ j, j < m ∧ wr j = some (q, r - 1) ∧ isDep ops i j = true)) ∧
    (∀ i j p, i < m → j < m → wr i = some p → wr j = some p → i = j) ∧ (∀ q, q < K → 0 < S q ∧ ∃ i, i < m ∧ wr i = some (q, S q - 1)) ∧
    (∀ i q r, i < m → rd i = some (q, r) → q < K ∧ r ≤ S q ∧ (r = 0 ∨ ∃ j, j < m ∧ wr j = some (q, r - 1) ∧ isDep ops i j = true) ∧ (r = S q ∨ ∃ j, j < m ∧ wr j = some (q, r) ∧ isDep ops j i = true)) := by
  simp only [rowOk4, Bool.and_eq_true, List.all_eq_true, List.mem_range] at h
  obtain ⟨⟨⟨h1, h2⟩, h3⟩, h4⟩ := h
  refine ⟨fun i q r hi hr => ?_, fun i j p hi hj hr hr' => ?_, fun q hq => ?_, fun i q r hi hr => ?_⟩
  · have := h1 i hi
    rw [hr] at this
    simp only [Bool.and_eq_true, Bool.or_eq_true, beq_iff_eq, List.any_eq_true, List.mem_range] at this
    refine ⟨by have := Nat.le_of_ble_eq_true this.1.1; omega, by have := Nat.le_of_ble_eq_true this.1.2; omega, ?_⟩
    rcases this.2 with h4 | ⟨j, hj, h4, h5⟩
    · exact .inl h4
    · exact .inr ⟨j, hj, h4, h5⟩
  · have := h2 i hi j hj
    rw [hr, hr'] at this
    simpa using this
  · have := h3 q hq
    simp only [List.any_eq_true, List.mem_range, beq_iff_eq] at this
    exact ⟨Nat.le_of_ble_eq_true this.1, this.2⟩
  · have := h4 i hi
    rw [hr] at this
    simp only [Bool.and_eq_true, Bool.or_eq_true, beq_iff_eq, List.any_eq_true, List.mem_range] at this
    obtain ⟨⟨⟨g1, g2⟩, g3⟩, g4⟩ := this
    refine ⟨by have := Nat.le_of_ble_eq_true g1; omega, Nat.le_of_ble_eq_true g2, ?_, ?_⟩
    · rcases g3 with h4 | ⟨j, hj, h4, h5⟩
      · exact .inl h4
      · exact .inr ⟨j, hj, h4, h5⟩
    · rcases g4 with h4 | ⟨j, hj, h4, h5⟩
      · exact .inl h4
      · exact .inr ⟨j, hj, h4, h5⟩
def uof : Option Nat → Value → Value → Value
 | some _, _, v => v
 | none, u, _ => u
def rowSd4B (ops : Array Oper) (m : Nat) (wr : Nat → Option (Nat × Nat)) (sd : Nat → Nat → Option Nat) : Bool := (List.range m).all fun i => match wr i with
 | some (q, r) => sd q (r + 1) == dstO ops i || ((dstO ops i).isNone && r != 0 && sd q (r + 1) == sd q r)
 | none => true
theorem rowSd4 {ops : Array Oper} {m : Nat} {wr : Nat → Option (Nat × Nat)} {sd : Nat → Nat → Option Nat} (h : rowSd4B ops m wr sd = true) : ∀ i q r, i < m → wr i = some (q, r) → sd q (r + 1) = dstO ops i ∨ (dstO ops i = none ∧ r ≠ 0 ∧ sd q (r + 1) = sd q r) := by
 intro i q r hi hr
 simp only [rowSd4B, List.all_eq_true, List.mem_range] at h
 have := h i hi
 rw [hr] at this
 simpa [and_assoc] using this
theorem perm_flat {l l' : List Grp} (h : l.Perm l') : l.flatten.Perm l'.flatten := by
 induction h with
 | nil => exact .refl _
 | cons x _ ih => simp only [List.flatten_cons]; exact List.Perm.append_left x ih
 | swap x y l =>
  simp only [List.flatten_cons]
  rw [← List.append_assoc, ← List.append_assoc]; exact List.Perm.append_right _ List.perm_append_comm
 | trans _ _ h1 h2 => exact h1.trans h2
theorem perm_fm {F : Nat → List Grp} {l l' : List Nat} (h : l.Perm l') : (l.flatMap F).Perm (l'.flatMap F) := by
 induction h with
 | nil => exact .refl _
 | cons x _ ih => simp only [List.flatMap_cons]; exact List.Perm.append_left _ ih
 | swap x y l =>
  simp only [List.flatMap_cons]
  rw [← List.append_assoc, ← List.append_assoc]; exact List.Perm.append_right _ List.perm_append_comm
 | trans _ _ h1 h2 => exact h1.trans h2
theorem perm_row {gs : List Grp} {F F' : Nat → List Grp} {K q : Nat} (hq : q < K) (hF : ∀ x, x ≠ q → F' x = F x) :
    (gs ++ (List.range K).flatMap F').flatten.Perm (gs ++ F' q ++ [(((List.range K).erase q).flatMap F).flatten]).flatten := by
  have h1 : ((List.range K).flatMap F').Perm ((q :: (List.range K).erase q).flatMap F') := perm_fm (List.perm_cons_erase (List.mem_range.2 hq))
  have h2 : ((List.range K).erase q).flatMap F' = ((List.range K).erase q).flatMap F := flatMap_same fun x hx => hF x (by
    rintro rfl; exact (List.nodup_range.not_mem_erase) hx)
  rw [List.flatMap_cons, h2] at h1
  have h3 := perm_flat h1
  simp only [List.flatten_append, List.flatten_cons, List.flatten_nil, List.append_nil, List.append_assoc] at h3 ⊢
  exact List.Perm.append_left _ h3

def Step4 {P : Program} {n : Nat} (c : Ctx P n) (ρ : Env) (σ : Sto) (gs : List Grp) (k : List Item) (ops : Array Oper) (m : Nat) (sd : Nat → Nat → Option Nat) (T : Nat → Sto → Value → Prop) (I : Nat → Nat → Sto → Value → List Grp → Prop) (i : Nat) : Option (Nat × Nat) → Option (Nat × Nat) → Prop
  | some (q, r), _ => ∀ ρ' σ' u F pool rest, σ.Le σ' → I q r σ' u F → (r ≠ 0 → ∀ t, sd q r = some t → look ρ' t = some u) → (∀ j, isDep ops i j = true → ∀ t, dstO ops j = some t → ∃ v, look ρ' t = some v ∧ T j σ' v) → (∀ t, (dstsO ops m).contains t = false → look ρ' t = look ρ t) → (∀ j, j < m → isDep ops j i = true → ∀ t, dstO ops j = some t → look ρ' t = look ρ t) →
      (∀ v σ'' F', σ'.Le σ'' → T i σ'' v → I q (r + 1) σ'' (uof (dstO ops i) u v) F' → St c (put ρ' (dstO ops i) v) σ'' (gs ++ F' ++ [pool]) (.inRegion ops rest :: k)) → St c ρ' σ' (gs ++ F ++ [pool]) (.inRegion ops (i :: rest) :: k)
  | none, some (q, r) => ∀ ρ' σ' u F pool rest, σ.Le σ' → I q r σ' u F → (r ≠ 0 → ∀ t, sd q r = some t → look ρ' t = some u) → (∀ j, isDep ops i j = true → ∀ t, dstO ops j = some t → ∃ v, look ρ' t = some v ∧ T j σ' v) → (∀ t, (dstsO ops m).contains t = false → look ρ' t = look ρ t) → (∀ j, j < m → isDep ops j i = true → ∀ t, dstO ops j = some t → look ρ' t = look ρ t) →
      (∀ v σ'', σ'.Le σ'' → T i σ'' v → St c (put ρ' (dstO ops i) v) σ'' (gs ++ F ++ [pool]) (.inRegion ops rest :: k)) → St c ρ' σ' (gs ++ F ++ [pool]) (.inRegion ops (i :: rest) :: k)
  | none, none => ∀ ρ' σ' pool rest, σ.Le σ' → (∀ j, isDep ops i j = true → ∀ t, dstO ops j = some t → ∃ v, look ρ' t = some v ∧ T j σ' v) → (∀ t, (dstsO ops m).contains t = false → look ρ' t = look ρ t) → (∀ j, j < m → isDep ops j i = true → ∀ t, dstO ops j = some t → look ρ' t = look ρ t) →
      (∀ v σ'', σ'.Le σ'' → T i σ'' v → St c (put ρ' (dstO ops i) v) σ'' (gs ++ [pool]) (.inRegion ops rest :: k)) → St c ρ' σ' (gs ++ [pool]) (.inRegion ops (i :: rest) :: k)

theorem st_draw5 {P : Program} {n : Nat} {c : Ctx P n} {ρ : Env} {σ : Sto} {gs : List Grp} {k : List Item} {id : Nat} {ops : Array Oper} (F0 : Nat → List Grp) (m K : Nat) (S : Nat → Nat) (wr rd : Nat → Option (Nat × Nat)) (fr : Nat → Option Nat) (sd : Nat → Nat → Option Nat) (T : Nat → Sto → Value → Prop) (I : Nat → Nat → Sto → Value → List Grp → Prop)
    (hmix : P.follows .mixedOrders = true) (hok : drawOk4 ops m = true) (hT : ∀ i σ σ' v, σ.Le σ' → T i σ v → T i σ' v)
    (hI : ∀ q s σ σ' v F, σ.Le σ' → I q s σ v F → I q s σ' v F) (hrow : rowOk4 ops m K S wr rd = true) (hsd0 : rowSd4B ops m wr sd = true) (hI0 : ∀ q, q < K → I q 0 σ undef (F0 q))
    (hfr : ∀ i q, i < m → fr i = some q → q < K)
    (hstep : AllB (fun i => match fr i with
      | some q => wr i = none ∧ ∀ r, r ≤ S q → Step4 c ρ σ gs k ops m sd T I i none (some (q, r))
      | none => Step4 c ρ σ gs k ops m sd T I i (wr i) (rd i)) m)
    (hfin : ∀ (ρ' : Env) (σ' : Sto) (vals : Nat → Value) (u : Nat → Value) (F : Nat → List Grp), σ.Le σ' → (∀ q, q < K → I q (S q) σ' (u q) (F q) ∧ ∀ t, sd q (S q) = some t → look ρ' t = some (u q)) → (∀ j, j < m → (∀ t, dstO ops j = some t → look ρ' t = some (vals j)) ∧ T j σ' (vals j)) → (∀ t, (dstsO ops m).contains t = false → look ρ' t = look ρ t) →
      St c ρ' σ' (gs ++ (List.range K).flatMap F) (.inRegion ops (List.range' m (ops.size - m)) :: k)) :
    St c ρ σ (gs ++ (List.range K).flatMap F0) (.code (.region id ops true) :: k) := by
  obtain ⟨hr1, hr2, hr3, hr4⟩ := rowOk4_parts hrow
  have hsd := rowSd4 hsd0
  have hmn := drawOk4_size hok
  -- each place of a row is somebody's
  have somebody : ∀ q s, q < K → s < S q → ∃ j, j < m ∧ wr j = some (q, s) := by
    intro q s hq hs
    have down : ∀ d, d < S q → ∃ j, j < m ∧ wr j = some (q, S q - 1 - d) := by
      intro d
      induction d with
      | zero => intro _; obtain ⟨_, i, hi, hw⟩ := hr3 q hq; exact ⟨i, hi, by simpa using hw⟩
      | succ d ihd =>
        intro hd
        obtain ⟨j, hj, hjs⟩ := ihd (by omega)
        rcases (hr1 j q _ hj hjs).2.2 with h9 | ⟨j', hj', hjs', _⟩
        · omega
        · exact ⟨j', hj', by rw [hjs']; congr 2⟩
    obtain ⟨j, hj, hjs⟩ := down (S q - 1 - s) (by omega)
    exact ⟨j, hj, by rw [hjs]; congr 2; omega⟩
  have origin : ∀ q s, q < K → s ≤ S q → s ≠ 0 → ∀ t, sd q s = some t → ∃ j r, j < m ∧ wr j = some (q, r) ∧ r < s ∧ dstO ops j = some t := by
    intro q s hq
    induction s with
    | zero => intro _ h; exact absurd rfl h
    | succ s ihs =>
      intro hs _ t ht
      obtain ⟨j, hj, hjs⟩ := somebody q s hq (by omega)
      rcases hsd j q s hj hjs with h9 | ⟨_, h0, h9⟩
      · exact ⟨j, s, hj, hjs, by omega, by rw [← h9]; exact ht⟩
      · obtain ⟨j2, r, h1, h2, h3, h4⟩ := ihs (by omega) h0 t (by rw [← h9]; exact ht)
        exact ⟨j2, r, h1, h2, by omega, h4⟩
  have key : ∀ (fuel t : Nat) (listed : Array Bool) (ρ' : Env) (σ' : Sto) (s : Nat → Nat) (u : Nat → Value) (F : Nat → List Grp) (vals : Nat → Value), listed.size = ops.size → ((List.range ops.size).filter fun j => !listed.getD j true).length = fuel → (∀ j, m ≤ j → j < ops.size → listed.getD j true = false) → σ.Le σ' →
      (∀ j, j < m → listed.getD j false = true → (∀ t, dstO ops j = some t → look ρ' t = some (vals j)) ∧ T j σ' (vals j)) → (∀ t, (dstsO ops m).contains t = false → look ρ' t = look ρ t) →
      (∀ q, q < K → I q (s q) σ' (u q) (F q)) → (∀ q, q < K → s q ≠ 0 → ∀ t, sd q (s q) = some t → look ρ' t = some (u q)) → (∀ q, q < K → s q ≤ S q) → (∀ i q r, i < m → wr i = some (q, r) → (listed.getD i false = true ↔ r < s q)) → (∀ j i, j < m → listed.getD j false = true → isDep ops j i = true → listed.getD i false = true) → (∀ j, j < m → listed.getD j false = false → ∀ t, dstO ops j = some t → look ρ' t = look ρ t) → St c ρ' σ' (gs ++ (List.range K).flatMap F) (.inRegion ops (Region.linearise.go .any ops fuel t listed []) :: k) := by
    intro fuel
    induction fuel with
    | zero =>
      intro t listed ρ' σ' s u F vals hsz hcnt htail hle hvals hout hIs hus hsS hrow2 hclosed hnew
      have hall : ∀ j, j < ops.size → listed.getD j false = true := by
        intro j hj
        have := List.filter_eq_nil_iff.1 (List.eq_nil_of_length_eq_zero hcnt) j (List.mem_range.2 hj)
        have h3 : listed.getD j true = listed.getD j false := by
          simp only [Array.getD_eq_getD_getElem?]; rw [Array.getElem?_eq_getElem (by omega)]; rfl
        simpa [h3] using this
      have hm : m = ops.size := by
        by_cases e : m < ops.size
        · have h1 := htail m (Nat.le_refl _) e
          have h2 := hall m e
          have h3 : listed.getD m true = listed.getD m false := by
            simp only [Array.getD_eq_getD_getElem?]; rw [Array.getElem?_eq_getElem (by omega)]; rfl
          rw [h3, h2] at h1; cases h1
        · omega
      have hsE : ∀ q, q < K → s q = S q := fun q hq => by
        obtain ⟨h0, i, hi, hw⟩ := hr3 q hq
        have := (hrow2 i q _ hi hw).1 (hall i (by omega))
        have := hsS q hq
        omega
      have hf := hfin ρ' σ' vals u F hle (fun q hq => by
        have h0 := (hr3 q hq).1
        have h1 := hIs q hq
        have h2 := hus q hq (by rw [hsE q hq]; omega)
        rw [hsE q hq] at h1 h2
        exact ⟨h1, h2⟩) (fun j hj => hvals j hj (hall j (by omega))) hout
      rw [show ops.size - m = 0 by omega] at hf
      exact hf
    | succ fuel ih =>
      intro t listed ρ' σ' s u F vals hsz hcnt htail hle hvals hout hIs hus hsS hrow2 hclosed hnew
      have hsame : ∀ j, j < ops.size → listed.getD j true = listed.getD j false := fun j hj => by
        simp only [Array.getD_eq_getD_getElem?]; rw [Array.getElem?_eq_getElem (by omega)]; rfl
      by_cases hbody : ∀ j, j < m → listed.getD j false = true
      · -- all of the body has been carried out: the rest is forced
        have hlen : fuel + 1 = ops.size - m := by
          rw [← hcnt]
          have h1 : ((List.range ops.size).filter fun j => !listed.getD j true) = (List.range ops.size).filter fun j => decide (m ≤ j) := by
            refine List.filter_congr fun j hj => ?_
            have hj := List.mem_range.1 hj
            by_cases e : m ≤ j
            · simp [htail j e hj, e]
            · rw [hsame j hj, hbody j (by omega)]; simp [e]
          rw [h1]
          have h2 : List.range ops.size = List.range m ++ List.range' m (ops.size - m) := by
            rw [List.range_eq_range', List.range_eq_range']
            have h9 := List.range'_append_1 (s := 0) (m := m) (n := ops.size - m)
            rw [Nat.zero_add] at h9
            rw [h9]; congr 1; omega
          rw [h2, List.filter_append]
          have h3 : (List.range m).filter (fun j => decide (m ≤ j)) = [] := by
            rw [List.filter_eq_nil_iff]; intro j hj; have := List.mem_range.1 hj; simp; omega
          have h4 : (List.range' m (ops.size - m)).filter (fun j => decide (m ≤ j)) = List.range' m (ops.size - m) := by
            rw [List.filter_eq_self]; intro j hj; have := (List.mem_range'_1.1 hj).1; simpa using this
          rw [h3, h4]; simp
        rw [hlen, go_tail4 hok (ops.size - m) m t listed (Nat.le_refl _) (by omega) hsz hbody htail]
        have hsE : ∀ q, q < K → s q = S q := fun q hq => by
          obtain ⟨h0, i, hi, hw⟩ := hr3 q hq
          have := (hrow2 i q _ hi hw).1 (hbody i hi)
          have := hsS q hq
          omega
        exact hfin ρ' σ' vals u F hle (fun q hq => by
          have h0 := (hr3 q hq).1
          have h1 := hIs q hq
          have h2 := hus q hq (by rw [hsE q hq]; omega)
          rw [hsE q hq] at h1 h2
          exact ⟨h1, h2⟩) (fun j hj => hvals j hj (hbody j hj)) hout
      · -- some of the body lacks: one of it is next
        have hlacks : ∃ j, j < m ∧ listed.getD j false = false := by
          by_cases e : ∃ j, j < m ∧ listed.getD j false = false
          · exact e
          · refine absurd (fun j hj => ?_) hbody
            cases hb : listed.getD j false with
            | true => rfl
            | false => exact absurd ⟨j, hj, hb⟩ e
        have hready : ∀ j, j ∈ Region.ready .any ops listed → j < m := by
          intro j hj
          obtain ⟨hjs, hl, o, ho, hd⟩ := mem_ready.1 hj
          by_cases e : j < m
          · exact e
          · obtain ⟨q, hq, hql⟩ := hlacks
            rcases (drawOk4_at hok ho).2 (by omega) with hdep | ⟨hm1, hdep⟩
            · have hdep := hdep q (by omega)
              simp only [isDep, ho, List.any_eq_true, Bool.and_eq_true, beq_iff_eq] at hdep
              obtain ⟨e', he', hb, rfl⟩ := hdep
              rw [hd e' he' hb] at hql; cases hql
            · simp only [isDep, ho, List.any_eq_true, Bool.and_eq_true, beq_iff_eq] at hdep
              obtain ⟨e', he', hb, he1⟩ := hdep
              have h4 := hd e' he' hb
              have h5 := htail (j - 1) (by omega) (by omega)
              have h3 : listed.getD (j - 1) true = listed.getD (j - 1) false := by
                simp only [Array.getD_eq_getD_getElem?]; rw [Array.getElem?_eq_getElem (by omega)]; rfl
              rw [he1] at h4; rw [h3, h4] at h5; cases h5
        have hne : Region.ready .any ops listed ≠ [] := by
          -- the least that lacks is ready
          have hmin : ∃ j, j < m ∧ listed.getD j false = false ∧ ∀ q, q < j → listed.getD q false = true := by
            obtain ⟨j, hj, hjl⟩ := hlacks
            induction j using Nat.strongRecOn with
            | _ j ihj =>
              by_cases e : ∃ q, q < j ∧ listed.getD q false = false
              · obtain ⟨q, hq, hql⟩ := e
                exact ihj q hq (by omega) hql
              · refine ⟨j, hj, hjl, fun q hq => ?_⟩
                cases hb : listed.getD q false with
                | true => rfl
                | false => exact absurd ⟨q, hq, hb⟩ e
          obtain ⟨j, hj, hjl, hlt⟩ := hmin
          have hjs : j < ops.size := by omega
          have : j ∈ Region.ready .any ops listed := mem_ready.2 ⟨hjs, by rw [hsame j hjs, hjl], ops[j], Array.getElem?_eq_getElem hjs, fun e he hb => hlt _ ((drawOk4_at hok (Array.getElem?_eq_getElem hjs)).1 e he hb)⟩
          intro e; rw [e] at this; cases this
        obtain ⟨i, hi, hp⟩ := ready_pick t hne
        have him := hready i hi
        obtain ⟨his, hil, o, ho, hd⟩ := mem_ready.1 hi
        rw [go_step, hp]
        simp only
        have hlist : ∀ j, isDep ops i j = true → listed.getD j false = true := fun j hj => by
          simp only [isDep, ho, List.any_eq_true, Bool.and_eq_true, beq_iff_eq] at hj
          obtain ⟨e, he, hb, rfl⟩ := hj
          exact hd e he hb
        have hdeps : ∀ j, isDep ops i j = true → ∀ t, dstO ops j = some t → ∃ v, look ρ' t = some v ∧ T j σ' v := fun j hj t ht => by
          simp only [isDep, ho, List.any_eq_true, Bool.and_eq_true, beq_iff_eq] at hj
          obtain ⟨e, he, hb, rfl⟩ := hj
          have h1 := hd e he hb
          have h2 := (drawOk4_at hok ho).1 e he hb
          obtain ⟨h3, h4⟩ := hvals e.on (by omega) h1
          exact ⟨_, h3 t ht, h4⟩
        have hset : ∀ j, (listed.setIfInBounds i true).getD j false = if j = i then true else listed.getD j false := by
          intro j
          simp only [Array.getD_eq_getD_getElem?]
          by_cases e : j = i
          · subst e; simp [hsz, his]
          · rw [Array.getElem?_setIfInBounds_ne (Ne.symm e), if_neg e]
        have hset2 : ∀ j, j ≠ i → (listed.setIfInBounds i true).getD j true = listed.getD j true := by
          intro j e
          simp only [Array.getD_eq_getD_getElem?]
          rw [Array.getElem?_setIfInBounds_ne (Ne.symm e)]
        have hi0 : listed.getD i false = false := by rw [← hsame i his]; exact hil
        have go : ∀ (v : Value) (σ'' : Sto) (s' : Nat → Nat) (u' : Nat → Value) (F' : Nat → List Grp), σ'.Le σ'' → T i σ'' v → (∀ q, q < K → I q (s' q) σ'' (u' q) (F' q)) → (∀ q, q < K → s' q ≠ 0 → ∀ t, sd q (s' q) = some t → look (put ρ' (dstO ops i) v) t = some (u' q)) → (∀ q, q < K → s' q ≤ S q) →
            (∀ j q r, j < m → wr j = some (q, r) → ((listed.setIfInBounds i true).getD j false = true ↔ r < s' q)) → St c (put ρ' (dstO ops i) v) σ'' (gs ++ (List.range K).flatMap F') (.inRegion ops (Region.linearise.go .any ops fuel (t / (Region.ready .any ops listed).length) (listed.setIfInBounds i true) []) :: k) := by
          intro v σ'' s' u' F' hle2 hTv hI2 hus2 hs2 hrow3
          refine ih (t / (Region.ready .any ops listed).length) (listed.setIfInBounds i true) (put ρ' (dstO ops i) v) σ'' s' u' F' (fun j => if j = i then v else vals j) (by simp [hsz]) ?_ ?_ (hle.trans hle2) ?_ ?_ hI2 hus2 hs2 hrow3 ?_ ?_
          · have h1 : ((List.range ops.size).filter fun j => !(listed.setIfInBounds i true).getD j true) = ((List.range ops.size).filter fun j => !listed.getD j true).filter fun j => decide (j ≠ i) := by
              rw [List.filter_filter]
              refine List.filter_congr fun j hj => ?_
              have hj := List.mem_range.1 hj
              by_cases e : j = i
              · subst e
                have : (listed.setIfInBounds j true).getD j true = true := by simp [Array.getD_eq_getD_getElem?, hsz, hj]
                simp [this]
              · rw [hset2 j e]; simp [e]
            rw [h1]
            have h2 : i ∈ (List.range ops.size).filter fun j => !listed.getD j true := List.mem_filter.2 ⟨List.mem_range.2 his, by rw [hil]; rfl⟩
            have hnd : ((List.range ops.size).filter fun j => !listed.getD j true).Nodup := List.nodup_range.filter _
            generalize ((List.range ops.size).filter fun j => !listed.getD j true) = L at *
            have : L.filter (fun j => decide (j ≠ i)) = L.erase i := by
              rw [hnd.erase_eq_filter]
              refine List.filter_congr fun j _ => ?_
              by_cases e : j = i <;> simp [e]
            rw [this, List.length_erase_of_mem h2]; omega
          · intro j hj hjs
            rw [hset2 j (by omega)]; exact htail j hj hjs
          · intro j hj hl
            rw [hset] at hl
            by_cases e : j = i
            · subst e
              simp only [if_true]
              refine ⟨fun t ht => by rw [ht]; simp [put, look], hTv⟩
            · rw [if_neg e] at hl
              obtain ⟨h1, h2⟩ := hvals j hj hl
              simp only [if_neg e]
              refine ⟨fun t ht => ?_, hT _ _ _ _ hle2 h2⟩
              cases hdi : dstO ops i with
              | none => exact h1 t ht
              | some a =>
                simp only [put, look]
                rw [beq_no (drawOk4_apart hok hj him e ht hdi)]
                exact h1 t ht
          · intro t ht
            cases hdi : dstO ops i with
            | none => exact hout t ht
            | some a =>
              have hne2 : t ≠ a := by
                rintro rfl
                have : (dstsO ops m).contains t = true := by
                  simp only [List.contains_eq_mem, dstsO, List.mem_filterMap, List.mem_range, decide_eq_true_eq]; exact ⟨i, him, hdi⟩
                rw [this] at ht; cases ht
              simp only [put, look]
              rw [beq_no hne2]
              exact hout t ht
          · intro j x hj hl hdep
            rw [hset] at hl ⊢
            by_cases ex : x = i
            · rw [if_pos ex]
            · rw [if_neg ex]
              by_cases e : j = i
              · subst e; exact hlist x hdep
              · rw [if_neg e] at hl; exact hclosed j x hj hl hdep
          · intro j hj hl t ht
            rw [hset] at hl
            by_cases e : j = i
            · rw [if_pos e] at hl; cases hl
            · rw [if_neg e] at hl
              cases hdi : dstO ops i with
              | none => exact hnew j hj hl t ht
              | some a =>
                simp only [put, look]
                rw [beq_no (drawOk4_apart hok hj him e ht hdi)]
                exact hnew j hj hl t ht
        have hst := hstep.at_ i him
        have hnw : ∀ j, j < m → isDep ops j i = true → ∀ t, dstO ops j = some t → look ρ' t = look ρ t := fun j hj hdep t ht => by
          refine hnew j hj ?_ t ht
          cases hb : listed.getD j false with
          | false => rfl
          | true => rw [hclosed j i hj hb hdep] at hi0; cases hi0
        -- the values of the rows stay where they were
        have keepu : ∀ (v : Value) q, q < K → (∀ r, wr i ≠ some (q, r)) → s q ≠ 0 → ∀ t, sd q (s q) = some t → look (put ρ' (dstO ops i) v) t = some (u q) := by
          intro v q hq hno h0 t ht
          obtain ⟨j, rj, hj, hjs, _, h9⟩ := origin q (s q) hq (hsS q hq) h0 t ht
          have hji : j ≠ i := by rintro rfl; exact hno _ hjs
          cases hdi : dstO ops i with
          | none => exact hus q hq h0 t ht
          | some a =>
            simp only [put, look]
            rw [beq_no (drawOk4_apart hok hj him hji h9 hdi)]
            exact hus q hq h0 t ht
        have keepr : (∀ p, wr i ≠ some p) → ∀ j q r, j < m → wr j = some (q, r) → ((listed.setIfInBounds i true).getD j false = true ↔ r < s q) := by
          intro hno j q r hj hr
          have hji : j ≠ i := by rintro rfl; exact hno _ hr
          rw [hset, if_neg hji]; exact hrow2 j q r hj hr
        have up : ∀ σ'', σ'.Le σ'' → ∀ q, q < K → I q (s q) σ'' (u q) (F q) := fun σ'' h q hq => hI _ _ _ _ _ _ h (hIs q hq)
        cases hfi : fr i with
        | some q =>
          rw [hfi] at hst
          obtain ⟨hwi, hst⟩ := hst
          have hno : ∀ p, wr i ≠ some p := fun p h => by rw [hwi] at h; cases h
          have hq := hfr i q him hfi
          have hp := perm_row (gs := gs) (F := F) (F' := F) hq (fun _ _ => rfl)
          refine st_perm hp (hst (s q) (hsS q hq) ρ' σ' (u q) (F q) _ _ hle (hIs q hq) (hus q hq) hdeps hout hnw (fun v σ'' hle2 hTv => ?_))
          exact st_perm hp.symm (go v σ'' s u F hle2 hTv (up σ'' hle2) (fun q hq => keepu v q hq (fun r => hno _)) hsS (keepr hno))
        | none =>
        rw [hfi] at hst
        cases hwi : wr i with
        | none =>
          rw [hwi] at hst
          have hno : ∀ p, wr i ≠ some p := fun p h => by rw [hwi] at h; cases h
          cases hrd : rd i with
          | none =>
            rw [hrd] at hst
            refine st_perm (gs' := gs ++ [((List.range K).flatMap F).flatten]) (by simp) (hst ρ' σ' _ _ hle hdeps hout hnw (fun v σ'' hle2 hTv => ?_))
            exact st_perm (by simp) (go v σ'' s u F hle2 hTv (up σ'' hle2) (fun q hq => keepu v q hq (fun r => hno _)) hsS (keepr hno))
          | some p =>
            obtain ⟨q, r⟩ := p
            rw [hrd] at hst
            obtain ⟨hq, hrS, hlo, hhi⟩ := hr4 i q r him hrd
            have hrs : r = s q := by
              have h1 : r ≤ s q := by
                rcases hlo with h | ⟨j, hj, hjs, hdep⟩
                · omega
                · have := (hrow2 j q _ hj hjs).1 (hlist j hdep); omega
              rcases hhi with h | ⟨j, hj, hjs, hdep⟩
              · have := hsS q hq; omega
              · have h2 : ¬ r < s q := fun h2 => by
                  have h3 := (hrow2 j q r hj hjs).2 h2
                  -- j is listed, so all that it hangs on is
                  have h4 := hclosed j i (by omega) h3 hdep
                  rw [hi0] at h4; cases h4
                omega
            subst hrs
            have hp := perm_row (gs := gs) (F := F) (F' := F) hq (fun _ _ => rfl)
            refine st_perm hp (hst ρ' σ' (u q) (F q) _ _ hle (hIs q hq) (hus q hq) hdeps hout hnw (fun v σ'' hle2 hTv => ?_))
            exact st_perm hp.symm (go v σ'' s u F hle2 hTv (up σ'' hle2) (fun q hq => keepu v q hq (fun r => hno _)) hsS (keepr hno))
        | some p =>
          obtain ⟨q, r⟩ := p
          rw [hwi] at hst
          obtain ⟨hq, hrS, hlo⟩ := hr1 i q r him hwi
          have hrs : r = s q := by
            have h9 : ¬ r < s q := fun h9 => by rw [(hrow2 i q r him hwi).2 h9] at hi0; cases hi0
            rcases hlo with h10 | ⟨j, hj, hjs, hdep⟩
            · omega
            · have := (hrow2 j q _ hj hjs).1 (hlist j hdep)
              omega
          subst hrs
          have hp := perm_row (gs := gs) (F := F) (F' := F) hq (fun _ _ => rfl)
          refine st_perm hp (hst ρ' σ' (u q) (F q) _ _ hle (hIs q hq) (hus q hq) hdeps hout hnw (fun v σ'' F' hle2 hTv hI2 => ?_))
          have hp2 := perm_row (gs := gs) (F := F) (F' := fun x => if x = q then F' else F x) hq (fun x hx => by simp only [if_neg hx])
          simp only [if_true] at hp2
          refine st_perm hp2.symm (go v σ'' (fun x => if x = q then s q + 1 else s x) (fun x => if x = q then uof (dstO ops i) (u q) v else u x) (fun x => if x = q then F' else F x) hle2 hTv (fun x hx => ?_) (fun x hx h0 t ht => ?_) (fun x hx => ?_) (fun j x r' hj hr => ?_))
          · by_cases e : x = q
            · subst e; simp only [if_true]; exact hI2
            · simp only [if_neg e]; exact up σ'' hle2 x hx
          · by_cases e : x = q
            · subst e
              simp only [if_true] at ht ⊢
              rcases hsd i x (s x) him hwi with h9 | ⟨h8, h0', h9⟩
              · rw [ht] at h9
                rw [← h9]; simp [put, look, uof]
              · rw [h8]
                exact hus x hx h0' t (by rw [← h9]; exact ht)
            · simp only [if_neg e] at ht h0 ⊢
              exact keepu v x hx (fun r h => by rw [hwi] at h; cases h; exact e rfl) h0 t ht
          · by_cases e : x = q
            · subst e; simp only [if_true]; omega
            · simp only [if_neg e]; exact hsS x hx
          · rw [hset]
            by_cases e : j = i
            · subst e
              rw [hwi] at hr; cases hr
              simp
            · rw [if_neg e, hrow2 j x r' hj hr]
              by_cases ex : x = q
              · subst ex
                simp only [if_true]
                have : r' ≠ s x := by rintro rfl; exact e (hr2 j i _ hj him hr hwi)
                omega
              · simp only [if_neg ex]
  intro ds a w ha hw
  have hrep : ∀ j, (Array.replicate ops.size false).getD j false = false := by
    intro j
    simp only [Array.getD_eq_getD_getElem?, Array.getElem?_replicate]; split <;> rfl
  have h0 := key ops.size (w.tape w.drawn (.order c.b.fn id)) (Array.replicate ops.size false) ρ σ (fun _ => 0) (fun _ => undef) F0 (fun _ => undef) (by simp) (by
      rw [List.filter_eq_self.2]
      · simp
      · intro j hj; have := List.mem_range.1 hj; simp [Array.getD_eq_getD_getElem?, this]) (by
      intro j _ hj; simp [Array.getD_eq_getD_getElem?, hj]) (Sto.Le.refl σ) (by
      intro j _ hl
      rw [hrep j] at hl; cases hl) (fun _ _ => rfl) hI0 (fun _ _ h => absurd rfl h) (fun _ _ => Nat.zero_le _) (fun i q r _ _ => by rw [hrep i]; simp) (by
      intro j i _ hl
      rw [hrep j] at hl; cases hl) (fun _ _ _ _ _ => rfl)
  have hs := stepR_region_draw (P := P) (b := c.b) (a := a) (k := k) (cs := c.cs) (w := w) (ops := ops) (id := id)
  have hsch : Region.schedule (P.follows .mixedOrders) ops (w.tape w.drawn (.order c.b.fn id)) = Region.linearise.go .any ops ops.size (w.tape w.drawn (.order c.b.fn id)) (Array.replicate ops.size false) [] := by
    simp only [Region.schedule, hmix, Bool.true_or, if_true]; rfl
  rw [hsch] at hs
  obtain ⟨m', h1, h2⟩ := h0 ds a { w with drawn := w.drawn + 1 } ha (hw.drawn (w.drawn + 1))
  exact ⟨m', .head hs h1, h2⟩
theorem st_draw4 {P : Program} {n : Nat} {c : Ctx P n} {ρ : Env} {σ : Sto} {gs : List Grp} {k : List Item} {id : Nat} {ops : Array Oper} (F0 : Nat → List Grp) (m K : Nat) (S : Nat → Nat) (wr rd : Nat → Option (Nat × Nat)) (sd : Nat → Nat → Option Nat) (T : Nat → Sto → Value → Prop) (I : Nat → Nat → Sto → Value → List Grp → Prop)
    (hmix : P.follows .mixedOrders = true) (hok : drawOk4 ops m = true) (hT : ∀ i σ σ' v, σ.Le σ' → T i σ v → T i σ' v)
    (hI : ∀ q s σ σ' v F, σ.Le σ' → I q s σ v F → I q s σ' v F) (hrow : rowOk4 ops m K S wr rd = true) (hsd0 : rowSd4B ops m wr sd = true) (hI0 : ∀ q, q < K → I q 0 σ undef (F0 q))
    (hstep : AllB (fun i => Step4 c ρ σ gs k ops m sd T I i (wr i) (rd i)) m)
    (hfin : ∀ (ρ' : Env) (σ' : Sto) (vals : Nat → Value) (u : Nat → Value) (F : Nat → List Grp), σ.Le σ' → (∀ q, q < K → I q (S q) σ' (u q) (F q) ∧ ∀ t, sd q (S q) = some t → look ρ' t = some (u q)) → (∀ j, j < m → (∀ t, dstO ops j = some t → look ρ' t = some (vals j)) ∧ T j σ' (vals j)) → (∀ t, (dstsO ops m).contains t = false → look ρ' t = look ρ t) →
      St c ρ' σ' (gs ++ (List.range K).flatMap F) (.inRegion ops (List.range' m (ops.size - m)) :: k)) :
    St c ρ σ (gs ++ (List.range K).flatMap F0) (.code (.region id ops true) :: k) :=
  st_draw5 F0 m K S wr rd (fun _ => none) sd T I hmix hok hT hI hrow hsd0 hI0 (fun _ _ _ h => nomatch h) hstep hfin
/-! ### How rows are written down -/
def tlP (l : List (Option (Nat × Nat))) (i : Nat) : Option (Nat × Nat) := match l[i]? with
 | some p => p
 | none => none
def tlNN (l : List (List (Option Nat))) (q r : Nat) : Option Nat := match l[q]? with
 | some x => match x[r]? with
  | some p => p
  | none => none
 | none => none
def tlII (l : List (List (Sto → Value → List Grp → Prop))) (q : Nat) : Nat → Sto → Value → List Grp → Prop := match l[q]? with
 | some x => tlI x
 | none => fun _ _ _ _ => True
def MonoII : List (List (Sto → Value → List Grp → Prop)) → Prop
 | [] => True
 | x :: l => MonoI x ∧ MonoII l
theorem tlII_mono {l : List (List (Sto → Value → List Grp → Prop))} (h : MonoII l) : ∀ q s σ τ v F, σ.Le τ → tlII l q s σ v F → tlII l q s τ v F := by
 intro q
 induction l generalizing q with
 | nil => intro s σ τ v F _ h; exact trivial
 | cons x l ih =>
  cases q with
  | zero => exact tlI_mono h.1
  | succ q => exact ih h.2 q
theorem lt1 {p : Nat → Prop} (h : p 0) : ∀ q, q < 1 → p q := fun q hq => by
 obtain rfl : q = 0 := by omega
 exact h
theorem lt2 {p : Nat → Prop} (h0 : p 0) (h1 : p 1) : ∀ q, q < 2 → p q := fun q hq => by
 match q, hq with
 | 0, _ => exact h0
 | 1, _ => exact h1
def pick2 {α : Type} (a b : α) (q : Nat) : α := if q = 0 then a else b
theorem st_draw41 {P : Program} {n : Nat} {c : Ctx P n} {ρ : Env} {σ : Sto} {gs F0 : List Grp} {k : List Item} {id : Nat} {ops : Array Oper} (m S : Nat) (wr rd : Nat → Option (Nat × Nat)) (sd : Nat → Nat → Option Nat) (T : Nat → Sto → Value → Prop) (I : Nat → Nat → Sto → Value → List Grp → Prop)
    (hmix : P.follows .mixedOrders = true) (hok : drawOk4 ops m = true) (hT : ∀ i σ σ' v, σ.Le σ' → T i σ v → T i σ' v)
    (hI : ∀ q s σ σ' v F, σ.Le σ' → I q s σ v F → I q s σ' v F) (hrow : rowOk4 ops m 1 (fun _ => S) wr rd = true) (hsd0 : rowSd4B ops m wr sd = true) (hI0 : I 0 0 σ undef F0)
    (hstep : AllB (fun i => Step4 c ρ σ gs k ops m sd T I i (wr i) (rd i)) m)
    (hfin : ∀ (ρ' : Env) (σ' : Sto) (vals : Nat → Value) (u : Value) (F : List Grp), σ.Le σ' → I 0 S σ' u F → (∀ t, sd 0 S = some t → look ρ' t = some u) → (∀ j, j < m → (∀ t, dstO ops j = some t → look ρ' t = some (vals j)) ∧ T j σ' (vals j)) → (∀ t, (dstsO ops m).contains t = false → look ρ' t = look ρ t) →
      St c ρ' σ' (gs ++ F) (.inRegion ops (List.range' m (ops.size - m)) :: k)) :
    St c ρ σ (gs ++ F0) (.code (.region id ops true) :: k) := by
  have h := st_draw4 (c := c) (ρ := ρ) (σ := σ) (gs := gs) (k := k) (id := id) (ops := ops) (fun _ => F0) m 1 (fun _ => S) wr rd sd T I hmix hok hT hI hrow hsd0 (lt1 hI0) hstep (fun ρ' σ' vals u F hle hIu hv hout => by
    have := hfin ρ' σ' vals (u 0) (F 0) hle (hIu 0 (by decide)).1 (hIu 0 (by decide)).2 hv hout
    simpa [List.range_succ] using this)
  simpa [List.range_succ] using h
theorem st_draw42 {P : Program} {n : Nat} {c : Ctx P n} {ρ : Env} {σ : Sto} {gs F0 F1 : List Grp} {k : List Item} {id : Nat} {ops : Array Oper} (m S S1 : Nat) (wr rd : Nat → Option (Nat × Nat)) (sd : Nat → Nat → Option Nat) (T : Nat → Sto → Value → Prop) (I : Nat → Nat → Sto → Value → List Grp → Prop)
    (hmix : P.follows .mixedOrders = true) (hok : drawOk4 ops m = true) (hT : ∀ i σ σ' v, σ.Le σ' → T i σ v → T i σ' v)
    (hI : ∀ q s σ σ' v F, σ.Le σ' → I q s σ v F → I q s σ' v F) (hrow : rowOk4 ops m 2 (pick2 S S1) wr rd = true) (hsd0 : rowSd4B ops m wr sd = true) (hI0 : I 0 0 σ undef F0) (hI1 : I 1 0 σ undef F1)
    (hstep : AllB (fun i => Step4 c ρ σ gs k ops m sd T I i (wr i) (rd i)) m)
    (hfin : ∀ (ρ' : Env) (σ' : Sto) (vals : Nat → Value) (u u1 : Value) (F F1 : List Grp), σ.Le σ' → I 0 S σ' u F → (∀ t, sd 0 S = some t → look ρ' t = some u) → I 1 S1 σ' u1 F1 → (∀ t, sd 1 S1 = some t → look ρ' t = some u1) → (∀ j, j < m → (∀ t, dstO ops j = some t → look ρ' t = some (vals j)) ∧ T j σ' (vals j)) → (∀ t, (dstsO ops m).contains t = false → look ρ' t = look ρ t) →
      St c ρ' σ' (gs ++ F ++ F1) (.inRegion ops (List.range' m (ops.size - m)) :: k)) :
    St c ρ σ (gs ++ F0 ++ F1) (.code (.region id ops true) :: k) := by
  have h := st_draw4 (c := c) (ρ := ρ) (σ := σ) (gs := gs) (k := k) (id := id) (ops := ops) (pick2 F0 F1) m 2 (pick2 S S1) wr rd sd T I hmix hok hT hI hrow hsd0 (lt2 (by simpa [pick2] using hI0) (by simpa [pick2] using hI1)) hstep (fun ρ' σ' vals u F hle hIu hv hout => by
    have h0 := hIu 0 (by decide)
    have h1 := hIu 1 (by decide)
    simp only [pick2, if_true, Nat.one_ne_zero, if_false] at h0 h1
    have := hfin ρ' σ' vals (u 0) (u 1) (F 0) (F 1) hle h0.1 h0.2 h1.1 h1.2 hv hout
    simpa [List.range_succ] using this)
  simpa [List.range_succ, pick2] using h
theorem cel_arr {σ : Sto} {α : Type} {f : α → Value} {zz : α} {n p q b o off : Nat} {vs : List Value} {xs : List α} (h : CelN σ ⟨b, o, none⟩ vs) (hv : (vs.drop p).take n = cellsN f zz n xs) (ho : off = o + p + q) (hq : q < n) : Cel σ ⟨b, off, none⟩ (f (xs.getD q zz)) := by
 have h1 : ((vs.drop p).take n)[q]? = some (f (xs.getD q zz)) := by rw [hv]; exact cellsN_get hq
 rw [List.getElem?_take, if_pos hq, List.getElem?_drop] at h1
 have := h _ _ h1
 rw [ho, Nat.add_assoc]; exact this
section
variable {P : Program} {n : Nat} {c : Ctx P n} {ρ : Env} {σ : Sto} {gs : List Grp} {k : List Item} {ops : Array Oper} {i : Nat} {rest : List Nat}
variable {d : Option Nat} {ty : TypeId} {pos : String} {after : Array Edge} {g : Option (Nat × Bool)} {x y : Operand} {v : Value} {t : TypeId}
theorem o_slNil {α : Type} {dk : Kd α} {e : TypeId} {xs : List α} (ho : ops[i]? = some ⟨d, .binOp .eql t x y t, ty, pos, after, g⟩) (hg : wants ops ρ g = true) (hf : fits n d = true) (ht : P.underlying t = some (.slice e)) (hx : ev ρ x = some v) (hs : Sl dk σ v xs) (hy : ev ρ y = some (.slice none 0 0))
    (h : ∀ b : Bool, (b = true → xs = []) → St c (put ρ d (.bool b)) σ gs (.inRegion ops rest :: k)) : St c ρ σ gs (.inRegion ops (i :: rest) :: k) := by
  obtain ⟨a, cap, rfl⟩ := hs.slice
  refine st_pure ho hg hf rfl (v := .bool a.isNone) (fun ds a' w ha => ?_) (h a.isNone (fun hb => ?_))
  · have h1 := run_equal_slice_nil (P := P) w t e a xs.length cap ht
    simp [execOp, ha.eval hx, ha.eval hy, eqGuard, binOp, h1]
  · obtain ⟨cells, ⟨_, hv⟩, _⟩ := hs
    rcases hv with ⟨_, hn⟩ | ⟨b, off, cap', cs, E, fr, he, _⟩
    · exact List.eq_nil_of_length_eq_zero hn
    · cases he; cases hb
end
end Go.Eng
