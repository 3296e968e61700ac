import Derived.Test.YtonmgcebhhdplaaGreatPlM1
/-! Plain laws: what is wrong with a message: the program's answer and the document's. -/
namespace Go.Rel
open Go Go.Eng Go.Pl

def sortN (f : Fd) : Prop := f.2.1 ≠ 3 ∧ f.2.1 ≠ 4 ∧ f.2.1 ≠ 5 ∧ f.2.1 ≠ 6
instance (f : Fd) : Decidable (sortN f) := by unfold sortN; infer_instance
def hasS (l : List Fd) (s : Int) : Bool := l.any fun f => decide (f.2.1 = s)
def hasN (l : List Fd) (p : Nat) : Bool := l.any fun f => decide (sortN f ∧ f.2.2.1.toNat = p)
def zN (l : List Fd) (N : List Int) (p : Nat) : Int := if hasN l p = true then 0 else N.getD p 0
def leftB (l : List Fd) (m : Mg) : Mg :=
  (m.1, [zN l m.2.1 0, zN l m.2.1 1, zN l m.2.1 2, zN l m.2.1 3, zN l m.2.1 4, zN l m.2.1 5], if hasS l 3 = true then [] else m.2.2.1, if hasS l 4 = true then [] else m.2.2.2.1, if hasS l 5 = true then bstr [] else m.2.2.2.2.1, if hasS l 6 = true then bstr [] else m.2.2.2.2.2)
theorem hasS_snoc (l : List Fd) (f : Fd) (s : Int) : hasS (l ++ [f]) s = (hasS l s || decide (f.2.1 = s)) := by simp [hasS]
theorem hasN_snoc (l : List Fd) (f : Fd) (p : Nat) : hasN (l ++ [f]) p = (hasN l p || decide (sortN f ∧ f.2.2.1.toNat = p)) := by simp [hasN]
theorem zN_same {l : List Fd} {f : Fd} (h : ¬ sortN f) (N : List Int) (p : Nat) : zN (l ++ [f]) N p = zN l N p := by
  unfold zN; rw [hasN_snoc, decide_eq_false (fun hh => h hh.1), Bool.or_false]
theorem zN_put {l : List Fd} {f : Fd} (h : sortN f) (N : List Int) {p : Nat} (hp : p < 6) : (putN 6 0 [zN l N 0, zN l N 1, zN l N 2, zN l N 3, zN l N 4, zN l N 5] f.2.2.1.toNat 0).getD p 0 = zN (l ++ [f]) N p := by
  rw [putN_getD hp]
  have e : [zN l N 0, zN l N 1, zN l N 2, zN l N 3, zN l N 4, zN l N 5].getD p 0 = zN l N p := by
    match p, hp with
    | 0, _ => rfl
    | 1, _ => rfl
    | 2, _ => rfl
    | 3, _ => rfl
    | 4, _ => rfl
    | 5, _ => rfl
  rw [e]
  unfold zN
  rw [hasN_snoc]
  by_cases hq : p = f.2.2.1.toNat
  · rw [if_pos hq, decide_eq_true ⟨h, hq.symm⟩]; simp
  · rw [if_neg hq, decide_eq_false (fun hh => hq hh.2.symm), Bool.or_false]
theorem without_ok (l : List Fd) (m : Mg) {f : Fd} (ok : fdOk f) : msg_without (leftB l m) f (leftB (l ++ [f]) m) := by
  obtain ⟨_, _, ok⟩ := ok
  unfold msg_without
  simp only [decide_eq_true_eq]
  have no : ∀ {s : Int}, f.2.1 ≠ s → hasS (l ++ [f]) s = hasS l s := fun h => by rw [hasS_snoc, decide_eq_false h, Bool.or_false]
  have yes : ∀ {s : Int}, f.2.1 = s → hasS (l ++ [f]) s = true := fun h => by rw [hasS_snoc, decide_eq_true h, Bool.or_true]
  by_cases h3 : f.2.1 = 3
  · rw [if_pos h3]
    have hs : ¬ sortN f := fun h => h.1 h3
    unfold msg_without_j1 leftB
    simp only [zN_same hs, yes h3, no (s := 4) (by omega), no (s := 5) (by omega), no (s := 6) (by omega), List.getD_cons_zero, List.getD_cons_succ, if_true]
  rw [if_neg h3]
  by_cases h4 : f.2.1 = 4
  · rw [if_pos h4]
    have hs : ¬ sortN f := fun h => h.2.1 h4
    unfold msg_without_j1 leftB
    simp only [zN_same hs, yes h4, no h3, no (s := 5) (by omega), no (s := 6) (by omega), List.getD_cons_zero, List.getD_cons_succ, if_true]
  rw [if_neg h4]
  by_cases h5 : f.2.1 = 5
  · rw [if_pos h5]
    have hs : ¬ sortN f := fun h => h.2.2.1 h5
    unfold msg_without_j1 leftB
    simp only [zN_same hs, yes h5, no h3, no h4, no (s := 6) (by omega), List.getD_cons_zero, List.getD_cons_succ, if_true]
  rw [if_neg h5]
  by_cases h6 : f.2.1 = 6
  · rw [if_pos h6]
    have hs : ¬ sortN f := fun h => h.2.2.2 h6
    unfold msg_without_j1 leftB
    simp only [zN_same hs, yes h6, no h3, no h4, no h5, List.getD_cons_zero, List.getD_cons_succ, if_true]
  rw [if_neg h6]
  have hs : sortN f := ⟨h3, h4, h5, h6⟩
  refine ⟨by omega, by omega, ?_⟩
  unfold msg_without_j1 leftB
  simp only [no h3, no h4, no h5, no h6]
  rw [zN_put hs m.2.1 (p := 0) (by omega), zN_put hs m.2.1 (p := 1) (by omega), zN_put hs m.2.1 (p := 2) (by omega), zN_put hs m.2.1 (p := 3) (by omega), zN_put hs m.2.1 (p := 4) (by omega), zN_put hs m.2.1 (p := 5) (by omega)]
def firstW (m : Mg) : List Fd → Int
  | [] => 0
  | f :: l => if wrongB m f ≠ 0 then wrongB m f else firstW m l
abbrev Ex := Int × Int × Int × Int × Int × Int × Int × Int × List (Int × Int) × List Int × ByteArray × ByteArray
def exB (e : Int) (x : Mg) : Ex := (e, x.1, x.2.1.getD 0 0, x.2.1.getD 1 0, x.2.1.getD 2 0, x.2.1.getD 3 0, x.2.1.getD 4 0, x.2.1.getD 5 0, x.2.2.1, x.2.2.2.1, x.2.2.2.2.1, x.2.2.2.2.2)
def stB (e i : Int) (x : Mg) : Int × Ex := (e, i, x.1, x.2.1.getD 0 0, x.2.1.getD 1 0, x.2.1.getD 2 0, x.2.1.getD 3 0, x.2.1.getD 4 0, x.2.1.getD 5 0, x.2.2.1, x.2.2.2.1, x.2.2.2.2.1, x.2.2.2.2.2)
theorem check_run (m : Mg) (fs : List Fd) (hfs : fs.length < 100) (hok : ∀ f ∈ fs, fdOk f) : ∀ (l pre : List Fd) (e : Int), fs = pre ++ l → ∃ ex, Loops (msg_Check_l3 m fs) (stB e (pre.length : Int) (leftB pre m)) ex ∧ (firstW m l ≠ 0 → ex.1 = firstW m l) ∧ (firstW m l = 0 → ex = exB (if l = [] then e else 0) (leftB fs m))
  | [], pre, e, h => by
    refine ⟨exB e (leftB fs m), .done ?_, fun h => absurd rfl h, fun _ => by rw [if_pos rfl]⟩
    rw [List.append_nil] at h
    unfold msg_Check_l3
    rw [if_neg (by rw [h]; simp [stB])]
    rw [h]; rfl
  | f :: l, pre, e, h => by
    have hlen : fs.length = pre.length + l.length + 1 := by rw [h]; simp; omega
    have hat : fs[pre.length]? = some f := by rw [h]; simp
    have hw := len_wrap (n := pre.length) (by omega)
    have hf := hok f (by rw [h]; simp)
    by_cases hz : wrongB m f = 0
    · obtain ⟨ex, h1, h2, h3⟩ := check_run m fs hfs hok l (pre ++ [f]) 0 (by rw [h]; simp)
      simp only [firstW, hz, ne_eq, not_true, if_false]
      refine ⟨ex, .next ?_ h1, h2, fun hh => ?_⟩
      · unfold msg_Check_l3
        rw [if_pos (by simp [stB]; omega)]
        refine ⟨f, idx_at rfl hat, 0, by rw [← hz]; exact wrong_fd m hf, ?_⟩
        rw [if_neg (by simp)]
        refine ⟨leftB (pre ++ [f]) m, without_ok pre m hf, ?_⟩
        simp only [stB, List.length_append, List.length_cons, List.length_nil]
        rw [hw]
      · rw [h3 hh]; split <;> rfl
    · simp only [firstW, ne_eq, hz, not_false_iff, if_true]
      refine ⟨exB (wrongB m f) (leftB pre m), .done ?_, fun _ => rfl, fun hh => hh.elim⟩
      unfold msg_Check_l3
      rw [if_pos (by simp [stB]; omega)]
      refine ⟨f, idx_at rfl hat, _, wrong_fd m hf, ?_⟩
      rw [if_pos (by simpa using hz)]
      rfl
def zeroM (k : Int) : Mg := (k, List.replicate 6 0, [], [], bstr [], bstr [])
def checkB (m : Mg) : Int := if fieldsB m.1 = [] then 9 else if firstW m (fieldsB m.1) ≠ 0 then firstW m (fieldsB m.1) else if sameB (leftB (fieldsB m.1) m) (zeroM m.1) = true then 0 else 3
theorem len_if {α : Type} {c : Prop} [Decidable c] {l : List α} {n : Nat} (h : l.length < n) (hn : 0 < n) : (if c then [] else l).length < n := by split <;> simp [h, hn]
theorem mcheck_ok {m : Mg} (hp : m.2.2.1.length < 4611686018427387904) (hc : m.2.2.2.1.length < 4611686018427387904) : msg_Check m (checkB m) := by
  obtain ⟨ex, h1, h2, h3⟩ := check_run m (fieldsB m.1) (by have := fields_len m.1; omega) (fields_fd m.1) (fieldsB m.1) [] 9 rfl
  refine ⟨_, fields_ok m.1, ex, h1, ?_⟩
  unfold checkB msg_Check_j1
  by_cases hl : fieldsB m.1 = []
  · rw [if_pos hl]
    have : firstW m (fieldsB m.1) = 0 := by rw [hl]; rfl
    have hx := h3 this
    rw [if_pos hl] at hx
    rw [hx, if_neg (by simp [exB])]
    unfold msg_Check_j2
    rw [if_neg (by simp)]; rfl
  · rw [if_neg hl]
    by_cases hf : firstW m (fieldsB m.1) = 0
    · rw [if_neg (c := firstW m (fieldsB m.1) ≠ 0) (by simpa using hf)]
      have hx := h3 hf
      rw [if_neg hl] at hx
      rw [hx, if_pos (c := (decide ((exB 0 (leftB (fieldsB m.1) m)).1 = 0)) = true) (by simp [exB])]
      refine ⟨sameB (leftB (fieldsB m.1) m) (zeroM m.1), msame_ok (a := leftB (fieldsB m.1) m) (b := zeroM m.1) (len_if hp (by decide)) (len_if hc (by decide)), ?_⟩
      unfold msg_Check_j2
      cases hs : sameB (leftB (fieldsB m.1) m) (zeroM m.1) <;> rfl
    · rw [if_pos (c := firstW m (fieldsB m.1) ≠ 0) hf, if_neg (c := (decide (ex.1 = 0)) = true) (by rw [h2 hf]; simpa using hf)]
      unfold msg_Check_j2
      rw [if_neg (by simp), h2 hf]

/-! The document's check. -/
end Go.Rel
/-! Plain laws: a message's body: its bytes. -/
namespace Go.Rel
open Go Go.Eng Go.Pl

theorem pnum_ok {p : List Int} {room n : Nat} (hn : n < 2 ^ 56) (h : p.length + (vB n).length ≤ room) (hr : room < 1073741824) : pen_Pen_Number (p, (room : Int), false) [(n : Int)] (0, (p ++ vB n, (room : Int), false)) := by
  have hp := vput_ok [n] (by simp; omega) (by simp; omega) (by simp)
  simp only [List.map_cons, List.map_nil, List.flatMap_cons, List.flatMap_nil, List.append_nil] at hp
  exact ⟨vB n, hp, _, raw_ok h hr, rfl⟩
theorem psig_ok {p : List Int} {room : Nat} (as : List Int) (ha : ∀ a ∈ as, -1099511627776 ≤ a ∧ a ≤ 1099511627776) (h : p.length + (as.flatMap fun a => vB (zigN a)).length ≤ room) (hr : room < 1073741824) (hl : as.length < 1000) :
    pen_Pen_Signed (p, (room : Int), false) as (0, (p ++ as.flatMap fun a => vB (zigN a), (room : Int), false)) := by
  have key : ∀ (r pre : List Int), as = pre ++ r → Loops (pen_Pen_Signed_l2 as) (pre.map fun a => (zigN a : Int), (pre.length : Int)) (as.map fun a => (zigN a : Int)) := by
    intro r
    induction r with
    | nil =>
      intro pre h
      refine .done ?_
      unfold pen_Pen_Signed_l2
      rw [if_neg (by rw [h]; simp)]
      rw [h]; simp
    | cons a r ih =>
      intro pre h
      have hx : idx as (pre.length : Int) a := ⟨by omega, by rw [h]; simp⟩
      have hlt := hx.lt
      have haa := ha a (by rw [h]; simp)
      refine .next (s' := ((pre ++ [a]).map fun a => (zigN a : Int), ((pre ++ [a]).length : Int))) ?_ (ih (pre ++ [a]) (by simp [h]))
      unfold pen_Pen_Signed_l2
      rw [if_pos (by simpa using hlt)]
      refine ⟨a, hx, _, zig_ok haa.1 haa.2, ?_⟩
      simp only [List.length_map, List.length_cons, List.length_nil]
      refine ⟨by omega, by omega, ?_⟩
      rw [w_small (by omega) (by omega)]
      simp
  have hz : ∀ n ∈ as.map zigN, n < 2 ^ 64 := by
    intro n hn
    obtain ⟨a, h1, rfl⟩ := List.mem_map.1 hn
    have := ha a h1
    unfold zigN; split <;> omega
  have e : (as.map zigN).flatMap vB = as.flatMap fun a => vB (zigN a) := by rw [List.flatMap_map]
  have hp := vput_ok (as.map zigN) hz (by rw [e]; omega) (by simp; omega)
  rw [e] at hp
  refine ⟨_, key as [] rfl, _, ⟨_, ?_, _, raw_ok h hr, rfl⟩, rfl⟩
  have : (as.map fun a => (zigN a : Int)) = (as.map zigN).map Int.ofNat := by rw [List.map_map]; rfl
  rw [this]; exact hp
theorem pfield_ok {p l : List Int} {room : Nat} (h : p.length + (vB l.length).length + l.length ≤ room) (hr : room < 1073741824) : pen_Pen_Field (p, (room : Int), false) l (0, (p ++ (vB l.length ++ l), (room : Int), false)) := by
  have hp := vput_ok [l.length] (by simp; omega) (by simp; omega) (by simp)
  simp only [List.map_cons, List.map_nil, List.flatMap_cons, List.flatMap_nil, List.append_nil] at hp
  refine ⟨vB l.length, ?_, by omega, by omega, _, raw_ok (l := vB l.length ++ l) (by rw [List.length_append]; omega) hr, rfl⟩
  rw [w64_small (by omega) (by omega)]; exact hp

/-! ### Points, cells -/
def ptsE : Int × Int → List (Int × Int) → List Int
  | _, [] => []
  | q, p :: l => vB (zigN (p.1 - q.1)) ++ vB (zigN (p.2 - q.2)) ++ ptsE p l
def clsE : Int → List Int → List Int
  | _, [] => []
  | q, c :: l => vB (c - q - 1).toNat ++ clsE c l
theorem vB_4 {n : Nat} (h : n < 268435456) : (vB n).length ≤ 4 := vB_len (k := 3) (by simpa using h)
theorem ptsE_len : ∀ (l : List (Int × Int)) (q : Int × Int), (-1000000 ≤ q.1 ∧ q.1 ≤ 1000000 ∧ -1000000 ≤ q.2 ∧ q.2 ≤ 1000000) → (∀ p ∈ l, -1000000 ≤ p.1 ∧ p.1 ≤ 1000000 ∧ -1000000 ≤ p.2 ∧ p.2 ≤ 1000000) → (ptsE q l).length ≤ 8 * l.length
  | [], _, _, _ => by simp [ptsE]
  | p :: l, q, hq, h => by
    have h1 := h p List.mem_cons_self
    have ih := ptsE_len l p h1 (fun x hx => h x (List.mem_cons_of_mem _ hx))
    have a1 := vB_4 (n := zigN (p.1 - q.1)) (by unfold zigN; split <;> omega)
    have a2 := vB_4 (n := zigN (p.2 - q.2)) (by unfold zigN; split <;> omega)
    simp only [ptsE, List.length_append, List.length_cons]
    omega
theorem points_ok {room : Nat} (hr : room < 1073741824) (l : List (Int × Int)) (hp : ∀ p ∈ l, -1000000 ≤ p.1 ∧ p.1 ≤ 1000000 ∧ -1000000 ≤ p.2 ∧ p.2 ≤ 1000000) (hl : l.length ≤ 16) (hroom : 1 + 8 * l.length ≤ room) :
    body_points ([], (room : Int), false) l (vB l.length ++ ptsE (0, 0) l, (room : Int), false) := by
  have h1 := vB_lt (n := l.length) (by omega)
  refine ⟨(0, (vB l.length, (room : Int), false)), ?_, (vB l.length ++ ptsE (0, 0) l, (room : Int), false), ?_, rfl⟩
  · rw [w64_small (by omega) (by omega)]
    exact pnum_ok (p := []) (by omega) (by rw [h1]; simp; omega) hr
  · have key : ∀ (r pre : List (Int × Int)) (q : Int × Int) (acc : List Int), l = pre ++ r → (-1000000 ≤ q.1 ∧ q.1 ≤ 1000000 ∧ -1000000 ≤ q.2 ∧ q.2 ≤ 1000000) → acc.length + 8 * r.length ≤ room → Loops (body_points_l1 l) ((pre.length : Int), acc, (room : Int), false, q.1, q.2) (acc ++ ptsE q r, (room : Int), false) := by
      intro r
      induction r with
      | nil =>
        intro pre q acc h _ _
        refine .done ?_
        unfold body_points_l1
        rw [if_neg (by rw [h]; simp)]
        simp [ptsE]
      | cons p r ih =>
        intro pre q acc h hq ha
        have hx : idx l (pre.length : Int) p := ⟨by omega, by rw [h]; simp⟩
        have hlt := hx.lt
        have h1 := hp p (by rw [h]; simp)
        have a1 := vB_4 (n := zigN (p.1 - q.1)) (by unfold zigN; split <;> omega)
        have a2 := vB_4 (n := zigN (p.2 - q.2)) (by unfold zigN; split <;> omega)
        simp only [List.length_cons] at ha
        have ih' := ih (pre ++ [p]) p (acc ++ (vB (zigN (p.1 - q.1)) ++ vB (zigN (p.2 - q.2)))) (by simp [h]) h1 (by rw [List.length_append, List.length_append]; omega)
        have e : acc ++ ptsE q (p :: r) = acc ++ (vB (zigN (p.1 - q.1)) ++ vB (zigN (p.2 - q.2))) ++ ptsE p r := by simp [ptsE]
        rw [e]
        refine .next ?_ ih'
        unfold body_points_l1
        rw [if_pos (by simpa using hlt)]
        have w1 : IntKind.i64.wrap (p.1 - q.1) = p.1 - q.1 := w_small (by omega) (by omega)
        have w2 : IntKind.i64.wrap (p.2 - q.2) = p.2 - q.2 := w_small (by omega) (by omega)
        have hs := psig_ok (p := acc) (room := room) [p.1 - q.1, p.2 - q.2] (by
          intro a ha
          simp only [List.mem_cons, List.not_mem_nil, or_false] at ha
          rcases ha with rfl | rfl <;> omega) (by simp only [List.flatMap_cons, List.flatMap_nil, List.append_nil, List.length_append]; omega) hr (by simp)
        simp only [List.flatMap_cons, List.flatMap_nil, List.append_nil] at hs
        refine ⟨p, hx, _, by simp only [w1, w2]; exact hs, ?_⟩
        simp only
        rw [w_small (n := (pre.length : Int) + 1) (by omega) (by omega)]
        simp
    exact key l [] (0, 0) _ rfl (by simp) (by rw [h1]; simp; omega)
def climbs : Int → List Int → Prop
  | _, [] => True
  | q, c :: l => q < c ∧ c ≤ 65535 ∧ climbs c l
theorem cells2_ok {room : Nat} (hr : room < 1073741824) (l : List Int) (hc : climbs (-1) l) (hl : l.length ≤ 32) (hroom : 1 + 4 * l.length ≤ room) :
    body_cells ([], (room : Int), false) l (vB l.length ++ clsE (-1) l, (room : Int), false) := by
  have h1 := vB_lt (n := l.length) (by omega)
  refine ⟨(0, (vB l.length, (room : Int), false)), ?_, (vB l.length ++ clsE (-1) l, (room : Int), false), ?_, rfl⟩
  · rw [w64_small (by omega) (by omega)]
    exact pnum_ok (p := []) (by omega) (by rw [h1]; simp; omega) hr
  · have key : ∀ (r pre : List Int) (q : Int) (acc : List Int), l = pre ++ r → -1 ≤ q → climbs q r → acc.length + 4 * r.length ≤ room → Loops (body_cells_l1 l) (q, (pre.length : Int), acc, (room : Int), false) (acc ++ clsE q r, (room : Int), false) := by
      intro r
      induction r with
      | nil =>
        intro pre q acc h _ _ _
        refine .done ?_
        unfold body_cells_l1
        rw [if_neg (by rw [h]; simp)]
        simp [clsE]
      | cons c r ih =>
        intro pre q acc h hq hcl ha
        obtain ⟨c1, c2, c3⟩ := hcl
        have hx : idx l (pre.length : Int) c := ⟨by omega, by rw [h]; simp⟩
        have hlt := hx.lt
        have a1 := vB_4 (n := (c - q - 1).toNat) (by omega)
        simp only [List.length_cons] at ha
        have ih' := ih (pre ++ [c]) c (acc ++ vB (c - q - 1).toNat) (by simp [h]) (by omega) c3 (by rw [List.length_append]; omega)
        have e : acc ++ clsE q (c :: r) = acc ++ vB (c - q - 1).toNat ++ clsE c r := by simp [clsE]
        rw [e]
        refine .next ?_ ih'
        unfold body_cells_l1
        rw [if_pos (by simpa using hlt)]
        have w1 : IntKind.u64.wrap (IntKind.i64.wrap (IntKind.i64.wrap (c - q) - 1)) = ((c - q - 1).toNat : Int) := by
          rw [w_small (n := c - q) (by omega) (by omega), w_small (by omega) (by omega), w64_small (by omega) (by omega)]; omega
        have hs := pnum_ok (p := acc) (room := room) (n := (c - q - 1).toNat) (by omega) (by omega) hr
        refine ⟨c, hx, _, by simp only [w1]; exact hs, ?_⟩
        simp only
        rw [w_small (n := (pre.length : Int) + 1) (by omega) (by omega)]
        simp
    exact key l [] (-1) _ rfl (by omega) hc (by rw [h1]; simp; omega)

/-! ### What is right of a right field -/
theorem firstE_all {bad : Nat → Option Int} {n : Nat} (h : errO (firstE () bad n) = 0) (hb : ∀ k e, bad k = some e → e ≠ 0) : ∀ k, k < n → bad k = none := by
  refine firstE_some (u := ()) ?_
  cases hf : firstE () bad n with
  | inl v => rfl
  | inr e =>
    rw [hf] at h
    exfalso
    have h : e = 0 := h
    subst h
    unfold firstE at hf
    cases hg : (List.range n).findSome? bad with
    | none => rw [hg] at hf; cases hf
    | some e =>
      rw [hg] at hf
      have : e = 0 := by cases hf; rfl
      obtain ⟨k, _, hk⟩ := List.exists_of_findSome?_eq_some hg
      exact hb k e hk this
theorem path_right {l : List (Int × Int)} (h : pathB l 1 16 = 0) : 1 ≤ l.length ∧ l.length ≤ 16 ∧ ∀ p ∈ l, -1000000 ≤ p.1 ∧ p.1 ≤ 1000000 ∧ -1000000 ≤ p.2 ∧ p.2 ≤ 1000000 := by
  unfold pathB at h
  by_cases hm : manyB l.length 1 16 = 0
  · rw [if_pos hm] at h
    obtain ⟨m1, m2⟩ := manyB_zero hm
    refine ⟨by omega, by omega, fun p hp => ?_⟩
    have hall := firstE_all h (fun k e he => by
      unfold pathBad at he
      split at he
      · split at he
        · cases he; decide
        · cases he
      · cases he)
    obtain ⟨k, hk⟩ := List.getElem?_of_mem hp
    have := hall k (List.getElem?_eq_some_iff.1 hk).1
    unfold pathBad at this
    rw [hk] at this
    simp only at this
    split at this
    · cases this
    · next hn => omega
  · rw [if_neg hm] at h; exact absurd h hm
theorem climbs_of : ∀ (l : List Int) (q : Int), (∀ k, k < l.length → q < l.getD 0 0 ∧ l.getD k 0 ≤ 65535 ∧ (0 < k → l.getD (k - 1) 0 < l.getD k 0)) → climbs q l
  | [], _, _ => trivial
  | c :: l, q, h => by
    have h0 := h 0 (by simp)
    refine ⟨by simpa using h0.1, by simpa using h0.2.1, climbs_of l c fun k hk => ?_⟩
    have h1 := h (k + 1) (by simp; omega)
    have h2 := h 1 (by simp; omega)
    refine ⟨by have := h2.2.2 (by omega); simpa using this, by simpa using h1.2.1, fun hk0 => ?_⟩
    have := h1.2.2 (by omega)
    obtain ⟨k', rfl⟩ : ∃ k', k = k' + 1 := ⟨k - 1, by omega⟩
    simpa using this
theorem cells_right {l : List Int} (h : cellsB l 1 32 = 0) : 1 ≤ l.length ∧ l.length ≤ 32 ∧ climbs (-1) l := by
  unfold cellsB at h
  by_cases hm : manyB l.length 1 32 = 0
  · rw [if_pos hm] at h
    obtain ⟨m1, m2⟩ := manyB_zero hm
    refine ⟨by omega, by omega, climbs_of l (-1) fun k hk => ?_⟩
    have hall := firstE_all h (fun k e he => by
      unfold cellsBad at he
      split at he
      · cases he; decide
      · split at he
        · cases he; decide
        · cases he)
    have a0 := hall 0 (by omega)
    have ak := hall k hk
    unfold cellsBad at a0 ak
    split at ak
    · cases ak
    · next n1 =>
      split at ak
      · cases ak
      · next n2 =>
        split at a0
        · cases a0
        · next n3 => exact ⟨by omega, by omega, fun hk0 => by omega⟩
  · rw [if_neg hm] at h; exact absurd h hm
theorem text_right {s : ByteArray} {a b : Int} (h : textB s a b = 0) : (s.size : Int) ≤ b ∧ ∀ c ∈ bints s, 32 ≤ c ∧ c ≤ 126 := by
  unfold textB at h
  by_cases hm : manyB s.size a b = 0
  · rw [if_pos hm] at h
    obtain ⟨m1, m2⟩ := manyB_zero hm
    refine ⟨m2, fun c hc => ?_⟩
    have hall := firstE_all h (fun k e he => by
      unfold textBad at he
      split at he
      · cases he; decide
      · cases he)
    obtain ⟨k, hk⟩ := List.getElem?_of_mem hc
    have hlt := (List.getElem?_eq_some_iff.1 hk).1
    have := hall k (by rw [← len_bints]; exact hlt)
    unfold textBad at this
    have e : (bints s).getD k 0 = c := by rw [List.getD_eq_getElem?_getD, hk]; rfl
    rw [e] at this
    split at this
    · cases this
    · next hn => omega
  · rw [if_neg hm] at h; exact absurd h hm

/-! ### A field's bytes; a body's -/
def txtE (s : ByteArray) : List Int := vB s.size ++ bints s
def partE (m : Mg) (f : Fd) : List Int :=
  if f.2.1 = 1 then vB (m.2.1.getD f.2.2.1.toNat 0).toNat
  else if f.2.1 = 2 then vB (zigN (m.2.1.getD f.2.2.1.toNat 0))
  else if f.2.1 = 3 then vB m.2.2.1.length ++ ptsE (0, 0) m.2.2.1
  else if f.2.1 = 4 then vB m.2.2.2.1.length ++ clsE (-1) m.2.2.2.1
  else if f.2.1 = 5 then txtE m.2.2.2.2.1
  else if f.2.1 = 6 then txtE m.2.2.2.2.2
  else []
theorem penbytes_ok {p : List Int} {r : Int} {f : Bool} (h : p.length < 1073741824) : body_part_j1 (p, r, f) p := ⟨p, pbytes_ok h, rfl⟩
def fdR (f : Fd) : Prop := fdOk f ∧ (f.2.1 = 1 → 0 ≤ f.2.2.2.1)
theorem fields_r (k : Int) : ∀ f ∈ fieldsB k, fdR f := by
  refine fields_all fdR k (by simp [fdR, fdOk, robotF, size_bstr]) ?_
  simp only [List.forall_mem_cons]
  simp [fdR, fdOk, size_bstr]
theorem part_ok {m : Mg} {f : Fd} (hf : fdR f) (hw : wrongB m f = 0) : body_part m f (partE m f) ∧ (partE m f).length ≤ 130 := by
  obtain ⟨⟨_, _, hk⟩, hp⟩ := hf
  unfold wrongB at hw
  unfold body_part partE
  rcases hk with ⟨e, e1, e2⟩ | ⟨e, e1, e2⟩ | ⟨e, e1, e2⟩ | ⟨e, e1, e2⟩ | ⟨k1, k2, k3, k4, k5, k6⟩
  · rw [if_pos e, e1, e2] at hw
    obtain ⟨h1, h2, h3⟩ := path_right hw
    have hlen := ptsE_len m.2.2.1 (0, 0) (by simp) h3
    rw [if_neg (by omega), if_neg (by omega), if_pos e]
    have hv := vB_lt (n := m.2.2.1.length) (by omega)
    refine ⟨⟨_, rfl, ?_⟩, by rw [List.length_append, hv]; simp; omega⟩
    rw [if_neg (by simp; omega), if_neg (by simp; omega), if_pos (by simpa using e)]
    refine ⟨_, points_ok (room := 192) (by decide) m.2.2.1 h3 h2 (by omega), penbytes_ok (by rw [List.length_append, hv]; simp; omega)⟩
  · rw [if_neg (by omega), if_pos e, e1, e2] at hw
    obtain ⟨h1, h2, h3⟩ := cells_right hw
    rw [if_neg (by omega), if_neg (by omega), if_neg (by omega), if_pos e]
    have hv := vB_lt (n := m.2.2.2.1.length) (by omega)
    have hlen : ∀ (l : List Int) (q : Int), -1 ≤ q → climbs q l → (clsE q l).length ≤ 4 * l.length := by
      intro l
      induction l with
      | nil => intro q _ _; simp [clsE]
      | cons c l ih =>
        intro q hq hcl
        obtain ⟨c1, c2, c3⟩ := hcl
        have := ih c (by omega) c3
        have a1 := vB_4 (n := (c - q - 1).toNat) (by omega)
        simp only [clsE, List.length_append, List.length_cons]
        omega
    have hl := hlen m.2.2.2.1 (-1) (by omega) h3
    refine ⟨⟨_, rfl, ?_⟩, by rw [List.length_append, hv]; simp; omega⟩
    rw [if_neg (by simp; omega), if_neg (by simp; omega), if_neg (by simp; omega), if_pos (by simpa using e)]
    refine ⟨_, cells2_ok (room := 192) (by decide) m.2.2.2.1 h3 h2 (by omega), penbytes_ok (by rw [List.length_append, hv]; simp; omega)⟩
  · rw [if_neg (by omega), if_neg (by omega), if_pos e, e1, e2] at hw
    obtain ⟨h1, _⟩ := text_right hw
    rw [if_neg (by omega), if_neg (by omega), if_neg (by omega), if_neg (by omega), if_pos e]
    have hv := vB_lt (n := m.2.2.2.2.1.size) (by omega)
    have hb := len_bints m.2.2.2.2.1
    refine ⟨⟨_, rfl, ?_⟩, by unfold txtE; rw [List.length_append, hv, hb]; simp; omega⟩
    rw [if_neg (by simp; omega), if_neg (by simp; omega), if_neg (by simp; omega), if_neg (by simp; omega), if_pos (by simpa using e)]
    have := pfield_ok (p := []) (l := bints m.2.2.2.2.1) (room := 192) (by rw [hb, hv]; simp; omega) (by decide)
    rw [hb] at this
    refine ⟨by omega, _, this, penbytes_ok (by rw [List.nil_append, List.length_append, hv, hb]; simp; omega)⟩
  · rw [if_neg (by omega), if_neg (by omega), if_neg (by omega), if_pos e, e1, e2] at hw
    obtain ⟨h1, _⟩ := text_right hw
    rw [if_neg (by omega), if_neg (by omega), if_neg (by omega), if_neg (by omega), if_neg (by omega), if_pos e]
    have hv := vB_lt (n := m.2.2.2.2.2.size) (by omega)
    have hb := len_bints m.2.2.2.2.2
    refine ⟨⟨_, rfl, ?_⟩, by unfold txtE; rw [List.length_append, hv, hb]; simp; omega⟩
    rw [if_neg (by simp; omega), if_neg (by simp; omega), if_neg (by simp; omega), if_neg (by simp; omega), if_neg (by simp; omega), if_pos (by simpa using e)]
    have := pfield_ok (p := []) (l := bints m.2.2.2.2.2) (room := 192) (by rw [hb, hv]; simp; omega) (by decide)
    rw [hb] at this
    refine ⟨by omega, _, this, penbytes_ok (by rw [List.nil_append, List.length_append, hv, hb]; simp; omega)⟩
  · rw [if_neg (by omega), if_neg (by omega), if_neg (by omega), if_neg (by omega)] at hw
    by_cases hb : numBad m f
    · rw [if_pos hb] at hw; cases hw
    unfold numBad at hb
    by_cases e : f.2.1 = 1
    · rw [if_pos e]
      have h0 := hp e
      have a1 := vB_4 (n := (m.2.1.getD f.2.2.1.toNat 0).toNat) (by omega)
      refine ⟨⟨_, rfl, ?_⟩, by omega⟩
      rw [if_pos (by simpa using e)]
      have := pnum_ok (p := []) (room := 192) (n := (m.2.1.getD f.2.2.1.toNat 0).toNat) (by omega) (by rw [List.length_nil]; omega) (by decide)
      have hb2 : (vB (m.2.1.getD f.2.2.1.toNat 0).toNat).length < 1073741824 := by omega
      refine ⟨k3, k4, (0, (vB (m.2.1.getD f.2.2.1.toNat 0).toNat, 192, false)), ?_, penbytes_ok hb2⟩
      rw [w64_small (by omega) (by omega), show m.2.1.getD f.2.2.1.toNat 0 = ((m.2.1.getD f.2.2.1.toNat 0).toNat : Int) by omega]
      exact this
    · rw [if_neg e, if_pos (by omega)]
      have a1 := vB_4 (n := zigN (m.2.1.getD f.2.2.1.toNat 0)) (by unfold zigN; split <;> omega)
      refine ⟨⟨_, rfl, ?_⟩, by omega⟩
      rw [if_neg (by simpa using e), if_pos (by simp; omega)]
      have := psig_ok (p := []) (room := 192) [m.2.1.getD f.2.2.1.toNat 0] (by intro a ha; rw [List.mem_singleton] at ha; subst ha; omega) (by simp only [List.flatMap_cons, List.flatMap_nil, List.append_nil, List.length_nil]; omega) (by decide) (by simp)
      simp only [List.flatMap_cons, List.flatMap_nil, List.append_nil, List.nil_append] at this
      have hb2 : (vB (zigN (m.2.1.getD f.2.2.1.toNat 0))).length < 1073741824 := by omega
      exact ⟨k3, k4, (0, (vB (zigN (m.2.1.getD f.2.2.1.toNat 0)), 192, false)), this, penbytes_ok hb2⟩
end Go.Rel
/-! Plain laws: a body's fields are read. -/
namespace Go.Rel
open Go Go.Eng Go.Pl

theorem bstr_of (s : ByteArray) : bstr (bints s) = s := by
  have h : ∀ (l : List UInt8) (t : ByteArray), (l.map fun b => (b.toNat : Int)).foldl (fun r n => r.push (UInt8.ofNat n.toNat)) t = ⟨t.data ++ l.toArray⟩ := by
    intro l
    induction l with
    | nil => intro t; simp
    | cons b l ih =>
      intro t
      rw [List.map_cons, List.foldl_cons, ih]
      apply ByteArray.ext
      apply Array.ext'
      simp [ByteArray.push]
  have := h s.data.toList ByteArray.empty
  unfold bstr bints
  rw [this]
  apply ByteArray.ext
  apply Array.ext'
  simp [ByteArray.empty, ByteArray.emptyWithCapacity]
  rfl
theorem rerr0 {b : List Int} {at_ : Int} : body_reader_err ((), 0) (b, at_, 0) 0 := by
  unfold body_reader_err
  rw [if_neg (by simp)]
  exact ⟨0, rfl, rfl⟩
theorem rnote0 {L : List Int × Int × Int} {e : Int} {c : Bool} (h : c = false) : body_reader_note ((), 0) L c e ((), 0) := by
  subst h
  unfold body_reader_note
  rw [if_neg (by simp)]
  unfold body_reader_note_j1
  rw [if_neg (by simp)]
theorem drop_len {b x rest : List Int} {at_ : Nat} (hd : b.drop at_ = x ++ rest) (hx : 0 < x.length ∨ at_ ≤ b.length) : at_ + x.length + rest.length ≤ b.length ∧ b.drop (at_ + x.length) = rest := by
  have h1 := congrArg List.length hd
  rw [List.length_drop, List.length_append] at h1
  refine ⟨by omega, ?_⟩
  rw [← List.drop_drop, hd, List.drop_left]
theorem count_ok {b rest : List Int} {at_ n most : Nat} (hb : b.length < 1073741824) (hd : b.drop at_ = vB n ++ rest) (h1 : 1 ≤ n) (hn : n ≤ most) (hm : most ≤ 1000) :
    body_reader_count ((), 0) (b, (at_ : Int), 0) (most : Int) ((n : Int), ((), 0), (b, ((at_ + (vB n).length : Nat) : Int), 0)) := by
  refine ⟨_, lnumber_ok hb hd (by omega) (by omega), ((), 0), rnote0 (decide_eq_false (by show ¬ (n : Int) = 0; omega)), ((), 0), rnote0 (decide_eq_false (by show ¬ IntKind.u64.wrap (most : Int) < (n : Int); rw [w64_small (by omega) (by omega)]; omega)), 0, rerr0, ?_⟩
  rw [if_neg (by simp)]
  simp only
  rw [w_small (by omega) (by omega)]
theorem rpoints_ok {b rest : List Int} {at_ : Nat} (hb : b.length < 1073741824) (l : List (Int × Int)) (hl : 1 ≤ l.length) (hl2 : l.length ≤ 16) (hp : ∀ p ∈ l, -1000000 ≤ p.1 ∧ p.1 ≤ 1000000 ∧ -1000000 ≤ p.2 ∧ p.2 ≤ 1000000)
    (hd : b.drop at_ = (vB l.length ++ ptsE (0, 0) l) ++ rest) : body_reader_points ((), 0) (b, (at_ : Int), 0) (l, ((), 0), (b, ((at_ + (vB l.length ++ ptsE (0, 0) l).length : Nat) : Int), 0)) := by
  rw [List.append_assoc] at hd
  obtain ⟨d1, d2⟩ := drop_len hd (.inl (vB_pos _))
  refine ⟨_, count_ok (most := 16) hb hd hl hl2 (by decide), (l, 0, b, ((at_ + (vB l.length ++ ptsE (0, 0) l).length : Nat) : Int), 0), ?_, rfl⟩
  have key : ∀ (r pre : List (Int × Int)) (q : Int × Int) (a : Nat), l = pre ++ r → (-1000000 ≤ q.1 ∧ q.1 ≤ 1000000 ∧ -1000000 ≤ q.2 ∧ q.2 ≤ 1000000) → b.drop a = ptsE q r ++ rest → Loops (body_reader_points_l2 ((l.length : Int), ((), 0), (b, ((at_ + (vB l.length).length : Nat) : Int), 0))) (pre, (pre.length : Int), b, (a : Int), 0, q.1, q.2) (l, 0, b, ((a + (ptsE q r).length : Nat) : Int), 0) := by
    intro r
    induction r with
    | nil =>
      intro pre q a h _ _
      refine .done ?_
      unfold body_reader_points_l2
      rw [if_neg (by rw [h]; simp)]
      rw [h]; simp [ptsE]
    | cons p r ih =>
      intro pre q a h hq hda
      have h1 := hp p (by rw [h]; simp)
      have hlen : pre.length < l.length := by rw [h]; simp
      simp only [ptsE, List.append_assoc] at hda
      obtain ⟨x1, x2⟩ := drop_len hda (.inl (vB_pos _))
      obtain ⟨y1, y2⟩ := drop_len x2 (.inl (vB_pos _))
      have w1 : IntKind.i64.wrap (-1000000 - q.1) = -1000000 - q.1 := w_small (by omega) (by omega)
      have w2 : IntKind.i64.wrap (1000000 - q.1) = 1000000 - q.1 := w_small (by omega) (by omega)
      have w3 : IntKind.i64.wrap (-1000000 - q.2) = -1000000 - q.2 := w_small (by omega) (by omega)
      have w4 : IntKind.i64.wrap (1000000 - q.2) = 1000000 - q.2 := w_small (by omega) (by omega)
      have s1 := lsigned_ok (least := IntKind.i64.wrap (-1000000 - q.1)) (most := IntKind.i64.wrap (1000000 - q.1)) hb hda (by omega) (by omega) (by rw [w1]; omega) (by rw [w2]; omega)
      have s2 := lsigned_ok (least := IntKind.i64.wrap (-1000000 - q.2)) (most := IntKind.i64.wrap (1000000 - q.2)) hb x2 (by omega) (by omega) (by rw [w3]; omega) (by rw [w4]; omega)
      have v1 : IntKind.i64.wrap (q.1 + (p.1 - q.1)) = p.1 := by rw [w_small (by omega) (by omega)]; omega
      have v2 : IntKind.i64.wrap (q.2 + (p.2 - q.2)) = p.2 := by rw [w_small (by omega) (by omega)]; omega
      have ih' := ih (pre ++ [p]) p (a + (vB (zigN (p.1 - q.1))).length + (vB (zigN (p.2 - q.2))).length) (by simp [h]) h1 y2
      have e : a + (ptsE q (p :: r)).length = a + (vB (zigN (p.1 - q.1))).length + (vB (zigN (p.2 - q.2))).length + (ptsE p r).length := by simp only [ptsE, List.length_append]; omega
      rw [e]
      refine .next ?_ ih'
      unfold body_reader_points_l2
      rw [if_pos (by simp; omega)]
      refine ⟨(p.1, (b, ((a + (vB (zigN (p.1 - q.1))).length : Nat) : Int), 0)), ⟨_, s1, by simp only [v1]⟩, (p.2, (b, ((a + (vB (zigN (p.1 - q.1))).length + (vB (zigN (p.2 - q.2))).length : Nat) : Int), 0)), ⟨_, s2, by simp only [v2]⟩, 0, rerr0, ?_⟩
      rw [if_neg (by simp)]
      simp only [List.length_cons, List.length_nil]
      refine ⟨by omega, by omega, ?_⟩
      rw [w_small (n := (pre.length : Int) + 1) (by omega) (by omega)]
      simp
  have := key l [] (0, 0) (at_ + (vB l.length).length) rfl (by simp) d2
  rw [show at_ + (vB l.length ++ ptsE (0, 0) l).length = at_ + (vB l.length).length + (ptsE (0, 0) l).length by rw [List.length_append]; omega]
  exact this
theorem rcells2_ok {b rest : List Int} {at_ : Nat} (hb : b.length < 1073741824) (l : List Int) (hl : 1 ≤ l.length) (hl2 : l.length ≤ 32) (hc : climbs (-1) l)
    (hd : b.drop at_ = (vB l.length ++ clsE (-1) l) ++ rest) : body_reader_cells ((), 0) (b, (at_ : Int), 0) (l, ((), 0), (b, ((at_ + (vB l.length ++ clsE (-1) l).length : Nat) : Int), 0)) := by
  rw [List.append_assoc] at hd
  obtain ⟨d1, d2⟩ := drop_len hd (.inl (vB_pos _))
  refine ⟨_, count_ok (most := 32) hb hd hl hl2 (by decide), (l, 0, b, ((at_ + (vB l.length ++ clsE (-1) l).length : Nat) : Int), 0), ?_, rfl⟩
  have key : ∀ (r pre : List Int) (q : Int) (a : Nat), l = pre ++ r → -1 ≤ q → climbs q r → b.drop a = clsE q r ++ rest → Loops (body_reader_cells_l2 ((l.length : Int), ((), 0), (b, ((at_ + (vB l.length).length : Nat) : Int), 0))) (pre, q, (pre.length : Int), 0, b, (a : Int), 0) (l, 0, b, ((a + (clsE q r).length : Nat) : Int), 0) := by
    intro r
    induction r with
    | nil =>
      intro pre q a h _ _ _
      refine .done ?_
      unfold body_reader_cells_l2
      rw [if_neg (by rw [h]; simp)]
      rw [h]; simp [clsE]
    | cons c r ih =>
      intro pre q a h hq hcl hda
      obtain ⟨c1, c2, c3⟩ := hcl
      have hlen : pre.length < l.length := by rw [h]; simp
      simp only [clsE, List.append_assoc] at hda
      obtain ⟨x1, x2⟩ := drop_len hda (.inl (vB_pos _))
      have s1 := lnumber_ok (most := 65535) hb hda (by omega) (by omega)
      have v1 : IntKind.i64.wrap (q + IntKind.i64.wrap (IntKind.i64.wrap ((c - q - 1).toNat : Int) + 1)) = c := by
        rw [w_small (n := ((c - q - 1).toNat : Int)) (by omega) (by omega), w_small (n := ((c - q - 1).toNat : Int) + 1) (by omega) (by omega), w_small (by omega) (by omega)]; omega
      have ih' := ih (pre ++ [c]) c (a + (vB (c - q - 1).toNat).length) (by simp [h]) (by omega) c3 x2
      have e : a + (clsE q (c :: r)).length = a + (vB (c - q - 1).toNat).length + (clsE c r).length := by simp only [clsE, List.length_append]; omega
      rw [e]
      refine .next ?_ ih'
      unfold body_reader_cells_l2
      rw [if_pos (by simp; omega)]
      refine ⟨_, s1, ((), 0), rnote0 (decide_eq_false (by simp only [v1]; omega)), 0, rerr0, ?_⟩
      rw [if_neg (by simp)]
      simp only [v1, List.length_cons, List.length_nil]
      refine ⟨by omega, by omega, ?_⟩
      rw [w_small (n := (pre.length : Int) + 1) (by omega) (by omega)]
      simp
  have := key l [] (-1) (at_ + (vB l.length).length) rfl (by omega) hc d2
  rw [show at_ + (vB l.length ++ clsE (-1) l).length = at_ + (vB l.length).length + (clsE (-1) l).length by rw [List.length_append]; omega]
  exact this
theorem rtext2_ok {b rest : List Int} {at_ : Nat} {most : Int} (hb : b.length < 1073741824) (s : ByteArray) (hs : (s.size : Int) ≤ most) (hm : most ≤ 1000) (hc : ∀ c ∈ bints s, 32 ≤ c ∧ c ≤ 126)
    (hd : b.drop at_ = txtE s ++ rest) : body_reader_text ((), 0) (b, (at_ : Int), 0) most (s, ((), 0), (b, ((at_ + (txtE s).length : Nat) : Int), 0)) := by
  have hbl := len_bints s
  unfold txtE at hd
  rw [← hbl, List.append_assoc] at hd
  have hf := lfield_ok hb hd (by rw [hbl]; exact hs) (by omega)
  refine ⟨_, hf, 0, ?_, ?_⟩
  · refine loops_count (fun k => ((k : Int), (0 : Int))) (bints s).length (fun k hk => ?_) ?_
    · unfold body_reader_text_l2
      have hx := idx_of hk
      have hcc := hc _ (List.getElem_mem hk)
      rw [if_pos (by simpa using hk)]
      refine ⟨_, hx, ?_⟩
      rw [if_neg (by simp; omega)]
      refine ⟨((), 0), rnote0 (decide_eq_false (by omega)), ?_⟩
      unfold body_reader_text_j3
      simp only
      rw [w_small (by omega) (by omega)]; simp
    · unfold body_reader_text_l2
      rw [if_neg (by simp)]
  · unfold body_reader_text_j1
    simp only
    have e : at_ + (txtE s).length = at_ + (vB (bints s).length).length + (bints s).length := by unfold txtE; rw [List.length_append, hbl]; omega
    rw [e, bstr_of]
end Go.Rel
/-! Plain laws: numbers, points, cells, texts are read off any bytes, by the program and by the document alike. -/
namespace Go.Rel
open Go Go.Eng Go.Pl

def zagV (n : Nat) : Int := if n % 2 = 0 then ((n / 2 : Nat) : Int) else -((n / 2 : Nat) : Int) - 1
theorem zig_zag (n : Nat) : zigN (zagV n) = n := by
  unfold zigN zagV
  by_cases h : n % 2 = 0
  · rw [if_pos h, if_pos (by omega)]; omega
  · rw [if_neg h, if_neg (by omega)]; omega
theorem zag_any {n : Nat} (h : n < 2 ^ 64) : varint_Zag (n : Int) (zagV n) := by
  unfold varint_Zag
  rw [iand_one (by omega) (by omega), ishr_u64 (by decide) (by decide)]
  have e1 : (n : Int) / 2 ^ (1 : Int).toNat = ((n / 2 : Nat) : Int) := by show (n : Int) / 2 = _; omega
  rw [e1, w_small (n := ((n / 2 : Nat) : Int)) (by omega) (by omega)]
  by_cases hp : n % 2 = 0
  · rw [show (n : Int) % 2 = 0 by omega]
    have hz : zagV n = ((n / 2 : Nat) : Int) := by unfold zagV; rw [if_pos hp]
    rw [hz]
    show _ = IntKind.i64.wrap ((BitVec.ofInt 64 ((n / 2 : Nat) : Int) ^^^ BitVec.ofInt 64 (IntKind.i64.wrap (0 - IntKind.i64.wrap 0))).toNat : Int)
    rw [show BitVec.ofInt 64 (IntKind.i64.wrap (0 - IntKind.i64.wrap 0)) = BitVec.ofInt 64 0 by decide, xor_zero (by omega) (by omega), w_small (by omega) (by omega)]
  · rw [show (n : Int) % 2 = 1 by omega]
    have hz : zagV n = -((n / 2 : Nat) : Int) - 1 := by unfold zagV; rw [if_neg hp]
    rw [hz]
    show _ = IntKind.i64.wrap ((BitVec.ofInt 64 ((n / 2 : Nat) : Int) ^^^ BitVec.ofInt 64 (IntKind.i64.wrap (0 - IntKind.i64.wrap 1))).toNat : Int)
    rw [show BitVec.ofInt 64 (IntKind.i64.wrap (0 - IntKind.i64.wrap 1)) = BitVec.ofInt 64 (-1) by decide, xor_ones (by omega) (by omega), w_i64]; omega
theorem rzag_any {n : Nat} (h : n < 2 ^ 64) : ref01_Zag (n : Int) (zagV n) := by
  unfold ref01_Zag zagV
  rw [Int.tmod_eq_emod_of_nonneg (by omega), Int.tdiv_eq_ediv_of_nonneg (by omega), w64_small (n := (n : Int) / 2) (by omega) (by omega), w_small (n := (n : Int) / 2) (by omega) (by omega)]
  by_cases hp : n % 2 = 0
  · rw [if_neg (by simp; omega), if_pos hp]; omega
  · rw [if_pos (by simp; omega), if_neg hp, w_small (n := 0 - (n : Int) / 2) (by omega) (by omega), w_small (by omega) (by omega)]; omega
section
variable {b : List Int} {at_ n : Nat} {e most least : Int} {rest : List Int}
theorem after_len (hd : b.drop at_ = vB n ++ rest) : at_ + (vB n).length + rest.length ≤ b.length ∧ b.drop (at_ + (vB n).length) = rest := drop_len hd (.inl (vB_pos n))
theorem lnum_get (hb : b.length < 1073741824) (hd : b.drop at_ = vB n ++ rest) (hg : varint_Get (b.drop at_) ((n : Int), ((vB n).length : Int), 0)) :
    lens_Lens_Number (b, (at_ : Int), 0) most (if most < (n : Int) then (0, (b, (at_ : Int), 5)) else ((n : Int), (b, ((at_ + (vB n).length : Nat) : Int), 0))) := by
  have hle := (after_len hd).1
  by_cases h : most < (n : Int)
  · rw [if_pos h]
    refine ⟨(false, (b, (at_ : Int), 5), 0), ?_, rfl⟩
    unfold lens_Lens_read__lens_Lens_Number_1
    rw [if_neg (by simp)]
    refine ⟨_, left_ok (by omega), (((vB n).length : Int), 5, 0), ⟨_, hg, ?_⟩, ?_⟩
    · rw [if_pos (by simp)]
      unfold lens_Lens_Number_1_j3
      rw [if_pos (by simpa using h)]
      unfold lens_Lens_Number_1_j1
      rw [if_neg (by simp)]
      rfl
    · rw [if_pos (by simp)]
  · rw [if_neg h]
    refine ⟨(true, (b, ((at_ + (vB n).length : Nat) : Int), 0), (n : Int)), ?_, rfl⟩
    unfold lens_Lens_read__lens_Lens_Number_1
    rw [if_neg (by simp)]
    refine ⟨_, left_ok (by omega), (((vB n).length : Int), 0, (n : Int)), ⟨_, hg, ?_⟩, ?_⟩
    · rw [if_pos (by simp)]
      unfold lens_Lens_Number_1_j3
      rw [if_neg (by simpa using h)]
      unfold lens_Lens_Number_1_j1
      rw [if_pos (by simp)]
      rfl
    · rw [if_neg (by simp)]
      simp only
      rw [w_small (by omega) (by omega)]; simp
theorem lnum_err (hat : at_ ≤ b.length) (he : e ≠ 0) (hg : varint_Get (b.drop at_) (0, 0, e)) : lens_Lens_Number (b, (at_ : Int), 0) most (0, (b, (at_ : Int), e)) := by
  refine ⟨(false, (b, (at_ : Int), e), 0), ?_, rfl⟩
  unfold lens_Lens_read__lens_Lens_Number_1
  rw [if_neg (by simp)]
  refine ⟨_, left_ok hat, (0, e, 0), ⟨_, hg, ?_⟩, ?_⟩
  · rw [if_neg (by simpa using he)]
    unfold lens_Lens_Number_1_j3
    rw [if_neg (by decide)]
    unfold lens_Lens_Number_1_j1
    rw [if_neg (by simpa using he)]
    rfl
  · rw [if_pos (by simpa using he)]
theorem lsgn_get (hb : b.length < 1073741824) (hn : n < 2 ^ 64) (hd : b.drop at_ = vB n ++ rest) (hg : varint_Get (b.drop at_) ((n : Int), ((vB n).length : Int), 0)) :
    lens_Lens_Signed (b, (at_ : Int), 0) least most (if zagV n < least ∨ most < zagV n then (0, (b, (at_ : Int), 5)) else (zagV n, (b, ((at_ + (vB n).length : Nat) : Int), 0))) := by
  have hle := (after_len hd).1
  by_cases h : zagV n < least ∨ most < zagV n
  · rw [if_pos h]
    refine ⟨(false, (b, (at_ : Int), 5), 0), ?_, rfl⟩
    unfold lens_Lens_read__lens_Lens_Signed_1
    rw [if_neg (by simp)]
    refine ⟨_, left_ok (by omega), (((vB n).length : Int), 5, 0), ⟨_, hg, _, zag_any hn, ?_⟩, ?_⟩
    · rw [if_pos (by simp)]
      have j : lens_Lens_Signed_1_j2 0 ((n : Int), ((vB n).length : Int), 0) (zagV n) true (((vB n).length : Int), 5, 0) := by
        unfold lens_Lens_Signed_1_j2
        rw [if_pos rfl]
        rfl
      by_cases h1 : zagV n < least
      · rw [if_pos (by simpa using h1)]; exact j
      · rw [if_neg (by simpa using h1), decide_eq_true (h.resolve_left h1)]; exact j
    · rw [if_pos (by simp)]
  · rw [if_neg h]
    refine ⟨(true, (b, ((at_ + (vB n).length : Nat) : Int), 0), zagV n), ?_, rfl⟩
    unfold lens_Lens_read__lens_Lens_Signed_1
    rw [if_neg (by simp)]
    refine ⟨_, left_ok (by omega), (((vB n).length : Int), 0, zagV n), ⟨_, hg, _, zag_any hn, ?_⟩, ?_⟩
    · rw [if_pos (by simp), if_neg (by simp; omega)]
      unfold lens_Lens_Signed_1_j2
      rw [if_neg (by simp; omega), if_pos (by simp)]
      rfl
    · rw [if_neg (by simp)]
      simp only
      rw [w_small (by omega) (by omega)]; simp
theorem lsgn_err (hat : at_ ≤ b.length) (he : e ≠ 0) (hg : varint_Get (b.drop at_) (0, 0, e)) : lens_Lens_Signed (b, (at_ : Int), 0) least most (0, (b, (at_ : Int), e)) := by
  refine ⟨(false, (b, (at_ : Int), e), 0), ?_, rfl⟩
  unfold lens_Lens_read__lens_Lens_Signed_1
  rw [if_neg (by simp)]
  refine ⟨_, left_ok hat, (0, e, 0), ⟨_, hg, _, zag_any (n := 0) (by decide), ?_⟩, ?_⟩
  · rw [if_neg (by simpa using he)]
    unfold lens_Lens_Signed_1_j2
    rw [if_neg (by decide), if_neg (by simpa using he)]
    rfl
  · rw [if_pos (by simpa using he)]
theorem lsgn_off {a : Int} (he : e ≠ 0) : lens_Lens_Signed (b, a, e) least most (0, (b, a, e)) := by
  refine ⟨(false, (b, a, e), 0), ?_, rfl⟩
  unfold lens_Lens_read__lens_Lens_Signed_1
  rw [if_pos (by simpa using he)]
theorem rerrL {a : Int} : body_reader_err ((), 0) (b, a, e) e := by
  unfold body_reader_err
  rw [if_neg (by simp)]
  exact ⟨e, rfl, rfl⟩
theorem rerrN {a x : Int} (he : e ≠ 0) : body_reader_err ((), e) (b, a, x) e := by
  unfold body_reader_err
  rw [if_pos (by simpa using he)]
theorem rnoteT {a x : Int} : body_reader_note ((), 0) (b, a, 0) true x ((), x) := by
  unfold body_reader_note
  rw [if_pos rfl]
  refine ⟨0, rerrL, ?_⟩
  unfold body_reader_note_j1
  rw [if_pos (by decide)]
theorem rnoteL {a x : Int} (he : e ≠ 0) {c : Bool} : body_reader_note ((), 0) (b, a, e) c x ((), 0) := by
  unfold body_reader_note
  cases c with
  | false => rw [if_neg (by decide)]; unfold body_reader_note_j1; rw [if_neg (by decide)]
  | true =>
    rw [if_pos rfl]
    refine ⟨e, rerrL, ?_⟩
    unfold body_reader_note_j1
    rw [if_neg (by simpa using he)]
theorem rnoteN {a x y : Int} (he : e ≠ 0) {c : Bool} : body_reader_note ((), e) (b, a, y) c x ((), e) := by
  unfold body_reader_note
  cases c with
  | false => rw [if_neg (by decide)]; unfold body_reader_note_j1; rw [if_neg (by decide)]
  | true =>
    rw [if_pos rfl]
    refine ⟨e, rerrN he, ?_⟩
    unfold body_reader_note_j1
    rw [if_neg (by simpa using he)]
/-! ### How many there are -/
theorem cnt_get {m : Nat} (hm : m ≤ 1000) (hb : b.length < 1073741824) (hn : n < 2 ^ 64) (hd : b.drop at_ = vB n ++ rest) (hg : varint_Get (b.drop at_) ((n : Int), ((vB n).length : Int), 0)) :
    body_reader_count ((), 0) (b, (at_ : Int), 0) (m : Int) (if n = 0 then (0, ((), 13), (b, ((at_ + (vB n).length : Nat) : Int), 0)) else if m < n then (0, ((), 6), (b, ((at_ + (vB n).length : Nat) : Int), 0)) else ((n : Int), ((), 0), (b, ((at_ + (vB n).length : Nat) : Int), 0))) := by
  have h1 := lnum_get (most := 18446744073709551615) hb hd hg
  rw [if_neg (by omega)] at h1
  have hw : IntKind.u64.wrap (m : Int) = (m : Int) := w64_small (by omega) (by omega)
  by_cases h0 : n = 0
  · rw [if_pos h0]
    refine ⟨_, h1, ((), 13), ?_, ((), 13), rnoteN (by decide), 13, rerrN (by decide), ?_⟩
    · simp only; rw [decide_eq_true (by omega)]; exact rnoteT
    · rw [if_pos (by decide)]
  · rw [if_neg h0]
    by_cases h6 : m < n
    · rw [if_pos h6]
      refine ⟨_, h1, ((), 0), rnote0 (decide_eq_false (by show ¬ (n : Int) = 0; omega)), ((), 6), ?_, 6, rerrN (by decide), ?_⟩
      · simp only; rw [hw, decide_eq_true (by omega)]; exact rnoteT
      · rw [if_pos (by decide)]
    · rw [if_neg h6]
      refine ⟨_, h1, ((), 0), rnote0 (decide_eq_false (by show ¬ (n : Int) = 0; omega)), ((), 0), rnote0 (decide_eq_false (by rw [hw]; show ¬ (m : Int) < (n : Int); omega)), 0, rerr0, ?_⟩
      rw [if_neg (by simp)]
      simp only
      rw [w_small (by omega) (by omega)]
theorem cnt_err {m : Int} (hat : at_ ≤ b.length) (he : e ≠ 0) (hg : varint_Get (b.drop at_) (0, 0, e)) : body_reader_count ((), 0) (b, (at_ : Int), 0) m (0, ((), 0), (b, (at_ : Int), e)) := by
  refine ⟨_, lnum_err hat he hg, ((), 0), rnoteL he, ((), 0), rnoteL he, e, rerrL, ?_⟩
  rw [if_pos (by simpa using he)]
end
/-! ### Points -/
def Bnd (q : Int × Int) : Prop := -1000000 ≤ q.1 ∧ q.1 ≤ 1000000 ∧ -1000000 ≤ q.2 ∧ q.2 ≤ 1000000
theorem far_ok (x : Int) : ref18_far x (decide (x < -1000000 ∨ 1000000 < x)) := by
  unfold ref18_far
  by_cases h : x < -1000000
  · rw [if_pos (by simpa using h)]; show _ = true; rw [decide_eq_true (.inl h)]
  · rw [if_neg (by simpa using h)]
    show _ = decide _
    by_cases h2 : 1000000 < x
    · rw [decide_eq_true (.inr h2), decide_eq_true h2]
    · rw [decide_eq_false (by omega), decide_eq_false h2]
section
variable {b : List Int}
theorem coord_any (hb : b.length < 1073741824) (hby : Byt b) {at_ : Nat} (hat : at_ ≤ b.length) {q : Int} (hq : -1000000 ≤ q ∧ q ≤ 1000000) (u : Unit) (v : Unit × Int) :
    (∃ (p : Int) (rest : List Int), (-1000000 ≤ p ∧ p ≤ 1000000) ∧ b.drop at_ = vB (zigN (p - q)) ++ rest ∧ body_reader_points_1 q u v (b, (at_ : Int), 0) (p, (b, ((at_ + (vB (zigN (p - q))).length : Nat) : Int), 0)) ∧
      ∃ n : Nat, n < 2 ^ 64 ∧ zagV n = p - q ∧ ref01_Get b at_ ((n : Int), ((at_ + (vB (zigN (p - q))).length : Nat) : Int), 0)) ∨
    (∃ (e : Int) (z : Int), e ≠ 0 ∧ body_reader_points_1 q u v (b, (at_ : Int), 0) (z, (b, (at_ : Int), e)) ∧
      ((ref01_Get b at_ (0, (at_ : Int), e)) ∨ (e = 5 ∧ ∃ (n : Nat) (a : Int), n < 2 ^ 64 ∧ ref01_Get b at_ ((n : Int), a, 0) ∧ (q + zagV n < -1000000 ∨ 1000000 < q + zagV n)))) := by
  have w1 : IntKind.i64.wrap (-1000000 - q) = -1000000 - q := w_small (by omega) (by omega)
  have w2 : IntKind.i64.wrap (1000000 - q) = 1000000 - q := w_small (by omega) (by omega)
  rcases get_any (b.drop at_) (fun x hx => hby x (List.mem_of_mem_drop hx)) with ⟨n, rest, hn, hd, hg, hr⟩ | ⟨e, he, hg, hr⟩
  · have h1 := lsgn_get (least := -1000000 - q) (most := 1000000 - q) hb hn hd hg
    by_cases hz : zagV n < -1000000 - q ∨ 1000000 - q < zagV n
    · rw [if_pos hz] at h1
      refine .inr ⟨5, _, by decide, ⟨_, by rw [w1, w2]; exact h1, rfl⟩, .inr ⟨rfl, n, _, hn, hr b at_ hb hat rfl, by omega⟩⟩
    · rw [if_neg hz] at h1
      have e1 : zagV n = (q + zagV n) - q := by omega
      have e2 : zigN ((q + zagV n) - q) = n := by rw [← e1]; exact zig_zag n
      refine .inl ⟨q + zagV n, rest, by omega, by rw [e2]; exact hd, ⟨_, by rw [w1, w2]; exact h1, ?_⟩, n, hn, e1, by rw [e2]; exact hr b at_ hb hat rfl⟩
      simp only
      rw [w_small (by omega) (by omega), e2]
  · have he0 : e ≠ 0 := by omega
    exact .inr ⟨e, _, he0, ⟨_, lsgn_err hat he0 hg, rfl⟩, .inl (hr b at_ hb hat rfl)⟩
theorem rcoord_get {a0 : Mr} {s13 : Int × Int × List (List Int) × Int × Int} {at_ a : Nat} {k : Nat} (hk : k < 2) {x y p q : Int} {n : Nat} (hn : n < 2 ^ 64) (hx : -1000000 ≤ x ∧ x ≤ 1000000) (hy : -1000000 ≤ y ∧ y ≤ 1000000) (hq : q = if k = 0 then x else y) (hp : -1000000 ≤ p ∧ p ≤ 1000000) (hz : zagV n = p - q) (hr : ref01_Get b at_ ((n : Int), (a : Int), 0)) :
    ref18_path_l4 a0 b s13 ((at_ : Int), (k : Int), x, y) (.inl ((a : Int), ((k + 1 : Nat) : Int), if k = 0 then p else x, if k = 0 then y else p)) := by
  have hqb : -1000000 ≤ q ∧ q ≤ 1000000 := by rw [hq]; split <;> assumption
  have hget : [x, y].getD k 0 = q := by rw [hq]; match k, hk with
    | 0, _ => rfl
    | 1, _ => rfl
  unfold ref18_path_l4
  rw [if_pos (by simp; omega)]
  refine ⟨_, hr, ?_⟩
  rw [if_neg (by simp)]
  refine ⟨_, rzag_any hn, ?_⟩
  rw [hz, if_neg (by simp; omega), if_neg (by simp; omega)]
  refine ⟨by simp only; omega, by simp only; omega, false, ?_, ?_⟩
  · have := far_ok (IntKind.i64.wrap ([x, y].getD ((k : Int)).toNat 0 + (p - q)))
    have e : IntKind.i64.wrap ([x, y].getD ((k : Int)).toNat 0 + (p - q)) = p := by rw [Int.toNat_natCast, hget, w_small (by omega) (by omega)]; omega
    rw [e, decide_eq_false (by omega)] at this
    simp only
    rw [e]; exact this
  · unfold ref18_path_j5
    rw [if_neg (by decide)]
    refine ⟨by simp only; omega, by simp only; omega, by simp only; omega, by simp only; omega, ?_⟩
    simp only
    have e : IntKind.i64.wrap ([x, y].getD ((k : Int)).toNat 0 + (p - q)) = p := by rw [Int.toNat_natCast, hget, w_small (by omega) (by omega)]; omega
    rw [e, w_small (by omega) (by omega)]
    match k, hk with
    | 0, _ => rfl
    | 1, _ => rfl
theorem rcoord_err {a0 : Mr} {s13 : Int × Int × List (List Int) × Int × Int} {at_ : Nat} {k : Nat} (hk : k < 2) {x y q e : Int} (he : e ≠ 0) (hx : -1000000 ≤ x ∧ x ≤ 1000000) (hy : -1000000 ≤ y ∧ y ≤ 1000000) (hq : q = if k = 0 then x else y)
    (h : ref01_Get b at_ (0, (at_ : Int), e) ∨ (e = 5 ∧ ∃ (n : Nat) (a : Int), n < 2 ^ 64 ∧ ref01_Get b at_ ((n : Int), a, 0) ∧ (q + zagV n < -1000000 ∨ 1000000 < q + zagV n))) :
    ref18_path_l4 a0 b s13 ((at_ : Int), (k : Int), x, y) (.inr (.inr ((a0.1, a0.2.1, s13.2.2.1, a0.2.2.2.1, a0.2.2.2.2.1, a0.2.2.2.2.2), (at_ : Int), e))) := by
  have hqb : -1000000 ≤ q ∧ q ≤ 1000000 := by rw [hq]; split <;> assumption
  have hget : [x, y].getD k 0 = q := by rw [hq]; match k, hk with
    | 0, _ => rfl
    | 1, _ => rfl
  unfold ref18_path_l4
  rw [if_pos (by simp; omega)]
  rcases h with h | ⟨rfl, n, a, hn, h, hz⟩
  · exact ⟨_, h, by rw [if_pos (by simpa using he)]⟩
  · refine ⟨_, h, ?_⟩
    rw [if_neg (by simp)]
    refine ⟨_, rzag_any hn, ?_⟩
    have j : ref18_path_j5 a0 s13 ((at_ : Int), (k : Int), x, y) ((n : Int), a, 0) (zagV n) true (.inr (.inr ((a0.1, a0.2.1, s13.2.2.1, a0.2.2.2.1, a0.2.2.2.2.1, a0.2.2.2.2.2), (at_ : Int), 5))) := by
      unfold ref18_path_j5
      rw [if_pos rfl]
    by_cases h1 : zagV n < -2000000
    · rw [if_pos (by simpa using h1)]; exact j
    · rw [if_neg (by simpa using h1)]
      by_cases h2 : 2000000 < zagV n
      · rw [if_pos (by simpa using h2)]; exact j
      · rw [if_neg (by simpa using h2)]
        refine ⟨by simp only; omega, by simp only; omega, true, ?_, j⟩
        have := far_ok (IntKind.i64.wrap ([x, y].getD ((k : Int)).toNat 0 + zagV n))
        have e : IntKind.i64.wrap ([x, y].getD ((k : Int)).toNat 0 + zagV n) = q + zagV n := by rw [Int.toNat_natCast, hget, w_small (by omega) (by omega)]
        rw [e, decide_eq_true hz] at this
        simp only
        rw [e]; exact this
theorem pts_any (hb : b.length < 1073741824) (hby : Byt b) {x : Mr} {n : Nat} (hn : n ≤ 1000) {c : Unit × Int} {L : List Int × Int × Int} (hc : c = ((), 0)) : ∀ (k : Nat) (pre : List (Int × Int)) (q : Int × Int) (a : Nat), pre.length + k = n → Bnd q → a ≤ b.length →
    (∃ (l : List (Int × Int)) (rest : List Int), l.length = k ∧ (∀ p ∈ l, Bnd p) ∧ b.drop a = ptsE q l ++ rest ∧ a + (ptsE q l).length ≤ b.length ∧
      Loops (body_reader_points_l2 ((n : Int), c, L)) (pre, (pre.length : Int), b, (a : Int), 0, q.1, q.2) (pre ++ l, 0, b, ((a + (ptsE q l).length : Nat) : Int), 0) ∧
      Loops (ref18_path_l2 x (n : Int) b) ((a : Int), (pre.length : Int), pre.map ofP, q.1, q.2) (.inl (((a + (ptsE q l).length : Nat) : Int), (pre ++ l).map ofP))) ∨
    (∃ (e a2 : Int) (l : List (Int × Int)) (m : Mr) (t : Int), e ≠ 0 ∧ Loops (body_reader_points_l2 ((n : Int), c, L)) (pre, (pre.length : Int), b, (a : Int), 0, q.1, q.2) (l, 0, b, a2, e) ∧
      Loops (ref18_path_l2 x (n : Int) b) ((a : Int), (pre.length : Int), pre.map ofP, q.1, q.2) (.inr (m, t, e))) := by
  subst hc
  intro k
  induction k with
  | zero =>
    intro pre q a hp _ _
    refine .inl ⟨[], b.drop a, rfl, (fun _ h => nomatch h), rfl, by simpa [ptsE] using ‹a ≤ b.length›, .done ?_, .done ?_⟩
    · unfold body_reader_points_l2
      rw [if_neg (by simp; omega)]; simp [ptsE]
    · unfold ref18_path_l2
      rw [if_neg (by simp; omega)]; simp [ptsE]
  | succ k ih =>
    intro pre q a hp hq ha
    obtain ⟨q1, q2, q3, q4⟩ := hq
    have go : decide ((pre.length : Int) < (n : Int)) = true := by simp; omega
    rcases coord_any hb hby ha (q := q.1) ⟨q1, q2⟩ () ((), 0) with ⟨p1, r1, hp1, hd1, hi1, n1, hn1, hz1, hg1⟩ | ⟨e, z, he, hi1, hg1⟩
    · obtain ⟨hl1, hd1'⟩ := after_len hd1
      rcases coord_any hb hby (at_ := a + (vB (zigN (p1 - q.1))).length) (by omega) (q := q.2) ⟨q3, q4⟩ () ((), 0) with ⟨p2, r2, hp2, hd2, hi2, n2, hn2, hz2, hg2⟩ | ⟨e, z, he, hi2, hg2⟩
      · obtain ⟨hl2, hd2'⟩ := after_len hd2
        have l0 := rcoord_get (a0 := x) (s13 := ((a : Int), (pre.length : Int), pre.map ofP, q.1, q.2)) (b := b) (k := 0) (by decide) hn1 (x := q.1) (y := q.2) ⟨q1, q2⟩ ⟨q3, q4⟩ rfl hp1 hz1 hg1
        have l1 := rcoord_get (a0 := x) (s13 := ((a : Int), (pre.length : Int), pre.map ofP, q.1, q.2)) (b := b) (k := 1) (by decide) hn2 (x := p1) (y := q.2) hp1 ⟨q3, q4⟩ rfl hp2 hz2 hg2
        have l2 : ref18_path_l4 x b ((a : Int), (pre.length : Int), pre.map ofP, q.1, q.2) (((a + (vB (zigN (p1 - q.1))).length + (vB (zigN (p2 - q.2))).length : Nat) : Int), ((1 + 1 : Nat) : Int), p1, p2) (.inr (.inl (((a + (vB (zigN (p1 - q.1))).length + (vB (zigN (p2 - q.2))).length : Nat) : Int), p1, p2))) := by
          unfold ref18_path_l4
          rw [if_neg (by simp)]
        have hlen : (pre ++ [(p1, p2)]).length = pre.length + 1 := by simp
        have si : body_reader_points_l2 ((n : Int), ((), 0), L) (pre, (pre.length : Int), b, (a : Int), 0, q.1, q.2) (.inl (pre ++ [(p1, p2)], ((pre ++ [(p1, p2)]).length : Int), b, ((a + (vB (zigN (p1 - q.1))).length + (vB (zigN (p2 - q.2))).length : Nat) : Int), 0, p1, p2)) := by
          unfold body_reader_points_l2
          rw [if_pos go]
          refine ⟨_, hi1, _, hi2, 0, rerr0, ?_⟩
          rw [if_neg (by simp)]
          refine ⟨by simp; omega, by simp; omega, ?_⟩
          simp only
          rw [hlen, w_small (by omega) (by omega)]; simp
        have sr : ref18_path_l2 x (n : Int) b ((a : Int), (pre.length : Int), pre.map ofP, q.1, q.2) (.inl (((a + (vB (zigN (p1 - q.1))).length + (vB (zigN (p2 - q.2))).length : Nat) : Int), ((pre ++ [(p1, p2)]).length : Int), (pre ++ [(p1, p2)]).map ofP, p1, p2)) := by
          unfold ref18_path_l2
          rw [if_pos go]
          refine ⟨_, .next l0 (.next l1 (.done l2)), ?_⟩
          show ref18_path_j3 _ _ _
          unfold ref18_path_j3
          refine ⟨by simp; omega, by simp; omega, by simp; omega, by simp; omega, ?_⟩
          simp only
          rw [hlen, w_small (by omega) (by omega)]
          simp [ofP]
        have hE : ∀ l, ptsE q ((p1, p2) :: l) = vB (zigN (p1 - q.1)) ++ vB (zigN (p2 - q.2)) ++ ptsE (p1, p2) l := fun l => rfl
        rcases ih (pre ++ [(p1, p2)]) (p1, p2) (a + (vB (zigN (p1 - q.1))).length + (vB (zigN (p2 - q.2))).length) (by rw [hlen]; omega) ⟨hp1.1, hp1.2, hp2.1, hp2.2⟩ (by omega) with ⟨l, rest, i1, i2, i3, i4, i5, i6⟩ | ⟨e, a2, l, m, t, he, i1, i2⟩
        · refine .inl ⟨(p1, p2) :: l, rest, by simp [i1], ?_, ?_, ?_, ?_, ?_⟩
          · intro p hpm
            rcases List.mem_cons.1 hpm with rfl | hpm
            · exact ⟨hp1.1, hp1.2, hp2.1, hp2.2⟩
            · exact i2 p hpm
          · rw [hE, hd1, List.append_assoc, List.append_assoc]
            congr 1
            rw [← hd1', hd2]
            congr 1
            rw [← hd2', i3]
          · rw [hE, List.length_append, List.length_append]; omega
          · have e1 : a + (vB (zigN (p1 - q.1))).length + (vB (zigN (p2 - q.2))).length + (ptsE (p1, p2) l).length = a + (ptsE q ((p1, p2) :: l)).length := by rw [hE, List.length_append, List.length_append]; omega
            rw [e1] at i5
            have e2 : pre ++ [(p1, p2)] ++ l = pre ++ (p1, p2) :: l := by simp
            rw [e2] at i5
            exact .next si i5
          · have e1 : a + (vB (zigN (p1 - q.1))).length + (vB (zigN (p2 - q.2))).length + (ptsE (p1, p2) l).length = a + (ptsE q ((p1, p2) :: l)).length := by rw [hE, List.length_append, List.length_append]; omega
            rw [e1] at i6
            have e2 : pre ++ [(p1, p2)] ++ l = pre ++ (p1, p2) :: l := by simp
            rw [e2] at i6
            exact .next sr i6
        · exact .inr ⟨e, a2, l, m, t, he, .next si i1, .next sr i2⟩
      · have l0 := rcoord_get (a0 := x) (s13 := ((a : Int), (pre.length : Int), pre.map ofP, q.1, q.2)) (b := b) (k := 0) (by decide) hn1 (x := q.1) (y := q.2) ⟨q1, q2⟩ ⟨q3, q4⟩ rfl hp1 hz1 hg1
        have l1 := rcoord_err (a0 := x) (s13 := ((a : Int), (pre.length : Int), pre.map ofP, q.1, q.2)) (b := b) (k := 1) (by decide) (x := p1) (y := q.2) he hp1 ⟨q3, q4⟩ rfl hg2
        refine .inr ⟨e, ((a + (vB (zigN (p1 - q.1))).length : Nat) : Int), pre, (x.1, x.2.1, pre.map ofP, x.2.2.2.1, x.2.2.2.2.1, x.2.2.2.2.2), ((a + (vB (zigN (p1 - q.1))).length : Nat) : Int), he, .done ?_, .done ?_⟩
        · unfold body_reader_points_l2
          rw [if_pos go]
          refine ⟨_, hi1, _, hi2, e, rerrL, ?_⟩
          rw [if_pos (by simpa using he)]
        · unfold ref18_path_l2
          rw [if_pos go]
          exact ⟨_, .next l0 (.done l1), rfl⟩
    · have l0 := rcoord_err (a0 := x) (s13 := ((a : Int), (pre.length : Int), pre.map ofP, q.1, q.2)) (b := b) (k := 0) (by decide) (x := q.1) (y := q.2) he ⟨q1, q2⟩ ⟨q3, q4⟩ rfl hg1
      refine .inr ⟨e, (a : Int), pre, (x.1, x.2.1, pre.map ofP, x.2.2.2.1, x.2.2.2.2.1, x.2.2.2.2.2), (a : Int), he, .done ?_, .done ?_⟩
      · unfold body_reader_points_l2
        rw [if_pos go]
        refine ⟨_, hi1, _, ⟨_, lsgn_off he, rfl⟩, e, rerrL, ?_⟩
        rw [if_pos (by simpa using he)]
      · unfold ref18_path_l2
        rw [if_pos go]
        exact ⟨_, .done l0, rfl⟩
/-! ### Cells -/
theorem cls_any (hb : b.length < 1073741824) (hby : Byt b) {x : Mr} {n : Nat} (hn : n ≤ 1000) {c : Unit × Int} {L : List Int × Int × Int} : ∀ (k : Nat) (pre : List Int) (q : Int) (a : Nat), pre.length + k = n → -1 ≤ q ∧ q ≤ 65535 → a ≤ b.length →
    (∃ (l : List Int) (rest : List Int), l.length = k ∧ climbs q l ∧ b.drop a = clsE q l ++ rest ∧ a + (clsE q l).length ≤ b.length ∧
      Loops (body_reader_cells_l2 ((n : Int), c, L)) (pre, q, (pre.length : Int), 0, b, (a : Int), 0) (pre ++ l, 0, b, ((a + (clsE q l).length : Nat) : Int), 0) ∧
      Loops (ref18_cells_l2 x (n : Int) b) ((a : Int), q, (pre.length : Int), pre) (.inl (((a + (clsE q l).length : Nat) : Int), pre ++ l))) ∨
    (∃ (e f a2 e2 : Int) (l : List Int) (m : Mr) (t : Int), e ≠ 0 ∧ body_reader_err ((), f) (b, a2, e2) e ∧ Loops (body_reader_cells_l2 ((n : Int), c, L)) (pre, q, (pre.length : Int), 0, b, (a : Int), 0) (l, f, b, a2, e2) ∧
      Loops (ref18_cells_l2 x (n : Int) b) ((a : Int), q, (pre.length : Int), pre) (.inr (m, t, e))) := by
  intro k
  induction k with
  | zero =>
    intro pre q a hp _ ha
    refine .inl ⟨[], b.drop a, rfl, trivial, rfl, by simpa [clsE] using ha, .done ?_, .done ?_⟩
    · unfold body_reader_cells_l2
      rw [if_neg (by simp; omega)]; simp [clsE]
    · unfold ref18_cells_l2
      rw [if_neg (by simp; omega)]; simp [clsE]
  | succ k ih =>
    intro pre q a hp hq ha
    have go : decide ((pre.length : Int) < (n : Int)) = true := by simp; omega
    rcases get_any (b.drop a) (fun x hx => hby x (List.mem_of_mem_drop hx)) with ⟨z, rest, hz, hd, hg, hr⟩ | ⟨e, he, hg, hr⟩
    · have hrg := hr b a hb ha rfl
      have h1 := lnum_get (most := 65535) hb hd hg
      obtain ⟨hl, hd'⟩ := after_len hd
      by_cases hbig : 65535 < (z : Int)
      · rw [if_pos hbig] at h1
        refine .inr ⟨5, 0, (a : Int), 5, pre, (x.1, x.2.1, x.2.2.1, pre, x.2.2.2.2.1, x.2.2.2.2.2), (a : Int), by decide, rerrL, .done ?_, .done ?_⟩
        · unfold body_reader_cells_l2
          rw [if_pos go]
          refine ⟨_, h1, _, rnoteL (by decide), 5, rerrL, ?_⟩
          rw [if_pos (by decide)]
        · unfold ref18_cells_l2
          rw [if_pos go]
          refine ⟨_, hrg, ?_⟩
          rw [if_neg (by simp), if_pos (by simpa using hbig)]
          unfold ref18_cells_j3
          rw [if_pos rfl]
      · rw [if_neg hbig] at h1
        have w1 : IntKind.i64.wrap (q + IntKind.i64.wrap (IntKind.i64.wrap (z : Int) + 1)) = q + z + 1 := by
          rw [w_small (n := (z : Int)) (by omega) (by omega), w_small (n := (z : Int) + 1) (by omega) (by omega), w_small (by omega) (by omega)]; omega
        have w2 : IntKind.i64.wrap (IntKind.i64.wrap (q + 1) + IntKind.i64.wrap (z : Int)) = q + z + 1 := by
          rw [w_small (n := (z : Int)) (by omega) (by omega), w_small (n := q + 1) (by omega) (by omega), w_small (by omega) (by omega)]; omega
        by_cases hfar : 65535 < q + z + 1
        · refine .inr ⟨5, 5, ((a + (vB z).length : Nat) : Int), 0, pre, (x.1, x.2.1, x.2.2.1, pre, x.2.2.2.2.1, x.2.2.2.2.2), (a : Int), by decide, rerrN (by decide), .done ?_, .done ?_⟩
          · unfold body_reader_cells_l2
            rw [if_pos go]
            refine ⟨_, h1, ((), 5), ?_, 5, rerrN (by decide), ?_⟩
            · simp only; rw [w1, decide_eq_true hfar]; exact rnoteT
            · rw [if_pos (by decide)]
          · unfold ref18_cells_l2
            rw [if_pos go]
            refine ⟨_, hrg, ?_⟩
            rw [if_neg (by simp), if_neg (by simpa using hbig)]
            simp only
            rw [w2, decide_eq_true hfar]
            unfold ref18_cells_j3
            rw [if_pos rfl]
        · have hlen : (pre ++ [q + z + 1]).length = pre.length + 1 := by simp
          have e0 : (q + z + 1 - q - 1).toNat = z := by omega
          have hE : ∀ l, clsE q ((q + z + 1) :: l) = vB z ++ clsE (q + z + 1) l := fun l => by show vB (q + z + 1 - q - 1).toNat ++ _ = _; rw [e0]
          have si : body_reader_cells_l2 ((n : Int), c, L) (pre, q, (pre.length : Int), 0, b, (a : Int), 0) (.inl (pre ++ [q + z + 1], q + z + 1, ((pre ++ [q + z + 1]).length : Int), 0, b, ((a + (vB z).length : Nat) : Int), 0)) := by
            unfold body_reader_cells_l2
            rw [if_pos go]
            refine ⟨_, h1, ((), 0), ?_, 0, rerr0, ?_⟩
            · simp only; rw [w1, decide_eq_false hfar]; exact rnote0 rfl
            · rw [if_neg (by decide)]
              simp only
              rw [w1]
              refine ⟨by simp; omega, by simp; omega, ?_⟩
              rw [hlen, w_small (by omega) (by omega)]; simp
          have sr : ref18_cells_l2 x (n : Int) b ((a : Int), q, (pre.length : Int), pre) (.inl (((a + (vB z).length : Nat) : Int), q + z + 1, ((pre ++ [q + z + 1]).length : Int), pre ++ [q + z + 1])) := by
            unfold ref18_cells_l2
            rw [if_pos go]
            refine ⟨_, hrg, ?_⟩
            rw [if_neg (by simp), if_neg (by simpa using hbig)]
            simp only
            rw [w2, decide_eq_false hfar]
            unfold ref18_cells_j3
            rw [if_neg (by decide)]
            simp only
            rw [w2]
            refine ⟨by simp; omega, by simp; omega, by simp; omega, by simp; omega, ?_⟩
            rw [hlen, w_small (by omega) (by omega)]; simp
          rcases ih (pre ++ [q + z + 1]) (q + z + 1) (a + (vB z).length) (by rw [hlen]; omega) (by omega) (by omega) with ⟨l, rest2, i1, i2, i3, i4, i5, i6⟩ | ⟨e, f, a2, e2, l, m, t, he, i0, i1, i2⟩
          · have e1 : a + (vB z).length + (clsE (q + z + 1) l).length = a + (clsE q ((q + z + 1) :: l)).length := by rw [hE, List.length_append]; omega
            have e2 : pre ++ [q + z + 1] ++ l = pre ++ (q + z + 1) :: l := by simp
            refine .inl ⟨(q + z + 1) :: l, rest2, by simp [i1], ⟨by omega, by omega, i2⟩, ?_, by rw [← e1]; exact i4, ?_, ?_⟩
            · rw [hE, hd, List.append_assoc]
              congr 1
              rw [← hd', i3]
            · rw [e1, e2] at i5
              exact .next si i5
            · rw [e1, e2] at i6
              exact .next sr i6
          · exact .inr ⟨e, f, a2, e2, l, m, t, he, i0, .next si i1, .next sr i2⟩
    · have he0 : e ≠ 0 := by omega
      have hrg := hr b a hb ha rfl
      refine .inr ⟨e, 0, (a : Int), e, pre, (x.1, x.2.1, x.2.2.1, pre, x.2.2.2.2.1, x.2.2.2.2.2), (a : Int), he0, rerrL, .done ?_, .done ?_⟩
      · unfold body_reader_cells_l2
        rw [if_pos go]
        refine ⟨_, lnum_err ha he0 hg, _, rnoteL he0, e, rerrL, ?_⟩
        rw [if_pos (by simpa using he0)]
      · unfold ref18_cells_l2
        rw [if_pos go]
        refine ⟨_, hrg, ?_⟩
        rw [if_pos (by simpa using he0)]
end
end Go.Rel
/-! Plain laws: a body is read. -/
namespace Go.Rel
open Go Go.Eng Go.Pl

def setF (x m : Mg) (f : Fd) : Mg :=
  if f.2.1 = 1 then (x.1, putN 6 0 x.2.1 f.2.2.1.toNat (m.2.1.getD f.2.2.1.toNat 0), x.2.2.1, x.2.2.2.1, x.2.2.2.2.1, x.2.2.2.2.2)
  else if f.2.1 = 2 then (x.1, putN 6 0 x.2.1 f.2.2.1.toNat (m.2.1.getD f.2.2.1.toNat 0), x.2.2.1, x.2.2.2.1, x.2.2.2.2.1, x.2.2.2.2.2)
  else if f.2.1 = 3 then (x.1, x.2.1, m.2.2.1, x.2.2.2.1, x.2.2.2.2.1, x.2.2.2.2.2)
  else if f.2.1 = 4 then (x.1, x.2.1, x.2.2.1, m.2.2.2.1, x.2.2.2.2.1, x.2.2.2.2.2)
  else if f.2.1 = 5 then (x.1, x.2.1, x.2.2.1, x.2.2.2.1, m.2.2.2.2.1, x.2.2.2.2.2)
  else if f.2.1 = 6 then (x.1, x.2.1, x.2.2.1, x.2.2.2.1, x.2.2.2.2.1, m.2.2.2.2.2)
  else x
theorem rfield_ok {b rest : List Int} {at_ : Nat} (hb : b.length < 1073741824) (x : Mg) {m : Mg} {f : Fd} (hf : fdR f) (hw : wrongB m f = 0) (hd : b.drop at_ = partE m f ++ rest) :
    body_reader_field ((), 0) (b, (at_ : Int), 0) x f (((), 0), (b, ((at_ + (partE m f).length : Nat) : Int), 0), setF x m f) := by
  obtain ⟨⟨_, _, hk⟩, hp⟩ := hf
  unfold wrongB at hw
  rcases hk with ⟨e, e1, e2⟩ | ⟨e, e1, e2⟩ | ⟨e, e1, e2⟩ | ⟨e, e1, e2⟩ | ⟨k1, k2, k3, k4, k5, k6⟩
  · rw [if_pos e, e1, e2] at hw
    obtain ⟨h1, h2, h3⟩ := path_right hw
    have hE : partE m f = vB m.2.2.1.length ++ ptsE (0, 0) m.2.2.1 := by unfold partE; rw [if_neg (by omega), if_neg (by omega), if_pos e]
    have hS : setF x m f = (x.1, x.2.1, m.2.2.1, x.2.2.2.1, x.2.2.2.2.1, x.2.2.2.2.2) := by unfold setF; rw [if_neg (by omega), if_neg (by omega), if_pos e]
    rw [hE] at hd ⊢
    rw [hS]
    unfold body_reader_field
    rw [if_neg (by simp; omega), if_neg (by simp; omega), if_pos (by simpa using e)]
    exact ⟨_, rpoints_ok hb m.2.2.1 h1 h2 h3 hd, rfl⟩
  · rw [if_neg (by omega), if_pos e, e1, e2] at hw
    obtain ⟨h1, h2, h3⟩ := cells_right hw
    have hE : partE m f = vB m.2.2.2.1.length ++ clsE (-1) m.2.2.2.1 := by unfold partE; rw [if_neg (by omega), if_neg (by omega), if_neg (by omega), if_pos e]
    have hS : setF x m f = (x.1, x.2.1, x.2.2.1, m.2.2.2.1, x.2.2.2.2.1, x.2.2.2.2.2) := by unfold setF; rw [if_neg (by omega), if_neg (by omega), if_neg (by omega), if_pos e]
    rw [hE] at hd ⊢
    rw [hS]
    unfold body_reader_field
    rw [if_neg (by simp; omega), if_neg (by simp; omega), if_neg (by simp; omega), if_pos (by simpa using e)]
    exact ⟨_, rcells2_ok hb m.2.2.2.1 h1 h2 h3 hd, rfl⟩
  · rw [if_neg (by omega), if_neg (by omega), if_pos e, e1, e2] at hw
    obtain ⟨h1, h2⟩ := text_right hw
    have hE : partE m f = txtE m.2.2.2.2.1 := by unfold partE; rw [if_neg (by omega), if_neg (by omega), if_neg (by omega), if_neg (by omega), if_pos e]
    have hS : setF x m f = (x.1, x.2.1, x.2.2.1, x.2.2.2.1, m.2.2.2.2.1, x.2.2.2.2.2) := by unfold setF; rw [if_neg (by omega), if_neg (by omega), if_neg (by omega), if_neg (by omega), if_pos e]
    rw [hE] at hd ⊢
    rw [hS]
    unfold body_reader_field
    rw [if_neg (by simp; omega), if_neg (by simp; omega), if_neg (by simp; omega), if_neg (by simp; omega), if_pos (by simpa using e)]
    exact ⟨_, rtext2_ok hb m.2.2.2.2.1 (by omega) (by omega) h2 hd, rfl⟩
  · rw [if_neg (by omega), if_neg (by omega), if_neg (by omega), if_pos e, e1, e2] at hw
    obtain ⟨h1, h2⟩ := text_right hw
    have hE : partE m f = txtE m.2.2.2.2.2 := by unfold partE; rw [if_neg (by omega), if_neg (by omega), if_neg (by omega), if_neg (by omega), if_neg (by omega), if_pos e]
    have hS : setF x m f = (x.1, x.2.1, x.2.2.1, x.2.2.2.1, x.2.2.2.2.1, m.2.2.2.2.2) := by unfold setF; rw [if_neg (by omega), if_neg (by omega), if_neg (by omega), if_neg (by omega), if_neg (by omega), if_pos e]
    rw [hE] at hd ⊢
    rw [hS]
    unfold body_reader_field
    rw [if_neg (by simp; omega), if_neg (by simp; omega), if_neg (by simp; omega), if_neg (by simp; omega), if_neg (by simp; omega), if_pos (by simpa using e)]
    exact ⟨_, rtext2_ok hb m.2.2.2.2.2 (by omega) (by omega) h2 hd, rfl⟩
  · rw [if_neg (by omega), if_neg (by omega), if_neg (by omega), if_neg (by omega)] at hw
    by_cases hbad : numBad m f
    · rw [if_pos hbad] at hw; cases hw
    unfold numBad at hbad
    by_cases e : f.2.1 = 1
    · have hE : partE m f = vB (m.2.1.getD f.2.2.1.toNat 0).toNat := by unfold partE; rw [if_pos e]
      have hS : setF x m f = (x.1, putN 6 0 x.2.1 f.2.2.1.toNat (m.2.1.getD f.2.2.1.toNat 0), x.2.2.1, x.2.2.2.1, x.2.2.2.2.1, x.2.2.2.2.2) := by unfold setF; rw [if_pos e]
      rw [hE] at hd ⊢
      rw [hS]
      unfold body_reader_field
      rw [if_pos (by simpa using e)]
      have h0 := hp e
      have hmost : IntKind.u64.wrap f.2.2.2.2.1 = f.2.2.2.2.1 := w64_small (by omega) (by omega)
      have hn := lnumber_ok (most := f.2.2.2.2.1) hb hd (by omega) (by omega)
      have hval : IntKind.i64.wrap ((m.2.1.getD f.2.2.1.toNat 0).toNat : Int) = m.2.1.getD f.2.2.1.toNat 0 := by rw [w_small (by omega) (by omega)]; omega
      rw [hmost]
      refine ⟨_, hn, k3, k4, k3, k4, ((), 0), rnote0 (decide_eq_false ?_), ?_⟩
      · simp only [hval]
        rw [putN_getD (by omega), if_pos rfl]; omega
      · simp only [hval]
    · have hE : partE m f = vB (zigN (m.2.1.getD f.2.2.1.toNat 0)) := by unfold partE; rw [if_neg e, if_pos (by omega)]
      have hS : setF x m f = (x.1, putN 6 0 x.2.1 f.2.2.1.toNat (m.2.1.getD f.2.2.1.toNat 0), x.2.2.1, x.2.2.2.1, x.2.2.2.2.1, x.2.2.2.2.2) := by unfold setF; rw [if_neg e, if_pos (by omega)]
      rw [hE] at hd ⊢
      rw [hS]
      unfold body_reader_field
      rw [if_neg (by simpa using e), if_pos (by simp; omega)]
      exact ⟨_, lsigned_ok hb hd (by omega) (by omega) (by omega) (by omega), k3, k4, rfl⟩
end Go.Rel
/-! Plain laws: a body is written. -/
namespace Go.Rel
open Go Go.Eng Go.Pl

def sinceB (k v : Int) : List Fd := (fieldsB k).filter fun f => decide (f.2.2.2.2.2.1 ≤ v)
theorem fieldAll_itr (k v : Int) : Itr (field_All_1 k v) (sinceB k v) := by
  intro S Y s s' hrun
  have hl := fields_len k
  have key : ∀ (r pre : List Fd) (s : S), fieldsB k = pre ++ r → Run Y (r.filter fun f => decide (f.2.2.2.2.2.1 ≤ v)) s s' → Loops (field_All_1_l1 S Y v (fieldsB k)) (s, (pre.length : Int)) (s', ()) := by
    intro r
    induction r with
    | nil =>
      intro pre s h hr
      cases hr
      refine .done ?_
      unfold field_All_1_l1
      rw [if_neg (by rw [h]; simp)]
    | cons f r ih =>
      intro pre s h hr
      have hx : idx (fieldsB k) (pre.length : Int) f := ⟨by omega, by rw [h]; simp⟩
      have hlt := hx.lt
      have hn : IntKind.i64.wrap ((pre.length : Int) + 1) = ((pre ++ [f]).length : Int) := by rw [w_small (by omega) (by omega)]; simp
      by_cases hf : f.2.2.2.2.2.1 ≤ v
      · rw [List.filter_cons_of_pos (by simpa using hf)] at hr
        cases hr with
        | go h1 h2 =>
          refine .next (s' := (_, ((pre ++ [f]).length : Int))) ?_ (ih (pre ++ [f]) _ (by simp [h]) h2)
          unfold field_All_1_l1
          rw [if_pos (by simpa using hlt)]
          refine ⟨f, hx, ?_⟩
          rw [if_neg (by simp; omega)]
          refine ⟨true, _, h1, ?_⟩
          rw [if_neg (by simp)]
          unfold field_All_1_j2
          simp only [hn]
        | stop h1 =>
          refine .done ?_
          unfold field_All_1_l1
          rw [if_pos (by simpa using hlt)]
          refine ⟨f, hx, ?_⟩
          rw [if_neg (by simp; omega)]
          refine ⟨false, _, h1, ?_⟩
          rw [if_pos (by simp)]
      · rw [List.filter_cons_of_neg (by simpa using hf)] at hr
        refine .next (s' := (s, ((pre ++ [f]).length : Int))) ?_ (ih (pre ++ [f]) s (by simp [h]) hr)
        unfold field_All_1_l1
        rw [if_pos (by simpa using hlt)]
        refine ⟨f, hx, ?_⟩
        rw [if_pos (by simp; omega)]
        unfold field_All_1_j2
        simp only [hn]
  exact ⟨fieldsB k, fields_ok k, _, key _ [] s rfl hrun, rfl⟩
theorem firstW_each {m : Mg} : ∀ {l : List Fd}, firstW m l = 0 → ∀ f ∈ l, wrongB m f = 0
  | [], _, f, hf => nomatch hf
  | g :: l, h, f, hf => by
    simp only [firstW] at h
    by_cases e : wrongB m g = 0
    · rw [if_neg (by simpa using e)] at h
      rcases List.mem_cons.1 hf with rfl | hf
      · exact e
      · exact firstW_each h f hf
    · rw [if_pos e] at h; exact absurd h e
theorem check_each {m : Mg} (h : checkB m = 0) : ∀ f ∈ fieldsB m.1, wrongB m f = 0 := by
  unfold checkB at h
  by_cases h1 : fieldsB m.1 = []
  · rw [if_pos h1] at h; cases h
  · rw [if_neg h1] at h
    by_cases h2 : firstW m (fieldsB m.1) = 0
    · exact firstW_each h2
    · rw [if_pos h2] at h; exact absurd h h2
def partsB (m : Mg) (v : Int) : List (ByteArray × List Int) := (sinceB m.1 v).map fun f => (f.1, partE m f)
theorem parts_itr {m : Mg} {v : Int} (hv : v = 1 ∨ v = 2) (hc : checkB m = 0) (hp : m.2.2.1.length < 4611686018427387904) (hq : m.2.2.2.1.length < 4611686018427387904) : Itr (body_Parts_1 m v) (partsB m v) := by
  intro S Y s s' hrun
  have hck : body_check m v 0 := by
    unfold body_check
    rcases hv with rfl | rfl
    · rw [if_neg (by decide)]
      unfold body_check_j1
      rw [if_neg (by decide)]
      exact ⟨checkB m, mcheck_ok hp hq, hc.symm⟩
    · rw [if_pos (by decide)]
      unfold body_check_j1
      rw [if_neg (by decide)]
      exact ⟨checkB m, mcheck_ok hp hq, hc.symm⟩
  refine ⟨0, hck, ?_⟩
  rw [if_neg (by decide)]
  refine ⟨_, rfl, ?_⟩
  have hmem : ∀ f ∈ sinceB m.1 v, f ∈ fieldsB m.1 := fun f hf => (List.mem_filter.1 hf).1
  have key : ∀ (l : List Fd) (s : S), (∀ f ∈ l, f ∈ fieldsB m.1) → Run Y (l.map fun f => (f.1, partE m f)) s s' → ∃ t, RunB (body_Parts_1_l1 S Y m) l s t ∧ (t = .inl s' ∨ t = .inr s') := by
    intro l
    induction l with
    | nil => intro s _ hr; cases hr; exact ⟨_, .nil, .inl rfl⟩
    | cons f l ih =>
      intro s hm hr
      have hfm := hm f List.mem_cons_self
      have hpart := (part_ok (fields_r m.1 f hfm) (check_each hc f hfm)).1
      cases hr with
      | go h1 h2 =>
        obtain ⟨t, h3, h4⟩ := ih _ (fun g hg => hm g (List.mem_cons_of_mem _ hg)) h2
        exact ⟨t, .go ⟨_, hpart, true, _, h1, by rw [if_neg (by simp)]⟩ h3, h4⟩
      | stop h1 => exact ⟨_, .stop ⟨_, hpart, false, _, h1, by rw [if_pos (by simp)]⟩, .inr rfl⟩
  obtain ⟨t, h1, h2⟩ := key _ s hmem hrun
  refine ⟨t, (), fieldAll_itr m.1 v _ _ _ _ (run_yof h1), ?_⟩
  rcases h2 with rfl | rfl <;> exact rfl
def bodyE (m : Mg) (v : Int) : List Int := (sinceB m.1 v).flatMap (partE m)
theorem encode_ok {m : Mg} {v : Int} (hv : v = 1 ∨ v = 2) (hc : checkB m = 0) (hp : m.2.2.1.length < 4611686018427387904) (hq : m.2.2.2.1.length < 4611686018427387904) : body_Encode m v (bodyE m v, 0) := by
  have hck : body_check m v 0 := by
    unfold body_check
    rcases hv with rfl | rfl
    · rw [if_neg (by decide)]
      unfold body_check_j1
      rw [if_neg (by decide)]
      exact ⟨checkB m, mcheck_ok hp hq, hc.symm⟩
    · rw [if_pos (by decide)]
      unfold body_check_j1
      rw [if_neg (by decide)]
      exact ⟨checkB m, mcheck_ok hp hq, hc.symm⟩
  refine ⟨0, hck, ?_⟩
  rw [if_neg (by decide)]
  refine ⟨_, rfl, ?_⟩
  have hlen : ∀ p ∈ partsB m v, p.2.length ≤ 130 := by
    intro p hp'
    obtain ⟨f, hf, rfl⟩ := List.mem_map.1 hp'
    have hfm := (List.mem_filter.1 hf).1
    exact (part_ok (fields_r m.1 f hfm) (check_each hc f hfm)).2
  have hcount : (partsB m v).length ≤ 6 := by
    unfold partsB sinceB
    rw [List.length_map]
    exact Nat.le_trans (List.length_filter_le _ _) (fields_len m.1)
  have key : ∀ (l : List (ByteArray × List Int)) (acc : List Int), (∀ p ∈ l, p.2.length ≤ 130) → acc.length + 130 * l.length ≤ 100000 → RunB body_Encode_l1 l acc (.inl (acc ++ l.flatMap fun p => p.2)) := by
    intro l
    induction l with
    | nil => intro acc _ _; rw [List.flatMap_nil, List.append_nil]; exact .nil
    | cons p l ih =>
      intro acc h ha
      have h1 := h p List.mem_cons_self
      simp only [List.length_cons] at ha
      have := ih (acc ++ p.2) (fun x hx => h x (List.mem_cons_of_mem _ hx)) (by rw [List.length_append]; omega)
      rw [List.flatMap_cons, ← List.append_assoc]
      exact .go ⟨by omega, by omega, rfl⟩ this
  have h1 := key (partsB m v) [] hlen (by simp; omega)
  refine ⟨_, (), parts_itr hv hc hp hq _ _ _ _ (run_yof h1), ?_⟩
  show ((_ : List Int), (0 : Int)) = _
  rw [List.nil_append]
  unfold bodyE partsB
  rw [List.flatMap_map]
end Go.Rel
/-! Plain laws: a field is read off any bytes, by the program and by the document alike. -/
namespace Go.Rel
open Go Go.Eng Go.Pl

theorem bbyt {l : List Int} (h : Byt l) : bints (bstr l) = l := by
  have key : ∀ (l : List Int) (r : ByteArray), Byt l → bints (l.foldl (fun r n => r.push (UInt8.ofNat n.toNat)) r) = bints r ++ l := by
    intro l
    induction l with
    | nil => intro r _; simp
    | cons x l ih =>
      intro r hx
      rw [List.foldl_cons, ih _ (fun y hy => hx y (List.mem_cons_of_mem _ hy))]
      have h0 := hx x List.mem_cons_self
      have : bints (r.push (UInt8.ofNat x.toNat)) = bints r ++ [x] := by
        simp only [bints, ByteArray.push, Array.toList_push, List.map_append, List.map_cons, List.map_nil]
        congr 2
        rw [UInt8.toNat_ofNat']
        omega
      rw [this, List.append_assoc]; rfl
  have := key l ByteArray.empty h
  simpa [bints, bstr] using this
theorem manyB_in {n a b : Int} (h1 : a ≤ n) (h2 : n ≤ b) : manyB n a b = 0 := by unfold manyB; rw [if_neg (by omega), if_neg (by omega)]
theorem pathB_of {l : List (Int × Int)} (h1 : 1 ≤ l.length) (h2 : l.length ≤ 16) (h : ∀ p ∈ l, Bnd p) : pathB l 1 16 = 0 := by
  unfold pathB
  rw [if_pos (manyB_in (by omega) (by omega))]
  unfold pathL
  rw [firstE_none]
  · rfl
  · intro k hk
    obtain ⟨a1, a2, a3, a4⟩ := h l[k] (List.getElem_mem hk)
    unfold pathBad
    rw [List.getElem?_eq_getElem hk]
    simp only
    rw [if_neg (by omega)]
theorem climbs_at : ∀ (l : List Int) (q : Int), climbs q l → ∀ k, k < l.length → q < l.getD k 0 ∧ l.getD k 0 ≤ 65535 ∧ (0 < k → l.getD (k - 1) 0 < l.getD k 0)
  | [], _, _, k, hk => by simp at hk
  | c :: l, q, ⟨h1, h2, h3⟩, k, hk => by
    cases k with
    | zero => exact ⟨by simpa using h1, by simpa using h2, fun h => absurd h (by omega)⟩
    | succ k =>
      have ih := climbs_at l c h3 k (by simpa using hk)
      refine ⟨by simp only [List.getD_cons_succ]; omega, by simpa using ih.2.1, fun _ => ?_⟩
      cases k with
      | zero => simpa using ih.1
      | succ k => simpa using ih.2.2 (by omega)
theorem cellsB_of {l : List Int} (h1 : 1 ≤ l.length) (h2 : l.length ≤ 32) (h : climbs (-1) l) : cellsB l 1 32 = 0 := by
  unfold cellsB
  rw [if_pos (manyB_in (by omega) (by omega))]
  unfold cellsL
  rw [firstE_none]
  · rfl
  · intro k hk
    obtain ⟨a1, a2, a3⟩ := climbs_at l (-1) h k hk
    unfold cellsBad
    rw [if_neg (by omega), if_neg (by omega)]
theorem textB_of {s : ByteArray} {b : Int} (h1 : (s.size : Int) ≤ b) (h : ∀ c ∈ bints s, 32 ≤ c ∧ c ≤ 126) : textB s 0 b = 0 := by
  unfold textB
  rw [if_pos (manyB_in (by omega) h1)]
  unfold textL
  rw [firstE_none]
  · rfl
  · intro k hk
    have hk' : k < (bints s).length := by rw [len_bints]; exact hk
    have := h (bints s)[k] (List.getElem_mem hk')
    have e : (bints s).getD k 0 = (bints s)[k] := by rw [List.getD_eq_getElem?_getD, List.getElem?_eq_getElem hk']; rfl
    unfold textBad
    rw [e, if_neg (by omega)]
/-! ### Texts -/
section
variable {b : List Int} {at_ n : Nat} {e most : Int} {rest : List Int}
theorem lfld_err (hat : at_ ≤ b.length) (he : e ≠ 0) (hg : varint_Get (b.drop at_) (0, 0, e)) : lens_Lens_Field (b, (at_ : Int), 0) most ([], (b, (at_ : Int), e)) := by
  refine ⟨(false, (b, (at_ : Int), e), []), ?_, rfl⟩
  unfold lens_Lens_read__lens_Lens_Field_1
  rw [if_neg (by simp)]
  refine ⟨_, left_ok hat, (0, e, []), ⟨_, hg, ?_⟩, ?_⟩
  · rw [if_pos (by simpa using he)]
  · rw [if_pos (by simpa using he)]
theorem lfld_bad (hb : b.length < 1073741824) (hn : n < 2 ^ 64) (hd : b.drop at_ = vB n ++ rest) (hm0 : 0 ≤ most) (hm : most < 1099511627776) (hg : varint_Get (b.drop at_) ((n : Int), ((vB n).length : Int), 0)) (h : most < (n : Int) ∨ rest.length < n) :
    lens_Lens_Field (b, (at_ : Int), 0) most ([], (b, (at_ : Int), if most < (n : Int) then 6 else 4)) := by
  have hle := (after_len hd).1
  have h9 : (b.drop at_).length = (vB n).length + rest.length := by rw [hd, List.length_append]
  have e1 : IntKind.u64.wrap (max most 0) = most := by rw [w64_small (by omega) (by omega)]; omega
  have e2 : IntKind.u64.wrap (IntKind.i64.wrap (((b.drop at_).length : Int) - ((vB n).length : Int))) = (rest.length : Int) := by
    rw [h9, w_small (by omega) (by omega), w64_small (by omega) (by omega)]; omega
  have he : (if most < (n : Int) then (6 : Int) else 4) ≠ 0 := by split <;> decide
  refine ⟨(false, (b, (at_ : Int), if most < (n : Int) then 6 else 4), []), ?_, rfl⟩
  unfold lens_Lens_read__lens_Lens_Field_1
  rw [if_neg (by simp)]
  refine ⟨_, left_ok (by omega), (0, if most < (n : Int) then 6 else 4, []), ⟨_, hg, ?_⟩, ?_⟩
  · simp only
    rw [if_neg (by simp), e1, e2]
    by_cases h1 : most < (n : Int)
    · rw [if_pos (by simpa using h1), if_pos h1]
    · rw [if_neg (by simpa using h1), if_pos (by simp only [decide_eq_true_eq]; omega), if_neg h1]
  · rw [if_pos (by simpa using he)]
def gdB (l : List Int) : Bool := l.all fun c => decide (32 ≤ c ∧ c ≤ 126)
theorem gdB_true {l : List Int} (h : gdB l = true) : ∀ c ∈ l, 32 ≤ c ∧ c ≤ 126 := fun c hc => by simpa using List.all_eq_true.1 h c hc
def nt : Bool → Int
  | true => 0
  | false => 19
theorem note_nt {g : Bool} {a : Int} : body_reader_note ((), nt g) (b, a, 0) true 19 ((), 19) := by
  cases g with
  | true => exact rnoteT
  | false => exact rnoteN (by decide)
theorem note_ntF {g : Bool} {a : Int} : body_reader_note ((), nt g) (b, a, 0) false 19 ((), nt g) := by
  cases g with
  | true => exact rnote0 rfl
  | false => exact rnoteN (by decide)
theorem txt_run {p : List Int} (hp : p.length < 1073741824) {a : Int} : Loops (body_reader_text_l2 (p, (b, a, 0))) (0, 0) (nt (gdB p)) := by
  have hsn : ∀ k (hk : k < p.length), gdB (p.take (k + 1)) = (gdB (p.take k) && decide (32 ≤ p[k] ∧ p[k] ≤ 126)) := fun k hk => by
    unfold gdB; rw [List.take_succ_eq_append_getElem hk, List.all_append]; simp
  have := loops_count (step := body_reader_text_l2 (p, (b, a, 0))) (fun k => ((k : Int), nt (gdB (p.take k)))) p.length (e := nt (gdB p)) (fun k hk => ?_) ?_
  · exact this
  · have hx := idx_of hk
    unfold body_reader_text_l2
    rw [if_pos (by simpa using hk)]
    refine ⟨_, hx, ?_⟩
    rw [hsn k hk]
    have w : IntKind.i64.wrap ((k : Int) + 1) = ((k + 1 : Nat) : Int) := by rw [w_small (by omega) (by omega)]; omega
    by_cases h1 : p[k] < 32
    · rw [if_pos (by simpa using h1), decide_eq_false (by omega), Bool.and_false]
      refine ⟨((), 19), note_nt, ?_⟩
      unfold body_reader_text_j3
      simp only
      rw [w]; rfl
    · rw [if_neg (by simpa using h1)]
      by_cases h2 : 126 < p[k]
      · rw [decide_eq_true h2, decide_eq_false (show ¬ (32 ≤ p[k] ∧ p[k] ≤ 126) by omega), Bool.and_false]
        refine ⟨((), 19), note_nt, ?_⟩
        unfold body_reader_text_j3
        simp only
        rw [w]; rfl
      · rw [decide_eq_false h2, decide_eq_true (show 32 ≤ p[k] ∧ p[k] ≤ 126 by omega), Bool.and_true]
        refine ⟨((), nt (gdB (p.take k))), note_ntF, ?_⟩
        unfold body_reader_text_j3
        simp only
        rw [w]
  · unfold body_reader_text_l2
    rw [if_neg (by simp), List.take_length]
end
/-! ### A field -/
def setN6 (n : Int) : Mg := (0, [n, n, n, n, n, n], [], [], bstr [], bstr [])
theorem setN6_at (n : Int) {p : Nat} (h : p < 6) : (setN6 n).2.1.getD p 0 = n := by
  match p, h with
  | 0, _ => rfl
  | 1, _ => rfl
  | 2, _ => rfl
  | 3, _ => rfl
  | 4, _ => rfl
  | 5, _ => rfl
def fdZ (f : Fd) : Prop := fdR f ∧ (f.2.1 = 2 → f.2.2.2.1 = -1000000 ∧ f.2.2.2.2.1 = 1000000) ∧ 1 ≤ f.2.2.2.2.2.1 ∧ (f.2.1 = 1 → 0 ≤ f.2.2.2.2.1)
theorem fields_z (k : Int) : ∀ f ∈ fieldsB k, fdZ f := by
  refine fields_all fdZ k (by simp [fdZ, fdR, fdOk, robotF, size_bstr]) ?_
  simp only [List.forall_mem_cons]
  simp [fdZ, fdR, fdOk, size_bstr]
def FieldSame (b : List Int) (at_ : Nat) (x : Mg) (f : Fd) : Prop :=
  (∃ (y : Mg) (rest : List Int), wrongB y f = 0 ∧ b.drop at_ = partE y f ++ rest ∧ at_ + (partE y f).length ≤ b.length ∧
    body_reader_field ((), 0) (b, (at_ : Int), 0) x f (((), 0), (b, ((at_ + (partE y f).length : Nat) : Int), 0), setF x y f) ∧
    ref18_field (ofM x) f b at_ (ofM (setF x y f), ((at_ + (partE y f).length : Nat) : Int), 0)) ∨
  (∃ (e f' a2 e2 : Int) (m : Mg) (m2 : Mr) (t : Int), e ≠ 0 ∧ body_reader_err ((), f') (b, a2, e2) e ∧ body_reader_field ((), 0) (b, (at_ : Int), 0) x f (((), f'), (b, a2, e2), m) ∧ ref18_field (ofM x) f b at_ (m2, t, e))
section
variable {b : List Int} {at_ : Nat} {x : Mg} {f : Fd}
theorem fld_one (hb : b.length < 1073741824) (hby : Byt b) (hat : at_ ≤ b.length) (hf : fdZ f) (e1 : f.2.1 = 1) : FieldSame b at_ x f := by
  obtain ⟨⟨⟨_, _, hk⟩, h0⟩, _, _, hmost⟩ := hf
  have h0 := h0 e1
  have hmost := hmost e1
  obtain ⟨_, _, k3, k4, k5, k6⟩ := hk.resolve_left (by omega) |>.resolve_left (by omega) |>.resolve_left (by omega) |>.resolve_left (by omega)
  have hw : IntKind.u64.wrap f.2.2.2.2.1 = f.2.2.2.2.1 := w64_small (by omega) (by omega)
  rcases get_any (b.drop at_) (fun x hx => hby x (List.mem_of_mem_drop hx)) with ⟨n, rest, hn, hd, hg, hr⟩ | ⟨e, he, hg, hr⟩
  · have hrg := hr b at_ hb hat rfl
    have hl := (after_len hd).1
    have h1 := lnum_get (most := f.2.2.2.2.1) hb hd hg
    have jt : ref18_field_j1 (ofM x) f (at_ : Int) ((n : Int), ((at_ + (vB n).length : Nat) : Int), 0) true (ofM x, (at_ : Int), 5) := by
      unfold ref18_field_j1
      rw [if_pos rfl]
    by_cases hbig : f.2.2.2.2.1 < (n : Int)
    · rw [if_pos hbig] at h1
      refine .inr ⟨5, 0, (at_ : Int), 5, (x.1, putN 6 0 x.2.1 f.2.2.1.toNat (IntKind.i64.wrap 0), x.2.2.1, x.2.2.2.1, x.2.2.2.2.1, x.2.2.2.2.2), ofM x, (at_ : Int), by decide, rerrL, ?_, ?_⟩
      · unfold body_reader_field
        rw [if_pos (by simpa using e1), hw]
        exact ⟨_, h1, k3, k4, k3, k4, ((), 0), rnoteL (by decide), rfl⟩
      · refine ⟨_, hrg, ?_⟩
        rw [if_neg (by simp), if_pos (by simpa using e1), hw, if_pos (by simpa using hbig)]
        exact jt
    · rw [if_neg hbig] at h1
      have wn : IntKind.i64.wrap (n : Int) = (n : Int) := w_small (by omega) (by omega)
      by_cases hsm : (n : Int) < f.2.2.2.1
      · refine .inr ⟨5, 5, ((at_ + (vB n).length : Nat) : Int), 0, (x.1, putN 6 0 x.2.1 f.2.2.1.toNat (n : Int), x.2.2.1, x.2.2.2.1, x.2.2.2.2.1, x.2.2.2.2.2), ofM x, (at_ : Int), by decide, rerrN (by decide), ?_, ?_⟩
        · unfold body_reader_field
          rw [if_pos (by simpa using e1), hw]
          refine ⟨_, h1, k3, k4, k3, k4, ((), 5), ?_, ?_⟩
          · simp only
            rw [wn, putN_getD (by omega), if_pos rfl, decide_eq_true hsm]
            exact rnoteT
          · simp only
            rw [wn]
        · refine ⟨_, hrg, ?_⟩
          rw [if_neg (by simp), if_pos (by simpa using e1), hw, if_neg (by simpa using hbig)]
          simp only
          rw [wn, decide_eq_true hsm]
          exact jt
      · have hE : partE (setN6 n) f = vB n := by
          unfold partE; rw [if_pos e1, setN6_at _ (by omega)]; simp
        have hS : setF x (setN6 n) f = (x.1, putN 6 0 x.2.1 f.2.2.1.toNat (n : Int), x.2.2.1, x.2.2.2.1, x.2.2.2.2.1, x.2.2.2.2.2) := by
          unfold setF; rw [if_pos e1, setN6_at _ (by omega)]
        have hW : wrongB (setN6 n) f = 0 := by
          unfold wrongB
          rw [if_neg (by omega), if_neg (by omega), if_neg (by omega), if_neg (by omega)]
          have hnb : ¬ numBad (setN6 n) f := by unfold numBad; rw [setN6_at _ (by omega)]; omega
          rw [if_neg hnb]
        refine .inl ⟨setN6 n, rest, hW, by rw [hE]; exact hd, by rw [hE]; omega, ?_, ?_⟩
        · exact rfield_ok hb x ⟨⟨by assumption, by assumption, .inr (.inr (.inr (.inr ⟨by omega, by omega, k3, k4, k5, k6⟩)))⟩, fun _ => h0⟩ hW (by rw [hE]; exact hd)
        · rw [hE, hS]
          refine ⟨_, hrg, ?_⟩
          rw [if_neg (by simp), if_pos (by simpa using e1), hw, if_neg (by simpa using hbig)]
          simp only
          rw [wn, decide_eq_false hsm]
          unfold ref18_field_j1
          rw [if_neg (by decide)]
          refine ⟨k3, k4, ?_⟩
          simp only
          rw [wn]; rfl
  · have he0 : e ≠ 0 := by omega
    refine .inr ⟨e, 0, (at_ : Int), e, (x.1, putN 6 0 x.2.1 f.2.2.1.toNat (IntKind.i64.wrap 0), x.2.2.1, x.2.2.2.1, x.2.2.2.2.1, x.2.2.2.2.2), ofM x, (at_ : Int), he0, rerrL, ?_, ?_⟩
    · unfold body_reader_field
      rw [if_pos (by simpa using e1)]
      exact ⟨_, lnum_err hat he0 hg, k3, k4, k3, k4, ((), 0), rnoteL he0, rfl⟩
    · refine ⟨_, hr b at_ hb hat rfl, ?_⟩
      rw [if_pos (by simpa using he0)]
theorem fld_two (hb : b.length < 1073741824) (hby : Byt b) (hat : at_ ≤ b.length) (hf : fdZ f) (e2 : f.2.1 = 2) : FieldSame b at_ x f := by
  obtain ⟨⟨⟨_, _, hk⟩, h0⟩, hlm, _, _⟩ := hf
  obtain ⟨m1, m2⟩ := hlm e2
  obtain ⟨_, _, k3, k4, k5, k6⟩ := hk.resolve_left (by omega) |>.resolve_left (by omega) |>.resolve_left (by omega) |>.resolve_left (by omega)
  rcases get_any (b.drop at_) (fun x hx => hby x (List.mem_of_mem_drop hx)) with ⟨n, rest, hn, hd, hg, hr⟩ | ⟨e, he, hg, hr⟩
  · have hrg := hr b at_ hb hat rfl
    have hl := (after_len hd).1
    have h1 := lsgn_get (least := f.2.2.2.1) (most := f.2.2.2.2.1) hb hn hd hg
    have hfar := far_ok (zagV n)
    by_cases hbig : zagV n < -1000000 ∨ 1000000 < zagV n
    · rw [if_pos (by rw [m1, m2]; exact hbig)] at h1
      rw [decide_eq_true hbig] at hfar
      refine .inr ⟨5, 0, (at_ : Int), 5, (x.1, putN 6 0 x.2.1 f.2.2.1.toNat 0, x.2.2.1, x.2.2.2.1, x.2.2.2.2.1, x.2.2.2.2.2), ofM x, (at_ : Int), by decide, rerrL, ?_, ?_⟩
      · unfold body_reader_field
        rw [if_neg (by simp; omega), if_pos (by simpa using e2)]
        exact ⟨_, h1, k3, k4, rfl⟩
      · refine ⟨_, hrg, ?_⟩
        rw [if_neg (by simp), if_neg (by simp; omega), if_pos (by simpa using e2)]
        exact ⟨_, rzag_any hn, true, hfar, by rw [if_pos rfl]⟩
    · rw [if_neg (by rw [m1, m2]; exact hbig)] at h1
      rw [decide_eq_false hbig] at hfar
      have hE : partE (setN6 (zagV n)) f = vB n := by
        unfold partE; rw [if_neg (by omega), if_pos e2, setN6_at _ (by omega), zig_zag]
      have hS : setF x (setN6 (zagV n)) f = (x.1, putN 6 0 x.2.1 f.2.2.1.toNat (zagV n), x.2.2.1, x.2.2.2.1, x.2.2.2.2.1, x.2.2.2.2.2) := by
        unfold setF; rw [if_neg (by omega), if_pos e2, setN6_at _ (by omega)]
      have hW : wrongB (setN6 (zagV n)) f = 0 := by
        unfold wrongB
        rw [if_neg (by omega), if_neg (by omega), if_neg (by omega), if_neg (by omega)]
        have hnb : ¬ numBad (setN6 (zagV n)) f := by unfold numBad; rw [setN6_at _ (by omega)]; omega
        rw [if_neg hnb]
      refine .inl ⟨setN6 (zagV n), rest, hW, by rw [hE]; exact hd, by rw [hE]; omega, ?_, ?_⟩
      · exact rfield_ok hb x ⟨⟨by assumption, by assumption, .inr (.inr (.inr (.inr ⟨by omega, by omega, k3, k4, k5, k6⟩)))⟩, h0⟩ hW (by rw [hE]; exact hd)
      · rw [hE, hS]
        refine ⟨_, hrg, ?_⟩
        rw [if_neg (by simp), if_neg (by simp; omega), if_pos (by simpa using e2)]
        exact ⟨_, rzag_any hn, false, hfar, by rw [if_neg (by decide)]; exact ⟨_, rzag_any hn, k3, k4, rfl⟩⟩
  · have he0 : e ≠ 0 := by omega
    refine .inr ⟨e, 0, (at_ : Int), e, (x.1, putN 6 0 x.2.1 f.2.2.1.toNat 0, x.2.2.1, x.2.2.2.1, x.2.2.2.2.1, x.2.2.2.2.2), ofM x, (at_ : Int), he0, rerrL, ?_, ?_⟩
    · unfold body_reader_field
      rw [if_neg (by simp; omega), if_pos (by simpa using e2)]
      exact ⟨_, lsgn_err hat he0 hg, k3, k4, rfl⟩
    · refine ⟨_, hr b at_ hb hat rfl, ?_⟩
      rw [if_pos (by simpa using he0)]
theorem rlist_go (e1 : f.2.1 ≠ 1) (e2 : f.2.1 ≠ 2) {n : Nat} {a : Int} (hrg : ref01_Get b at_ ((n : Int), a, 0)) {r : Mr × Int × Int} (h : ref18_field_j2 (ofM x) f b at_ ((n : Int), a, 0) (decide (n = 0 ∧ 0 < f.2.2.2.1)) r) : ref18_field (ofM x) f b at_ r := by
  refine ⟨_, hrg, ?_⟩
  rw [if_neg (by simp), if_neg (by simpa using e1), if_neg (by simpa using e2)]
  by_cases h0 : n = 0
  · rw [if_pos (by simp [h0])]
    have e : decide (n = 0 ∧ 0 < f.2.2.2.1) = decide (0 < f.2.2.2.1) := by
      by_cases h1 : 0 < f.2.2.2.1
      · rw [decide_eq_true ⟨h0, h1⟩, decide_eq_true h1]
      · rw [decide_eq_false (fun h => h1 h.2), decide_eq_false h1]
    rw [← e]; exact h
  · rw [if_neg (by simp [h0])]
    rw [decide_eq_false (fun h => h0 h.1)] at h; exact h
theorem fld_three (hb : b.length < 1073741824) (hby : Byt b) (hat : at_ ≤ b.length) (hf : fdZ f) (e3 : f.2.1 = 3) (hx : x.2.2.1 = []) : FieldSame b at_ x f := by
  obtain ⟨⟨⟨f1, f2, hk⟩, h0⟩, _, _, _⟩ := hf
  have hlm : f.2.2.2.1 = 1 ∧ f.2.2.2.2.1 = 16 := by
    rcases hk with ⟨_, h1, h2⟩ | ⟨h, _⟩ | ⟨h, _⟩ | ⟨h, _⟩ | ⟨_, h, _⟩
    · exact ⟨h1, h2⟩
    all_goals omega
  obtain ⟨m1, m2⟩ := hlm
  have enter : ∀ {r : Mg × (Unit × Int) × (List Int × Int × Int)} {q : List (Int × Int) × (Unit × Int) × (List Int × Int × Int)}, body_reader_points ((), 0) (b, (at_ : Int), 0) q → body_reader_field ((), 0) (b, (at_ : Int), 0) x f (((), q.2.1.2), q.2.2, (x.1, x.2.1, q.1, x.2.2.2.1, x.2.2.2.2.1, x.2.2.2.2.2)) := by
    intro r q h
    unfold body_reader_field
    rw [if_neg (by simp; omega), if_neg (by simp; omega), if_pos (by simpa using e3)]
    exact ⟨q, h, rfl⟩
  have enter := fun {q} => @enter ((0, [], [], [], bstr [], bstr []), ((), 0), ([], 0, 0)) q
  have wm : IntKind.u64.wrap f.2.2.2.2.1 = 16 := by rw [m2]; decide
  rcases get_any (b.drop at_) (fun x hx => hby x (List.mem_of_mem_drop hx)) with ⟨n, rest, hn, hd, hg, hr⟩ | ⟨e, he, hg, hr⟩
  · have hrg := hr b at_ hb hat rfl
    obtain ⟨hl, hd'⟩ := after_len hd
    have hc := cnt_get (m := 16) (by decide) hb hn hd hg
    have stop : ∀ {s : Int} {L : List Int × Int × Int}, Loops (body_reader_points_l2 (0, ((), s), L)) ([], 0, L.1, L.2.1, L.2.2, 0, 0) ([], s, L.1, L.2.1, L.2.2) := by
      intro s L
      refine .done ?_
      unfold body_reader_points_l2
      rw [if_neg (by simp)]
    by_cases h0 : n = 0
    · rw [if_pos h0] at hc
      refine .inr ⟨13, 13, ((at_ + (vB n).length : Nat) : Int), 0, (x.1, x.2.1, [], x.2.2.2.1, x.2.2.2.2.1, x.2.2.2.2.2), ofM x, (at_ : Int), by decide, rerrN (by decide), enter (q := ([], ((), 13), (b, ((at_ + (vB n).length : Nat) : Int), 0))) ⟨_, hc, _, stop, rfl⟩, rlist_go (by omega) (by omega) hrg ?_⟩
      rw [decide_eq_true ⟨h0, by omega⟩]
      unfold ref18_field_j2
      rw [if_pos rfl]
    · rw [if_neg h0] at hc
      by_cases h6 : 16 < n
      · rw [if_pos h6] at hc
        refine .inr ⟨6, 6, ((at_ + (vB n).length : Nat) : Int), 0, (x.1, x.2.1, [], x.2.2.2.1, x.2.2.2.2.1, x.2.2.2.2.2), ofM x, (at_ : Int), by decide, rerrN (by decide), enter (q := ([], ((), 6), (b, ((at_ + (vB n).length : Nat) : Int), 0))) ⟨_, hc, _, stop, rfl⟩, rlist_go (by omega) (by omega) hrg ?_⟩
        rw [decide_eq_false (fun h => h0 h.1)]
        unfold ref18_field_j2
        rw [if_neg (by decide), wm, if_pos (by simp; omega)]
      · rw [if_neg h6] at hc
        have wn : IntKind.i64.wrap (n : Int) = (n : Int) := w_small (by omega) (by omega)
        have rgo : ∀ {r : Mr × Int × Int}, ref18_path (ofM x) (n : Int) b ((at_ + (vB n).length : Nat) : Int) r → ref18_field (ofM x) f b at_ r := by
          intro r h
          refine rlist_go (by omega) (by omega) hrg ?_
          rw [decide_eq_false (fun h => h0 h.1)]
          unfold ref18_field_j2
          rw [if_neg (by decide), wm, if_neg (by simp; omega), if_pos (by simpa using e3)]
          simp only
          rw [wn]
          exact ⟨r, h, rfl⟩
        have hxe : (ofM x).2.2.1 = [] := by show x.2.2.1.map ofP = []; rw [hx]; rfl
        rcases pts_any hb hby (x := ofM x) (n := n) (by omega) (c := ((), 0)) (L := (b, ((at_ + (vB n).length : Nat) : Int), 0)) rfl n [] (0, 0) (at_ + (vB n).length) (by simp) ⟨by decide, by decide, by decide, by decide⟩ (by omega) with ⟨l, rest2, i1, i2, i3, i4, i5, i6⟩ | ⟨e, a2, l, m, t, he, i1, i2⟩
        · have hE : partE (0, [], l, [], bstr [], bstr []) f = vB n ++ ptsE (0, 0) l := by
            unfold partE; rw [if_neg (by omega), if_neg (by omega), if_pos e3, i1]
          have hS : setF x (0, [], l, [], bstr [], bstr []) f = (x.1, x.2.1, l, x.2.2.2.1, x.2.2.2.2.1, x.2.2.2.2.2) := by unfold setF; rw [if_neg (by omega), if_neg (by omega), if_pos e3]
          have hW : wrongB (0, [], l, [], bstr [], bstr []) f = 0 := by
            unfold wrongB; rw [if_pos e3, m1, m2]
            show pathB l 1 16 = 0
            exact pathB_of (by omega) (by omega) i2
          have hlen : at_ + (partE (0, [], l, [], bstr [], bstr []) f).length = at_ + (vB n).length + (ptsE (0, 0) l).length := by rw [hE, List.length_append]; omega
          refine .inl ⟨(0, [], l, [], bstr [], bstr []), rest2, hW, by rw [hE, hd, List.append_assoc]; congr 1; rw [← hd', i3], by omega, ?_, ?_⟩
          · rw [hlen, hS]
            exact enter (q := (l, ((), 0), (b, ((at_ + (vB n).length + (ptsE (0, 0) l).length : Nat) : Int), 0))) ⟨_, hc, _, i5, rfl⟩
          · rw [hlen, hS]
            refine rgo ⟨.inl (((at_ + (vB n).length + (ptsE (0, 0) l).length : Nat) : Int), l.map ofP), ?_, rfl⟩
            rw [hxe]; exact i6
        · refine .inr ⟨e, 0, a2, e, _, m, t, he, rerrL, enter (q := (l, ((), 0), (b, a2, e))) ⟨_, hc, _, i1, rfl⟩, rgo ⟨.inr (m, t, e), ?_, rfl⟩⟩
          rw [hxe]; exact i2
  · have he0 : e ≠ 0 := by omega
    have hrg := hr b at_ hb hat rfl
    refine .inr ⟨e, 0, (at_ : Int), e, (x.1, x.2.1, [], x.2.2.2.1, x.2.2.2.2.1, x.2.2.2.2.2), ofM x, (at_ : Int), he0, rerrL, enter (q := ([], ((), 0), (b, (at_ : Int), e))) ⟨_, cnt_err hat he0 hg, ([], 0, b, (at_ : Int), e), .done ?_, rfl⟩, ⟨_, hrg, ?_⟩⟩
    · unfold body_reader_points_l2
      rw [if_neg (by simp)]
    · rw [if_pos (by simpa using he0)]
theorem fld_four (hb : b.length < 1073741824) (hby : Byt b) (hat : at_ ≤ b.length) (hf : fdZ f) (e4 : f.2.1 = 4) (hx : x.2.2.2.1 = []) : FieldSame b at_ x f := by
  obtain ⟨⟨⟨f1, f2, hk⟩, h0⟩, _, _, _⟩ := hf
  have hlm : f.2.2.2.1 = 1 ∧ f.2.2.2.2.1 = 32 := by
    rcases hk with ⟨h, _⟩ | ⟨_, h1, h2⟩ | ⟨h, _⟩ | ⟨h, _⟩ | ⟨_, h, _⟩
    · omega
    · exact ⟨h1, h2⟩
    all_goals omega
  obtain ⟨m1, m2⟩ := hlm
  have enter : ∀ {q : List Int × (Unit × Int) × (List Int × Int × Int)}, body_reader_cells ((), 0) (b, (at_ : Int), 0) q → body_reader_field ((), 0) (b, (at_ : Int), 0) x f (((), q.2.1.2), q.2.2, (x.1, x.2.1, x.2.2.1, q.1, x.2.2.2.2.1, x.2.2.2.2.2)) := by
    intro q h
    unfold body_reader_field
    rw [if_neg (by simp; omega), if_neg (by simp; omega), if_neg (by simp; omega), if_pos (by simpa using e4)]
    exact ⟨q, h, rfl⟩
  have wm : IntKind.u64.wrap f.2.2.2.2.1 = 32 := by rw [m2]; decide
  rcases get_any (b.drop at_) (fun x hx => hby x (List.mem_of_mem_drop hx)) with ⟨n, rest, hn, hd, hg, hr⟩ | ⟨e, he, hg, hr⟩
  · have hrg := hr b at_ hb hat rfl
    obtain ⟨hl, hd'⟩ := after_len hd
    have hc := cnt_get (m := 32) (by decide) hb hn hd hg
    have stop : ∀ {s : Int} {L : List Int × Int × Int}, Loops (body_reader_cells_l2 (0, ((), s), L)) ([], (-1), 0, s, L.1, L.2.1, L.2.2) ([], s, L.1, L.2.1, L.2.2) := by
      intro s L
      refine .done ?_
      unfold body_reader_cells_l2
      rw [if_neg (by simp)]
    by_cases h0 : n = 0
    · rw [if_pos h0] at hc
      refine .inr ⟨13, 13, ((at_ + (vB n).length : Nat) : Int), 0, (x.1, x.2.1, x.2.2.1, [], x.2.2.2.2.1, x.2.2.2.2.2), ofM x, (at_ : Int), by decide, rerrN (by decide), enter (q := ([], ((), 13), (b, ((at_ + (vB n).length : Nat) : Int), 0))) ⟨_, hc, _, stop, rfl⟩, rlist_go (by omega) (by omega) hrg ?_⟩
      rw [decide_eq_true ⟨h0, by omega⟩]
      unfold ref18_field_j2
      rw [if_pos rfl]
    · rw [if_neg h0] at hc
      by_cases h6 : 32 < n
      · rw [if_pos h6] at hc
        refine .inr ⟨6, 6, ((at_ + (vB n).length : Nat) : Int), 0, (x.1, x.2.1, x.2.2.1, [], x.2.2.2.2.1, x.2.2.2.2.2), ofM x, (at_ : Int), by decide, rerrN (by decide), enter (q := ([], ((), 6), (b, ((at_ + (vB n).length : Nat) : Int), 0))) ⟨_, hc, _, stop, rfl⟩, rlist_go (by omega) (by omega) hrg ?_⟩
        rw [decide_eq_false (fun h => h0 h.1)]
        unfold ref18_field_j2
        rw [if_neg (by decide), wm, if_pos (by simp; omega)]
      · rw [if_neg h6] at hc
        have wn : IntKind.i64.wrap (n : Int) = (n : Int) := w_small (by omega) (by omega)
        have rgo : ∀ {r : Mr × Int × Int}, ref18_cells (ofM x) (n : Int) b ((at_ + (vB n).length : Nat) : Int) r → ref18_field (ofM x) f b at_ r := by
          intro r h
          refine rlist_go (by omega) (by omega) hrg ?_
          rw [decide_eq_false (fun h => h0 h.1)]
          unfold ref18_field_j2
          rw [if_neg (by decide), wm, if_neg (by simp; omega), if_neg (by simp; omega), if_pos (by simpa using e4)]
          simp only
          rw [wn]
          exact ⟨r, h, rfl⟩
        have hxe : (ofM x).2.2.2.1 = [] := hx
        rcases cls_any hb hby (x := ofM x) (n := n) (by omega) (c := ((), 0)) (L := (b, ((at_ + (vB n).length : Nat) : Int), 0)) n [] (-1) (at_ + (vB n).length) (by simp) ⟨by decide, by decide⟩ (by omega) with ⟨l, rest2, i1, i2, i3, i4, i5, i6⟩ | ⟨e, f', a2, e2, l, m, t, he, i0, i1, i2⟩
        · have hE : partE (0, [], [], l, bstr [], bstr []) f = vB n ++ clsE (-1) l := by
            unfold partE; rw [if_neg (by omega), if_neg (by omega), if_neg (by omega), if_pos e4, i1]
          have hS : setF x (0, [], [], l, bstr [], bstr []) f = (x.1, x.2.1, x.2.2.1, l, x.2.2.2.2.1, x.2.2.2.2.2) := by unfold setF; rw [if_neg (by omega), if_neg (by omega), if_neg (by omega), if_pos e4]
          have hW : wrongB (0, [], [], l, bstr [], bstr []) f = 0 := by
            unfold wrongB; rw [if_neg (by omega), if_pos e4, m1, m2]
            show cellsB l 1 32 = 0
            exact cellsB_of (by omega) (by omega) i2
          have hlen : at_ + (partE (0, [], [], l, bstr [], bstr []) f).length = at_ + (vB n).length + (clsE (-1) l).length := by rw [hE, List.length_append]; omega
          refine .inl ⟨(0, [], [], l, bstr [], bstr []), rest2, hW, by rw [hE, hd, List.append_assoc]; congr 1; rw [← hd', i3], by omega, ?_, ?_⟩
          · rw [hlen, hS]
            exact enter (q := (l, ((), 0), (b, ((at_ + (vB n).length + (clsE (-1) l).length : Nat) : Int), 0))) ⟨_, hc, _, i5, rfl⟩
          · rw [hlen, hS]
            refine rgo ⟨.inl (((at_ + (vB n).length + (clsE (-1) l).length : Nat) : Int), l), ?_, rfl⟩
            rw [hxe]; exact i6
        · refine .inr ⟨e, f', a2, e2, _, m, t, he, i0, enter (q := (l, ((), f'), (b, a2, e2))) ⟨_, hc, _, i1, rfl⟩, rgo ⟨.inr (m, t, e), ?_, rfl⟩⟩
          rw [hxe]; exact i2
  · have he0 : e ≠ 0 := by omega
    have hrg := hr b at_ hb hat rfl
    refine .inr ⟨e, 0, (at_ : Int), e, (x.1, x.2.1, x.2.2.1, [], x.2.2.2.2.1, x.2.2.2.2.2), ofM x, (at_ : Int), he0, rerrL, enter (q := ([], ((), 0), (b, (at_ : Int), e))) ⟨_, cnt_err hat he0 hg, ([], 0, b, (at_ : Int), e), .done ?_, rfl⟩, ⟨_, hrg, ?_⟩⟩
    · unfold body_reader_cells_l2
      rw [if_neg (by simp)]
    · rw [if_pos (by simpa using he0)]
theorem txt_any (hb : b.length < 1073741824) (hby : Byt b) (hat : at_ ≤ b.length) (e5 : f.2.1 = 5 ∨ f.2.1 = 6) (m1 : f.2.2.2.1 = 0) (m2 : f.2.2.2.2.1 = 64 ∨ f.2.2.2.2.1 = 16) :
    (∃ (s : ByteArray) (rest : List Int), (s.size : Int) ≤ f.2.2.2.2.1 ∧ (∀ c ∈ bints s, 32 ≤ c ∧ c ≤ 126) ∧ b.drop at_ = txtE s ++ rest ∧ at_ + (txtE s).length ≤ b.length ∧
      body_reader_text ((), 0) (b, (at_ : Int), 0) f.2.2.2.2.1 (s, ((), 0), (b, ((at_ + (txtE s).length : Nat) : Int), 0)) ∧
      ∀ r, r = ((x.1, x.2.1, x.2.2.1.map ofP, x.2.2.2.1, if f.2.1 = 5 then s else x.2.2.2.2.1, if f.2.1 = 5 then x.2.2.2.2.2 else s), ((at_ + (txtE s).length : Nat) : Int), (0 : Int)) → ref18_field (ofM x) f b at_ r) ∨
    (∃ (e f' a2 e2 : Int) (s : ByteArray) (m2 : Mr) (t : Int), e ≠ 0 ∧ body_reader_err ((), f') (b, a2, e2) e ∧ body_reader_text ((), 0) (b, (at_ : Int), 0) f.2.2.2.2.1 (s, ((), f'), (b, a2, e2)) ∧ ref18_field (ofM x) f b at_ (m2, t, e)) := by
  have wm : IntKind.u64.wrap f.2.2.2.2.1 = f.2.2.2.2.1 := w64_small (by omega) (by omega)
  rcases get_any (b.drop at_) (fun x hx => hby x (List.mem_of_mem_drop hx)) with ⟨n, rest, hn, hd, hg, hr⟩ | ⟨e, he, hg, hr⟩
  · have hrg := hr b at_ hb hat rfl
    obtain ⟨hl, hd'⟩ := after_len hd
    have hbl : b.length = at_ + (vB n).length + rest.length := by
      have := congrArg List.length hd
      rw [List.length_drop, List.length_append] at this; omega
    have go : ∀ {r : Mr × Int × Int}, ref18_field_j2 (ofM x) f b at_ ((n : Int), ((at_ + (vB n).length : Nat) : Int), 0) false r → ref18_field (ofM x) f b at_ r := fun h => rlist_go (by omega) (by omega) hrg (by rw [decide_eq_false (by omega)]; exact h)
    by_cases hbad : f.2.2.2.2.1 < (n : Int) ∨ rest.length < n
    · have h1 := lfld_bad hb hn hd (by omega) (by omega) hg hbad
      refine .inr ⟨if f.2.2.2.2.1 < (n : Int) then 6 else 4, 0, (at_ : Int), if f.2.2.2.2.1 < (n : Int) then 6 else 4, bstr [], ofM x, (at_ : Int), by split <;> decide, rerrL, ⟨_, h1, 0, .done ?_, rfl⟩, go ?_⟩
      · unfold body_reader_text_l2
        rw [if_neg (by simp)]
      · unfold ref18_field_j2
        rw [if_neg (by decide), wm]
        by_cases h6 : f.2.2.2.2.1 < (n : Int)
        · rw [if_pos (by simpa using h6), if_pos h6]
        · have wn : IntKind.i64.wrap (n : Int) = (n : Int) := w_small (by omega) (by omega)
          have wl : IntKind.i64.wrap ((b.length : Int) - ((at_ + (vB n).length : Nat) : Int)) = (rest.length : Int) := by rw [w_small (by omega) (by omega)]; omega
          rw [if_neg (by simpa using h6), if_neg (by simp; omega), if_neg (by simp; omega), if_neg h6]
          simp only
          rw [wl, wn, if_pos (by simp only [decide_eq_true_eq]; omega)]
          trivial
    · have wn : IntKind.i64.wrap (n : Int) = (n : Int) := w_small (by omega) (by omega)
      have wl : IntKind.i64.wrap ((b.length : Int) - ((at_ + (vB n).length : Nat) : Int)) = (rest.length : Int) := by rw [w_small (by omega) (by omega)]; omega
      have we : IntKind.i64.wrap (((at_ + (vB n).length : Nat) : Int) + (n : Int)) = ((at_ + (vB n).length + n : Nat) : Int) := by rw [w_small (by omega) (by omega)]; omega
      have hpl : (rest.take n).length = n := by rw [List.length_take]; omega
      have hpb : Byt (rest.take n) := fun c hc => hby c (List.mem_of_mem_drop (by rw [hd]; exact List.mem_append_right _ (List.mem_of_mem_take hc)))
      have hcut : (b.drop ((at_ + (vB n).length : Nat) : Int).toNat).take ((((at_ + (vB n).length + n : Nat) : Int) : Int) - ((at_ + (vB n).length : Nat) : Int)).toNat = rest.take n := by
        rw [Int.toNat_natCast, hd']
        congr 1; omega
      have hfld : lens_Lens_Field (b, (at_ : Int), 0) f.2.2.2.2.1 (rest.take n, (b, ((at_ + (vB n).length + n : Nat) : Int), 0)) := by
        have := lfield_ok (p := rest.take n) (rest := rest.drop n) (at_ := at_) (most := f.2.2.2.2.1) hb (by rw [hpl, List.take_append_drop]; exact hd) (by rw [hpl]; omega) (by omega)
        rw [hpl] at this
        exact this
      have hrun := txt_run (b := b) (p := rest.take n) (by omega) (a := ((at_ + (vB n).length + n : Nat) : Int))
      have hsz : (bstr (rest.take n)).size = n := by rw [size_bstr]; exact hpl
      have hbb := bbyt hpb
      -- the document's look at each byte
      have rrun : Loops (ref18_field_l5 (ofM x) b at_ ((n : Int), ((at_ + (vB n).length : Nat) : Int), 0)) 0 (if gdB (rest.take n) then .inl () else .inr (ofM x, (at_ : Int), 19)) := by
        have hstep : ∀ k, k < n → ∃ c, idx (rest.take n) (k : Int) c ∧ (32 ≤ c ∧ c ≤ 126 → ref18_field_l5 (ofM x) b at_ ((n : Int), ((at_ + (vB n).length : Nat) : Int), 0) (k : Int) (.inl ((k + 1 : Nat) : Int))) ∧ (¬ (32 ≤ c ∧ c ≤ 126) → ref18_field_l5 (ofM x) b at_ ((n : Int), ((at_ + (vB n).length : Nat) : Int), 0) (k : Int) (.inr (.inr (ofM x, (at_ : Int), 19)))) := by
          intro k hk
          have hk' : k < (rest.take n).length := by omega
          have hx := idx_of hk'
          refine ⟨_, hx, fun hc => ?_, fun hc => ?_⟩
          · unfold ref18_field_l5
            simp only
            rw [wn, we, hcut, hsz, if_pos (by simpa using hk), hbb]
            refine ⟨_, hx, ?_⟩
            rw [if_neg (by simp only [decide_eq_true_eq]; omega)]
            refine ⟨_, hx, ?_⟩
            unfold ref18_field_j6
            rw [if_neg (by simp only [decide_eq_true_eq]; omega), w_small (by omega) (by omega)]
            simp
          · unfold ref18_field_l5
            simp only
            rw [wn, we, hcut, hsz, if_pos (by simpa using hk), hbb]
            refine ⟨_, hx, ?_⟩
            have j : ref18_field_j6 (ofM x) (at_ : Int) (k : Int) true (.inr (.inr (ofM x, (at_ : Int), 19))) := by
              unfold ref18_field_j6
              rw [if_pos rfl]
            by_cases h1 : (rest.take n)[k] < 32
            · rw [if_pos (by simpa using h1)]; exact j
            · rw [if_neg (by simpa using h1)]
              refine ⟨_, hx, ?_⟩
              rw [decide_eq_true (by omega)]; exact j
        have key : ∀ m k, k + m = n → gdB ((rest.take n).take k) = true → Loops (ref18_field_l5 (ofM x) b at_ ((n : Int), ((at_ + (vB n).length : Nat) : Int), 0)) (k : Int) (if gdB (rest.take n) then .inl () else .inr (ofM x, (at_ : Int), 19)) := by
          intro m
          induction m with
          | zero =>
            intro k hk hg
            have : k = n := by omega
            subst this
            have e : (rest.take k).take k = rest.take k := by rw [List.take_take]; simp
            rw [e] at hg
            rw [hg, if_pos rfl]
            refine .done ?_
            unfold ref18_field_l5
            simp only
            rw [wn, we, hcut, hsz, if_neg (by simp)]
            trivial
          | succ m ih =>
            intro k hk hg
            obtain ⟨c, hx, h1, h2⟩ := hstep k (by omega)
            have hk' : k < (rest.take n).length := by omega
            have hce : (rest.take n)[k] = c := by
              have := hx.2
              rw [Int.toNat_natCast, List.getElem?_eq_getElem hk'] at this
              exact Option.some.inj this
            have hsn : gdB ((rest.take n).take (k + 1)) = (gdB ((rest.take n).take k) && decide (32 ≤ c ∧ c ≤ 126)) := by
              unfold gdB; rw [List.take_succ_eq_append_getElem hk', List.all_append, hce]; simp
            by_cases hc : 32 ≤ c ∧ c ≤ 126
            · exact .next (h1 hc) (ih (k + 1) (by omega) (by rw [hsn, hg, decide_eq_true hc]; rfl))
            · have hf : gdB (rest.take n) = false := by
                unfold gdB
                rw [List.all_eq_false]
                exact ⟨c, by rw [← hce]; exact List.getElem_mem hk', by simpa using hc⟩
              rw [hf, if_neg (by decide)]
              exact .done (h2 hc)
        exact key n 0 (by omega) (by simp [gdB])
      have rgo : ∀ {r : Mr × Int × Int}, Aft (fun p62 => ref18_field_j3 (ofM x) f b ((n : Int), ((at_ + (vB n).length : Nat) : Int), 0) p62 r) (fun p63 => r = p63) (if gdB (rest.take n) then .inl () else .inr (ofM x, (at_ : Int), 19)) → ref18_field (ofM x) f b at_ r := by
        intro r h
        refine go ?_
        unfold ref18_field_j2
        rw [if_neg (by decide), wm, if_neg (by simp; omega), if_neg (by simp; omega), if_neg (by simp; omega)]
        simp only
        rw [wl, wn, if_neg (by simp; omega), we]
        exact ⟨by omega, by omega, by omega, _, rrun, h⟩
      cases hg : gdB (rest.take n) with
      | true =>
        have hgood := gdB_true hg
        rw [hg] at hrun rgo
        rw [if_pos rfl] at rgo
        have hT : txtE (bstr (rest.take n)) = vB n ++ rest.take n := by unfold txtE; rw [hsz, hbb]
        have hTl : at_ + (txtE (bstr (rest.take n))).length = at_ + (vB n).length + n := by rw [hT, List.length_append, hpl]; omega
        refine .inl ⟨bstr (rest.take n), rest.drop n, by rw [hsz]; omega, by rw [hbb]; exact hgood, by rw [hT, List.append_assoc, List.take_append_drop]; exact hd, by omega, ?_, ?_⟩
        · rw [hTl]
          exact ⟨_, hfld, 0, hrun, rfl⟩
        · intro r hr
          subst hr
          refine rgo ?_
          show ref18_field_j3 (ofM x) f b _ () _
          unfold ref18_field_j3
          simp only
          rw [wn, we, hcut, hTl]
          rcases e5 with e5 | e6
          · rw [if_pos (by simpa using e5), if_pos e5, if_pos e5]
            unfold ref18_field_j4
            simp only
            rw [wn, we]; rfl
          · rw [if_neg (by simp; omega), if_neg (by omega), if_neg (by omega)]
            unfold ref18_field_j4
            simp only
            rw [wn, we]; rfl
      | false =>
        rw [hg] at hrun rgo
        rw [if_neg (by decide)] at rgo
        exact .inr ⟨19, 19, ((at_ + (vB n).length + n : Nat) : Int), 0, bstr (rest.take n), ofM x, (at_ : Int), by decide, rerrN (by decide), ⟨_, hfld, 19, hrun, rfl⟩, rgo rfl⟩
  · have he0 : e ≠ 0 := by omega
    have hrg := hr b at_ hb hat rfl
    refine .inr ⟨e, 0, (at_ : Int), e, bstr [], ofM x, (at_ : Int), he0, rerrL, ⟨_, lfld_err hat he0 hg, 0, .done ?_, rfl⟩, ⟨_, hrg, ?_⟩⟩
    · unfold body_reader_text_l2
      rw [if_neg (by simp)]
    · rw [if_pos (by simpa using he0)]
theorem fld_any (hb : b.length < 1073741824) (hby : Byt b) (hat : at_ ≤ b.length) (hf : fdZ f) (hx3 : f.2.1 = 3 → x.2.2.1 = []) (hx4 : f.2.1 = 4 → x.2.2.2.1 = []) : FieldSame b at_ x f := by
  have hfz := hf
  obtain ⟨⟨⟨f1, f2, hk⟩, h0⟩, _, _, _⟩ := hf
  rcases hk with ⟨e, e1, e2⟩ | ⟨e, e1, e2⟩ | ⟨e, e1, e2⟩ | ⟨e, e1, e2⟩ | ⟨k1, k2, _⟩
  · exact fld_three hb hby hat hfz e (hx3 e)
  · exact fld_four hb hby hat hfz e (hx4 e)
  · have enter : ∀ {q : ByteArray × (Unit × Int) × (List Int × Int × Int)}, body_reader_text ((), 0) (b, (at_ : Int), 0) f.2.2.2.2.1 q → body_reader_field ((), 0) (b, (at_ : Int), 0) x f (((), q.2.1.2), q.2.2, (x.1, x.2.1, x.2.2.1, x.2.2.2.1, q.1, x.2.2.2.2.2)) := by
      intro q h
      unfold body_reader_field
      rw [if_neg (by simp; omega), if_neg (by simp; omega), if_neg (by simp; omega), if_neg (by simp; omega), if_pos (by simpa using e)]
      exact ⟨q, h, rfl⟩
    rcases txt_any (x := x) hb hby hat (.inl e) e1 (.inl e2) with ⟨s, rest, i1, i2, i3, i4, i5, i6⟩ | ⟨e', f', a2, e2', s, m2, t, he, i0, i1, i2⟩
    · have hE : partE (0, [], [], [], s, bstr []) f = txtE s := by unfold partE; rw [if_neg (by omega), if_neg (by omega), if_neg (by omega), if_neg (by omega), if_pos e]
      have hS : setF x (0, [], [], [], s, bstr []) f = (x.1, x.2.1, x.2.2.1, x.2.2.2.1, s, x.2.2.2.2.2) := by unfold setF; rw [if_neg (by omega), if_neg (by omega), if_neg (by omega), if_neg (by omega), if_pos e]
      refine .inl ⟨(0, [], [], [], s, bstr []), rest, ?_, by rw [hE]; exact i3, by rw [hE]; exact i4, ?_, ?_⟩
      · unfold wrongB; rw [if_neg (by omega), if_neg (by omega), if_pos e, e1]
        exact textB_of i1 i2
      · rw [hE, hS]; exact enter i5
      · rw [hE, hS]
        exact i6 _ (by rw [if_pos e, if_pos e]; rfl)
    · exact .inr ⟨e', f', a2, e2', _, m2, t, he, i0, enter i1, i2⟩
  · have enter : ∀ {q : ByteArray × (Unit × Int) × (List Int × Int × Int)}, body_reader_text ((), 0) (b, (at_ : Int), 0) f.2.2.2.2.1 q → body_reader_field ((), 0) (b, (at_ : Int), 0) x f (((), q.2.1.2), q.2.2, (x.1, x.2.1, x.2.2.1, x.2.2.2.1, x.2.2.2.2.1, q.1)) := by
      intro q h
      unfold body_reader_field
      rw [if_neg (by simp; omega), if_neg (by simp; omega), if_neg (by simp; omega), if_neg (by simp; omega), if_neg (by simp; omega), if_pos (by simpa using e)]
      exact ⟨q, h, rfl⟩
    rcases txt_any (x := x) hb hby hat (.inr e) e1 (.inr e2) with ⟨s, rest, i1, i2, i3, i4, i5, i6⟩ | ⟨e', f', a2, e2', s, m2, t, he, i0, i1, i2⟩
    · have hE : partE (0, [], [], [], bstr [], s) f = txtE s := by unfold partE; rw [if_neg (by omega), if_neg (by omega), if_neg (by omega), if_neg (by omega), if_neg (by omega), if_pos e]
      have hS : setF x (0, [], [], [], bstr [], s) f = (x.1, x.2.1, x.2.2.1, x.2.2.2.1, x.2.2.2.2.1, s) := by unfold setF; rw [if_neg (by omega), if_neg (by omega), if_neg (by omega), if_neg (by omega), if_neg (by omega), if_pos e]
      refine .inl ⟨(0, [], [], [], bstr [], s), rest, ?_, by rw [hE]; exact i3, by rw [hE]; exact i4, ?_, ?_⟩
      · unfold wrongB; rw [if_neg (by omega), if_neg (by omega), if_neg (by omega), if_pos e, e1]
        exact textB_of i1 i2
      · rw [hE, hS]; exact enter i5
      · rw [hE, hS]
        exact i6 _ (by rw [if_neg (by omega), if_neg (by omega)]; rfl)
    · exact .inr ⟨e', f', a2, e2', _, m2, t, he, i0, enter i1, i2⟩
  · by_cases e : f.2.1 = 1
    · exact fld_one hb hby hat hfz e
    · exact fld_two hb hby hat hfz (by omega)
end
end Go.Rel
/-! Plain laws: a body that was written is read as it was. -/
namespace Go.Rel
open Go Go.Eng Go.Pl

def tN (l : List Fd) (N : List Int) (p : Nat) : Int := if hasN l p = true then N.getD p 0 else 0
def takeB (l : List Fd) (m : Mg) : Mg :=
  (m.1, [tN l m.2.1 0, tN l m.2.1 1, tN l m.2.1 2, tN l m.2.1 3, tN l m.2.1 4, tN l m.2.1 5], if hasS l 3 = true then m.2.2.1 else [], if hasS l 4 = true then m.2.2.2.1 else [], if hasS l 5 = true then m.2.2.2.2.1 else bstr [], if hasS l 6 = true then m.2.2.2.2.2 else bstr [])
theorem tN_same {l : List Fd} {f : Fd} (h : ¬ sortN f) (N : List Int) (p : Nat) : tN (l ++ [f]) N p = tN l N p := by
  unfold tN
  rw [hasN_snoc, decide_eq_false (fun hh => h hh.1), Bool.or_false]
theorem tN_put {l : List Fd} {f : Fd} (h : sortN f) (N : List Int) (p : Nat) : tN (l ++ [f]) N p = if p = f.2.2.1.toNat then N.getD f.2.2.1.toNat 0 else tN l N p := by
  unfold tN
  rw [hasN_snoc]
  by_cases e : p = f.2.2.1.toNat
  · subst e
    rw [decide_eq_true ⟨h, rfl⟩, Bool.or_true, if_pos rfl, if_pos rfl]
  · rw [decide_eq_false (fun hh => e hh.2.symm), Bool.or_false, if_neg e]
theorem hasS_same {l : List Fd} {f : Fd} {s : Int} (h : f.2.1 ≠ s) : hasS (l ++ [f]) s = hasS l s := by rw [hasS_snoc, decide_eq_false h, Bool.or_false]
theorem hasS_put {l : List Fd} {f : Fd} {s : Int} (h : f.2.1 = s) : hasS (l ++ [f]) s = true := by rw [hasS_snoc, decide_eq_true h, Bool.or_true]
theorem take_step (l : List Fd) (m : Mg) {f : Fd} (ok : fdOk f) : setF (takeB l m) m f = takeB (l ++ [f]) m := by
  obtain ⟨_, _, hk⟩ := ok
  unfold setF
  rcases hk with ⟨e, _, _⟩ | ⟨e, _, _⟩ | ⟨e, _, _⟩ | ⟨e, _, _⟩ | ⟨k1, k2, k3, k4, _, _⟩
  · have hn : ¬ sortN f := fun h => h.1 e
    rw [if_neg (by omega), if_neg (by omega), if_pos e]
    unfold takeB
    simp only [tN_same hn, hasS_same (show f.2.1 ≠ 4 by omega), hasS_same (show f.2.1 ≠ 5 by omega), hasS_same (show f.2.1 ≠ 6 by omega), hasS_put e, if_true]
  · have hn : ¬ sortN f := fun h => h.2.1 e
    rw [if_neg (by omega), if_neg (by omega), if_neg (by omega), if_pos e]
    unfold takeB
    simp only [tN_same hn, hasS_same (show f.2.1 ≠ 3 by omega), hasS_same (show f.2.1 ≠ 5 by omega), hasS_same (show f.2.1 ≠ 6 by omega), hasS_put e, if_true]
  · have hn : ¬ sortN f := fun h => h.2.2.1 e
    rw [if_neg (by omega), if_neg (by omega), if_neg (by omega), if_neg (by omega), if_pos e]
    unfold takeB
    simp only [tN_same hn, hasS_same (show f.2.1 ≠ 3 by omega), hasS_same (show f.2.1 ≠ 4 by omega), hasS_same (show f.2.1 ≠ 6 by omega), hasS_put e, if_true]
  · have hn : ¬ sortN f := fun h => h.2.2.2 e
    rw [if_neg (by omega), if_neg (by omega), if_neg (by omega), if_neg (by omega), if_neg (by omega), if_pos e]
    unfold takeB
    simp only [tN_same hn, hasS_same (show f.2.1 ≠ 3 by omega), hasS_same (show f.2.1 ≠ 4 by omega), hasS_same (show f.2.1 ≠ 5 by omega), hasS_put e, if_true]
  · have hn : sortN f := ⟨by omega, by omega, by omega, by omega⟩
    have hput : putN 6 0 (takeB l m).2.1 f.2.2.1.toNat (m.2.1.getD f.2.2.1.toNat 0) = (takeB (l ++ [f]) m).2.1 := by
      show [_, _, _, _, _, _] = [_, _, _, _, _, _]
      simp only [takeB, tN_put hn]
      rfl
    have hrest : (takeB (l ++ [f]) m).2.2 = (takeB l m).2.2 := by
      simp only [takeB, hasS_same (show f.2.1 ≠ 3 by omega), hasS_same (show f.2.1 ≠ 4 by omega), hasS_same (show f.2.1 ≠ 5 by omega), hasS_same (show f.2.1 ≠ 6 by omega)]
    have e : takeB (l ++ [f]) m = (m.1, (takeB (l ++ [f]) m).2.1, (takeB (l ++ [f]) m).2.2) := rfl
    rw [e, ← hput, hrest]
    by_cases h1 : f.2.1 = 1
    · rw [if_pos h1]; rfl
    · rw [if_neg h1, if_pos (by omega)]; rfl
theorem take_all {m : Mg} (h : checkB m = 0) : takeB (fieldsB m.1) m = (m.1, n6 m.2.1, m.2.2) := by
  unfold checkB at h
  by_cases h1 : fieldsB m.1 = []
  · rw [if_pos h1] at h; cases h
  rw [if_neg h1] at h
  by_cases h2 : firstW m (fieldsB m.1) = 0
  · rw [if_neg (by simpa using h2)] at h
    by_cases h3 : sameB (leftB (fieldsB m.1) m) (zeroM m.1) = true
    · unfold sameB at h3
      obtain ⟨_, s2, s3⟩ := of_decide_eq_true h3
      have s2 : [zN (fieldsB m.1) m.2.1 0, zN (fieldsB m.1) m.2.1 1, zN (fieldsB m.1) m.2.1 2, zN (fieldsB m.1) m.2.1 3, zN (fieldsB m.1) m.2.1 4, zN (fieldsB m.1) m.2.1 5] = [0, 0, 0, 0, 0, 0] := s2
      simp only [List.cons.injEq, and_true] at s2
      obtain ⟨z0, z1, z2, z3, z4, z5⟩ := s2
      have ht : ∀ p, zN (fieldsB m.1) m.2.1 p = 0 → tN (fieldsB m.1) m.2.1 p = m.2.1.getD p 0 := by
        intro p hz
        unfold zN at hz
        unfold tN
        split
        · rfl
        · next hn => rw [if_neg hn] at hz; exact hz.symm
      have s3 : ((if hasS (fieldsB m.1) 3 = true then [] else m.2.2.1), (if hasS (fieldsB m.1) 4 = true then [] else m.2.2.2.1), (if hasS (fieldsB m.1) 5 = true then bstr [] else m.2.2.2.2.1), (if hasS (fieldsB m.1) 6 = true then bstr [] else m.2.2.2.2.2)) = (([] : List (Int × Int)), ([] : List Int), bstr [], bstr []) := s3
      simp only [Prod.mk.injEq] at s3
      obtain ⟨t3, t4, t5, t6⟩ := s3
      have e3 : (if hasS (fieldsB m.1) 3 = true then m.2.2.1 else []) = m.2.2.1 := by
        split
        · rfl
        · next hn => rw [if_neg hn] at t3; exact t3.symm
      have e4 : (if hasS (fieldsB m.1) 4 = true then m.2.2.2.1 else []) = m.2.2.2.1 := by
        split
        · rfl
        · next hn => rw [if_neg hn] at t4; exact t4.symm
      have e5 : (if hasS (fieldsB m.1) 5 = true then m.2.2.2.2.1 else bstr []) = m.2.2.2.2.1 := by
        split
        · rfl
        · next hn => rw [if_neg hn] at t5; exact t5.symm
      have e6 : (if hasS (fieldsB m.1) 6 = true then m.2.2.2.2.2 else bstr []) = m.2.2.2.2.2 := by
        split
        · rfl
        · next hn => rw [if_neg hn] at t6; exact t6.symm
      unfold takeB
      rw [ht 0 z0, ht 1 z1, ht 2 z2, ht 3 z3, ht 4 z4, ht 5 z5, e3, e4, e5, e6]
      rfl
    · rw [if_neg h3] at h; cases h
  · rw [if_pos (by simpa using h2)] at h; exact absurd h h2
end Go.Rel
/-! Plain laws: a body that was written is decoded. -/
namespace Go.Rel
open Go Go.Eng Go.Pl

abbrev Dst := List Int × Int × Int × Int × Int × Int × Int × Int × Int × Int × Int × List (Int × Int) × List Int × ByteArray × ByteArray
def stD (b : List Int) (at_ : Nat) (x : Mg) : Dst := (b, (at_ : Int), 0, 0, x.1, x.2.1.getD 0 0, x.2.1.getD 1 0, x.2.1.getD 2 0, x.2.1.getD 3 0, x.2.1.getD 4 0, x.2.1.getD 5 0, x.2.2.1, x.2.2.2.1, x.2.2.2.2.1, x.2.2.2.2.2)
theorem decode_run {b rest : List Int} (hb : b.length < 1073741824) {m : Mg} : ∀ (r pre : List Fd) (at_ : Nat), (∀ f ∈ r, fdR f ∧ wrongB m f = 0) → b.drop at_ = r.flatMap (partE m) ++ rest →
    RunB body_Decode_l4 r (stD b at_ (takeB pre m)) (.inl (stD b (at_ + (r.flatMap (partE m)).length) (takeB (pre ++ r) m)))
  | [], pre, at_, _, _ => by rw [List.append_nil]; exact .nil
  | f :: r, pre, at_, h, hd => by
    obtain ⟨h1, h2⟩ := h f List.mem_cons_self
    rw [List.flatMap_cons, List.append_assoc] at hd
    have hf := rfield_ok hb (takeB pre m) h1 h2 hd
    rw [take_step pre m h1.1] at hf
    have hle : b.drop (at_ + (partE m f).length) = r.flatMap (partE m) ++ rest := by rw [← List.drop_drop, hd, List.drop_left]
    have ih := decode_run hb r (pre ++ [f]) (at_ + (partE m f).length) (fun g hg => h g (List.mem_cons_of_mem _ hg)) hle
    have e : pre ++ f :: r = pre ++ [f] ++ r := by simp
    rw [List.flatMap_cons, List.length_append, ← Nat.add_assoc, e]
    refine .go ?_ ih
    exact ⟨_, hf, 0, rerr0, by rw [if_neg (by simp)]; rfl⟩
theorem since2 (k : Int) : sinceB k 2 = fieldsB k := by
  unfold sinceB
  rw [List.filter_eq_self]
  intro f hf
  have := (fields_fd k f hf).1
  simpa using this
theorem project2_ok {m : Mg} (hp : m.2.2.1.length < 1099511627776) (hc : m.2.2.2.1.length < 1099511627776) : msg_Project m 2 (m.1, n6 m.2.1, m.2.2) := by
  have hl := fields_len m.1
  refine ⟨m, mcopy_ok hp hc, fieldsB m.1, fields_ok m.1, (m.1, m.2.1.getD 0 0, m.2.1.getD 1 0, m.2.1.getD 2 0, m.2.1.getD 3 0, m.2.1.getD 4 0, m.2.1.getD 5 0, m.2.2.1, m.2.2.2.1, m.2.2.2.2.1, m.2.2.2.2.2), ?_, rfl⟩
  refine loops_count (fun k => ((k : Int), m.1, m.2.1.getD 0 0, m.2.1.getD 1 0, m.2.1.getD 2 0, m.2.1.getD 3 0, m.2.1.getD 4 0, m.2.1.getD 5 0, m.2.2.1, m.2.2.2.1, m.2.2.2.2.1, m.2.2.2.2.2)) (fieldsB m.1).length (fun k hk => ?_) ?_
  · unfold msg_Project_l2
    rw [if_pos (by simpa using hk)]
    refine ⟨_, idx_of hk, ?_⟩
    rw [if_pos (by decide)]
    unfold msg_Project_j4
    rw [if_pos rfl]
    unfold msg_Project_j3
    simp only
    rw [w_small (by omega) (by omega)]; simp
  · unfold msg_Project_l2
    rw [if_neg (by simp)]
theorem word_some {m : Mg} (h : fieldsB m.1 ≠ []) : ∃ w, field_Word m.1 w ∧ w ≠ bstr [] := by
  unfold fieldsB at h
  by_cases e1 : m.1 = 1
  · exact ⟨bstr [109, 111, 118, 101], by unfold field_Word; rw [if_pos (by simpa using e1)], by decide⟩
  rw [if_neg e1] at h
  by_cases e2 : m.1 = 2
  · exact ⟨bstr [104, 111, 108, 100], by unfold field_Word; rw [if_neg (by simpa using e1), if_pos (by simpa using e2)], by decide⟩
  rw [if_neg e2] at h
  by_cases e3 : m.1 = 3
  · exact ⟨bstr [103, 114, 97, 110, 116], by unfold field_Word; rw [if_neg (by simpa using e1), if_neg (by simpa using e2), if_pos (by simpa using e3)], by decide⟩
  rw [if_neg e3] at h
  by_cases e4 : m.1 = 4
  · exact ⟨bstr [112, 111, 115, 101], by unfold field_Word; rw [if_neg (by simpa using e1), if_neg (by simpa using e2), if_neg (by simpa using e3), if_pos (by simpa using e4)], by decide⟩
  rw [if_neg e4] at h
  by_cases e5 : m.1 = 5
  · exact ⟨bstr [102, 97, 117, 108, 116], by unfold field_Word; rw [if_neg (by simpa using e1), if_neg (by simpa using e2), if_neg (by simpa using e3), if_neg (by simpa using e4), if_pos (by simpa using e5)], by decide⟩
  rw [if_neg e5] at h
  exact absurd rfl h
theorem lend_ok {b : List Int} (_hb : b.length < 1073741824) : lens_Lens_End (b, (b.length : Int), 0) 0 := by
  refine ⟨0, rfl, ?_⟩
  rw [if_neg (by decide)]
  refine ⟨0, ⟨_, left_ok (Nat.le_refl _), by simp⟩, ?_⟩
  unfold lens_Lens_End_j1
  rw [if_pos (by decide)]
theorem decode_ok {m : Mg} (hc : checkB m = 0) (hp : m.2.2.1.length < 1099511627776) (hq : m.2.2.2.1.length < 1099511627776) (hb : (bodyE m 2).length < 1073741824) : body_Decode m.1 2 (bodyE m 2) ((m.1, n6 m.2.1, m.2.2), 0) := by
  have hne : fieldsB m.1 ≠ [] := by
    intro h0
    unfold checkB at hc
    rw [if_pos h0] at hc; cases hc
  obtain ⟨w, hw, hw2⟩ := word_some hne
  unfold body_Decode
  rw [if_pos (by decide)]
  unfold body_Decode_j1
  rw [if_neg (by decide)]
  refine ⟨w, hw, ?_⟩
  rw [if_neg (by simpa using hw2)]
  refine ⟨_, lnew_ok hb, _, rfl, ?_⟩
  have hrun := decode_run (b := bodyE m 2) (rest := []) hb (m := m) (fieldsB m.1) [] 0 (fun f hf => ⟨fields_r m.1 f hf, check_each hc f hf⟩) (by unfold bodyE; rw [since2]; simp)
  rw [List.nil_append, take_all hc] at hrun
  have hlen : 0 + ((fieldsB m.1).flatMap (partE m)).length = (bodyE m 2).length := by unfold bodyE; rw [since2]; simp
  rw [hlen] at hrun
  refine ⟨_, (), fieldAll_itr m.1 2 _ _ _ _ (run_yof (by rw [since2]; exact hrun)), ?_⟩
  show body_Decode_j2 2 _ _
  refine ⟨0, rerr0, ?_⟩
  rw [if_pos (by decide)]
  refine ⟨0, lend_ok hb, ?_⟩
  unfold body_Decode_j3
  rw [if_neg (by decide)]
  exact ⟨_, project2_ok (m := (m.1, n6 m.2.1, m.2.2)) hp hq, rfl⟩
end Go.Rel
