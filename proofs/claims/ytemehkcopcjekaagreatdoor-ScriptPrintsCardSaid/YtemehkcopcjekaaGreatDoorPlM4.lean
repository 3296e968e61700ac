import Derived.Test.YtemehkcopcjekaaGreatDoorPlM3
/-! Plain laws: scripts: any text read; any steps printed. -/
namespace Go.Rel
open Go Go.Eng Go.Pl
theorem bodyZ_eq (l : List Stp) : bodyZ l = joinN (l.map lineZ) := by unfold bodyZ joinN; rw [List.flatMap_map]
theorem textZ_eq (s : Int × Int × Int) (r : Int × Int) (l : List Stp) : textZ s r l = joinN (lineC s r :: l.map lineZ) := by
  unfold textZ
  rw [bodyZ_eq]; simp [joinN]
theorem goS_fwd : ∀ {l : List Stp} {a : Nat} {out : List Stp}, (∀ x ∈ l, StpOk x ∧ x.2.2.1.2.2.2.2.length ≤ 300) → firstZ l = 0 → ∃ xs, goS (l.map lineZ) a out = .inl (out ++ xs) ∧ xs.length = l.length ∧ ∀ k (h1 : k < xs.length) (h2 : k < l.length), StpOk xs[k] ∧ Twin xs[k] l[k]
  | [], a, out, _, _ => ⟨[], by simp [goS], rfl, fun k h => absurd h (Nat.not_lt_zero _)⟩
  | s :: l, a, out, ok, h => by
    obtain ⟨o1, o2⟩ := ok s List.mem_cons_self
    unfold firstZ at h
    by_cases hc : checkZ s = 0
    · rw [if_pos hc] at h
      obtain ⟨x, g1, g2, g3, _⟩ := parseZ_fwd o1 o2 hc
      obtain ⟨xs, k1, k2, k3⟩ := goS_fwd (a := a + 1) (out := out ++ [x]) (fun y hy => ok y (List.mem_cons_of_mem _ hy)) h
      refine ⟨x :: xs, ?_, by simp [k2], ?_⟩
      · rw [List.map_cons]
        unfold goS
        rw [g1, if_pos rfl, k1]; simp
      · intro k h1 h2
        cases k with
        | zero => exact ⟨g2, g3⟩
        | succ k => exact k3 k (by simpa using h1) (by simpa using h2)
    · rw [if_neg hc] at h; exact absurd h hc
theorem rzprint_run {l : List Stp} (ok : ∀ x ∈ l, StpOk x) (hl : l.length ≤ 1000) : ∀ (m pre : List Stp) (T : List Int), l = pre ++ m → T.length ≤ 1000 + 1000200 * pre.length → Loops (ref27_Print_l2 (l.map ofZ)) (bstr T, (pre.length : Int)) (if firstZ m = 0 then .inl (bstr (T ++ bodyZ m)) else .inr (bstr [], firstZ m))
  | [], pre, T, h, hT => by
    refine .done ?_
    unfold ref27_Print_l2
    rw [if_neg (by rw [List.length_map, h]; simp)]
    simp [firstZ, bodyZ]
  | x :: m, pre, T, h, hT => by
    have hlen : l.length = pre.length + m.length + 1 := by rw [h]; simp; omega
    have hx : idx (l.map ofZ) (pre.length : Int) (ofZ x) := idx_at rfl (by rw [h]; simp)
    have okx := ok x (by rw [h]; simp)
    unfold firstZ
    by_cases hc : checkZ x = 0
    · rw [if_pos hc]
      have hll := lineZ_len okx
      have ih := rzprint_run ok hl m (pre ++ [x]) (T ++ (lineZ x ++ [10])) (by rw [h]; simp) (by simp; omega)
      rw [show T ++ (lineZ x ++ [10]) ++ bodyZ m = T ++ bodyZ (x :: m) by simp [bodyZ]] at ih
      refine .next (s' := (bstr (T ++ (lineZ x ++ [10])), ((pre ++ [x]).length : Int))) ?_ ih
      unfold ref27_Print_l2
      rw [if_pos (by rw [decide_eq_true_eq, List.length_map]; simp only; omega)]
      refine ⟨_, hx, _, rzcheck_ok okx, ?_⟩
      rw [if_neg (np hc)]
      refine ⟨_, hx, _, rzline_ok okx, by rw [size_bstr, size_bstr]; omega, by rw [ByteArray.size_append, size_bstr, size_bstr, size_bstr, List.length_singleton]; omega, ?_⟩
      rw [← bstr_append, ← bstr_append, w_small (by omega) (by omega), List.append_assoc]; simp
    · rw [if_neg hc, if_neg hc]
      refine .done ?_
      unfold ref27_Print_l2
      rw [if_pos (by rw [decide_eq_true_eq, List.length_map]; simp only; omega)]
      refine ⟨_, hx, _, rzcheck_ok okx, ?_⟩
      rw [if_pos (nd hc)]
      exact ⟨_, hx, _, rzcheck_ok okx, rfl⟩
theorem rzprint_ok {s : Int × Int × Int} {r : Int × Int} (hC : SOk s r) {l : List Stp} (ok : ∀ x ∈ l, StpOk x) (hl : l.length ≤ 1000) : ref27_Print s r (l.map ofZ) (printZ s r l) := by
  unfold printZ
  refine ⟨_, rsnd_ok s, ?_⟩
  by_cases h1 : sndB s = 0
  · rw [if_neg (np h1), if_neg (fun e => e h1)]
    refine ⟨_, rrcv_ok r, ?_⟩
    by_cases h2 : rcvB r = 0
    · rw [if_neg (np h2), if_neg (fun e => e h2)]
      have hcl := cfrline_ok hC
      rw [if_pos ⟨h1, h2⟩] at hcl
      have hcn := lineC_len hC
      refine ⟨_, hcl, by rw [size_bstr, size_bstr, List.length_singleton]; omega, ?_⟩
      have hrun := rzprint_run ok hl l [] (lineC s r ++ [10]) rfl (by simp; omega)
      rw [← bstr_append]
      refine ⟨_, hrun, ?_⟩
      by_cases h3 : firstZ l = 0
      · rw [if_pos h3, if_neg (fun e => e h3)]; rfl
      · rw [if_neg h3, if_pos h3]; rfl
    · rw [if_pos (nd h2), if_pos h2]
      exact ⟨_, rrcv_ok r, rfl⟩
  · rw [if_pos (nd h1), if_pos h1]
    exact ⟨_, rsnd_ok s, rfl⟩
def stepsC (l : List Stp) : List Stp := (l.take 20).map cutZ
theorem zsteps_ok (a : List Stp) : law27_Steps a 20 (stepsC a) := by
  have hlen : (stepsC a).length = min 20 a.length := by simp [stepsC]
  have := loops_count (step := law27_Steps_l2 a 20) (e := stepsC a) (fun k => ((stepsC a).take k, (k : Int))) (min 20 a.length) (fun k hk => by
    have hka : k < a.length := by omega
    unfold law27_Steps_l2
    rw [if_pos (by rw [decide_eq_true_eq]; simp only; omega)]
    unfold law27_Steps_j3
    rw [if_pos (by rw [decide_eq_true_eq]; simp only; omega)]
    refine ⟨a[k], idx_of hka, _, zcut2_ok _, ?_⟩
    simp only [List.length_take, List.length_singleton]
    refine ⟨by omega, by omega, ?_⟩
    rw [w_small (by omega) (by omega), List.take_succ_eq_append_getElem (l := stepsC a) (by omega)]
    have hg : (stepsC a)[k]'(by omega) = cutZ a[k] := by simp [stepsC]
    rw [hg]; rfl) (by
    unfold law27_Steps_l2
    simp only
    have hall : (stepsC a).take (min 20 a.length) = stepsC a := List.take_of_length_le (by omega)
    rw [hall]
    by_cases h : a.length ≤ 20
    · rw [if_neg (by rw [decide_eq_true_eq]; omega)]
      unfold law27_Steps_j3
      rw [if_neg (by decide)]
    · rw [if_pos (by rw [decide_eq_true_eq]; omega)]
      unfold law27_Steps_j3
      rw [if_neg (by rw [decide_eq_true_eq]; omega)])
  exact ⟨_, by simpa using this, rfl⟩
theorem joinN_len : ∀ {L : List (List Int)} {n : Nat}, (∀ w ∈ L, w.length ≤ n) → (joinN L).length ≤ (n + 1) * L.length
  | [], n, _ => by simp [joinN]
  | w :: L, n, h => by
    have ih := joinN_len (L := L) (n := n) (fun x hx => h x (List.mem_cons_of_mem _ hx))
    have hw := h w List.mem_cons_self
    rw [show joinN (w :: L) = w ++ 10 :: joinN L by simp [joinN], List.length_append, List.length_cons, List.length_cons, Nat.mul_add]
    omega
theorem oct_joinN {L : List (List Int)} (h : ∀ w ∈ L, Oct w) : Oct (joinN L) := by
  intro x hx
  obtain ⟨w, hw, hx⟩ := List.mem_flatMap.1 hx
  rcases List.mem_append.1 hx with hx | hx
  · exact h w hw x hx
  · simp at hx; omega
end Go.Rel
/-! Plain law: scripts: the script of any steps, read again. -/
namespace Go.Rel
open Go Go.Eng Go.Pl
theorem scriptPrints_true {s : Int × Int × Int} {r : Int × Int} (hC : SOk s r) {a : List Stp} (ok : ∀ x ∈ a, StpOk (cutZ x)) : law27_ScriptPrints s r a true := by
  have okl : ∀ x ∈ stepsC a, StpOk x ∧ x.2.2.1.2.2.2.2.length ≤ 300 ∧ (lineZ x).length < 100000 := by
    intro x hx
    obtain ⟨y, hy, rfl⟩ := List.mem_map.1 hx
    have o := ok y (List.mem_of_mem_take hy)
    refine ⟨o, by simp only [cutZ, cutI, List.length_take]; omega, lineZ_small o ?_⟩
    have := ext_size y.2.1.2.2.2.2.1 80
    have := ext_size y.2.1.2.2.2.2.2 80
    simp only [cutZ, cutM, List.length_take]; omega
  have hlen : (stepsC a).length ≤ 20 := by simp [stepsC]; omega
  refine ⟨_, zsteps_ok a, ?_⟩
  generalize stepsC a = l at okl hlen
  have okx : ∀ x ∈ l, StpOk x := fun x hx => (okl x hx).1
  refine ⟨l.map ofZ, ?_, _, zprint_ok hC okx (by omega), _, rzprint_ok hC okx (by omega), ?_⟩
  · have := loops_count (step := law27_ScriptPrints_l7 l) (e := l.map ofZ) (fun k => ((l.take k).map ofZ, (k : Int))) l.length (fun k hk => by
      unfold law27_ScriptPrints_l7
      rw [if_pos (decide_eq_true (by simp only; omega))]
      have hp := (okx _ (List.getElem_mem hk)).m.lpath
      refine ⟨_, idx_of hk, _, zof_ok (by omega), ?_⟩
      simp only [List.length_map, List.length_take, List.length_singleton]
      refine ⟨by omega, by omega, ?_⟩
      rw [w_small (by omega) (by omega), List.take_succ_eq_append_getElem hk, List.map_append]; rfl) (by
      unfold law27_ScriptPrints_l7
      rw [if_neg (dn (by simp only; omega)), List.take_length])
    simpa using this
  rw [if_neg (by simp), show (!decide ((printZ s r l).2 = (printZ s r l).2)) = false by simp]
  unfold law27_ScriptPrints_j2
  rw [if_neg (by decide)]
  by_cases h1 : sndB s = 0
  · by_cases h2 : rcvB r = 0
    · by_cases h3 : firstZ l = 0
      · have hp : printZ s r l = (bstr (textZ s r l), 0) := by
          unfold printZ
          rw [if_neg (fun q => q h1), if_neg (fun q => q h2), if_neg (fun q => q h3)]
        rw [hp, if_neg (by simp)]
        obtain ⟨xs, g1, g2, g3⟩ := goS_fwd (a := 1) (out := []) (fun x hx => ⟨(okl x hx).1, (okl x hx).2.1⟩) h3
        rw [List.nil_append] at g1
        have hcl := lineC_len hC
        have hL : ∀ w ∈ lineC s r :: l.map lineZ, w.length ≤ 99999 ∧ Oct w ∧ (10 : Int) ∉ w := by
          intro w hw
          rcases List.mem_cons.1 hw with rfl | hw
          · exact ⟨by omega, lineC_byt s r, vis_no (vis_lineC s r)⟩
          · obtain ⟨x, hx, rfl⟩ := List.mem_map.1 hw
            have := (okl x hx).2.2
            exact ⟨by omega, oct_lineZ (okx x hx), vis_no (vis_lineZ (okx x hx))⟩
        have ht := joinN_len (n := 99999) (fun w hw => (hL w hw).1)
        simp only [List.length_cons, List.length_map] at ht
        have hsp := split_joinN (lineC s r :: l.map lineZ) (fun w hw => (hL w hw).2.2)
        have hcf := confB_fwd hC h1 h2
        have hrd : readL (lineC s r :: l.map lineZ) [] = (s, r, xs, 0, 0) := by
          rw [readL_cons, hcf, if_neg (fun q => q rfl), g1]
          simp
        have hz := zread_ok (l := joinN (lineC s r :: l.map lineZ)) (by omega) (oct_joinN (fun w hw => (hL w hw).2.1)) (fun u hu => by have := (hL u hu).1; omega) hsp (by simp) (by simp)
        rw [hrd, ← textZ_eq] at hz
        refine ⟨_, hz, ?_⟩
        rw [if_neg (by simp), if_neg (by simp), if_neg (by simp), if_neg (by simp)]
        unfold law27_ScriptPrints_j4
        rw [if_neg (by simp [g2])]
        refine ⟨.inl (), ?_, ?_⟩
        · refine loops_count (step := law27_ScriptPrints_l6 l (s, r, xs, 0, 0)) (fun k => (k : Int)) l.length (fun k hk => ?_) ?_
          · have hkx : k < xs.length := by omega
            obtain ⟨o1, o2⟩ := g3 k hkx hk
            unfold law27_ScriptPrints_l6
            rw [if_pos (decide_eq_true (by omega))]
            refine ⟨_, idx_of hkx, _, idx_of hk, true, zsame2_ok o1 (okx _ (List.getElem_mem hk)) o2, ?_⟩
            rw [if_neg (by decide), w_small (by omega) (by omega)]; rfl
          · unfold law27_ScriptPrints_l6
            rw [if_neg (dn (by omega))]
        · exact ⟨true, known27_ok, rfl⟩
      · have hp : printZ s r l = (bstr [], firstZ l) := by
          unfold printZ
          rw [if_neg (fun q => q h1), if_neg (fun q => q h2), if_pos h3]
        rw [hp, if_pos (nd h3)]
        refine ⟨true, known27_ok, ?_⟩
        rw [if_pos rfl]
        show true = _
        simp
    · have hp : printZ s r l = (bstr [], rcvB r) := by
        unfold printZ
        rw [if_neg (fun q => q h1), if_pos h2]
      rw [hp, if_pos (nd h2)]
      refine ⟨true, known27_ok, ?_⟩
      rw [if_pos rfl]
      show true = _
      simp
  · have hp : printZ s r l = (bstr [], sndB s) := by
      unfold printZ
      rw [if_pos h1]
    rw [hp, if_pos (nd h1)]
    refine ⟨true, known27_ok, ?_⟩
    rw [if_pos rfl]
    show true = _
    simp
theorem scriptPrints_claim {s : Int × Int × Int} {r : Int × Int} {a : List Stp} (h0 : IntOk .i64 s.1 ∧ IntOk .i64 s.2.1 ∧ IntOk .u32 s.2.2) (h1 : IntOk .u32 r.1 ∧ IntOk .i64 r.2) (h2 : ListOk StpRaw a) : law27_ScriptPrints s r a true :=
  scriptPrints_true ⟨h0.1, h0.2.1, by have := ok_u32 h0.2.2; omega, by have := ok_u32 h1.1; omega, h1.2⟩ fun x hx => stp_raw (h2.1 x hx)
end Go.Rel
