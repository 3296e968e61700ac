import Derived.Test.YtnlghjmngfgmcabDoorPlM2
/-! Plain law: whether any frames may be, and what they are on the wire. -/
namespace Go.Rel
open Go Go.Eng Go.Pl
/-! ### Bytes as strings, and back -/
theorem bints_bstr {l : List Int} (h : Byt l) : bints (bstr l) = l := by
  have key : ∀ (l : List Int) (r : ByteArray), Byt l → bints (l.foldl (fun r n => r.push (UInt8.ofNat n.toNat)) r) = bints r ++ l := by
    intro l
    induction l with
    | nil => intro r _; simp
    | cons x l ih =>
      intro r hx
      rw [List.foldl_cons, ih _ (fun y hy => hx y (List.mem_cons_of_mem _ hy))]
      have h0 := hx x List.mem_cons_self
      have : bints (r.push (UInt8.ofNat x.toNat)) = bints r ++ [x] := by
        simp only [bints, ByteArray.push, Array.toList_push, List.map_append, List.map_cons, List.map_nil]
        congr 2
        rw [UInt8.toNat_ofNat']
        omega
      rw [this, List.append_assoc]; rfl
  have := key l ByteArray.empty h
  simpa [bstr, bints] using this
theorem bstr_inj {a b : List Int} (ha : Byt a) (hb : Byt b) (h : bstr a = bstr b) : a = b := by
  rw [← bints_bstr ha, ← bints_bstr hb, h]
theorem beq_ok {a b : List Int} (ha : Byt a) (hb : Byt b) : bytes_Equal a b (decide (a = b)) := by
  show _ = _
  rw [decide_eq_decide]
  exact ⟨fun h => by rw [h], bstr_inj ha hb⟩
theorem fsame_ok (a b : Fm) (ha : Byt a.2) (hb : Byt b.2) : frame_Same a b (decide (a = b)) := by
  unfold frame_Same
  obtain ⟨⟨v, k, q, i, n⟩, x⟩ := a
  obtain ⟨⟨v', k', q', i', n'⟩, y⟩ := b
  simp only at ha hb ⊢
  by_cases h : v = v' ∧ k = k' ∧ q = q' ∧ i = i' ∧ n = n'
  · obtain ⟨rfl, rfl, rfl, rfl, rfl⟩ := h
    rw [if_pos (by simp)]
    refine ⟨_, beq_ok ha hb, ?_⟩
    show _ = _
    rw [decide_eq_decide]; simp
  · rw [if_neg (by simpa using h)]
    show _ = _
    rw [decide_eq_false_iff_not]
    intro e; cases e; exact h ⟨rfl, rfl, rfl, rfl, rfl⟩
theorem rfcheck_ok (f : Fm) : ref08_Check f (frameE f) := by
  refine ⟨_, rhcheck_ok f.1, ?_⟩
  by_cases h0 : headE f.1 = 0
  · rw [if_neg (by simpa using h0)]
    by_cases h1 : f.2.length = 0
    · have e : frameE f = 13 := by unfold frameE; rw [if_neg (by simpa using h0), if_pos h1]
      rw [e, if_pos (by simp only [decide_eq_true_eq]; omega)]
    · by_cases h2 : 242 < f.2.length
      · have e : frameE f = 2 := by unfold frameE; rw [if_neg (by simpa using h0), if_neg h1, if_pos h2]
        rw [e, if_neg (by simp only [decide_eq_true_eq]; omega), if_pos (by simp only [decide_eq_true_eq]; omega)]
      · have e : frameE f = 0 := by unfold frameE; rw [if_neg (by simpa using h0), if_neg h1, if_neg h2]
        rw [e, if_neg (by simp only [decide_eq_true_eq]; omega), if_neg (by simp only [decide_eq_true_eq]; omega)]
  · have e : frameE f = headE f.1 := by unfold frameE; rw [if_pos h0]
    rw [e, if_pos (by simpa using h0)]
    exact ⟨_, rhcheck_ok f.1, rfl⟩
/-- A frame's line. -/
def frameLn (f : Fm) : List Int := headLn f.1 ++ [32] ++ decI (f.2.length : Int)
theorem headLn_len {h : Hd} (ok : HdOk h) : (headLn h).length ≤ 200 := by
  obtain ⟨o1, o2, o3, o4, o5⟩ := ok
  have ⟨q0, q1⟩ := ok_u32 o3
  have o3i : IntOk .i64 h.2.2.1 := ⟨by show (-9223372036854775808 : Int) ≤ h.2.2.1; omega, by show h.2.2.1 ≤ 9223372036854775807; omega⟩
  have l1 := decI_len o1
  have l2 := decI_len o2
  have l3 := decI_len o3i
  have l4 := decI_len o4
  have l5 := decI_len o5
  simp only [headLn, List.length_append, List.length_cons, List.length_nil]; omega
theorem fline_ok {f : Fm} (ok : HdOk f.1) (hl : f.2.length < 1048576) : frame_Line f (bstr (frameLn f)) ∧ ref08_Line f (bstr (frameLn f)) := by
  have hh := headLn_len ok
  have ol : IntOk .i64 (f.2.length : Int) := ⟨by show (-9223372036854775808 : Int) ≤ _; omega, by show _ ≤ (9223372036854775807 : Int); omega⟩
  have l1 := decI_len ol
  have fin : ∀ a b : List Int, a.length + b.length < 1000 → (bstr a).size + (bstr b).size < 4611686018427387904 := by
    intro a b hab; rw [size_bstr, size_bstr]; omega
  constructor
  · refine ⟨_, (hline_ok ok).1, ?_, _, itoa_ok ol, ?_, ?_⟩
    all_goals (try simp only [← bstr_append])
    all_goals first | (refine fin _ _ ?_; simp only [List.length_append, List.length_cons, List.length_nil]; omega) | rfl
  · refine ⟨_, (hline_ok ok).2, ?_, _, digits_ok ol, ?_, ?_⟩
    all_goals (try simp only [← bstr_append])
    all_goals first | (refine fin _ _ ?_; simp only [List.length_append, List.length_cons, List.length_nil]; omega) | rfl
/-! ### Segments -/
theorem mem_join : ∀ (L : List (List Int)) (p : List Int) (c : Int), p ∈ L → c ∈ p → c ∈ joinB L
  | [q], p, c, hp, hc => by rw [List.mem_singleton] at hp; subst hp; exact hc
  | q :: r :: L, p, c, hp, hc => by
    rw [joinB]
    rcases List.mem_cons.1 hp with rfl | hp
    · exact List.mem_append_left _ (List.mem_append_left _ hc)
    · exact List.mem_append_right _ (mem_join (r :: L) p c hp hc)
theorem enc_mem {x : List Int} (hx : Byt x) : ∀ c ∈ encB x, c ≠ 0 ∧ 0 ≤ c ∧ c < 256 := by
  intro c hc
  obtain ⟨h1, h2, _⟩ := cb_ok (x.length + 1) x (by omega)
  simp only [encB, List.mem_flatten, List.mem_map] at hc
  obtain ⟨_, ⟨p, hp, rfl⟩, hc⟩ := hc
  obtain ⟨h3, h4⟩ := h1 p hp
  rcases List.mem_cons.1 hc with rfl | hc
  · omega
  · have := hx c (by rw [← h2]; exact mem_join _ p c hp hc)
    exact ⟨h3 c hc, this⟩
theorem block_byt {f : Fm} (h : frameE f = 0) (hq : 0 ≤ f.1.2.2.1 ∧ f.1.2.2.1 < 4294967296) (hb : Byt f.2) : Byt (blockB f) :=
  Byt.app (Byt.app (headB_byt (frameE_ok h).1 hq) hb) (sumB_byt _)
theorem unp_seg {f : Fm} (h : frameE f = 0) (hq : 0 ≤ f.1.2.2.1 ∧ f.1.2.2.1 < 4294967296) : unpB (segB f) = (f, 0) := by
  obtain ⟨h1, h2, h3⟩ := frameE_ok h
  have hl8 : (headB f.1).length = 8 := rfl
  have hs4 : ∀ w, (sumB w).length = 4 := fun w => rfl
  have hbl : (blockB f).length = f.2.length + 12 := by simp only [blockB, List.length_append, hl8, hs4]; omega
  have hd : decR (segB f) = (blockB f, 0) := by unfold decR segB; rw [dec_enc]
  have ho : openB (blockB f) = (headB f.1 ++ f.2, 0) := by
    have e : (blockB f).length - 4 = (headB f.1 ++ f.2).length := by rw [hbl, List.length_append, hl8]; omega
    unfold openB
    rw [if_neg (by omega), e]
    unfold blockB
    rw [List.take_left, List.drop_left, if_pos rfl]
  have hp : parseH (headB f.1) = (f.1, 0) := by unfold parseH; rw [hdOf_headB hq, if_pos h1]
  unfold unpB
  rw [segB_len h3, if_neg (by omega), hd, if_neg (by simp), if_neg (by simp only [hbl]; omega), ho, if_neg (by simp)]
  have e8 : (headB f.1 ++ f.2).take 8 = headB f.1 := by rw [← hl8, List.take_left]
  have d8 : (headB f.1 ++ f.2).drop 8 = f.2 := by rw [← hl8, List.drop_left]
  rw [e8, hp, if_neg (by simp), d8]
theorem segP_run : ∀ (s l now : List Int) (i : Nat), (∀ c ∈ s, c ≠ 0) → segP i now (s ++ l) = segP (i + s.length) (now ++ s) l
  | [], l, now, i, _ => by simp
  | c :: s, l, now, i, h => by
    rw [List.cons_append, segP, if_pos (h c List.mem_cons_self), segP_run s l (now ++ [c]) (i + 1) (fun x hx => h x (List.mem_cons_of_mem _ hx)), List.length_cons, List.append_assoc]
    congr 1; omega
theorem segP_wrap : ∀ (ss : List (List Int)) (i : Nat), (∀ s ∈ ss, s ≠ [] ∧ ∀ c ∈ s, c ≠ 0) → (segP i [] (wrapB ss)).map (·.2) = ss
  | [], i, _ => rfl
  | s :: ss, i, h => by
    obtain ⟨h1, h2⟩ := h s List.mem_cons_self
    have e : wrapB (s :: ss) = 0 :: (s ++ (0 :: wrapB ss)) := by simp [wrapB]
    rw [e, segP, if_neg (by simp), if_pos rfl, segP_run _ _ _ _ h2, List.nil_append, segP, if_neg (by simp), if_neg h1, List.map_cons, segP_wrap ss _ (fun x hx => h x (List.mem_cons_of_mem _ hx))]
theorem frames_wrap {l : List Fm} (h : ∀ f ∈ l, frameE f = 0 ∧ (0 ≤ f.1.2.2.1 ∧ f.1.2.2.1 < 4294967296) ∧ Byt f.2) : framesB (wrapB (l.map segB)) = l.map fun f => (f, 0) := by
  have hs : (segP 0 [] (wrapB (l.map segB))).map (·.2) = l.map segB := segP_wrap _ _ (fun s hs => by
    obtain ⟨f, hf, rfl⟩ := List.mem_map.1 hs
    obtain ⟨a, b, c⟩ := h f hf
    refine ⟨fun e => ?_, fun c hc => (enc_mem (block_byt a b ‹_›) c hc).1⟩
    have := segB_len (frameE_ok a).2.2
    rw [e] at this; simp at this)
  have : framesB (wrapB (l.map segB)) = ((segP 0 [] (wrapB (l.map segB))).map (·.2)).map unpB := by unfold framesB; rw [List.map_map]; rfl
  rw [this, hs, List.map_map]
  apply List.map_congr_left
  intro f hf
  exact unp_seg (h f hf).1 (h f hf).2.1
theorem wrap_byt {l : List Fm} (h : ∀ f ∈ l, frameE f = 0 ∧ (0 ≤ f.1.2.2.1 ∧ f.1.2.2.1 < 4294967296) ∧ Byt f.2) : Byt (wrapB (l.map segB)) := by
  intro c hc
  simp only [wrapB, List.mem_flatten, List.mem_map] at hc
  obtain ⟨_, ⟨_, ⟨f, hf, rfl⟩, rfl⟩, hc⟩ := hc
  obtain ⟨a, b, d⟩ := h f hf
  simp only [List.mem_append, List.mem_singleton] at hc
  rcases hc with (rfl | hc) | rfl
  · omega
  · exact (enc_mem (block_byt a b d) c hc).2
  · omega
theorem wrap_len : ∀ (l : List Fm), (∀ f ∈ l, frameE f = 0) → (wrapB (l.map segB)).length ≤ l.length * 257
  | [], _ => by simp [wrapB]
  | f :: l, h => by
    have ih := wrap_len l (fun g hg => h g (List.mem_cons_of_mem _ hg))
    have h3 := (frameE_ok (h f List.mem_cons_self)).2.2
    have hl := segB_len h3
    have e : wrapB ((f :: l).map segB) = [0] ++ segB f ++ [0] ++ wrapB (l.map segB) := by simp [wrapB]
    rw [e]
    simp only [List.length_append, List.length_cons, List.length_nil, hl]; omega
/-! ### The document's -/
theorem rsegment_ok {f : Fm} (h : frameE f = 0) (hq : 0 ≤ f.1.2.2.1 ∧ f.1.2.2.1 < 4294967296) (hb : Byt f.2) : ref08_Segment f (segB f) := by
  obtain ⟨h1, h2, h3⟩ := frameE_ok h
  have hby : Byt (headB f.1 ++ f.2) := Byt.app (headB_byt h1 hq) hb
  have hl8 : (headB f.1).length = 8 := rfl
  have hs4 : ∀ w, (sumB w).length = 4 := fun w => rfl
  refine ⟨_, rhbytes_ok h1 hq, by rw [hl8]; omega, by rw [hl8]; omega, by simp only [List.length_append, hl8, List.length_nil]; omega, by simp only [List.length_append, hl8, List.length_nil]; omega, _, rsum_ok hby (by rw [List.length_append, hl8]; omega), _, rbytes_ok _, by simp only [List.length_append, hl8, List.length_nil, hs4]; omega, by simp only [List.length_append, hl8, List.length_nil, hs4]; omega, _, rencode_ok (by simp only [List.length_append, hl8, List.length_nil, hs4]; omega), ?_⟩
  rw [List.nil_append]; rfl
theorem wrap_snoc (l : List (List Int)) (s : List Int) : wrapB (l ++ [s]) = wrapB l ++ [0] ++ s ++ [0] := by
  unfold wrapB; rw [List.map_append, List.flatten_append]; simp
theorem rwire_ok {l : List Fm} (hl : l.length ≤ 1000) (h : ∀ f ∈ l, frameE f = 0 ∧ (0 ≤ f.1.2.2.1 ∧ f.1.2.2.1 < 4294967296) ∧ Byt f.2) : ref08_Wire l (wrapB (l.map segB)) := by
  refine ⟨_, ?_, rfl⟩
  refine loops_count (step := ref08_Wire_l2 l) (fun k => (wrapB ((l.take k).map segB), (k : Int))) l.length (fun k hk => ?_) ?_
  · unfold ref08_Wire_l2
    simp only
    obtain ⟨a, b, c⟩ := h l[k] (List.getElem_mem _)
    have hw := wrap_len (l.take k) (fun f hf => (h f (List.mem_of_mem_take hf)).1)
    have hs := segB_len (frameE_ok a).2.2
    have h3 := (frameE_ok a).2.2
    rw [List.length_take] at hw
    rw [if_pos (by simp; omega)]
    refine ⟨by simp only [List.length_cons, List.length_nil]; omega, by simp only [List.length_cons, List.length_nil]; omega, l[k], idx_of hk, _, rsegment_ok a b c, by simp only [List.length_append, List.length_cons, List.length_nil]; omega, by simp only [List.length_append, List.length_cons, List.length_nil]; omega, by simp only [List.length_append, List.length_cons, List.length_nil]; omega, by simp only [List.length_append, List.length_cons, List.length_nil]; omega, ?_⟩
    rw [w_small (by omega) (by omega), take_map _ hk, wrap_snoc]; rfl
  · unfold ref08_Wire_l2
    simp only
    rw [if_neg (by simp), List.take_length]
/-! ### The law -/
def cutF (f : Fm) : Fm := (f.1, f.2.take 250)
theorem fcut_ok (f : Fm) : law08_Cut f (cutF f) := by
  refine ⟨by omega, by omega, ?_⟩
  have := take_min f.2 250
  rw [show ((250 : Nat) : Int) = 250 from rfl] at this
  rw [this]; rfl
/-- The first thing that is wrong with frames. -/
def wantB : List Fm → Int
  | [] => 0
  | f :: l => if frameE f = 0 then wantB l else frameE f
theorem want_snoc (l : List Fm) (f : Fm) : wantB (l ++ [f]) = if wantB l = 0 then frameE f else wantB l := by
  induction l with
  | nil => simp [wantB]; exact fun h => h.symm
  | cons g l ih =>
    simp only [List.cons_append, wantB, ih]
    by_cases h : frameE g = 0
    · simp [h]
    · simp [h]
theorem want_zero {l : List Fm} (h : wantB l = 0) : ∀ f ∈ l, frameE f = 0 := by
  induction l with
  | nil => intro f hf; cases hf
  | cons g l ih =>
    simp only [wantB] at h
    by_cases hg : frameE g = 0
    · rw [if_pos hg] at h
      intro f hf
      rcases List.mem_cons.1 hf with rfl | hf
      · exact hg
      · exact ih h f hf
    · rw [if_neg hg] at h; exact absurd h hg
theorem want_first {l : List Fm} (h : wantB l ≠ 0) : ∃ k, ∃ hk : k < l.length, wantB l = frameE l[k] ∧ frameE l[k] ≠ 0 ∧ ∀ j (hj : j < k), frameE (l[j]'(by omega)) = 0 := by
  induction l with
  | nil => exact absurd rfl h
  | cons g l ih =>
    by_cases hg : frameE g = 0
    · simp only [wantB, if_pos hg] at h ⊢
      obtain ⟨k, hk, h1, h2, h3⟩ := ih h
      refine ⟨k + 1, by simp; omega, by simpa using h1, by simpa using h2, fun j hj => ?_⟩
      cases j with
      | zero => simpa using hg
      | succ j => simpa using h3 j (by omega)
    · refine ⟨0, by simp, by simp [wantB, if_neg hg], by simpa using hg, fun j hj => by omega⟩
theorem framePacks_true {a : List Fm} (ok : ∀ f ∈ a, HdOk f.1 ∧ Byt f.2) (hal : a.length ≤ 9223372036854775807) : law08_FramePacks a true := by
  obtain ⟨t, ht1, ht2⟩ := fnew_ok
  refine ⟨t, ht1, ?_⟩
  have hL : ∃ L : List Fm, L = (a.take 10).map cutF := ⟨_, rfl⟩
  obtain ⟨L, hLe⟩ := hL
  have hLl : L.length = min 10 a.length := by rw [hLe, List.length_map, List.length_take]
  have hLok : ∀ f ∈ L, HdOk f.1 ∧ Byt f.2 ∧ f.2.length ≤ 250 := by
    intro f hf
    rw [hLe] at hf
    obtain ⟨g, hg, rfl⟩ := List.mem_map.1 hf
    obtain ⟨h1, h2⟩ := ok g (List.mem_of_mem_take hg)
    exact ⟨h1, h2.take _, by simp only [cutF, List.length_take]; omega⟩
  have hLk : ∀ k (hk : k < L.length), L[k] = cutF (a[k]'(by omega)) := by
    intro k hk
    simp only [hLe, List.getElem_map, List.getElem_take]
  refine ⟨.inl (L, wantB L, L), ?_, ?_⟩
  · refine loops_count (step := law08_FramePacks_l6 a t) (fun k => (L.take k, wantB (L.take k), (k : Int), L.take k)) L.length (fun k hk => ?_) ?_
    · unfold law08_FramePacks_l6
      simp only
      rw [if_pos (by simp; omega)]
      unfold law08_FramePacks_j7
      rw [if_pos (by simp; omega)]
      simp only
      have hka : k < a.length := by omega
      obtain ⟨o1, o2, o3⟩ := hLok L[k] (List.getElem_mem _)
      have hcut := fcut_ok a[k]
      rw [← hLk k hk] at hcut
      have htk : (L.take k).length = k := by rw [List.length_take]; omega
      have h0 : 0 < L.length := by omega
      have hsn : L.take k ++ [L[k]] = L.take (k + 1) := (List.take_succ_eq_append_getElem hk).symm
      have hid : idx (L.take k ++ [L[k]]) 0 L[0] := by
        rw [hsn]; exact idx_at (k := 0) rfl (by rw [List.getElem?_take]; simp [h0])
      obtain ⟨p1, p2, p3⟩ := hLok L[0] (List.getElem_mem _)
      have hs1 := fsame_ok L[k] L[k] o2 o2
      rw [decide_eq_true rfl] at hs1
      have hs2 := fsame_ok L[k] L[0] o2 p2
      have hs3 := rfsame_ok L[k] L[0] (by omega)
      have hw : IntKind.i64.wrap ((k : Int) + 1) = ((k + 1 : Nat) : Int) := by rw [w_small (by omega) (by omega)]; omega
      refine ⟨a[k], idx_of hka, _, hcut, by rw [htk]; simp only [List.length_cons, List.length_nil]; omega, by rw [htk]; simp only [List.length_cons, List.length_nil]; omega, _, rfl, by rw [htk]; simp only [List.length_cons, List.length_nil]; omega, by rw [htk]; simp only [List.length_cons, List.length_nil]; omega, _, rfl, _, rfcheck_ok _, _, fcheck_ok t _, true, fun _ => hs1, _, fun _ => (fline_ok o1 (by omega)).1, _, fun _ => rfl, _, fun _ => (fline_ok o1 (by omega)).2, _, fun _ => hid, _, fun _ => hs2, _, fun _ => rfl, _, fun _ => hid, _, fun _ => hs3, ?_⟩
      rw [if_neg (by simp)]
      unfold law08_FramePacks_j8
      rw [hsn, hw]
      have hws := want_snoc (L.take k) L[k]
      rw [hsn] at hws
      by_cases hz : wantB (L.take k) = 0
      · rw [if_pos (by simpa using hz)]
        rw [if_pos hz] at hws
        rw [hws]
      · rw [if_neg (by simpa using hz)]
        rw [if_neg hz] at hws
        rw [hws]
    · rw [List.take_length]
      unfold law08_FramePacks_l6 law08_FramePacks_j7
      simp only
      by_cases h : L.length < a.length
      · rw [if_pos (by simp; omega), if_neg (by simp; omega)]; trivial
      · rw [if_neg (by simp; omega), if_neg (by decide)]; trivial
  · show law08_FramePacks_j1 t (L, wantB L, L) true
    unfold law08_FramePacks_j1
    simp only
    by_cases hw : wantB L = 0
    · have hall : ∀ f ∈ L, frameE f = 0 ∧ (0 ≤ f.1.2.2.1 ∧ f.1.2.2.1 < 4294967296) ∧ Byt f.2 := fun f hf => ⟨want_zero hw f hf, ok_u32 (hLok f hf).1.2.2.1, (hLok f hf).2.1⟩
      have hwl := wrap_len L (fun f hf => (hall f hf).1)
      refine ⟨_, pack_ok ht2 (by omega) hall, ?_⟩
      rw [if_neg (by simp [hw])]
      unfold law08_FramePacks_j2
      rw [if_neg (by simp [hw])]
      simp only
      have hfr := frames_ok ht2 (wrap_byt hall) (by omega)
      rw [frames_wrap hall] at hfr
      obtain ⟨t', h1, h2⟩ := runB_inv (B := law08_FramePacks_l4 (L, wantB L, L)) (fun k (s : Int) => s = (k : Int)) (fun _ => False) (L.map fun f => (f, (0 : Int))) (s := 0) rfl (by
        rintro k hk s rfl
        left
        rw [List.length_map] at hk
        refine ⟨((k + 1 : Nat) : Int), ?_, rfl⟩
        rw [List.getElem_map]
        refine ⟨L[k], fun _ => idx_of hk, true, fun _ => ?_, ?_⟩
        · have o2 := (hLok L[k] (List.getElem_mem _)).2.1
          have := fsame_ok L[k] L[k] o2 o2
          rw [decide_eq_true rfl] at this; exact this
        · rw [if_neg (by simp; omega), w_small (by omega) (by omega)]; rfl)
      refine ⟨_, rfl, t', (), hfr _ _ _ _ (run_yof h1), ?_⟩
      rcases h2 with ⟨s', rfl, rfl⟩ | ⟨e, _, hf⟩
      · show ∃ r69 : Bool, _
        refine ⟨_, known08_ok, ?_⟩
        rw [if_pos rfl]
        refine ⟨_, rwire_ok (by omega) hall, true, ?_, ?_⟩
        · have := same_ok (a := wrapB (L.map segB)) (b := wrapB (L.map segB)) (by omega)
          simpa using this
        · rw [if_pos rfl]
          show true = _
          simp
      · exact hf.elim
    · obtain ⟨k, hk, h1, h2, h3⟩ := want_first hw
      refine ⟨_, pack_no ht2 (by omega) hk (fun j hj => ⟨h3 j hj, ok_u32 (hLok _ (List.getElem_mem _)).1.2.2.1, (hLok _ (List.getElem_mem _)).2.1⟩) h2, ?_⟩
      rw [if_neg (by simp [h1])]
      unfold law08_FramePacks_j2
      rw [if_pos (by simp [hw])]
      refine ⟨_, known08_ok, ?_⟩
      rw [if_pos rfl, if_pos (by simp [h1])]
      rfl
theorem framePacks_claim {a : List Fm} (h : ListOk (fun f : Fm => HdOk f.1 ∧ ListOk (IntOk .u8) f.2) a) : law08_FramePacks a true :=
  framePacks_true (fun f hf => ⟨(h.1 f hf).1, ok_byt (h.1 f hf).2⟩) h.2
end Go.Rel
/-! Plain laws: events: their lines, which are the same, the words of errors. -/
namespace Go.Rel
open Go Go.Eng Go.Pl
abbrev Ev := Int × Int × Int × Int × Mg
abbrev Er := Int × Int × Int × Int × Mr
def errWords : List (Int × List Int) := [(2, [108, 111, 110, 103]), (3, [102, 111, 114, 109]), (4, [101, 110, 100]), (5, [114, 97, 110, 103, 101]), (6, [109, 97, 110, 121]), (9, [107, 105, 110, 100]), (10, [118, 101, 114, 115, 105, 111, 110]), (11, [115, 117, 109]), (12, [115, 116, 117, 102, 102]), (13, [115, 104, 111, 114, 116]), (14, [115, 101, 101, 110]), (15, [111, 108, 100]), (16, [116, 119, 105, 99, 101]), (17, [109, 101, 101, 116]), (18, [108, 97, 116, 101]), (19, [116, 101, 120, 116])]
def wordE (e : Int) : List Int := ((errWords.find? fun p => decide (p.1 = e)).map (·.2)).getD []
theorem wordE_cases (e : Int) : (e = 2 ∨ e = 3 ∨ e = 4 ∨ e = 5 ∨ e = 6 ∨ e = 9 ∨ e = 10 ∨ e = 11 ∨ e = 12 ∨ e = 13 ∨ e = 14 ∨ e = 15 ∨ e = 16 ∨ e = 17 ∨ e = 18 ∨ e = 19) ∨ (¬ (e = 2 ∨ e = 3 ∨ e = 4 ∨ e = 5 ∨ e = 6 ∨ e = 9 ∨ e = 10 ∨ e = 11 ∨ e = 12 ∨ e = 13 ∨ e = 14 ∨ e = 15 ∨ e = 16 ∨ e = 17 ∨ e = 18 ∨ e = 19) ∧ wordE e = []) := by
  by_cases h : e = 2 ∨ e = 3 ∨ e = 4 ∨ e = 5 ∨ e = 6 ∨ e = 9 ∨ e = 10 ∨ e = 11 ∨ e = 12 ∨ e = 13 ∨ e = 14 ∨ e = 15 ∨ e = 16 ∨ e = 17 ∨ e = 18 ∨ e = 19
  · exact .inl h
  · refine .inr ⟨h, ?_⟩
    unfold wordE
    have : errWords.find? (fun p => decide (p.1 = e)) = none := by
      rw [List.find?_eq_none]
      intro p hp
      simp only [errWords, List.mem_cons, List.not_mem_nil, or_false] at hp
      simp only [decide_eq_true_eq]
      rcases hp with rfl | rfl | rfl | rfl | rfl | rfl | rfl | rfl | rfl | rfl | rfl | rfl | rfl | rfl | rfl | rfl <;> simp only <;> omega
    rw [this]; rfl
theorem eword_ok (e : Int) : event_Word e (bstr (wordE e)) := by
  unfold event_Word
  simp only [decide_eq_true_eq]
  rcases wordE_cases e with h | ⟨h, hw⟩
  · rcases h with rfl | rfl | rfl | rfl | rfl | rfl | rfl | rfl | rfl | rfl | rfl | rfl | rfl | rfl | rfl | rfl <;> exact rfl
  · rw [hw]
    simp only [not_or] at h
    obtain ⟨h1, h2, h3, h4, h5, h6, h7, h8, h9, h10, h11, h12, h13, h14, h15, h16⟩ := h
    rw [if_neg h1, if_neg h2, if_neg h3, if_neg h4, if_neg h5, if_neg h6, if_neg h7, if_neg h8, if_neg h9, if_neg h10, if_neg h11, if_neg h12, if_neg h13, if_neg h14, if_neg h15, if_neg h16]
def errN : List Int := [2, 3, 4, 5, 6, 9, 10, 11, 12, 13, 14, 15, 16, 17, 18, 19]
def errT : List ByteArray := [(bstr [108, 111, 110, 103]), (bstr [102, 111, 114, 109]), (bstr [101, 110, 100]), (bstr [114, 97, 110, 103, 101]), (bstr [109, 97, 110, 121]), (bstr [107, 105, 110, 100]), (bstr [118, 101, 114, 115, 105, 111, 110]), (bstr [115, 117, 109]), (bstr [115, 116, 117, 102, 102]), (bstr [115, 104, 111, 114, 116]), (bstr [115, 101, 101, 110]), (bstr [111, 108, 100]), (bstr [116, 119, 105, 99, 101]), (bstr [109, 101, 101, 116]), (bstr [108, 97, 116, 101]), (bstr [116, 101, 120, 116])]
theorem rword_run (e : Int) : ∀ (m k : Nat), k + m = 16 → (∀ j, j < k → errN.getD j 0 ≠ e) → ∃ x, Loops (ref23_Word_l2 e) (k : Int) x ∧ Aft (fun p23 => ref23_Word_j1 p23 (bstr (wordE e))) (fun p24 => bstr (wordE e) = p24) x
  | 0, k, hk, hn => by
    obtain rfl : k = 16 := by omega
    refine ⟨.inl (), .done ?_, ?_⟩
    · unfold ref23_Word_l2; rw [if_neg (by decide)]
    · show bstr (wordE e) = bstr []
      rcases wordE_cases e with h | ⟨h, hw⟩
      · exfalso
        have h0 := hn 0 (by omega); have h1 := hn 1 (by omega); have h2 := hn 2 (by omega); have h3 := hn 3 (by omega); have h4 := hn 4 (by omega); have h5 := hn 5 (by omega); have h6 := hn 6 (by omega); have h7 := hn 7 (by omega)
        have h8 := hn 8 (by omega); have h9 := hn 9 (by omega); have h10 := hn 10 (by omega); have h11 := hn 11 (by omega); have h12 := hn 12 (by omega); have h13 := hn 13 (by omega); have h14 := hn 14 (by omega); have h15 := hn 15 (by omega)
        simp only [errN, List.getD_cons_zero, List.getD_cons_succ] at *
        omega
      · rw [hw]
  | m + 1, k, hk, hn => by
    have hlt : k < 16 := by omega
    have hN : errN[k]? = some (errN.getD k 0) := by
      rw [List.getD_eq_getElem?_getD, List.getElem?_eq_getElem (by show k < 16; omega)]; rfl
    have hx : idx [2, 3, 4, 5, 6, 9, 10, 11, 12, 13, 14, 15, 16, 17, 18, 19] (k : Int) (errN.getD k 0) := idx_at rfl hN
    by_cases he : errN.getD k 0 = e
    · refine ⟨.inr (bstr (wordE e)), .done ?_, rfl⟩
      unfold ref23_Word_l2
      rw [if_pos (by simp; omega)]
      refine ⟨_, hx, ?_⟩
      rw [if_pos (by simpa using he)]
      refine ⟨bstr (wordE e), idx_at rfl ?_, rfl⟩
      subst he
      have : ∀ k, k < 16 → errT[k]? = some (bstr (wordE (errN.getD k 0))) := by
        intro k hk
        match k, hk with
        | 0, _ => rfl
        | 1, _ => rfl
        | 2, _ => rfl
        | 3, _ => rfl
        | 4, _ => rfl
        | 5, _ => rfl
        | 6, _ => rfl
        | 7, _ => rfl
        | 8, _ => rfl
        | 9, _ => rfl
        | 10, _ => rfl
        | 11, _ => rfl
        | 12, _ => rfl
        | 13, _ => rfl
        | 14, _ => rfl
        | 15, _ => rfl
        | n + 16, h => exact absurd h (by omega)
      exact this k hlt
    · obtain ⟨x, h1, h2⟩ := rword_run e m (k + 1) (by omega) (fun j hj => by
        by_cases hjk : j = k
        · subst hjk; exact he
        · exact hn j (by omega))
      refine ⟨x, .next ?_ h1, h2⟩
      unfold ref23_Word_l2
      rw [if_pos (by simp; omega)]
      refine ⟨_, hx, ?_⟩
      rw [if_neg (by simpa using he), len_wrap (by omega)]
theorem reword_ok (e : Int) : ref23_Word e (bstr (wordE e)) := rword_run e 16 0 (by omega) (fun j hj => by omega)
theorem wordE_len (e : Int) : (wordE e).length ≤ 7 := by
  rcases wordE_cases e with h | ⟨_, hw⟩
  · rcases h with rfl | rfl | rfl | rfl | rfl | rfl | rfl | rfl | rfl | rfl | rfl | rfl | rfl | rfl | rfl | rfl <;> decide
  · rw [hw]; decide
def evLine (e : Ev) : List Int :=
  if e.1 = 1 then [100, 101, 108, 105, 118, 101, 114, 32] ++ decI e.2.1 ++ [32, 118, 32] ++ decI e.2.2.1 ++ [32] ++ lineL e.2.2.2.2
  else if e.1 = 2 then [114, 101, 106, 101, 99, 116, 32] ++ decI e.2.1 ++ [32] ++ wordE e.2.2.2.1
  else if e.1 = 3 then [101, 118, 105, 99, 116, 32] ++ decI e.2.1 else []
structure EvOk (e : Ev) : Prop where
  kind : IntOk .i64 e.1
  seq : IntOk .u32 e.2.1
  ver : IntOk .i64 e.2.2.1
  err : IntOk .i64 e.2.2.2.1
  msg : MgOk e.2.2.2.2
theorem lineL_len {m : Mg} (ok : MgOk m) : (lineL m).length ≤ 1000000 := by
  unfold lineL; split
  · have := wordL_len m.1
    have := bodyL_len ok (fields_fd m.1)
    have := fields_len m.1
    simp only [List.length_append]; omega
  · simp
theorem i64_u32 {n : Int} (h : IntOk .u32 n) : IntOk .i64 n ∧ IntKind.i64.wrap n = n := by
  have ⟨q0, q1⟩ := ok_u32 h
  exact ⟨⟨by show (-9223372036854775808 : Int) ≤ n; omega, by show n ≤ 9223372036854775807; omega⟩, w_small (by omega) (by omega)⟩
theorem fin_app (a b : List Int) (hab : a.length + b.length < 1000000000) : (bstr a).size + (bstr b).size < 4611686018427387904 := by rw [size_bstr, size_bstr]; omega
theorem eline_ok {e : Ev} (ok : EvOk e) : event_Line e (bstr (evLine e)) := by
  obtain ⟨hs, hw⟩ := i64_u32 ok.seq
  have l1 := decI_len hs
  have l2 := decI_len ok.ver
  have l3 := lineL_len ok.msg
  have l4 := wordE_len e.2.2.2.1
  refine ⟨_, by rw [hw]; exact snum_ok hs, ?_⟩
  unfold evLine
  simp only [decide_eq_true_eq]
  by_cases h1 : e.1 = 1
  · rw [if_pos h1, if_pos h1]
    refine ⟨?_, ?_, _, snum_ok ok.ver, ?_, ?_, _, sline_ok ok.msg, ?_, ?_⟩
    all_goals (try simp only [← bstr_append])
    all_goals first | (refine fin_app _ _ ?_; simp only [List.length_append, List.length_cons, List.length_nil]; omega)
  rw [if_neg h1, if_neg h1]
  by_cases h2 : e.1 = 2
  · rw [if_pos h2, if_pos h2]
    refine ⟨?_, ?_, _, eword_ok _, ?_, ?_⟩
    all_goals (try simp only [← bstr_append])
    all_goals first | (refine fin_app _ _ ?_; simp only [List.length_append, List.length_cons, List.length_nil]; omega)
  rw [if_neg h2, if_neg h2]
  by_cases h3 : e.1 = 3
  · rw [if_pos h3, if_pos h3]
    refine ⟨?_, ?_⟩
    all_goals (try simp only [← bstr_append])
    all_goals first | (refine fin_app _ _ ?_; simp only [List.length_cons, List.length_nil]; omega)
  rw [if_neg h3, if_neg h3]
def ofE (e : Ev) : Er := (e.1, e.2.1, e.2.2.1, e.2.2.2.1, ofM e.2.2.2.2)
theorem reline_ok {e : Ev} (ok : EvOk e) : ref23_Line (ofE e) (bstr (evLine e)) := by
  obtain ⟨hs, hw⟩ := i64_u32 ok.seq
  have l1 := decI_len hs
  have l2 := decI_len ok.ver
  have l3 := lineL_len ok.msg
  have l4 := wordE_len e.2.2.2.1
  refine ⟨_, (by simp only [ofE]; rw [hw]; exact digits_ok hs), ?_⟩
  unfold evLine
  have cp : ∀ {n : Int}, e.1 = n → decide ((ofE e).1 = n) = true := fun h => decide_eq_true h
  have cn : ∀ {n : Int}, ¬ e.1 = n → ¬ decide ((ofE e).1 = n) = true := fun h hh => h (of_decide_eq_true hh)
  by_cases h1 : e.1 = 1
  · rw [if_pos (cp h1), if_pos h1]
    refine ⟨?_, ?_, bstr (decI e.2.2.1), digits_ok ok.ver, ?_, ?_, bstr (lineL e.2.2.2.2), rline_ok ok.msg, ?_, ?_⟩
    all_goals (try simp only [← bstr_append])
    all_goals first | (refine fin_app _ _ ?_; simp only [List.length_append, List.length_cons, List.length_nil]; omega)
  rw [if_neg (cn h1), if_neg h1]
  by_cases h2 : e.1 = 2
  · rw [if_pos (cp h2), if_pos h2]
    refine ⟨?_, ?_, bstr (wordE e.2.2.2.1), reword_ok _, ?_, ?_⟩
    all_goals (try simp only [← bstr_append])
    all_goals first | (refine fin_app _ _ ?_; simp only [List.length_append, List.length_cons, List.length_nil]; omega)
  rw [if_neg (cn h2), if_neg h2]
  by_cases h3 : e.1 = 3
  · rw [if_pos (cp h3), if_pos h3]
    refine ⟨?_, ?_⟩
    all_goals (try simp only [← bstr_append])
    all_goals first | (refine fin_app _ _ ?_; simp only [List.length_cons, List.length_nil]; omega)
  rw [if_neg (cn h3), if_neg h3]
def sameE (a b : Ev) : Bool := decide (a.1 = b.1 ∧ a.2.1 = b.2.1 ∧ a.2.2.1 = b.2.2.1 ∧ a.2.2.2.1 = b.2.2.2.1) && sameB a.2.2.2.2 b.2.2.2.2
theorem esame_ok {a b : Ev} (hp : a.2.2.2.2.2.2.1.length < 4611686018427387904) (hc : a.2.2.2.2.2.2.2.1.length < 4611686018427387904) : event_Same a b (sameE a b) := by
  unfold event_Same sameE
  simp only [decide_eq_true_eq, event_Same_j1]
  by_cases h1 : a.1 = b.1
  · by_cases h2 : a.2.1 = b.2.1
    · by_cases h3 : a.2.2.1 = b.2.2.1
      · by_cases h4 : a.2.2.2.1 = b.2.2.2.1
        · rw [if_pos h1, if_pos h2, if_pos h3, if_pos h4]; exact ⟨_, msame_ok hp hc, by simp [h1, h2, h3, h4]⟩
        · rw [if_pos h1, if_pos h2, if_pos h3, if_neg h4]; simp [h4]
      · rw [if_pos h1, if_pos h2, if_neg h3]; simp [h3]
    · rw [if_pos h1, if_neg h2]; simp [h2]
  · rw [if_neg h1]; simp [h1]
theorem resame_ok {a b : Ev} (hp : a.2.2.2.2.2.2.1.length < 4611686018427387904) (hc : a.2.2.2.2.2.2.2.1.length < 4611686018427387904) : ref23_Same (ofE a) (ofE b) (sameE a b) := by
  unfold ref23_Same sameE ofE
  simp only [decide_eq_true_eq, ref23_Same_j1]
  by_cases h1 : a.1 = b.1
  · by_cases h2 : a.2.1 = b.2.1
    · by_cases h3 : a.2.2.1 = b.2.2.1
      · by_cases h4 : a.2.2.2.1 = b.2.2.2.1
        · rw [if_pos h1, if_pos h2, if_pos h3, if_pos h4]; exact ⟨_, rsame_ok hp hc, by simp [h1, h2, h3, h4]⟩
        · rw [if_pos h1, if_pos h2, if_pos h3, if_neg h4]; simp [h4]
      · rw [if_pos h1, if_pos h2, if_neg h3]; simp [h3]
    · rw [if_pos h1, if_neg h2]; simp [h2]
  · rw [if_neg h1]; simp [h1]
theorem sameB_refl (m : Mg) : sameB m m = true := by simp [sameB]
theorem sameE_refl (e : Ev) : sameE e e = true := by simp [sameE, sameB_refl]
def cutE (e : Ev) : Ev := (e.1, e.2.1, e.2.2.1, e.2.2.2.1, cutM e.2.2.2.2)
theorem ecut_ok (e : Ev) : law23_Cut e (cutE e) := ⟨_, cut_ok _, rfl⟩
theorem eof_ok {e : Ev} (h : e.2.2.2.2.2.2.1.length < 1099511627776) : law23_Of e (ofE e) := ⟨_, ofm_ok h, rfl⟩
/-- What comes in: a message of any lengths. -/
structure MgIn (m : Mg) : Prop where
  kind : IntOk .i64 m.1
  six : m.2.1.length = 6
  num : ∀ x ∈ m.2.1, IntOk .i64 x
  path : ∀ p ∈ m.2.2.1, IntOk .i64 p.1 ∧ IntOk .i64 p.2
  cells : ∀ x ∈ m.2.2.2.1, IntOk .i64 x
theorem ext_size (s : ByteArray) (n : Nat) : (s.extract 0 n).size ≤ n := by rw [ByteArray.size_extract]; omega
theorem cut_in {m : Mg} (h : MgIn m) : MgOk (cutM m) := ⟨h.kind, h.six, h.num, fun p hp => h.path p (List.mem_of_mem_take hp), fun x hx => h.cells x (List.mem_of_mem_take hx), by simp only [cutM, List.length_take]; omega, by simp only [cutM, List.length_take]; omega, by have := ext_size m.2.2.2.2.1 80; simp only [cutM]; omega, by have := ext_size m.2.2.2.2.2 80; simp only [cutM]; omega⟩
structure EvIn (e : Ev) : Prop where
  kind : IntOk .i64 e.1
  seq : IntOk .u32 e.2.1
  ver : IntOk .i64 e.2.2.1
  err : IntOk .i64 e.2.2.2.1
  msg : MgIn e.2.2.2.2
theorem ecut_in {e : Ev} (h : EvIn e) : EvOk (cutE e) := ⟨h.kind, h.seq, h.ver, h.err, cut_in h.msg⟩
theorem ok_lit (n : Int) (h0 : -9223372036854775808 ≤ n) (h1 : n ≤ 9223372036854775807) : IntOk .i64 n := ⟨h0, h1⟩
theorem deliv_ok (seq ver : Int) {m : Mg} (hp : m.2.2.1.length < 1099511627776) (hc : m.2.2.2.1.length < 1099511627776) : event_Delivery seq ver m (1, seq, ver, 0, m) := ⟨_, mcopy_ok hp hc, rfl⟩
instance (k : IntKind) (n : Int) : Decidable (IntOk k n) := by unfold IntOk; infer_instance
def zM : Mg := (0, [0, 0, 0, 0, 0, 0], [], [], bstr [], bstr [])
theorem zM_ok : MgOk zM := ⟨by decide, rfl, by decide, by decide, by decide, by decide, by decide, by decide, by decide⟩
theorem known23_ok : law23_known true := by
  have hm : MgOk (2, [1, 2, 0, 0, 0, 0], [], [], bstr [], bstr []) := ⟨by decide, rfl, by decide, by decide, by decide, by decide, by decide, by decide, by decide⟩
  refine ⟨_, deliv_ok 7 1 (by decide) (by decide), _, eline_ok ⟨by decide, by decide, by decide, by decide, hm⟩, ?_⟩
  rw [if_pos (by decide)]
  refine ⟨_, rfl, _, eline_ok ⟨by decide, by decide, by decide, by decide, zM_ok⟩, ?_⟩
  rw [if_pos (by decide)]
  refine ⟨_, rfl, _, eline_ok ⟨by decide, by decide, by decide, by decide, zM_ok⟩, ?_⟩
  show true = _
  decide
theorem eventLines_true {a b : Ev} {e : Int} (ha : EvIn a) (hb : EvIn b) : law23_EventLines a b e true := by
  have oa := ecut_in ha
  have ob := ecut_in hb
  have h1 := oa.msg.lpath
  have h2 := oa.msg.lcells
  have h3 := ob.msg.lpath
  refine ⟨_, ecut_ok a, _, ecut_ok b, true, known23_ok, _, fun _ => eline_ok oa, _, fun _ => eof_ok (by omega), _, fun _ => reline_ok oa, _, fun _ => esame_ok (by omega) (by omega), _, fun _ => eof_ok (by omega), _, fun _ => eof_ok (by omega), _, fun _ => resame_ok (by omega) (by omega), _, fun _ => esame_ok (by omega) (by omega), _, fun _ => eword_ok e, _, fun _ => reword_ok e, ?_⟩
  simp [sameE_refl]
abbrev MgRaw (m : Mg) : Prop := IntOk .i64 m.1 ∧ (m.2.1.length = 6 ∧ ∀ x ∈ m.2.1, IntOk .i64 x) ∧ ListOk (fun p : Int × Int => IntOk .i64 p.1 ∧ IntOk .i64 p.2) m.2.2.1 ∧ ListOk (IntOk .i64) m.2.2.2.1 ∧ StrOk m.2.2.2.2.1 ∧ StrOk m.2.2.2.2.2
theorem mgIn {m : Mg} (h : MgRaw m) : MgIn m := ⟨h.1, h.2.1.1, h.2.1.2, h.2.2.1.1, h.2.2.2.1.1⟩
abbrev EvRaw (e : Ev) : Prop := IntOk .i64 e.1 ∧ IntOk .u32 e.2.1 ∧ IntOk .i64 e.2.2.1 ∧ IntOk .i64 e.2.2.2.1 ∧ MgRaw e.2.2.2.2
theorem evIn {e : Ev} (h : EvRaw e) : EvIn e := ⟨h.1, h.2.1, h.2.2.1, h.2.2.2.1, mgIn h.2.2.2.2⟩
theorem eventLines_claim {a b : Ev} {e : Int} (h0 : EvRaw a) (h1 : EvRaw b) (_h2 : IntOk .i64 e) : law23_EventLines a b e true := eventLines_true (evIn h0) (evIn h1)
end Go.Rel
/-! Plain laws: what a dump tells. -/
namespace Go.Rel
open Go Go.Eng Go.Pl
theorem stop_run29 {X : Type} {B : X → Int → Sum Int Int → Prop} {stop : Int} (hB : ∀ x s, 0 ≤ s → s < 1099511627776 → B x s (if s = stop then .inr s else .inl (s + 1))) : ∀ (xs : List X) (s : Int), 0 ≤ s → s + xs.length < 1099511627776 → ∃ t, RunB B xs s t ∧ (t = .inl (s + xs.length) ∨ t = .inr stop)
  | [], s, _, _ => ⟨_, .nil, .inl (by simp)⟩
  | x :: xs, s, h0, h1 => by
    simp only [List.length_cons] at h1
    have := hB x s h0 (by omega)
    by_cases h : s = stop
    · rw [if_pos h] at this; rw [h] at this ⊢; exact ⟨_, .stop this, .inr rfl⟩
    · rw [if_neg h] at this
      obtain ⟨t, h2, h3⟩ := stop_run29 hB xs (s + 1) (by omega) (by omega)
      refine ⟨t, .go this h2, ?_⟩
      rcases h3 with h3 | h3
      · left; rw [h3]; simp only [List.length_cons]; congr 1; omega
      · exact .inr h3
/-! ### Segments, and where they stand -/
theorem split2_ok {b : List Int} (hl : b.length < 1073741824) : ∃ rest, ref06_Split b ((segP 0 [] b).map (·.2), (segP 0 [] b).map (·.1), rest) := by
  have key := loops_inv (step := ref06_Split_l2 b) (s := ([], [], [], 0)) (fun k (s : List (List Int) × List Int × List Int × Int) => s.2.2.2 = (k : Int) ∧ s.1 ++ (segP k s.2.2.1 (b.drop k)).map (·.2) = (segP 0 [] b).map (·.2) ∧ s.2.1 ++ (segP k s.2.2.1 (b.drop k)).map (·.1) = (segP 0 [] b).map (·.1) ∧ s.1.length ≤ k ∧ s.2.1.length ≤ k ∧ s.2.2.1.length ≤ k) (fun e => e.1 = (segP 0 [] b).map (·.2) ∧ e.2.1 = (segP 0 [] b).map (·.1)) b.length ⟨rfl, by simp, by simp, by simp, by simp, by simp⟩ ?_ ?_
  · obtain ⟨⟨l, ps, rest⟩, h1, h2, h3⟩ := key
    simp only at h2 h3
    subst h2 h3
    exact ⟨rest, _, h1, rfl⟩
  · rintro k ⟨out, ps, now, i⟩ hk ⟨h1, h2, h6, h3, h4, h5⟩
    simp only at h1 h2 h3 h4 h5 h6
    subst h1
    left
    have wi : IntKind.i64.wrap ((k : Int) + 1) = ((k + 1 : Nat) : Int) := by rw [w_small (by omega) (by omega)]; rfl
    rw [List.drop_eq_getElem_cons hk] at h2 h6
    simp only [segP] at h2 h6
    by_cases h0 : b[k] = 0
    · rw [if_neg (by simpa using h0)] at h2 h6
      by_cases hn : now = []
      · rw [if_pos hn] at h2 h6
        subst hn
        refine ⟨(out, ps, [], ((k + 1 : Nat) : Int)), ?_, rfl, h2, h6, by simp only; omega, by simp only; omega, by simp⟩
        unfold ref06_Split_l2
        simp only
        rw [if_pos (by simp; omega)]
        refine ⟨b[k], idx_of hk, ?_⟩
        rw [if_neg (by simp [h0]), if_neg (by simp)]
        unfold ref06_Split_j4 ref06_Split_j3
        simp only
        rw [wi]
      · rw [if_neg hn] at h2 h6
        have hnl : 0 < now.length := List.length_pos_iff.2 hn
        refine ⟨(out ++ [now], ps ++ [(k : Int) - (now.length : Int)], [], ((k + 1 : Nat) : Int)), ?_, rfl, by simpa using h2, by simpa using h6, by simp; omega, by simp; omega, by simp⟩
        unfold ref06_Split_l2
        simp only
        rw [if_pos (by simp; omega)]
        refine ⟨b[k], idx_of hk, ?_⟩
        rw [if_neg (by simp [h0]), if_pos (by simp; omega), w_small (n := (k : Int) - (now.length : Int)) (by omega) (by omega)]
        simp only [List.length_cons, List.length_nil]
        refine ⟨by omega, by omega, by omega, by omega, ?_⟩
        unfold ref06_Split_j4 ref06_Split_j3
        simp only
        rw [wi]
    · rw [if_pos h0] at h2 h6
      refine ⟨(out, ps, now ++ [b[k]], ((k + 1 : Nat) : Int)), ?_, rfl, h2, h6, by simp only; omega, by simp only; omega, by simp; omega⟩
      unfold ref06_Split_l2
      simp only
      rw [if_pos (by simp; omega)]
      refine ⟨b[k], idx_of hk, ?_⟩
      rw [if_pos (by simpa using h0)]
      simp only [List.length_cons, List.length_nil]
      refine ⟨b[k], idx_of hk, by omega, by omega, ?_⟩
      unfold ref06_Split_j3
      simp only
      rw [wi]
  · rintro ⟨out, ps, now, i⟩ ⟨h1, h2, h6, _⟩
    simp only at h1 h2 h6
    refine ⟨(out, ps, now), ?_, by simpa [segP] using h2, by simpa [segP] using h6⟩
    unfold ref06_Split_l2
    rw [if_neg (by simp [h1])]
theorem segP_pos : ∀ (l : List Int) (i : Nat) (now : List Int), now.length ≤ i → ∀ x ∈ segP i now l, 0 ≤ x.1 ∧ x.1 ≤ (i : Int) + l.length
  | [], i, now, _, x, hx => by simp [segP] at hx
  | c :: l, i, now, hn, x, hx => by
    unfold segP at hx
    simp only [List.length_cons]
    split at hx
    · have := segP_pos l (i + 1) (now ++ [c]) (by simp; omega) x hx; omega
    · split at hx
      · have := segP_pos l (i + 1) [] (by simp) x hx; omega
      · rcases List.mem_cons.1 hx with rfl | hx
        · simp only; omega
        · have := segP_pos l (i + 1) [] (by simp) x hx; omega
/-- A segment that may be told of. -/
def SegOk (x : Int × List Int) : Prop := Byt x.2 ∧ x.2.length < 100000 ∧ 0 ≤ x.1 ∧ x.1 < 1000000
theorem segs_ok {b : List Int} (hb : Byt b) (hl : b.length < 100000) : ∀ x ∈ segP 0 [] b, SegOk x := by
  intro x hx
  have h1 := segP_byt b 0 [] hb (fun y hy => nomatch hy) x hx
  have h2 : x.2.length ≤ ((segP 0 [] b).map (fun x => x.2.length)).sum := mem_le_sum (List.mem_map_of_mem hx)
  have h3 := segP_sum b 0 []
  have h4 := segP_pos b 0 [] (by simp) x hx
  simp at h3
  exact ⟨h1, by omega, by omega, by omega⟩
/-- What is told of a segment. -/
def descL (x : Int × List Int) : List Int := decI x.1 ++ [32] ++ (if (unpB x.2).2 = 0 then frameLn (unpB x.2).1 else wordE (unpB x.2).2)
theorem unp_fine {s : List Int} (hs : Byt s) (h : (unpB s).2 = 0) : HdOk (unpB s).1.1 ∧ (unpB s).1.2.length < 1048576 := by
  obtain ⟨h1, h2, -, -⟩ := unp_back hs h
  obtain ⟨h3, -, h4⟩ := frameE_ok h1
  obtain ⟨a1, a2, a3, a4, a5, a6, a7, a8⟩ := headE_ok h3
  refine ⟨⟨ok_lit _ (by omega) (by omega), ok_lit _ (by omega) (by omega), ⟨?_, ?_⟩, ok_lit _ (by omega) (by omega), ok_lit _ (by omega) (by omega)⟩, by omega⟩
  · show (0 : Int) ≤ _; omega
  · show _ ≤ (4294967295 : Int); omega
theorem frameLn_len {f : Fm} (ok : HdOk f.1) (hl : f.2.length < 1048576) : (frameLn f).length ≤ 300 := by
  have hh := headLn_len ok
  have l1 := decI_len (ok_lit (f.2.length : Int) (by omega) (by omega))
  simp only [frameLn, List.length_append, List.length_cons, List.length_nil]; omega
/-- The two ways of one segment, each said by its own code. -/
theorem tail_len {x : Int × List Int} (hx : SegOk x) : (decI x.1).length ≤ 21 ∧ (unpB x.2).2 = 0 → (frameLn (unpB x.2).1).length ≤ 300 := fun h => frameLn_len (unp_fine hx.1 h.2).1 (unp_fine hx.1 h.2).2
theorem each_itr {b : List Int} (hb : Byt b) (hl : b.length < 100000) : Itr (dump_Each_1 b) ((segP 0 [] b).map fun x => ((x.2.length : Int), bstr (descL x))) := by
  intro S Y s s' hr
  obtain ⟨t, ht1, ht2⟩ := fnew_ok
  have go : ∀ (xs : List (Int × List Int)) (s : S), (∀ x ∈ xs, SegOk x) → Run Y (xs.map fun x => ((x.2.length : Int), bstr (descL x))) s s' → ∃ t', RunB (dump_Each_1_l1 S Y t) xs s t' ∧ (t' = .inl s' ∨ t' = .inr s') := by
    intro xs
    induction xs with
    | nil => intro s _ h; cases h; exact ⟨_, .nil, .inl rfl⟩
    | cons x xs ih =>
      intro s hx h
      have hx1 := hx x List.mem_cons_self
      obtain ⟨h1, h2, h3, h4⟩ := hx1
      have oi : IntOk .i64 x.1 := ok_lit _ (by omega) (by omega)
      have ld := decI_len oi
      have stp : ∀ y u, Y ((x.2.length : Int), bstr (descL x)) s (y, u) → dump_Each_1_l1 S Y t x s (if y = true then .inl u else .inr u) := by
        intro y u hy
        have j2 : ∀ w : List Int, w.length ≤ 300 → descL x = decI x.1 ++ [32] ++ w → dump_Each_1_j2 S Y x (s, bstr w) (if y = true then .inl u else .inr u) := by
          intro w hw hd
          rw [hd, bstr_append, bstr_append] at hy
          refine ⟨_, snum_ok oi, fin_app _ _ (by simp only [List.length_cons, List.length_nil]; omega), by rw [← bstr_append]; exact fin_app _ _ (by simp only [List.length_append, List.length_cons, List.length_nil]; omega), y, u, hy, ?_⟩
          cases y with
          | true => rw [if_neg (by decide)]; rfl
          | false => rw [if_pos (by decide)]; rfl
        refine ⟨_, unpack_ok ht2 h1 (by omega), _, eword_ok _, ?_⟩
        by_cases he : (unpB x.2).2 = 0
        · rw [if_pos (by simpa using he)]
          obtain ⟨f1, f2⟩ := unp_fine h1 he
          exact ⟨_, (fline_ok f1 f2).1, j2 _ (frameLn_len f1 f2) (by rw [descL, if_pos he])⟩
        · rw [if_neg (by simpa using he)]
          have := wordE_len (unpB x.2).2
          exact j2 _ (by omega) (by rw [descL, if_neg he])
      simp only [List.map_cons] at h
      cases h with
      | go h h' =>
        obtain ⟨t', h3, h4⟩ := ih _ (fun z hz => hx z (List.mem_cons_of_mem _ hz)) h'
        exact ⟨t', .go (stp true _ h) h3, h4⟩
      | stop h => exact ⟨_, .stop (stp false _ h), .inr rfl⟩
  obtain ⟨t', h1, h2⟩ := go _ s (segs_ok hb hl) hr
  refine ⟨t, ht1, _, rfl, t', (), segments_ok (by omega) _ _ _ _ (run_yof h1), ?_⟩
  rcases h2 with rfl | rfl <;> rfl
def descsB (b : List Int) : List ByteArray := (segP 0 [] b).map fun x => bstr (descL x)
theorem foldl_snoc {X Z : Type} (g : X → Z) : ∀ (p : List X) (l : List Z), p.foldl (fun s x => s ++ [g x]) l = l ++ p.map g
  | [], l => by simp
  | x :: p, l => by simp only [List.foldl_cons]; rw [foldl_snoc g p]; simp
theorem describe_ok {b : List Int} (hb : Byt b) (hl : b.length < 100000) : dump_Describe b (descsB b) := by
  have hn : (segP 0 [] b).length < 100000 := by have := (segP_sum b 0 []).2; omega
  have hf : (((segP 0 [] b).map fun x => ((x.2.length : Int), bstr (descL x))).foldl (fun (s : List ByteArray) (x : Int × ByteArray) => s ++ [x.2]) []) = descsB b := by
    rw [foldl_snoc]; simp [descsB]
  refine ⟨_, rfl, .inl (descsB b), (), each_itr hb hl _ _ _ _ (run_yof ?_), rfl⟩
  rw [← hf]
  refine runB_fold _ _ _ (fun p x q e => ?_)
  have hp : p.length < 100000 := by
    have := congrArg List.length e
    simp at this; omega
  rw [foldl_snoc]
  unfold dump_Describe_l1
  simp only [List.nil_append, List.length_map, List.length_cons, List.length_nil]
  exact ⟨by omega, by omega, trivial⟩
theorem rdescribe_ok {b : List Int} (hb : Byt b) (hl : b.length < 100000) : ref29_Describe b (descsB b, (segP 0 [] b).map fun x => (x.2.length : Int)) := by
  obtain ⟨rest, hs⟩ := split2_ok (b := b) (by omega)
  have hok := segs_ok hb hl
  have hn : (segP 0 [] b).length < 100000 := by have := (segP_sum b 0 []).2; omega
  refine ⟨_, hs, (descsB b, (segP 0 [] b).map fun x => (x.2.length : Int)), ?_, by show _ = _; rfl⟩
  unfold descsB
  generalize segP 0 [] b = L at hok hn
  refine loops_count (step := ref29_Describe_l2 (L.map (·.2), L.map (·.1), rest)) (fun k => ((L.take k).map fun x => bstr (descL x), (L.take k).map fun x => (x.2.length : Int), (k : Int))) L.length (fun k hk => ?_) ?_
  · obtain ⟨h1, h2, h3, h4⟩ := hok _ (List.getElem_mem hk)
    have oi : IntOk .i64 L[k].1 := ok_lit _ (by omega) (by omega)
    have ld := decI_len oi
    have j3 : ∀ w : List Int, w.length ≤ 300 → descL L[k] = decI L[k].1 ++ [32] ++ w → ref29_Describe_j3 (L.map (·.2), L.map (·.1), rest) ((L.take k).map fun x => bstr (descL x), (L.take k).map fun x => (x.2.length : Int), (k : Int)) (bstr w) (.inl ((L.take (k + 1)).map fun x => bstr (descL x), (L.take (k + 1)).map fun x => (x.2.length : Int), ((k + 1 : Nat) : Int))) := by
      intro w hw hd
      refine ⟨L[k].1, idx_at rfl (by simp [hk]), _, digits_ok oi, fin_app _ _ (by simp only [List.length_cons, List.length_nil]; omega), by rw [← bstr_append]; exact fin_app _ _ (by simp only [List.length_append, List.length_cons, List.length_nil]; omega), ?_⟩
      simp only [List.length_map, List.length_take, List.length_cons, List.length_nil]
      refine ⟨by omega, by omega, L[k].2, idx_at rfl (by simp [hk]), by omega, by omega, ?_⟩
      rw [w_small (by omega) (by omega), take_map (fun x : Int × List Int => bstr (descL x)) hk, take_map (fun x : Int × List Int => (x.2.length : Int)) hk, hd, bstr_append, bstr_append]; rfl
    unfold ref29_Describe_l2
    simp only
    rw [if_pos (by simp; omega)]
    refine ⟨L[k].2, idx_at rfl (by simp [hk]), _, runpack_ok h1 (by omega), _, reword_ok _, ?_⟩
    by_cases he : (unpB L[k].2).2 = 0
    · rw [if_pos (by simpa using he)]
      obtain ⟨f1, f2⟩ := unp_fine h1 he
      exact ⟨_, (fline_ok f1 f2).2, j3 _ (frameLn_len f1 f2) (by rw [descL, if_pos he])⟩
    · rw [if_neg (by simpa using he)]
      have := wordE_len (unpB L[k].2).2
      exact j3 _ (by omega) (by rw [descL, if_neg he])
  · unfold ref29_Describe_l2
    simp only
    rw [if_neg (by simp), List.take_length]
theorem lines25_ok {l : List ByteArray} (hl : l.length < 4611686018427387904) : law25_Lines l l true := by
  unfold law25_Lines
  rw [if_neg (by simp)]
  refine ⟨.inl (), loops_count (step := law25_Lines_l2 l l) (fun k => (k : Int)) l.length (fun k hk => ?_) ?_, rfl⟩
  · unfold law25_Lines_l2
    rw [if_pos (by simpa using hk)]
    refine ⟨l[k], idx_of hk, l[k], idx_of hk, ?_⟩
    rw [if_neg (by simp), w_small (by omega) (by omega)]; rfl
  · unfold law25_Lines_l2
    rw [if_neg (by simp)]
/-! ### Dumps -/
def hexN : Nat → Int → List Int
  | 0, _ => []
  | k + 1, a => hexD (a / 16 ^ k % 16) :: hexN k a
theorem hexN_len : ∀ (k : Nat) (a : Int), (hexN k a).length = k
  | 0, _ => rfl
  | k + 1, a => by simp [hexN, hexN_len k a]
theorem hexD_byt {n : Int} (h0 : 0 ≤ n) (h1 : n < 16) : 0 ≤ hexD n ∧ hexD n < 256 := by unfold hexD; split <;> omega
theorem hexN_byt : ∀ (k : Nat) (a : Int), Byt (hexN k a)
  | 0, _ => fun x hx => nomatch hx
  | k + 1, a => fun x hx => by
    rcases List.mem_cons.1 hx with rfl | hx
    · exact hexD_byt (Int.emod_nonneg _ (by decide)) (Int.emod_lt_of_pos _ (by decide))
    · exact hexN_byt k a x hx
theorem nib_ok {a : Int} (h0 : 0 ≤ a) (h1 : a < 4294967296) {k : Nat} (hk : k < 8) : iand .u32 (ishr .u32 a (4 * (k : Int))) 15 = a / 16 ^ k % 16 := by
  have e : a = B (bw a) := (B_bw h0 h1).symm
  have h2 := ishr_B (bw a) (s := 4 * (k : Int)) (4 * k) (by omega) (by omega)
  rw [← e] at h2
  rw [h2, show (15 : Int) = B (15#32) from rfl, iand_B]
  unfold B
  rw [BitVec.toNat_and, show (15#32).toNat = 2 ^ 4 - 1 from rfl, Nat.and_two_pow_sub_one_eq_mod, BitVec.toNat_ushiftRight, Nat.shiftRight_eq_div_pow, Nat.pow_mul]
  have h3 : ((bw a).toNat : Int) = a := e.symm
  rw [Int.natCast_emod, Int.natCast_ediv, h3]
  simp
theorem wbyte_ok {s : Bool × List Int} {c : Int} (h : s.2.length < 1000000000) : strings_Builder_WriteByte s c (false, true, s.2 ++ [c]) :=
  ⟨_, rfl, by simp only [List.length_cons, List.length_nil]; omega, by simp only [List.length_cons, List.length_nil]; omega, rfl⟩
theorem put_run {a : Int} (h0 : 0 ≤ a) (h1 : a < 4294967296) : ∀ (k : Nat) (s : Bool × List Int), k ≤ 8 → s.2.length + k < 1000000000 → Loops (dump_Text_1_l1 a) ((k : Int) - 1, s.1, s.2) (s.1 || decide (0 < k), s.2 ++ hexN k a)
  | 0, s, _, _ => by
    refine .done ?_
    unfold dump_Text_1_l1
    rw [if_neg (show ¬ decide (0 ≤ ((0 : Nat) : Int) - 1) = true by decide)]
    simp [hexN]
  | k + 1, s, hk, hl => by
    have ih := put_run h0 h1 k (true, s.2 ++ [hexD (a / 16 ^ k % 16)]) (by omega) (by simp; omega)
    have w4 : IntKind.i64.wrap (4 * (k : Int)) = 4 * (k : Int) := w_small (by omega) (by omega)
    rw [show ((k + 1 : Nat) : Int) - 1 = (k : Int) by omega]
    have e : (s.1 || decide (0 < k + 1), s.2 ++ hexN (k + 1) a) = ((true, s.2 ++ [hexD (a / 16 ^ k % 16)]).1 || decide (0 < k), (true, s.2 ++ [hexD (a / 16 ^ k % 16)]).2 ++ hexN k a) := by simp [hexN]
    rw [e]
    refine .next ?_ ih
    unfold dump_Text_1_l1
    rw [if_pos (by simp)]
    simp only
    rw [w4, nib_ok h0 h1 (by omega)]
    refine ⟨by omega, _, hex_at (Int.emod_nonneg _ (by decide)) (Int.emod_lt_of_pos _ (by decide)), _, wbyte_ok (by simp only; omega), ?_⟩
    rw [w_small (by omega) (by omega)]
theorem put_ok {a : Int} (h0 : 0 ≤ a) (h1 : a < 4294967296) {k : Nat} {n : Int} (hn : n = (k : Int)) (s : Bool × List Int) (hk : k ≤ 8) (hl : s.2.length + k < 1000000000) : dump_Text_1 a n s (s.1 || decide (0 < k), s.2 ++ hexN k a) := by
  subst hn
  refine ⟨_, ?_, rfl⟩
  rw [w_small (by omega) (by omega)]
  exact put_run h0 h1 k s hk hl
def rowsP (at_ : Nat) (l : List Int) : List (Int × List Int) := if _h : l = [] then [] else ((at_ : Int), l.take 16) :: rowsP (at_ + 16) (l.drop 16)
termination_by l.length
decreasing_by have := List.length_pos_iff.2 _h; rw [List.length_drop]; omega
theorem rows_itr {b : List Int} (hl : b.length < 1000000000) : Itr (dump_Rows_1 b) (rowsP 0 b) := by
  intro S Y s s' hr
  refine ⟨(s', ()), ?_, rfl⟩
  have key : ∀ (m a : Nat) (s : S), b.length ≤ a + m → a < 1000000100 → Run Y (rowsP a (b.drop a)) s s' → Loops (dump_Rows_1_l1 S Y b) (s, (a : Int)) (s', ()) := by
    intro m
    induction m with
    | zero =>
      intro a s hm ha hr
      rw [rowsP, dif_pos (List.drop_eq_nil_of_le (by omega))] at hr
      cases hr
      refine .done ?_
      unfold dump_Rows_1_l1
      rw [if_neg (by simp; omega)]
    | succ m ih =>
      intro a s hm ha hr
      by_cases hab : a < b.length
      · have hne : b.drop a ≠ [] := fun h => by have := congrArg List.length h; simp at this; omega
        rw [rowsP, dif_neg hne, List.drop_drop] at hr
        have e1 : IntKind.i64.wrap ((a : Int) + 16) = ((a + 16 : Nat) : Int) := by rw [w_small (by omega) (by omega)]; rfl
        have e2 : (b.drop (a : Int).toNat).take (((min ((a + 16 : Nat) : Int) (b.length : Int)) : Int) - (a : Int)).toNat = (b.drop a).take 16 := by
          rw [Int.toNat_natCast]
          by_cases h : a + 16 ≤ b.length
          · rw [show (min ((a + 16 : Nat) : Int) (b.length : Int) - (a : Int)).toNat = 16 by omega]
          · rw [List.take_of_length_le (by rw [List.length_drop]; omega), List.take_of_length_le (by rw [List.length_drop]; omega)]
        have e3 : ((b.drop a).take 16).length ≤ 16 := by rw [List.length_take]; omega
        have stp : ∀ y u, Y ((a : Int), (b.drop a).take 16) s (y, u) → dump_Rows_1_l1 S Y b (s, (a : Int)) (if y = true then .inl (u, ((a + 16 : Nat) : Int)) else .inr (u, ())) := by
          intro y u hy
          unfold dump_Rows_1_l1
          rw [if_pos (by simpa using hab)]
          simp only
          rw [e1, e2]
          simp only [List.length_nil, List.nil_append]
          refine ⟨by omega, by omega, by omega, by omega, by omega, by omega, by omega, y, u, hy, ?_⟩
          cases y with
          | true => rw [if_neg (by decide)]; rfl
          | false => rw [if_pos (by decide)]; rfl
        cases hr with
        | go h h' => exact .next (stp true _ h) (ih (a + 16) _ (by omega) (by omega) h')
        | stop h => exact .done (stp false _ h)
      · rw [rowsP, dif_pos (List.drop_eq_nil_of_le (by omega))] at hr
        cases hr
        refine .done ?_
        unfold dump_Rows_1_l1
        rw [if_neg (by simp; omega)]
  exact key b.length 0 s (by omega) (by omega) hr
def byteT (c : Int) : List Int := 32 :: hexN 2 c
def rowT (x : Int × List Int) : List Int := hexN 8 x.1 ++ x.2.flatMap byteT ++ [10]
def dumpT (b : List Int) : List Int := (rowsP 0 b).flatMap rowT
theorem rowsP_ok : ∀ (n : Nat) (l : List Int) (a : Nat), l.length ≤ n → Byt l → (∀ x ∈ rowsP a l, 0 ≤ x.1 ∧ x.1 ≤ (a : Int) + l.length ∧ Byt x.2 ∧ x.2.length ≤ 16) ∧ (rowsP a l).length ≤ l.length
  | 0, l, a, h, _ => by
    rw [rowsP, dif_pos (List.eq_nil_of_length_eq_zero (by omega))]; simp
  | n + 1, l, a, h, hb => by
    by_cases hn : l = []
    · rw [rowsP, dif_pos hn]; simp
    · have hp := List.length_pos_iff.2 hn
      obtain ⟨h1, h2⟩ := rowsP_ok n (l.drop 16) (a + 16) (by rw [List.length_drop]; omega) (hb.drop 16)
      rw [List.length_drop] at h2
      rw [rowsP, dif_neg hn]
      refine ⟨fun x hx => ?_, by simp only [List.length_cons]; omega⟩
      rcases List.mem_cons.1 hx with rfl | hx
      · exact ⟨by simp only; omega, by simp only; omega, hb.take 16, by simp only [List.length_take]; omega⟩
      · obtain ⟨k1, k2, k3, k4⟩ := h1 x hx
        rw [List.length_drop] at k2
        by_cases h16 : 16 ≤ l.length
        · exact ⟨k1, by omega, k3, k4⟩
        · rw [List.drop_eq_nil_of_le (by omega), rowsP, dif_pos rfl] at hx
          exact nomatch hx
theorem byteT_len (l : List Int) : (l.flatMap byteT).length = 3 * l.length := by
  induction l with
  | nil => rfl
  | cons x l ih => rw [List.flatMap_cons, List.length_append, ih]; simp [byteT, hexN_len]; omega
theorem rowT_len {x : Int × List Int} (h : x.2.length ≤ 16) : (rowT x).length ≤ 57 := by
  simp only [rowT, List.length_append, hexN_len, byteT_len, List.length_cons, List.length_nil]; omega
theorem rowT_byt (x : Int × List Int) : Byt (rowT x) := by
  intro c hc
  simp only [rowT, List.mem_append, List.mem_flatMap, byteT, List.mem_cons, List.not_mem_nil, or_false] at hc
  rcases hc with (hc | ⟨y, _, hc | hc⟩) | hc
  · exact hexN_byt _ _ c hc
  · omega
  · exact hexN_byt _ _ c hc
  · omega
theorem dflat_len {l : List (Int × List Int)} (h : ∀ x ∈ l, x.2.length ≤ 16) : (l.flatMap rowT).length ≤ 57 * l.length := by
  induction l with
  | nil => simp
  | cons x l ih =>
    have h1 := rowT_len (h x List.mem_cons_self)
    have h2 := ih (fun y hy => h y (List.mem_cons_of_mem _ hy))
    rw [List.flatMap_cons, List.length_append, List.length_cons]; omega
theorem fold_rows : ∀ (p : List (Int × List Int)) (s : Bool × List Int), (p.foldl (fun (s : Bool × List Int) x => (true, s.2 ++ rowT x)) s).2 = s.2 ++ p.flatMap rowT
  | [], s => by simp
  | x :: p, s => by simp only [List.foldl_cons]; rw [fold_rows p]; simp
theorem row_run {x : Int × List Int} (h0 : 0 ≤ x.1) (h1 : x.1 < 100000000) (hx : Byt x.2) (hl : x.2.length ≤ 16) {s : Bool × List Int} (hs : s.2.length < 100000000) : dump_Text_l1 x s (.inl (true, s.2 ++ rowT x)) := by
  have w : IntKind.u32.wrap x.1 = x.1 := w32_small h0 (by omega)
  refine ⟨_, by rw [w]; exact put_ok h0 (by omega) (k := 8) rfl s (by omega) (by omega), (true, s.2 ++ hexN 8 x.1 ++ x.2.flatMap byteT), ?_, ?_⟩
  · have := loops_count (step := dump_Text_l3 x) (e := (true, s.2 ++ hexN 8 x.1 ++ x.2.flatMap byteT)) (fun k => ((k : Int), true, s.2 ++ hexN 8 x.1 ++ (x.2.take k).flatMap byteT)) x.2.length (fun k hk => by
      have hlen : ((x.2.take k).flatMap byteT).length ≤ 48 := by rw [byteT_len, List.length_take]; omega
      have hb := hx _ (List.getElem_mem hk)
      unfold dump_Text_l3
      rw [if_pos (by simpa using hk)]
      refine ⟨x.2[k], idx_of hk, _, wbyte_ok (by simp only [List.length_append, hexN_len]; omega), ?_⟩
      have w2 : IntKind.u32.wrap x.2[k] = x.2[k] := w32_small (by omega) (by omega)
      refine ⟨_, by rw [w2]; exact put_ok (by omega) (by omega) (k := 2) rfl _ (by omega) (by simp only [List.length_append, hexN_len, List.length_cons, List.length_nil]; omega), ?_⟩
      rw [w_small (by omega) (by omega), List.take_succ_eq_append_getElem hk, List.flatMap_append]
      simp [byteT]) (by
      unfold dump_Text_l3
      rw [if_neg (by simp), List.take_length])
    simpa using this
  · refine ⟨_, wbyte_ok (by simp only [List.length_append, hexN_len, byteT_len]; omega), ?_⟩
    simp [rowT]
theorem dtext_ok {b : List Int} (hb : Byt b) (hl : b.length < 1000000) : dump_Text b (bstr (dumpT b)) := by
  obtain ⟨hr, hn⟩ := rowsP_ok b.length b 0 (Nat.le_refl _) hb
  have hrun : RunB dump_Text_l1 (rowsP 0 b) (false, []) (.inl ((rowsP 0 b).foldl (fun (s : Bool × List Int) x => (true, s.2 ++ rowT x)) (false, []))) := by
    refine runB_fold _ _ _ (fun p x q e => ?_)
    have hm : ∀ y, y ∈ p ++ x :: q → y ∈ rowsP 0 b := fun y hy => by rw [e]; exact hy
    obtain ⟨k1, k2, k3, k4⟩ := hr x (hm x (by simp))
    have hp : (p.flatMap rowT).length ≤ 57 * p.length := dflat_len (fun y hy => (hr y (hm y (by simp [hy]))).2.2.2)
    have hpl : p.length ≤ (rowsP 0 b).length := by rw [e]; simp
    exact row_run k1 (by omega) k3 k4 (by rw [fold_rows]; simp only [List.nil_append]; omega)
  refine ⟨_, rfl, _, (), rows_itr (by omega) _ _ _ _ (run_yof hrun), _, ⟨?_, rfl⟩, ?_⟩
  · rw [fold_rows]
    intro x hx
    simp only [List.nil_append, List.mem_flatMap] at hx
    obtain ⟨y, _, hy⟩ := hx
    have := rowT_byt y x hy
    exact ⟨by show (0 : Int) ≤ x; omega, by show x ≤ (255 : Int); omega⟩
  · rw [fold_rows]; rfl
theorem known29_ok : law29_known true := by
  have h1 : descsB [3, 3, 0] = [bstr [48, 32, 115, 116, 117, 102, 102]] := by rfl
  have h2 : dumpT [0, 255] = [48, 48, 48, 48, 48, 48, 48, 48, 32, 48, 48, 32, 102, 102, 10] := by
    simp [dumpT, rowsP, rowT, byteT, hexN, hexD]
  have hb : Byt [3, 3, 0] := by intro x hx; simp at hx; omega
  have hb2 : Byt [0, 255] := by intro x hx; simp at hx; omega
  refine ⟨_, describe_ok hb (by simp), _, dtext_ok hb2 (by simp), ?_⟩
  rw [h1, h2, if_pos (by simp), if_pos (by simp)]
  exact ⟨_, idx_at (k := 0) rfl rfl, by show true = _; simp⟩
end Go.Rel
/-! Plain laws: numbers of 16, read and written. -/
namespace Go.Rel
open Go Go.Eng Go.Pl
/-- A digit's value. -/
def hv (c : Int) : Option Int := if 48 ≤ c ∧ c ≤ 57 then some (c - 48) else if 97 ≤ c ∧ c ≤ 102 then some (c - 87) else none
theorem hv_hexD {n : Int} (h0 : 0 ≤ n) (h1 : n < 16) : hv (hexD n) = some n := by
  unfold hv hexD
  by_cases h : n < 10
  · rw [if_pos h, if_pos (by omega)]; congr 1; omega
  · rw [if_neg h, if_neg (by omega), if_pos (by omega)]; congr 1; omega
theorem hv_some {c n : Int} (h : hv c = some n) : 0 ≤ n ∧ n < 16 ∧ hexD n = c := by
  unfold hv at h
  split at h
  · cases h; unfold hexD; rw [if_pos (by omega)]; omega
  · split at h
    · cases h; unfold hexD; rw [if_neg (by omega)]; omega
    · cases h
set_option maxRecDepth 100000 in
theorem place_all : ∀ k : Nat, k < 256 → ((digs.findIdx? (fun x => decide (x = (k : Int)))).map Int.ofNat).getD (-1) = (hv (k : Int)).getD (-1) := by decide
theorem place_hv {c : Int} (h : 0 ≤ c ∧ c < 256) : strings_IndexByte (bstr [48, 49, 50, 51, 52, 53, 54, 55, 56, 57, 97, 98, 99, 100, 101, 102]) c ((hv c).getD (-1)) := by
  refine ⟨⟨h.1, by show c ≤ (255 : Int); omega⟩, ?_⟩
  rw [digs_lit]
  have := place_all c.toNat (by omega)
  rw [Int.toNat_of_nonneg h.1] at this
  exact this.symm
/-- The number of digits, modulo 2^32. -/
def numL : Int → List Int → Option Int
  | a, [] => some a
  | a, c :: l => match hv c with
    | none => none
    | some d => numL ((a * 16 + d) % 4294967296) l
theorem shl_or {a d : Int} (h0 : 0 ≤ a) (h1 : a < 4294967296) (d0 : 0 ≤ d) (d1 : d < 16) : ior .u32 (ishl .u32 a 4) d = (a * 16 + d) % 4294967296 := by
  have ea : a = B (bw a) := (B_bw h0 h1).symm
  have ed : d = B (bw d) := (B_bw d0 (by omega)).symm
  have h2 := ishl_B (bw a) (s := 4) 4 rfl (by omega)
  rw [← ea] at h2
  rw [h2, ed, ior_B, ← ed]
  unfold B
  rw [BitVec.toNat_or, BitVec.toNat_shiftLeft]
  have ha : ((bw a).toNat : Int) = a := ea.symm
  have hd : ((bw d).toNat : Int) = d := ed.symm
  have hm : (bw a).toNat <<< 4 % 2 ^ 32 = ((bw a).toNat % 2 ^ 28) <<< 4 := by rw [Nat.shiftLeft_eq, Nat.shiftLeft_eq]; omega
  rw [hm, ← Nat.shiftLeft_add_eq_or_of_lt (by omega), Nat.shiftLeft_eq]
  omega
theorem num_run {w : List Int} (ho : Oct w) (hl : w.length < 1000000) : ∀ (l pre : List Int) (a : Int), w = pre ++ l → 0 ≤ a → a < 4294967296 → ∃ e, Loops (dump_number_l2 (bstr w)) (a, (pre.length : Int)) e ∧ e = (match numL a l with | none => .inr (0, false) | some v => .inl v)
  | [], pre, a, h, h0, h1 => by
    refine ⟨_, .done ?_, rfl⟩
    unfold dump_number_l2
    rw [if_neg (by rw [size_bstr, h]; simp)]
    rfl
  | c :: l, pre, a, h, h0, h1 => by
    have hc : 0 ≤ c ∧ c < 256 := ho c (by rw [h]; simp)
    have hlen : w.length = pre.length + l.length + 1 := by rw [h]; simp; omega
    have hx : idx (bints (bstr w)) (pre.length : Int) c := by rw [bb_of ho]; exact idx_at rfl (by rw [h]; simp)
    have wi : IntKind.i64.wrap ((pre.length : Int) + 1) = ((pre ++ [c]).length : Int) := by rw [w_small (by omega) (by omega)]; simp
    cases hv' : hv c with
    | none =>
      refine ⟨_, .done ?_, rfl⟩
      unfold dump_number_l2
      rw [if_pos (by rw [size_bstr, decide_eq_true_eq]; simp only; omega)]
      refine ⟨c, hx, _, place_hv hc, ?_⟩
      rw [hv', if_pos (by decide)]
      simp [numL, hv']
    | some d =>
      obtain ⟨d0, d1, -⟩ := hv_some hv'
      obtain ⟨e, h2, h3⟩ := num_run ho hl l (pre ++ [c]) ((a * 16 + d) % 4294967296) (by rw [h]; simp) (by omega) (by omega)
      refine ⟨e, .next ?_ h2, ?_⟩
      · unfold dump_number_l2
        rw [if_pos (by rw [size_bstr, decide_eq_true_eq]; simp only; omega)]
        refine ⟨c, hx, _, place_hv hc, ?_⟩
        rw [hv', if_neg (by simp; omega)]
        simp only [Option.getD_some]
        rw [wi, w32_small d0 (by omega), shl_or h0 h1 d0 d1]
      · rw [h3, numL, hv']
def numR (w : List Int) (n : Int) : Int × Bool := match numL 0 w with
  | none => (0, false)
  | some v => (v, decide ((w.length : Int) = n))
theorem number_ok {w : List Int} (ho : Oct w) (hl : w.length < 1000000) (n : Int) : dump_number (bstr w) n (numR w n) := by
  obtain ⟨e, h1, h2⟩ := num_run ho hl w [] 0 rfl (by decide) (by decide)
  refine ⟨e, h1, ?_⟩
  rw [h2]
  unfold numR
  cases numL 0 w with
  | none => rfl
  | some v => show _ = _; rw [size_bstr]
/-- Bytes of pairs of digits. -/
def unhexL : List Int → Option (List Int)
  | [] => some []
  | [_] => none
  | a :: b :: l => match hv a, hv b, unhexL l with
    | some x, some y, some r => some ((16 * x + y) :: r)
    | _, _, _ => none
theorem rdig_ok {n : Int} (h0 : 0 ≤ n) (h1 : n < 16) : ref26_digit n (hexD n) := by
  unfold ref26_digit hexD
  by_cases h : n < 10
  · rw [if_pos (by simpa using h), if_pos h, w_u8]; omega
  · rw [if_neg (by simpa using h), if_neg h, w_u8]; omega
theorem rhex26_ok {l : List Int} (hb : Byt l) (hl : l.length < 1000000) (hne : l ≠ []) : ref26_Hex l (bstr (hexL l)) := by
  unfold ref26_Hex
  have hp := List.length_pos_iff.2 hne
  rw [if_neg (by simp only [decide_eq_true_eq]; omega)]
  refine ⟨bstr (hexL l), ?_, rfl⟩
  have := loops_count (step := ref26_Hex_l2 l) (e := bstr (hexL l)) (fun k => (bstr (hexL (l.take k)), (k : Int))) l.length (fun k hk => by
    have hc := hb _ (List.getElem_mem hk)
    unfold ref26_Hex_l2
    rw [if_pos (by simpa using hk)]
    have e1 : IntKind.u8.wrap (l[k].tdiv 16) = l[k] / 16 := by rw [Int.tdiv_eq_ediv_of_nonneg hc.1, w_u8]; omega
    have e2 : l[k].tmod 16 = l[k] % 16 := Int.tmod_eq_emod_of_nonneg hc.1
    have hs : (hexL (l.take k)).length ≤ 2 * l.length := by rw [hexL_len, List.length_take]; omega
    refine ⟨l[k], idx_of hk, _, by rw [e1]; exact rdig_ok (by omega) (by omega), l[k], idx_of hk, _, by rw [e2]; exact rdig_ok (by omega) (by omega), ?_, ?_⟩
    · rw [size_bstr, size_bstr]; simp only [List.length_cons, List.length_nil]; omega
    · rw [w_small (by omega) (by omega), List.take_succ_eq_append_getElem hk, hexL_snoc, bstr_append]; rfl) (by
    unfold ref26_Hex_l2
    rw [if_neg (by simp), List.take_length])
  simpa [hexL] using this
set_option maxRecDepth 10000 in
/-- One byte sought: its two digits. -/
theorem seek_run {w : List Int} (ho : Oct w) (hl : w.length < 1000000) {i : Nat} {c1 c2 : Int} (h1 : w[i]? = some c1) (h2 : w[i + 1]? = some c2) {out : List Int} (hol : out.length < 1000000) :
    Loops (ref26_Unhex_l5 (bstr w) (out, (i : Int))) (out, false, 0) (match hv c1, hv c2 with | some x, some y => (out ++ [16 * x + y], true) | _, _ => (out, false)) := by
  have hi : i + 1 < w.length := (List.getElem?_eq_some_iff.1 h2).1
  have x1 : idx (bints (bstr w)) (i : Int) c1 := by rw [bb_of ho]; exact idx_at rfl h1
  have x2 : idx (bints (bstr w)) (IntKind.i64.wrap ((i : Int) + 1)) c2 := by rw [bb_of ho, w_small (by omega) (by omega)]; exact idx_at (k := i + 1) rfl h2
  have step : ∀ k : Nat, k < 256 → ref26_Unhex_l5 (bstr w) (out, (i : Int)) (out, false, (k : Int)) (.inl (if hexD ((k : Int) / 16) = c1 ∧ hexD ((k : Int) % 16) = c2 then (out ++ [(k : Int)], true, ((k + 1 : Nat) : Int)) else (out, false, ((k + 1 : Nat) : Int)))) := by
    intro k hk
    have wi : IntKind.i64.wrap ((k : Int) + 1) = ((k + 1 : Nat) : Int) := by rw [w_small (by omega) (by omega)]; rfl
    have e1 : IntKind.u8.wrap (IntKind.i64.wrap ((k : Int).tdiv 16)) = (k : Int) / 16 := by rw [Int.tdiv_eq_ediv_of_nonneg (by omega), w_small (by omega) (by omega), w_u8]; omega
    have e2 : IntKind.u8.wrap ((k : Int).tmod 16) = (k : Int) % 16 := by rw [Int.tmod_eq_emod_of_nonneg (by omega), w_u8]; omega
    have e3 : IntKind.u8.wrap (k : Int) = (k : Int) := by rw [w_u8]; omega
    unfold ref26_Unhex_l5
    simp only
    rw [if_pos (by simp only [decide_eq_true_eq]; omega)]
    unfold ref26_Unhex_j6
    rw [if_pos (show (!false) = true from rfl)]
    simp only
    rw [e1, e2, e3]
    refine ⟨_, rdig_ok (by omega) (by omega), c1, x1, hexD ((k : Int) % 16), fun _ => rdig_ok (by omega) (by omega), c2, fun _ => x2, ?_⟩
    by_cases g1 : hexD ((k : Int) / 16) = c1
    · by_cases g2 : hexD ((k : Int) % 16) = c2
      · rw [if_pos (by rw [decide_eq_true g1, decide_eq_true g2]; rfl), if_pos ⟨g1, g2⟩]
        simp only [List.length_cons, List.length_nil]
        refine ⟨by omega, by omega, ?_⟩
        unfold ref26_Unhex_j7; simp only; rw [wi]
      · rw [if_neg (by rw [decide_eq_false g2, Bool.and_false]; decide), if_neg (fun h => g2 h.2)]
        unfold ref26_Unhex_j7; simp only; rw [wi]
    · rw [if_neg (by rw [decide_eq_false g1, Bool.false_and]; decide), if_neg (fun h => g1 h.1)]
      unfold ref26_Unhex_j7; simp only; rw [wi]
  have fin : ∀ (o : List Int) (k : Nat), ref26_Unhex_l5 (bstr w) (out, (i : Int)) (o, true, (k : Int)) (.inr (o, true)) := by
    intro o k
    unfold ref26_Unhex_l5
    simp only
    by_cases hk : (k : Int) < 256
    · rw [if_pos (decide_eq_true hk)]; unfold ref26_Unhex_j6; rw [if_neg (show ¬ ((!true) = true) by decide)]
    · rw [if_neg (fun e => hk (of_decide_eq_true e))]; unfold ref26_Unhex_j6; rw [if_neg (by decide)]
  have fin0 : ref26_Unhex_l5 (bstr w) (out, (i : Int)) (out, false, ((256 : Nat) : Int)) (.inr (out, false)) := by
    unfold ref26_Unhex_l5
    simp only
    rw [if_neg (show ¬ decide (((256 : Nat) : Int) < 256) = true by decide)]; unfold ref26_Unhex_j6; rw [if_neg (by decide)]
  have go : ∀ (m k : Nat) (r : List Int × Bool), k + m = 256 → ((∃ x : Nat, k ≤ x ∧ x < 256 ∧ hexD ((x : Int) / 16) = c1 ∧ hexD ((x : Int) % 16) = c2 ∧ (∀ y : Nat, y < x → ¬ (hexD ((y : Int) / 16) = c1 ∧ hexD ((y : Int) % 16) = c2)) ∧ r = (out ++ [(x : Int)], true)) ∨ ((∀ y : Nat, y < 256 → ¬ (hexD ((y : Int) / 16) = c1 ∧ hexD ((y : Int) % 16) = c2)) ∧ r = (out, false))) → Loops (ref26_Unhex_l5 (bstr w) (out, (i : Int))) (out, false, (k : Int)) r := by
    intro m
    induction m with
    | zero =>
      intro k r hk hr
      obtain rfl : k = 256 := by omega
      rcases hr with ⟨x, h3, h4, _⟩ | ⟨_, rfl⟩
      · omega
      · exact .done fin0
    | succ m ih =>
      intro k r hk hr
      have st := step k (by omega)
      rcases hr with ⟨x, h3, h4, h5, h6, h7, rfl⟩ | ⟨h3, rfl⟩
      · by_cases hkx : k = x
        · subst hkx
          rw [if_pos ⟨h5, h6⟩] at st
          exact .next st (.done (fin _ _))
        · rw [if_neg (h7 k (by omega))] at st
          exact .next st (ih (k + 1) _ (by omega) (.inl ⟨x, by omega, h4, h5, h6, h7, rfl⟩))
      · rw [if_neg (h3 k (by omega))] at st
        exact .next st (ih (k + 1) _ (by omega) (.inr ⟨h3, rfl⟩))
  have inj : ∀ y : Nat, y < 256 → hexD ((y : Int) / 16) = c1 → hexD ((y : Int) % 16) = c2 → hv c1 = some ((y : Int) / 16) ∧ hv c2 = some ((y : Int) % 16) := by
    intro y hy g1 g2
    rw [← g1, ← g2]
    exact ⟨hv_hexD (by omega) (by omega), hv_hexD (by omega) (by omega)⟩
  refine go 256 0 _ rfl ?_
  cases v1 : hv c1 with
  | none => exact .inr ⟨fun y hy h => (by have := (inj y hy h.1 h.2).1; rw [v1] at this; cases this), rfl⟩
  | some x =>
    cases v2 : hv c2 with
    | none => exact .inr ⟨fun y hy h => (by have := (inj y hy h.1 h.2).2; rw [v2] at this; cases this), rfl⟩
    | some y =>
      obtain ⟨a0, a1, a2⟩ := hv_some v1
      obtain ⟨b0, b1, b2⟩ := hv_some v2
      have e : ((16 * x + y).toNat : Int) = 16 * x + y := Int.toNat_of_nonneg (by omega)
      refine .inl ⟨(16 * x + y).toNat, by omega, by omega, ?_, ?_, fun z hz h => ?_, by rw [e]⟩
      · rw [e, show (16 * x + y) / 16 = x by omega, a2]
      · rw [e, show (16 * x + y) % 16 = y by omega, b2]
      · obtain ⟨g1, g2⟩ := inj z (by omega) h.1 h.2
        rw [v1] at g1; rw [v2] at g2
        cases g1; cases g2; omega
theorem unhex_run {w : List Int} (ho : Oct w) (hl : w.length < 1000000) : ∀ (n : Nat) (l pre out : List Int), l.length ≤ n → w = pre ++ l → l.length % 2 = 0 → out.length + l.length ≤ w.length → ∃ e, Loops (ref26_Unhex_l3 (bstr w)) (out, (pre.length : Int)) e ∧ e = (match unhexL l with | none => .inr ([], 3) | some r => .inl (out ++ r)) := by
  intro n
  induction n with
  | zero =>
    intro l pre out hn h _ _
    obtain rfl := List.eq_nil_of_length_eq_zero (Nat.le_zero.1 hn)
    refine ⟨_, .done ?_, rfl⟩
    unfold ref26_Unhex_l3
    rw [if_neg (by rw [size_bstr, h]; simp)]
    simp [unhexL]
  | succ n ih =>
    intro l pre out hn h h2 ho2
    match l, hn, h, h2, ho2 with
    | [], hn, h, h2, ho2 =>
      refine ⟨_, .done ?_, rfl⟩
      unfold ref26_Unhex_l3
      rw [if_neg (by rw [size_bstr, h]; simp)]
      simp [unhexL]
    | [x], hn, h, h2, ho2 => simp at h2
    | a :: b :: l, hn, h, h2, ho2 =>
      simp only [List.length_cons] at hn h2 ho2
      have hlen : w.length = pre.length + l.length + 2 := by rw [h]; simp; omega
      have s := seek_run ho hl (i := pre.length) (c1 := a) (c2 := b) (by rw [h]; simp) (by rw [h]; simp) (out := out) (by omega)
      have wi : IntKind.i64.wrap ((pre.length : Int) + 2) = ((pre ++ [a, b]).length : Int) := by rw [w_small (by omega) (by omega)]; simp
      have bad : (match hv a, hv b with | some x, some y => (out ++ [16 * x + y], true) | _, _ => (out, false)) = (out, false) → unhexL (a :: b :: l) = none → ∃ e, Loops (ref26_Unhex_l3 (bstr w)) (out, (pre.length : Int)) e ∧ e = (match unhexL (a :: b :: l) with | none => .inr ([], 3) | some r => .inl (out ++ r)) := by
        intro hs hu
        rw [hs] at s
        refine ⟨_, .done ?_, rfl⟩
        unfold ref26_Unhex_l3
        rw [if_pos (by rw [size_bstr, decide_eq_true_eq]; simp only; omega)]
        refine ⟨_, s, ?_⟩
        unfold ref26_Unhex_j4
        rw [if_pos (show (!false) = true from rfl), hu]
      cases v1 : hv a with
      | none => exact bad (by rw [v1]) (by simp [unhexL, v1])
      | some x =>
        cases v2 : hv b with
        | none => exact bad (by rw [v1, v2]) (by simp [unhexL, v1, v2])
        | some y =>
          rw [v1, v2] at s
          simp only at s
          obtain ⟨e, h3, h4⟩ := ih l (pre ++ [a, b]) (out ++ [16 * x + y]) (by omega) (by rw [h]; simp) (by omega) (by simp; omega)
          refine ⟨e, .next ?_ h3, ?_⟩
          · unfold ref26_Unhex_l3
            rw [if_pos (by rw [size_bstr, decide_eq_true_eq]; simp only; omega)]
            refine ⟨_, s, ?_⟩
            unfold ref26_Unhex_j4
            rw [if_neg (show ¬ ((!true) = true) by decide)]
            simp only
            rw [wi]
          · rw [h4]
            cases v3 : unhexL l with
            | none => simp [unhexL, v1, v2, v3]
            | some r => simp [unhexL, v1, v2, v3]
def unhexR (w : List Int) : List Int × Int := if w = [45] then ([], 0) else if w = [] then ([], 3) else match unhexL w with
  | none => ([], 3)
  | some r => (r, 0)
theorem unhexL_odd : ∀ (n : Nat) (l : List Int), l.length ≤ n → l.length % 2 = 1 → unhexL l = none
  | 0, l, h, h2 => by omega
  | n + 1, [], h, h2 => by simp at h2
  | n + 1, [x], h, h2 => rfl
  | n + 1, a :: b :: l, h, h2 => by
    simp only [List.length_cons] at h h2
    have := unhexL_odd n l (by omega) (by omega)
    simp only [unhexL, this]
    cases hv a <;> cases hv b <;> rfl
theorem bstr_ne {w v : List Int} (ho : Oct w) (hv : Oct v) (h : w ≠ v) : ¬ decide (bstr w = bstr v) = true := by
  rw [decide_eq_true_eq]; exact fun e => h (bs_inj ho hv e)
theorem runhex_ok {w : List Int} (ho : Oct w) (hl : w.length < 1000000) : ref26_Unhex (bstr w) (unhexR w) := by
  have h45 : Oct [45] := fun x hx => by simp at hx; omega
  have h0 : Oct [] := fun x hx => nomatch hx
  unfold ref26_Unhex unhexR
  by_cases e1 : w = [45]
  · rw [if_pos (by simp [e1]), if_pos e1]
  · rw [if_neg (bstr_ne ho h45 e1), if_neg e1]
    by_cases e2 : w = []
    · rw [if_pos (by simp [e2]), if_pos e2]
      unfold ref26_Unhex_j1; rw [if_pos rfl]
    · rw [if_neg (bstr_ne ho h0 e2), if_neg e2]
      unfold ref26_Unhex_j1
      have hm : ((bstr w).size : Int).tmod 2 = ((w.length % 2 : Nat) : Int) := by rw [size_bstr, Int.tmod_eq_emod_of_nonneg (by omega)]; rfl
      rw [hm]
      by_cases e3 : w.length % 2 = 1
      · rw [if_pos (by rw [decide_eq_true_eq]; omega), unhexL_odd w.length w (Nat.le_refl _) e3]
      · rw [if_neg (by rw [decide_eq_true_eq]; omega)]
        obtain ⟨e, h1, h2⟩ := unhex_run ho hl w.length w [] [] (Nat.le_refl _) rfl (by omega) (by simp)
        refine ⟨e, h1, ?_⟩
        rw [h2]
        cases unhexL w with
        | none => rfl
        | some r => rfl
end Go.Rel
/-! Plain laws: what a dump's text is parsed as. -/
namespace Go.Rel
open Go Go.Eng Go.Pl
theorem hv_cases (c : Int) : hv c = none ∨ ∃ d, hv c = some d ∧ 0 ≤ d ∧ d < 16 ∧ hexD d = c := by
  cases h : hv c with
  | none => exact .inl rfl
  | some d => exact .inr ⟨d, rfl, hv_some h⟩
theorem num2_fwd {a : Int} (h0 : 0 ≤ a) (h1 : a < 256) : numL 0 (hexN 2 a) = some a := by
  have e1 : hv (hexD (a / 16 ^ 1 % 16)) = some (a / 16 ^ 1 % 16) := hv_hexD (by omega) (by omega)
  have e0 : hv (hexD (a / 16 ^ 0 % 16)) = some (a / 16 ^ 0 % 16) := hv_hexD (by omega) (by omega)
  simp only [hexN, numL, e1, e0]
  congr 1
  omega
theorem num8_fwd {a : Int} (h0 : 0 ≤ a) (h1 : a < 4294967296) : numL 0 (hexN 8 a) = some a := by
  have e : ∀ k : Nat, hv (hexD (a / 16 ^ k % 16)) = some (a / 16 ^ k % 16) := fun k => hv_hexD (Int.emod_nonneg _ (by decide)) (Int.emod_lt_of_pos _ (by decide))
  simp only [hexN, numL, e]
  congr 1
  omega
theorem num2_back {w : List Int} {v : Int} (hl : w.length = 2) (h : numL 0 w = some v) : 0 ≤ v ∧ v < 256 ∧ w = hexN 2 v := by
  match w, hl with
  | [c1, c2], _ =>
    rcases hv_cases c1 with e | ⟨d1, e1, a1, b1, g1⟩
    · simp [numL, e] at h
    rcases hv_cases c2 with e | ⟨d2, e2, a2, b2, g2⟩
    · simp [numL, e, e1] at h
    simp only [numL, e1, e2, Option.some.injEq] at h
    have hv' : v = d1 * 16 + d2 := by omega
    refine ⟨by omega, by omega, ?_⟩
    have q1 : v / 16 ^ 1 % 16 = d1 := by omega
    have q2 : v / 16 ^ 0 % 16 = d2 := by omega
    simp only [hexN, q1, q2, g1, g2]
theorem num8_back {w : List Int} {v : Int} (hl : w.length = 8) (h : numL 0 w = some v) : 0 ≤ v ∧ v < 4294967296 ∧ w = hexN 8 v := by
  match w, hl with
  | [c1, c2, c3, c4, c5, c6, c7, c8], _ =>
    rcases hv_cases c1 with e | ⟨d1, e1, a1, b1, g1⟩
    · simp [numL, e] at h
    rcases hv_cases c2 with e | ⟨d2, e2, a2, b2, g2⟩
    · simp [numL, e, e1] at h
    rcases hv_cases c3 with e | ⟨d3, e3, a3, b3, g3⟩
    · simp [numL, e, e1, e2] at h
    rcases hv_cases c4 with e | ⟨d4, e4, a4, b4, g4⟩
    · simp [numL, e, e1, e2, e3] at h
    rcases hv_cases c5 with e | ⟨d5, e5, a5, b5, g5⟩
    · simp [numL, e, e1, e2, e3, e4] at h
    rcases hv_cases c6 with e | ⟨d6, e6, a6, b6, g6⟩
    · simp [numL, e, e1, e2, e3, e4, e5] at h
    rcases hv_cases c7 with e | ⟨d7, e7, a7, b7, g7⟩
    · simp [numL, e, e1, e2, e3, e4, e5, e6] at h
    rcases hv_cases c8 with e | ⟨d8, e8, a8, b8, g8⟩
    · simp [numL, e, e1, e2, e3, e4, e5, e6, e7] at h
    simp only [numL, e1, e2, e3, e4, e5, e6, e7, e8, Option.some.injEq] at h
    have hv' : v = d1 * 268435456 + d2 * 16777216 + d3 * 1048576 + d4 * 65536 + d5 * 4096 + d6 * 256 + d7 * 16 + d8 := by omega
    clear h
    refine ⟨by omega, by omega, ?_⟩
    have q1 : v / 16 ^ 7 % 16 = d1 := by omega
    have q2 : v / 16 ^ 6 % 16 = d2 := by omega
    have q3 : v / 16 ^ 5 % 16 = d3 := by omega
    have q4 : v / 16 ^ 4 % 16 = d4 := by omega
    have q5 : v / 16 ^ 3 % 16 = d5 := by omega
    have q6 : v / 16 ^ 2 % 16 = d6 := by omega
    have q7 : v / 16 ^ 1 % 16 = d7 := by omega
    have q8 : v / 16 ^ 0 % 16 = d8 := by omega
    simp only [hexN, q1, q2, q3, q4, q5, q6, q7, q8, g1, g2, g3, g4, g5, g6, g7, g8]
def byteW (w : List Int) : Option Int := if w.length = 2 then numL 0 w else none
def bytesW : List (List Int) → Option (List Int)
  | [] => some []
  | w :: ws => match byteW w, bytesW ws with
    | some b, some r => some (b :: r)
    | _, _ => none
/-- The place and the bytes of a line. -/
def rowL (p : List Int) : Option (Int × List Int) := match splitL 32 p with
  | [] => none
  | w0 :: ws => if ws = [] then none else if w0.length ≠ 8 then none else match numL 0 w0, bytesW ws with
    | some a, some bs => if bs.length ≤ 16 then some (a, bs) else none
    | _, _ => none
theorem row_part {w : List Int} (ho : Oct w) (hl : w.length < 1000000) {out : List Int} (hout : out.length < 1000000) : dump_row_l2 (bstr w) out (match byteW w with | some b => .inl (out ++ [b]) | none => .inr out) := by
  refine ⟨_, number_ok ho hl 2, ?_⟩
  unfold byteW numR
  cases h : numL 0 w with
  | none =>
    simp only
    rw [if_pos (show (!false) = true from rfl)]
    split <;> simp_all
  | some v =>
    simp only
    by_cases h2 : w.length = 2
    · obtain ⟨h3, h4, -⟩ := num2_back h2 h
      rw [if_pos h2, if_neg (by rw [h2]; decide), show IntKind.u8.wrap v = v by rw [w_u8]; omega]
      simp only [List.length_cons, List.length_nil]
      exact ⟨by omega, by omega, trivial⟩
    · rw [if_neg h2, if_pos (by rw [decide_eq_false (by omega)]; rfl)]
theorem row_run2 : ∀ (ws : List (List Int)) (out : List Int), (∀ w ∈ ws, Oct w ∧ w.length < 1000000) → out.length + ws.length < 1000000 → ∃ t, RunB dump_row_l2 (ws.map bstr) out t ∧ (match bytesW ws with | some r => t = .inl (out ++ r) | none => ∃ x, t = .inr x)
  | [], out, _, _ => ⟨_, .nil, by simp [bytesW]⟩
  | w :: ws, out, h, hl => by
    simp only [List.length_cons] at hl
    have h1 := row_part (h w List.mem_cons_self).1 (h w List.mem_cons_self).2 (out := out) (by omega)
    cases hb : byteW w with
    | none =>
      rw [hb] at h1
      exact ⟨_, .stop h1, by simp [bytesW, hb]⟩
    | some b =>
      rw [hb] at h1
      obtain ⟨t, h2, h3⟩ := row_run2 ws (out ++ [b]) (fun v hv => h v (List.mem_cons_of_mem _ hv)) (by simp; omega)
      refine ⟨t, .go h1 h2, ?_⟩
      simp only [bytesW, hb]
      cases hr : bytesW ws with
      | none => rw [hr] at h3; exact h3
      | some r => rw [hr] at h3; simpa using h3
theorem splitL_sub {c : Int} : ∀ {l : List Int}, ∀ w ∈ splitL c l, w.length ≤ l.length ∧ (∀ x ∈ w, x ∈ l)
  | [], w, h => by simp [splitL] at h; subst h; simp
  | x :: l, w, h => by
    unfold splitL at h
    split at h
    · rcases List.mem_cons.1 h with rfl | h
      · simp
      · have := splitL_sub (l := l) w h
        exact ⟨by simp; omega, fun y hy => List.mem_cons_of_mem _ (this.2 y hy)⟩
    · have hs := @splitL_sub c l
      cases hq : splitL c l with
      | nil => rw [hq] at h; simp [glue] at h; subst h; simp
      | cons p ps =>
        rw [hq] at h hs
        simp only [glue, List.mem_cons] at h
        rcases h with rfl | h
        · have := hs p List.mem_cons_self
          refine ⟨by simp; omega, fun y hy => ?_⟩
          simp only [List.cons_append, List.nil_append, List.mem_cons] at hy
          rcases hy with rfl | hy
          · exact List.mem_cons_self
          · exact List.mem_cons_of_mem _ (this.2 y hy)
        · have := hs w (List.mem_cons_of_mem _ h)
          exact ⟨by simp; omega, fun y hy => List.mem_cons_of_mem _ (this.2 y hy)⟩
theorem splitL_len (c : Int) : ∀ l : List Int, (splitL c l).length ≤ l.length + 1
  | [] => by simp [splitL]
  | x :: l => by
    have := splitL_len c l
    unfold splitL
    split
    · simp; omega
    · cases hq : splitL c l with
      | nil => simp [glue]
      | cons p ps => rw [hq] at this; simp [glue] at this ⊢; omega
theorem row_ok {p : List Int} (ho : Oct p) (hl : p.length < 100000) : ∃ r, dump_row (bstr p) r ∧ (match rowL p with | some (a, bs) => r = (a, bs, true) | none => r.2.2 = false) := by
  have h32 : (0 : Int) ≤ 32 ∧ (32 : Int) < 256 := by decide
  rcases first_at 32 p with h | ⟨w0, q, rfl, h⟩
  · refine ⟨(0, [], false), ⟨_, scut_no h32 ho h, _, number_ok ho (by omega) 8, ?_⟩, ?_⟩
    · have hb : dump_row_j1 (bstr p, bstr [], false) (numR p 8) true (0, [], false) := by unfold dump_row_j1; rw [if_pos rfl]
      by_cases hn : (numR p 8).2 = true
      · rw [if_neg (by rw [hn]; decide)]; simpa using hb
      · rw [if_pos (by simpa using hn)]; exact hb
    · rw [rowL, splitL_no h]; simp
  · have ho2 := oct_ap2 ho
    have hoq : Oct q := oct_tl2 ho2.2
    simp only [List.length_append, List.length_cons] at hl
    have hcut := scut_at h32 (p := w0) (q := q) (by simp only [List.length_append, List.length_cons]; omega) ho h
    have hnum := number_ok ho2.1 (by omega) 8
    have hrow : rowL (w0 ++ 32 :: q) = if w0.length ≠ 8 then none else match numL 0 w0, bytesW (splitL 32 q) with | some a, some bs => if bs.length ≤ 16 then some (a, bs) else none | _, _ => none := by
      rw [rowL, splitL_at h]; simp only; rw [if_neg (splitL_ne _ _)]
    have hbad : dump_row_j1 (bstr w0, bstr q, true) (numR w0 8) true (0, [], false) := by unfold dump_row_j1; rw [if_pos rfl]
    by_cases hn : (numR w0 8).2 = true
    · obtain ⟨a, ha, h8⟩ : ∃ a, numL 0 w0 = some a ∧ w0.length = 8 := by
        unfold numR at hn
        cases h9 : numL 0 w0 with
        | none => rw [h9] at hn; simp at hn
        | some a => rw [h9] at hn; simp only [decide_eq_true_eq] at hn; exact ⟨a, rfl, by omega⟩
      have hnr : numR w0 8 = (a, true) := by rw [numR, ha]; simp only; rw [h8]; rfl
      rw [hnr] at hnum hbad
      by_cases hq : q = []
      · subst hq
        refine ⟨(0, [], false), ⟨_, hcut, _, hnum, ?_⟩, ?_⟩
        · rw [if_neg (show ¬ ((!true) = true) by decide)]; simpa using hbad
        · rw [hrow]; simp [splitL, bytesW, byteW]
      · have hql : (splitL 32 q).length ≤ q.length + 1 := splitL_len _ _
        obtain ⟨t, h1, h2⟩ := row_run2 (splitL 32 q) [] (fun w hw => ⟨fun x hx => hoq x ((splitL_sub w hw).2 x hx), by have := (splitL_sub w hw).1; omega⟩) (by simp; omega)
        obtain ⟨rest, h3⟩ := split_itr h32 (by omega) hoq (run_yof h1)
        rw [hrow, if_neg (by omega), ha]
        have hne : ¬ (bstr q = bstr []) := fun e => hq (bs_inj hoq (fun x hx => nomatch hx) e)
        have mk : ∀ r, Aft (fun p48 : List Int => r = ((a : Int), p48, decide ((p48.length : Int) ≤ 16))) (fun _ => r = (0, [], false)) t → dump_row (bstr (w0 ++ 32 :: q)) r := by
          intro r hr
          refine ⟨_, hcut, _, hnum, ?_⟩
          rw [if_neg (show ¬ ((!true) = true) by decide)]
          simp only
          rw [decide_eq_false hne]
          unfold dump_row_j1
          rw [if_neg (by decide)]
          exact ⟨_, splitSeq_ok q 32, t, rest, h3, hr⟩
        cases hb : bytesW (splitL 32 q) with
        | none =>
          rw [hb] at h2
          obtain ⟨x, rfl⟩ := h2
          exact ⟨_, mk (0, [], false) rfl, rfl⟩
        | some bs =>
          rw [hb] at h2
          simp only at h2
          subst h2
          refine ⟨_, mk (a, bs, decide ((bs.length : Int) ≤ 16)) (by show _ = _; simp), ?_⟩
          simp only
          by_cases h16 : bs.length ≤ 16
          · rw [if_pos h16, decide_eq_true (by omega)]
          · rw [if_neg h16]; simp only; exact decide_eq_false (by omega)
    · refine ⟨(0, [], false), ⟨_, hcut, _, hnum, ?_⟩, ?_⟩
      · rw [if_pos (by simpa using hn)]; exact hbad
      · rw [hrow]
        by_cases h8 : w0.length = 8
        · rw [if_neg (by omega)]
          cases h9 : numL 0 w0 with
          | none => rfl
          | some a => exact absurd (by unfold numR; rw [h9]; simp only; rw [h8]; rfl) hn
        · rw [if_pos h8]
/-- The bytes that a dump's lines tell; the error. -/
def parseP : List Int → List (List Int) → List Int × Int
  | out, [] => (out, 0)
  | out, [p] => if p = [] then (out, 0) else ([], 4)
  | out, p :: q :: ps => match rowL p with
    | none => ([], 3)
    | some (a, bs) => if out.length % 16 ≠ 0 then ([], 3) else if a ≠ (out.length : Int) then ([], 5) else parseP (out ++ bs) (q :: ps)
theorem rowL_len {p : List Int} {a : Int} {bs : List Int} (h : rowL p = some (a, bs)) : bs.length ≤ 16 := by
  unfold rowL at h
  split at h
  · cases h
  · split at h
    · cases h
    · split at h
      · cases h
      · split at h
        · split at h
          · cases h; assumption
          · cases h
        · cases h
theorem parse_run : ∀ (ps : List (List Int)) (out : List Int), (∀ p ∈ ps, Oct p ∧ p.length < 100000 ∧ 10 ∉ p) → out.length + 16 * ps.length < 1000000 → ∃ t, RunB dump_Parse_l1 ((lnP ps).map bstr) out t ∧ (match t with | .inl o => parseP out ps = (o, 0) | .inr e => parseP out ps = ([], e.1))
  | [], out, _, _ => ⟨_, .nil, rfl⟩
  | [p], out, h, hl => by
    obtain ⟨h1, h2, h3⟩ := h p List.mem_cons_self
    by_cases h0 : p = []
    · subst h0; exact ⟨_, .nil, rfl⟩
    · refine ⟨.inr (4, out), ?_, by simp [parseP, h0]⟩
      rw [show lnP [p] = [p] by simp [lnP, h0]]
      refine .stop ⟨_, end_no (by omega) h1 h3, ?_⟩
      rw [if_pos (show (!false) = true from rfl)]
  | p :: q :: ps, out, h, hl => by
    obtain ⟨h1, h2, h3⟩ := h p List.mem_cons_self
    simp only [List.length_cons] at hl
    obtain ⟨r, hr1, hr2⟩ := row_ok h1 h2
    have hm : ((out.length : Int).tmod 16) = ((out.length % 16 : Nat) : Int) := by rw [Int.tmod_eq_emod_of_nonneg (by omega)]; rfl
    have hw : IntKind.u32.wrap (out.length : Int) = (out.length : Int) := w32_small (by omega) (by omega)
    have first : ∀ o, (if (!r.2.2) = true then dump_Parse_j2 out r true o else dump_Parse_j2 out r (!(decide (((out.length : Int).tmod 16) = 0))) o) → dump_Parse_l1 (bstr (p ++ [10])) out o := by
      intro o ho
      refine ⟨_, end_yes (by omega), ?_⟩
      rw [if_neg (show ¬ ((!true) = true) by decide)]
      exact ⟨r, hr1, ho⟩
    have j2t : dump_Parse_j2 out r true (.inr (3, out)) := by unfold dump_Parse_j2; rw [if_pos rfl]
    have hln : lnP (p :: q :: ps) = (p ++ [10]) :: lnP (q :: ps) := rfl
    rw [hln, List.map_cons]
    cases hrow : rowL p with
    | none =>
      rw [hrow] at hr2
      simp only at hr2
      refine ⟨.inr (3, out), .stop (first _ ?_), by simp [parseP, hrow]⟩
      rw [if_pos (by rw [hr2]; rfl)]; exact j2t
    | some ab =>
      obtain ⟨a, bs⟩ := ab
      rw [hrow] at hr2
      simp only at hr2
      subst hr2
      have hbl := rowL_len hrow
      by_cases h16 : out.length % 16 = 0
      · have hj : ¬ (!(decide (((out.length : Int).tmod 16) = 0))) = true := by rw [hm, h16]; decide
        have hj' : (!(decide (((out.length : Int).tmod 16) = 0))) = false := by rw [hm, h16]; decide
        by_cases ha : a = (out.length : Int)
        · obtain ⟨t, h4, h5⟩ := parse_run (q :: ps) (out ++ bs) (fun v hv => h v (List.mem_cons_of_mem _ hv)) (by simp only [List.length_append, List.length_cons]; omega)
          refine ⟨t, .go (first _ ?_) h4, ?_⟩
          · rw [if_neg (show ¬ ((!true) = true) by decide), hj']
            unfold dump_Parse_j2
            rw [if_neg (by decide), if_neg (by simp [hw, ha])]
            exact ⟨by simp only; omega, by simp only; omega, rfl⟩
          · have e : parseP out (p :: q :: ps) = parseP (out ++ bs) (q :: ps) := by
              rw [parseP, hrow]; simp only; rw [if_neg (by omega), if_neg (by simpa using ha)]
            rw [e]; exact h5
        · refine ⟨.inr (5, out), .stop (first _ ?_), by simp [parseP, hrow, h16, ha]⟩
          rw [if_neg (show ¬ ((!true) = true) by decide), hj']
          unfold dump_Parse_j2
          rw [if_neg (by decide), if_pos (by simp [hw, ha])]
      · refine ⟨.inr (3, out), .stop (first _ ?_), by simp [parseP, hrow, h16]⟩
        rw [if_neg (show ¬ ((!true) = true) by decide)]
        have : (!(decide (((out.length : Int).tmod 16) = 0))) = true := by rw [hm, decide_eq_false (by omega)]; rfl
        rw [this]; exact j2t
theorem splitL_no_mem (c : Int) : ∀ (l : List Int), ∀ w ∈ splitL c l, c ∉ w
  | [], w, h => by simp [splitL] at h; subst h; simp
  | x :: l, w, h => by
    have ih := splitL_no_mem c l
    unfold splitL at h
    split at h
    · rcases List.mem_cons.1 h with rfl | h
      · simp
      · exact ih w h
    · rename_i hx
      cases hq : splitL c l with
      | nil => rw [hq] at h; simp [glue] at h; subst h; simpa using fun e => hx e.symm
      | cons p ps =>
        rw [hq] at h ih
        simp only [glue, List.mem_cons] at h
        rcases h with rfl | h
        · have := ih p List.mem_cons_self
          simp only [List.cons_append, List.nil_append, List.mem_cons, not_or]
          exact ⟨fun e => hx e.symm, this⟩
        · exact ih w (List.mem_cons_of_mem _ h)
def parseB (l : List Int) : List Int × Int := parseP [] (splitL 10 l)
theorem parts_ok {l : List Int} (hl : l.length < 50000) (ho : Oct l) : ∀ p ∈ splitL 10 l, Oct p ∧ p.length < 100000 ∧ 10 ∉ p := fun p hp =>
  ⟨fun x hx => ho x ((splitL_sub p hp).2 x hx), by have := (splitL_sub p hp).1; omega, splitL_no_mem 10 l p hp⟩
theorem parse_ok {l : List Int} (hl : l.length < 50000) (ho : Oct l) : dump_Parse (bstr l) (parseB l) := by
  have hn := splitL_len 10 l
  obtain ⟨t, h1, h2⟩ := parse_run (splitL 10 l) [] (parts_ok hl ho) (by simp; omega)
  obtain ⟨rest, h3⟩ := lines_itr (by omega) ho (run_yof h1)
  refine ⟨_, lines_ok l, t, rest, h3, ?_⟩
  unfold parseB
  cases t with
  | inl o => show _ = _; exact h2
  | inr e => show _ = _; exact h2
end Go.Rel
/-! Plain laws: a number is read; the words of a text. -/
namespace Go.Rel
open Go Go.Eng Go.Pl
def digS : List Int := [48, 49, 50, 51, 52, 53, 54, 55, 56, 57]
theorem ascii_ok : ∃ as, strings_makeASCIISet (bstr digS) (as, true) ∧ ∀ c : Int, 0 ≤ c → c < 256 → as.getD c.toNat false = decide (48 ≤ c ∧ c < 58) := by
  have hb : bints (bstr digS) = digS := bb_of (by unfold Oct digS; decide)
  have hs : (bstr digS).size = 10 := by rw [size_bstr]; rfl
  have key := loops_inv (step := strings_makeASCIISet_l2 (bstr digS)) (s := (0, List.replicate 256 false)) (fun k (s : Int × List Bool) => s.1 = (k : Int) ∧ ∀ c : Int, 0 ≤ c → c < 256 → s.2.getD c.toNat false = decide (48 ≤ c ∧ c < 48 + k)) (fun e => ∃ as, e = .inl as ∧ ∀ c : Int, 0 ≤ c → c < 256 → as.getD c.toNat false = decide (48 ≤ c ∧ c < 58)) 10 ⟨rfl, fun c h0 h1 => by
    rw [List.getD_eq_getElem?_getD, List.getElem?_replicate, if_pos (by omega)]
    symm; simp⟩ ?_ ?_
  · obtain ⟨e, h1, as, rfl, h2⟩ := key
    exact ⟨as, ⟨_, h1, rfl⟩, h2⟩
  · rintro k ⟨i, xs⟩ hk ⟨h1, h2⟩
    simp only at h1 h2
    subst h1
    left
    have hx : idx (bints (bstr digS)) (k : Int) (48 + k) := by
      rw [hb]
      refine ⟨by omega, ?_⟩
      rw [Int.toNat_natCast]
      have : k = 0 ∨ k = 1 ∨ k = 2 ∨ k = 3 ∨ k = 4 ∨ k = 5 ∨ k = 6 ∨ k = 7 ∨ k = 8 ∨ k = 9 := by omega
      rcases this with rfl | rfl | rfl | rfl | rfl | rfl | rfl | rfl | rfl | rfl <;> rfl
    refine ⟨((k + 1 : Nat), putN 256 false xs (48 + (k : Int)).toNat true), ?_, rfl, ?_⟩
    · unfold strings_makeASCIISet_l2
      simp only
      rw [if_pos (by rw [hs, decide_eq_true_eq]; omega)]
      refine ⟨_, hx, ?_⟩
      rw [if_neg (by rw [decide_eq_true_eq]; omega)]
      refine ⟨by omega, by omega, ?_⟩
      rw [w_small (by omega) (by omega)]; rfl
    · intro c h0 h1
      rw [putN_getD (by omega), h2 c h0 h1]
      by_cases hc : c = 48 + (k : Int)
      · rw [if_pos (by omega)]; symm; rw [decide_eq_true_eq]; omega
      · rw [if_neg (by omega)]
        by_cases h : 48 ≤ c ∧ c < 48 + (k : Int)
        · rw [decide_eq_true h, decide_eq_true (by omega)]
        · rw [decide_eq_false h, decide_eq_false (by omega)]
  · rintro ⟨i, xs⟩ ⟨h1, h2⟩
    simp only at h1 h2
    subst h1
    refine ⟨.inl xs, ?_, xs, rfl, h2⟩
    unfold strings_makeASCIISet_l2
    rw [if_neg (by rw [hs, decide_eq_true_eq]; simp)]
theorem allDig_snoc {p : List Int} {c : Int} (hc : 48 ≤ c ∧ c < 58) : AllDig (p ++ [c]) ↔ AllDig p :=
  ⟨fun h x hx => h x (List.mem_append_left _ hx), fun h x hx => by
    rcases List.mem_append.1 hx with hx | hx
    · exact h x hx
    · rw [List.mem_singleton] at hx; subst hx; exact hc⟩
theorem allDig_cons {p : List Int} {c : Int} (hc : 48 ≤ c ∧ c < 58) : AllDig (c :: p) ↔ AllDig p :=
  ⟨fun h x hx => h x (List.mem_cons_of_mem _ hx), fun h x hx => by
    rcases List.mem_cons.1 hx with rfl | hx
    · exact hc
    · exact h x hx⟩
theorem trimR_ok {as : List Bool} (has : ∀ c : Int, 0 ≤ c → c < 256 → as.getD c.toNat false = decide (48 ≤ c ∧ c < 58)) : ∀ (n : Nat) (d : List Int), d.length ≤ n → n < 1000000000 → Oct d → ∃ m, Loops (strings_trimRightASCII_l2 as) (bstr d) (bstr m) ∧ Oct m ∧ m.length ≤ d.length ∧ (AllDig m ↔ AllDig d) ∧ (AllDig m → m = [])
  | n, d, hn, hb, ho => by
    have hsz : (bstr d).size = d.length := size_bstr _
    by_cases h0 : d = []
    · subst h0
      refine ⟨[], .done ?_, ho, by simp, Iff.rfl, fun _ => rfl⟩
      unfold strings_trimRightASCII_l2
      rw [if_neg (by simp [size_bstr])]
    · obtain ⟨p, c, rfl⟩ : ∃ p c, d = p ++ [c] := ⟨d.dropLast, d.getLast h0, (List.dropLast_concat_getLast h0).symm⟩
      have hc := ho c (by simp)
      have hl : (p ++ [c]).length = p.length + 1 := by simp
      have hw : IntKind.i64.wrap (((bstr (p ++ [c])).size : Int) - 1) = (p.length : Int) := by rw [hsz, hl, w_small (by omega) (by omega)]; omega
      have hx : idx (bints (bstr (p ++ [c]))) (p.length : Int) c := by rw [bb_of ho]; exact idx_at rfl (by simp)
      by_cases hd : 48 ≤ c ∧ c < 58
      · match n, hn with
        | 0, hn => omega
        | n + 1, hn =>
          obtain ⟨m, h1, h2, h3, h4, h5⟩ := trimR_ok has n p (by omega) (by omega) (fun x hx => ho x (List.mem_append_left _ hx))
          refine ⟨m, .next ?_ h1, h2, by omega, h4.trans (allDig_snoc hd).symm, h5⟩
          unfold strings_trimRightASCII_l2
          rw [if_pos (by rw [hsz, decide_eq_true_eq]; omega), hw]
          refine ⟨c, hx, true, ⟨hc.1, hc.2, by rw [has c hc.1 hc.2, decide_eq_true hd]⟩, ?_⟩
          rw [if_neg (by decide)]
          refine ⟨by omega, by omega, ?_⟩
          rw [ext_bstr, Int.toNat_natCast, List.take_left' rfl, List.drop_zero]
      · refine ⟨p ++ [c], .done ?_, ho, by omega, Iff.rfl, fun h => absurd (h c (by simp)) hd⟩
        unfold strings_trimRightASCII_l2
        rw [if_pos (by rw [hsz, decide_eq_true_eq]; omega), hw]
        refine ⟨c, hx, false, ⟨hc.1, hc.2, by rw [has c hc.1 hc.2, decide_eq_false hd]⟩, ?_⟩
        rw [if_pos (by decide)]
theorem trimL_ok {as : List Bool} (has : ∀ c : Int, 0 ≤ c → c < 256 → as.getD c.toNat false = decide (48 ≤ c ∧ c < 58)) : ∀ (d : List Int), d.length < 1000000000 → Oct d → ∃ m, Loops (strings_trimLeftASCII_l2 as) (bstr d) (bstr m) ∧ (AllDig m ↔ AllDig d) ∧ (AllDig m → m = [])
  | [], hb, ho => by
    refine ⟨[], .done ?_, Iff.rfl, fun _ => rfl⟩
    unfold strings_trimLeftASCII_l2
    rw [if_neg (by simp [size_bstr])]
  | c :: p, hb, ho => by
    have hsz : (bstr (c :: p)).size = p.length + 1 := size_bstr _
    have hc := ho c (by simp)
    have hx : idx (bints (bstr (c :: p))) 0 c := by rw [bb_of ho]; exact idx_at (k := 0) rfl (by simp)
    by_cases hd : 48 ≤ c ∧ c < 58
    · obtain ⟨m, h1, h2, h3⟩ := trimL_ok has p (by simp only [List.length_cons] at hb; omega) (fun x hx => ho x (List.mem_cons_of_mem _ hx))
      refine ⟨m, .next ?_ h1, h2.trans (allDig_cons hd).symm, h3⟩
      unfold strings_trimLeftASCII_l2
      rw [if_pos (by rw [hsz, decide_eq_true_eq]; omega)]
      refine ⟨c, hx, true, ⟨hc.1, hc.2, by rw [has c hc.1 hc.2, decide_eq_true hd]⟩, ?_⟩
      rw [if_neg (by decide)]
      refine ⟨by omega, ?_⟩
      rw [ext_bstr, hsz]
      congr 2
      rw [List.take_of_length_le (by simp)]; rfl
    · refine ⟨c :: p, .done ?_, Iff.rfl, fun h => absurd (h c (by simp)) hd⟩
      unfold strings_trimLeftASCII_l2
      rw [if_pos (by rw [hsz, decide_eq_true_eq]; omega)]
      refine ⟨c, hx, false, ⟨hc.1, hc.2, by rw [has c hc.1 hc.2, decide_eq_false hd]⟩, ?_⟩
      rw [if_pos (by decide)]
theorem bs_ne {l m : List Int} (h : l.length ≠ m.length) : ¬ bstr l = bstr m := fun e => h (by rw [← size_bstr l, e, size_bstr])
theorem bs_nil {l : List Int} : decide (bstr l = bstr []) = decide (l = []) := by
  by_cases h : l = []
  · subst h; simp
  · rw [decide_eq_false h, decide_eq_false (bs_ne (by simpa using h))]
theorem trim_ok {d : List Int} (hl : d.length < 1000000000) (ho : Oct d) : ∃ m, strings_Trim (bstr d) (bstr digS) (bstr m) ∧ (m = [] ↔ AllDig d) := by
  by_cases h0 : d = []
  · subst h0
    refine ⟨[], ?_, ⟨fun _ x hx => by simp at hx, fun _ => rfl⟩⟩
    unfold strings_Trim strings_Trim_j1
    rw [if_pos (by simp), if_pos rfl]
  · obtain ⟨as, ha, has⟩ := ascii_ok
    obtain ⟨m, h1, h2, h3, h4, h5⟩ := trimR_ok has d.length d (Nat.le_refl _) hl ho
    obtain ⟨m2, g1, g2, g3⟩ := trimL_ok has m (by omega) h2
    refine ⟨m2, ?_, ⟨fun e => h4.1 (g2.1 (by subst e; intro x hx; simp at hx)), fun h => g3 (g2.2 (h4.2 h))⟩⟩
    unfold strings_Trim strings_Trim_j1
    rw [if_neg (by rw [bs_nil]; simpa using h0), bs_nil, if_neg (by decide), if_neg (by rw [size_bstr]; decide)]
    unfold strings_Trim_j2
    rw [if_neg (by decide)]
    refine ⟨(as, true), ha, ?_⟩
    rw [if_pos rfl]
    exact ⟨_, ⟨_, h1, rfl⟩, _, ⟨_, g1, rfl⟩, rfl⟩
theorem trimPre_ok {l : List Int} (hl : l.length < 1000000000) (ho : Oct l) : strings_TrimPrefix (bstr l) (bstr [45]) (bstr (if l.head? = some 45 then l.tail else l)) := by
  have hsz : (bstr l).size = l.length := size_bstr _
  have h1 : (bstr [45]).size = 1 := by rw [size_bstr]; rfl
  refine ⟨_, ⟨decide (l.head? = some 45), ?_, ?_⟩, rfl⟩
  · unfold internal_stringslite_HasPrefix
    cases l with
    | nil => rw [if_neg (by rw [h1, hsz]; simp)]; rfl
    | cons c t =>
      rw [if_pos (by rw [h1, hsz, List.length_cons, decide_eq_true_eq]; omega)]
      refine ⟨by omega, by rw [h1, hsz, List.length_cons]; omega, ?_⟩
      show _ = _
      rw [h1, ext_bstr, List.drop_zero, show ((1 : Nat) : Int).toNat = 1 from rfl, List.take_succ_cons, List.take_zero]
      by_cases hc : c = 45
      · subst hc; simp
      · rw [decide_eq_false (by simpa using hc), decide_eq_false]
        intro e
        have := bs_inj (a := [c]) (b := [45]) (fun x hx => by rw [List.mem_singleton] at hx; subst hx; exact ho x (by simp)) (fun x hx => by rw [List.mem_singleton] at hx; subst hx; decide) e
        simp at this; exact hc this
  · by_cases h : l.head? = some 45
    · rw [decide_eq_true h, if_pos rfl, if_pos h]
      obtain ⟨t, rfl⟩ : ∃ t, l = 45 :: t := by cases l with | nil => simp at h | cons x l => simp at h; exact ⟨l, by rw [h]⟩
      refine ⟨by omega, by rw [h1, hsz]; simp; omega, ?_⟩
      rw [h1, hsz, ext_bstr, List.take_of_length_le (Nat.le_refl _)]; rfl
    · rw [decide_eq_false h, if_neg (by decide), if_neg h]
theorem sread_ok {l : List Int} (hl : l.length < 1000000000) (ho : Oct l) : say_Read (bstr l) (rdB l) := by
  have hpre := trimPre_ok hl ho
  have hd : (if l.head? = some 45 then l.tail else l).length ≤ l.length ∧ Oct (if l.head? = some 45 then l.tail else l) := by
    split
    · exact ⟨by simp, fun x hx => ho x (List.mem_of_mem_tail hx)⟩
    · exact ⟨Nat.le_refl _, ho⟩
  have hpi := @pi64_rd l
  unfold rdB at hpi ⊢
  simp only at hpi ⊢
  generalize hdd : (if l.head? = some 45 then l.tail else l) = d at hpre hd hpi ⊢
  refine ⟨pi64 (bints (bstr l)), ⟨rfl, rfl, by rw [size_bstr]; omega, rfl⟩, _, hpre, ?_⟩
  rw [bb_of ho, bs_nil]
  by_cases h0 : d = []
  · rw [if_pos (by simpa using h0), if_pos (.inl h0)]
    unfold say_Read_j1
    rw [if_pos rfl]
  rw [if_neg (by simpa using h0)]
  obtain ⟨m, hm, hma⟩ := trim_ok (d := d) (by omega) hd.2
  refine ⟨_, hm, ?_⟩
  rw [bs_nil]
  by_cases hall : AllDig d
  · rw [if_neg (by simp [hma.2 hall])]
    obtain ⟨c, t, rfl⟩ : ∃ c t, d = c :: t := by cases d with | nil => exact absurd rfl h0 | cons c t => exact ⟨_, _, rfl⟩
    refine ⟨c, by rw [bb_of hd.2]; exact idx_at (k := 0) rfl (by simp), ?_⟩
    have fin : ¬ (c :: t = [] ∨ ((c :: t).head? = some 48 ∧ l ≠ [48]) ∨ ¬ AllDig (c :: t)) → say_Read_j1 (pi64 l) false (if (c :: t) = [] ∨ ((c :: t).head? = some 48 ∧ l ≠ [48]) ∨ ¬ AllDig (c :: t) then ((0 : Int), (3 : Int)) else if l.head? = some 45 then (if dval 0 (c :: t) ≤ 9223372036854775808 then (-(dval 0 (c :: t) : Int), 0) else (0, 5)) else (if dval 0 (c :: t) ≤ 9223372036854775807 then ((dval 0 (c :: t) : Int), 0) else (0, 5))) := by
      intro hn
      have := hpi (by
        rw [if_neg hn]
        repeat' split
        all_goals simp)
      unfold say_Read_j1
      rw [if_neg (by decide)]
      rcases this with ⟨h1, h2⟩ | ⟨h1, h2⟩
      · rw [h1, if_neg (by decide), h2]
      · rw [h1, if_pos rfl, h2]
    by_cases hc : c = 48
    · subst hc
      rw [if_pos (by simp)]
      by_cases h48 : l = [48]
      · rw [decide_eq_true (by rw [h48])]
        exact fin (fun h => by rcases h with h | h | h; · simp at h
                               · exact h.2 h48
                               · exact h hall)
      · rw [decide_eq_false (fun e => h48 (bs_inj ho (fun x hx => by rw [List.mem_singleton] at hx; subst hx; decide) e)), if_pos (.inr (.inl ⟨rfl, h48⟩))]
        unfold say_Read_j1
        rw [if_pos (by decide)]
    · rw [if_neg (by simpa using hc)]
      exact fin (fun h => by rcases h with h | h | h; · simp at h
                             · simp at h; exact hc h.1
                             · exact h hall)
  · rw [if_pos (by simpa using fun e => hall (hma.1 e)), if_pos (.inr (.inr hall))]
    unfold say_Read_j1
    rw [if_pos rfl]
/-! ### The document's -/
theorem rr6 {l : List Int} (hl : l.length < 1000000000) (ho : Oct l) : ∀ (d p : List Int), l = p ++ d → Loops (ref20_Read_l6 (bstr l)) (p.length : Int) (if AllDig d then .inl () else .inr (0, 3))
  | [], p, h => by
    rw [if_pos (show AllDig [] from fun x hx => by simp at hx)]
    refine .done ?_
    unfold ref20_Read_l6
    rw [if_neg (by rw [size_bstr, h]; simp)]
  | c :: d, p, h => by
    have hlen : l.length = p.length + d.length + 1 := by rw [h]; simp; omega
    have hx : idx (bints (bstr l)) (p.length : Int) c := by rw [bb_of ho, h]; exact idx_at rfl (by simp)
    have hw : IntKind.i64.wrap ((p.length : Int) + 1) = ((p ++ [c]).length : Int) := by rw [w_small (by omega) (by omega)]; simp
    by_cases hc : 48 ≤ c ∧ c < 58
    · have ih := rr6 hl ho d (p ++ [c]) (by rw [h]; simp)
      rw [show (if AllDig (c :: d) then (Sum.inl () : Sum Unit (Int × Int)) else .inr (0, 3)) = if AllDig d then .inl () else .inr (0, 3) by
        by_cases h : AllDig d
        · rw [if_pos h, if_pos ((allDig_cons hc).2 h)]
        · rw [if_neg h, if_neg (fun hq => h ((allDig_cons hc).1 hq))]]
      refine .next ?_ ih
      unfold ref20_Read_l6
      rw [if_pos (by rw [size_bstr, decide_eq_true_eq]; omega)]
      refine ⟨c, hx, ?_⟩
      rw [if_neg (by rw [decide_eq_true_eq]; omega)]
      refine ⟨c, hx, ?_⟩
      unfold ref20_Read_j7
      rw [if_neg (by rw [decide_eq_true_eq]; omega), hw]
    · rw [if_neg (fun hq => hc (hq c (by simp)))]
      refine .done ?_
      unfold ref20_Read_l6
      rw [if_pos (by rw [size_bstr, decide_eq_true_eq]; omega)]
      refine ⟨c, hx, ?_⟩
      by_cases h48 : c < 48
      · rw [if_pos (by simpa using h48)]; unfold ref20_Read_j7; rw [if_pos rfl]
      · rw [if_neg (by simpa using h48)]
        refine ⟨c, hx, ?_⟩
        unfold ref20_Read_j7
        rw [if_pos (by rw [decide_eq_true_eq]; omega)]
theorem rr5 {l : List Int} (hl : l.length < 1000000000) (ho : Oct l) : ∀ (d p : List Int) (v : Nat), l = p ++ d → AllDig d → v ≤ 9223372036854775808 → Loops (ref20_Read_l5 (bstr l)) (-(v : Int), (p.length : Int)) (if dval v d ≤ 9223372036854775808 then .inl (-(dval v d : Int)) else .inr (0, 5))
  | [], p, v, h, hd, hv => by
    rw [if_pos (show dval v [] ≤ _ from hv)]
    refine .done ?_
    unfold ref20_Read_l5
    rw [if_neg (by rw [size_bstr, h]; simp)]
    rfl
  | c :: d, p, v, h, hd, hv => by
    have hlen : l.length = p.length + d.length + 1 := by rw [h]; simp; omega
    have hx : idx (bints (bstr l)) (p.length : Int) c := by rw [bb_of ho, h]; exact idx_at rfl (by simp)
    have hw : IntKind.i64.wrap ((p.length : Int) + 1) = ((p ++ [c]).length : Int) := by rw [w_small (by omega) (by omega)]; simp
    have hc := hd c (by simp)
    have e1 : IntKind.i64.wrap (IntKind.i64.wrap c - 48) = c - 48 := by rw [w_small (n := c) (by omega) (by omega), w_small (by omega) (by omega)]
    have e2 : IntKind.i64.wrap ((IntKind.i64.wrap ((-9223372036854775808) + (c - 48))).tdiv 10) = -((9223372036854775808 - (c - 48)) / 10) := by
      rw [w_small (n := (-9223372036854775808) + (c - 48)) (by omega) (by omega), show (-9223372036854775808 : Int) + (c - 48) = -(9223372036854775808 - (c - 48)) by omega, Int.neg_tdiv, Int.tdiv_eq_ediv_of_nonneg (by omega), w_small (by omega) (by omega)]
    rw [dval_cons]
    by_cases hov : 10 * v + (c - 48).toNat ≤ 9223372036854775808
    · have ih := rr5 hl ho d (p ++ [c]) (10 * v + (c - 48).toNat) (by rw [h]; simp) (fun x hx => hd x (List.mem_cons_of_mem _ hx)) hov
      refine .next ?_ ih
      unfold ref20_Read_l5
      simp only
      rw [if_pos (by rw [size_bstr, decide_eq_true_eq]; omega)]
      refine ⟨c, hx, ?_⟩
      rw [e1, e2, if_neg (by rw [decide_eq_true_eq]; omega), hw, w_small (n := 10 * -(v : Int)) (by omega) (by omega), w_small (by omega) (by omega)]
      congr 2; omega
    · have hge := dval_ge d (10 * v + (c - 48).toNat)
      rw [if_neg (by omega)]
      refine .done ?_
      unfold ref20_Read_l5
      simp only
      rw [if_pos (by rw [size_bstr, decide_eq_true_eq]; omega)]
      refine ⟨c, hx, ?_⟩
      rw [e1, e2, if_pos (by rw [decide_eq_true_eq]; omega)]
      try trivial
theorem rr_j1 {l p d : List Int} (hl : l.length < 1000000000) (ho : Oct l) (h : l = p ++ d) (hp : p = [] ∨ p = [45]) (s1 : Int) (hs1 : s1 = (p.length : Int)) : ref20_Read_j1 (bstr l) s1 (if d = [] ∨ (d.head? = some 48 ∧ l ≠ [48]) ∨ ¬ AllDig d then (0, 3) else if s1 = 1 then (if dval 0 d ≤ 9223372036854775808 then (-(dval 0 d : Int), 0) else (0, 5)) else (if dval 0 d ≤ 9223372036854775807 then ((dval 0 d : Int), 0) else (0, 5))) := by
  subst hs1
  unfold ref20_Read_j1
  have hlen : l.length = p.length + d.length := by rw [h]; simp
  by_cases h0 : d = []
  · rw [if_pos (show d = [] ∨ _ ∨ _ from .inl h0), if_pos (by rw [size_bstr, decide_eq_true_eq, hlen, h0]; simp)]
    unfold ref20_Read_j2
    rw [if_pos rfl]
  · have hdp := List.length_pos_iff.2 h0
    rw [if_neg (by rw [size_bstr, decide_eq_true_eq]; omega)]
    obtain ⟨c, t, rfl⟩ : ∃ c t, d = c :: t := by cases d with | nil => exact absurd rfl h0 | cons c t => exact ⟨_, _, rfl⟩
    refine ⟨c, by rw [bb_of ho, h]; exact idx_at rfl (by simp), ?_⟩
    have fin : ¬ ((c :: t).head? = some 48 ∧ l ≠ [48]) → ref20_Read_j2 (bstr l) (p.length : Int) false (if c :: t = [] ∨ ((c :: t).head? = some 48 ∧ l ≠ [48]) ∨ ¬ AllDig (c :: t) then (0, 3) else if (p.length : Int) = 1 then (if dval 0 (c :: t) ≤ 9223372036854775808 then (-(dval 0 (c :: t) : Int), 0) else (0, 5)) else (if dval 0 (c :: t) ≤ 9223372036854775807 then ((dval 0 (c :: t) : Int), 0) else (0, 5))) := by
      intro hn
      unfold ref20_Read_j2
      rw [if_neg (by decide)]
      have h6 := rr6 hl ho (c :: t) p h
      refine ⟨_, h6, ?_⟩
      by_cases hall : AllDig (c :: t)
      · rw [if_pos hall, if_neg (fun hq => hq.elim (by simp) (fun hq => hq.elim hn (fun h => h hall)))]
        show ref20_Read_j3 _ _ () _
        have h5 := rr5 hl ho (c :: t) p 0 h hall (by omega)
        rw [show -((0 : Nat) : Int) = 0 from rfl] at h5
        refine ⟨_, h5, ?_⟩
        by_cases hv : dval 0 (c :: t) ≤ 9223372036854775808
        · simp only [if_pos hv]
          show ref20_Read_j4 _ _ _
          unfold ref20_Read_j4
          by_cases h1 : (p.length : Int) = 1
          · rw [if_pos (by simpa using h1), if_pos h1]
          · rw [if_neg (by simpa using h1), if_neg h1]
            by_cases hv2 : dval 0 (c :: t) ≤ 9223372036854775807
            · rw [if_neg (by rw [decide_eq_true_eq]; omega), if_pos hv2, w_small (by omega) (by omega)]
              congr 1; omega
            · rw [if_pos (by rw [decide_eq_true_eq]; omega), if_neg hv2]
        · have hv2 : ¬ dval 0 (c :: t) ≤ 9223372036854775807 := by omega
          simp only [if_neg hv, if_neg hv2]
          show (if (p.length : Int) = 1 then ((0 : Int), (5 : Int)) else (0, 5)) = (0, 5)
          split <;> rfl
      · rw [if_neg hall, if_pos (.inr (.inr hall))]; rfl
    by_cases hc : c = 48
    · subst hc
      rw [if_pos (by simp)]
      by_cases h48 : l = [48]
      · rw [decide_eq_false (by rw [size_bstr, h48]; decide)]
        exact fin (fun h => h.2 h48)
      · have : decide ((1 : Int) < ((bstr l).size : Int)) = true := by
          rw [size_bstr, decide_eq_true_eq]
          rcases hp with rfl | rfl
          · cases t with
            | nil => exact absurd h h48
            | cons x t => rw [h]; simp; omega
          · rw [h]; simp; omega
        rw [this, if_pos (.inr (.inl ⟨rfl, h48⟩))]
        unfold ref20_Read_j2
        rw [if_pos rfl]
    · rw [if_neg (by simpa using hc)]
      exact fin (fun h => hc (by simpa using h.1))
theorem rread_ok {l : List Int} (hl : l.length < 1000000000) (ho : Oct l) : ref20_Read (bstr l) (rdB l) := by
  unfold ref20_Read rdB
  by_cases h45 : l.head? = some 45
  · obtain ⟨t, rfl⟩ : ∃ t, l = 45 :: t := by cases l with | nil => simp at h45 | cons x l => simp at h45; exact ⟨l, by rw [h45]⟩
    rw [if_pos (by rw [size_bstr]; simp)]
    refine ⟨45, by rw [bb_of ho]; exact idx_at (k := 0) rfl (by simp), ?_⟩
    unfold ref20_Read_j8
    rw [if_pos (by decide)]
    have := rr_j1 (p := [45]) (d := t) hl ho rfl (.inr rfl) 1 rfl
    simpa using this
  · have := rr_j1 (p := []) (d := l) hl ho rfl (.inl rfl) 0 rfl
    simp only [if_neg h45]
    rw [if_neg (show ¬ (0 : Int) = 1 by decide)] at this
    cases l with
    | nil =>
      rw [if_neg (by rw [size_bstr]; decide)]
      unfold ref20_Read_j8
      rw [if_neg (by decide)]; exact this
    | cons c t =>
      rw [if_pos (by rw [size_bstr]; simp)]
      refine ⟨c, by rw [bb_of ho]; exact idx_at (k := 0) rfl (by simp), ?_⟩
      unfold ref20_Read_j8
      rw [decide_eq_false (fun e => h45 (by simp [e])), if_neg (by decide)]; exact this
/-! ### Words -/
def wrdsP (a : Nat) : List (List Int) → List (Int × ByteArray)
  | [] => []
  | w :: ws => ((a : Int), bstr w) :: wrdsP (a + w.length + 1) ws
theorem wrdsP_len : ∀ (ws : List (List Int)) (a : Nat), (wrdsP a ws).length = ws.length
  | [], _ => rfl
  | w :: ws, a => by simp [wrdsP, wrdsP_len ws]
theorem words_run {S : Type} {Y : Int × ByteArray → S → Bool × S → Prop} {s' : S} : ∀ (ws : List (List Int)) (a : Nat) (s : S), a + (ws.map List.length).sum + ws.length < 1000000000 → Run Y (wrdsP a ws) s s' →
    ∃ t, RunB (say_Words_1_l1 S Y) (ws.map bstr) (s, (a : Int)) t ∧ ((∃ n, t = .inl (s', n)) ∨ ∃ n, t = .inr (s', n))
  | [], a, s, h, hr => by cases hr; exact ⟨_, .nil, .inl ⟨_, rfl⟩⟩
  | w :: ws, a, s, h, hr => by
    simp only [List.map_cons, List.sum_cons, List.length_cons] at h
    have hw : IntKind.i64.wrap ((a : Int) + IntKind.i64.wrap (((bstr w).size : Int) + 1)) = ((a + w.length + 1 : Nat) : Int) := by
      rw [size_bstr, w_small (n := (w.length : Int) + 1) (by omega) (by omega), w_small (by omega) (by omega)]; omega
    rw [wrdsP] at hr
    cases hr with
    | go h1 h2 =>
      obtain ⟨t, h3, h4⟩ := words_run ws (a + w.length + 1) _ (by omega) h2
      refine ⟨t, .go ?_ h3, h4⟩
      refine ⟨true, _, h1, ?_⟩
      rw [if_neg (by decide), hw]
    | stop h1 =>
      refine ⟨.inr (s', (a : Int)), .stop ⟨false, _, h1, by rw [if_pos (by decide)]⟩, .inr ⟨_, rfl⟩⟩
theorem splitL_tot {c : Int} : ∀ l : List Int, ((splitL c l).map List.length).sum + (splitL c l).length = l.length + 1
  | [] => by simp [splitL]
  | x :: l => by
    have ih := @splitL_tot c l
    have hne := splitL_ne c l
    rw [splitL]
    split
    · simp only [List.map_cons, List.sum_cons, List.length_cons, List.length_nil]; omega
    · cases hq : splitL c l with
      | nil => exact absurd hq hne
      | cons p ps => rw [hq] at ih; simp only [glue, List.map_cons, List.sum_cons, List.length_cons, List.length_append, List.length_nil] at ih ⊢; omega
theorem words_itr {l : List Int} (hl : l.length < 100000000) (ho : Oct l) : Itr (say_Words_1 (bstr l)) (wrdsP 0 (splitL 32 l)) := by
  intro S Y s s' h
  have htot := @splitL_tot 32 l
  obtain ⟨t, h1, h2⟩ := words_run (splitL 32 l) 0 s (by omega) h
  obtain ⟨rest, h3⟩ := split_itr (c := 32) (by decide) (by omega) ho (run_yof h1)
  refine ⟨_, splitSeq_ok l 32, t, rest, h3, ?_⟩
  rcases h2 with ⟨n, rfl⟩ | ⟨n, rfl⟩ <;> rfl
theorem words_ok (s : ByteArray) : say_Words s (say_Words_1 s) := rfl
end Go.Rel
/-! Plain laws: a loop that may end at any round. -/
namespace Go.Rel
open Go Go.Eng Go.Pl
theorem stop_runS {X : Type} {B : X → Int → Sum Int Int → Prop} {stop : Int} (hB : ∀ x s, 0 ≤ s → s < 1099511627776 → B x s (if s = stop then .inr s else .inl (s + 1))) : ∀ (xs : List X) (s : Int), 0 ≤ s → s + xs.length < 1099511627776 → ∃ t, RunB B xs s t ∧ (t = .inl (s + xs.length) ∨ t = .inr stop)
  | [], s, _, _ => ⟨_, .nil, .inl (by simp)⟩
  | x :: xs, s, h0, h1 => by
    simp only [List.length_cons] at h1
    have := hB x s h0 (by omega)
    by_cases h : s = stop
    · rw [if_pos h] at this; rw [h] at this ⊢; exact ⟨_, .stop this, .inr rfl⟩
    · rw [if_neg h] at this
      obtain ⟨t, h2, h3⟩ := stop_runS hB xs (s + 1) (by omega) (by omega)
      refine ⟨t, .go this h2, ?_⟩
      rcases h3 with h3 | h3
      · left; rw [h3]; simp only [List.length_cons]; congr 1; omega
      · exact .inr h3
/-! ### Segments, and where they stand -/
end Go.Rel
/-! Plain laws: the chapter's examples of lines. -/
namespace Go.Rel
open Go Go.Eng Go.Pl
theorem known20_ok : law20_known true := by
  have h1 : MgOk (2, [300, 2, 9, 0, 0, 0], [], [], bstr [], bstr []) := ⟨by decide, rfl, by decide, by decide, by decide, by decide, by decide, by decide, by decide⟩
  have h2 : MgOk (5, [1, 2, 3, 0, 1, 0], [], [], bstr [104, 105], bstr []) := ⟨by decide, rfl, by decide, by decide, by decide, by decide, by decide, by decide, by decide⟩
  refine ⟨_, sline_ok h1, _, sline_ok h2, ?_⟩
  rw [if_pos (by decide)]
  show true = _
  decide
end Go.Rel
/-! Plain law: digits, and words. -/
namespace Go.Rel
open Go Go.Eng Go.Pl
theorem sn_walk {L : List (List Int)} (hall : L.length < 1000000000) : ∀ (ws pre : List (List Int)) (a : Nat), L = pre ++ ws → a + (ws.map List.length).sum + ws.length < 1000000000 →
    RunB (law20_SayNumbers_l2 (L.map bstr)) (wrdsP a ws) ((pre.length : Int), (a : Int)) (.inl ((L.length : Int), ((a + (ws.map List.length).sum + ws.length : Nat) : Int)))
  | [], pre, a, h, hb => by
    rw [show L.length = pre.length by rw [h]; simp]
    exact .nil
  | w :: ws, pre, a, h, hb => by
    simp only [List.map_cons, List.sum_cons, List.length_cons] at hb
    have hlen : L.length = pre.length + ws.length + 1 := by rw [h]; simp; omega
    have ih := sn_walk hall ws (pre ++ [w]) (a + w.length + 1) (by rw [h]; simp) (by omega)
    rw [show (pre ++ [w]).length = pre.length + 1 by simp] at ih
    rw [show a + w.length + 1 + (ws.map List.length).sum + ws.length = a + ((w :: ws).map List.length).sum + (w :: ws).length by simp only [List.map_cons, List.sum_cons, List.length_cons]; omega] at ih
    rw [wrdsP]
    refine .go (s1 := (((pre.length + 1 : Nat) : Int), ((a + w.length + 1 : Nat) : Int))) ?_ ih
    unfold law20_SayNumbers_l2
    simp only
    rw [if_neg (by rw [List.length_map, decide_eq_true_eq]; omega)]
    refine ⟨bstr w, idx_at rfl (by rw [h]; simp), ?_⟩
    rw [if_neg (by simp)]
    unfold law20_SayNumbers_j3
    rw [if_neg (by simp)]
    simp only
    rw [size_bstr, w_small (n := (pre.length : Int) + 1) (by omega) (by omega), w_small (n := (a : Int) + (w.length : Int)) (by omega) (by omega), w_small (by omega) (by omega)]
    rfl
theorem sayNumbers_true {n : Int} {s : ByteArray} {stop : Int} (hn : IntOk .i64 n) : law20_SayNumbers n s stop true := by
  have h200 := ext_min s 200
  rw [show ((200 : Nat) : Int) = 200 from rfl] at h200
  have hsz := ext_size s 200
  unfold law20_SayNumbers
  rw [h200]
  refine ⟨by omega, by omega, ?_⟩
  have hj1 : law20_SayNumbers_j1 s stop false true := by
    unfold law20_SayNumbers_j1
    rw [if_neg (by decide), h200]
    generalize s.extract 0 200 = t at hsz
    obtain ⟨l, rfl, ho⟩ : ∃ l, t = bstr l ∧ Oct l := ⟨bints t, (bstr_bints t).symm, bints_byt t⟩
    rw [size_bstr] at hsz
    have htot := @splitL_tot 32 l
    have hw := sn_walk (L := splitL 32 l) (by omega) (splitL 32 l) [] 0 rfl (by omega)
    obtain ⟨t2, r2, h2⟩ := stop_runS (B := law20_SayNumbers_l6 stop) (stop := stop) (fun x s h0 h1 => by
      unfold law20_SayNumbers_l6
      by_cases h : s = stop
      · rw [if_pos (by simpa using h), if_pos h]
      · rw [if_neg (by simpa using h), if_neg h, w_small (by omega) (by omega)]) (wrdsP 0 (splitL 32 l)) 0 (by omega) (by rw [wrdsP_len]; omega)
    have hitr := words_itr (l := l) (by omega) ho
    refine ⟨_, rsplit_ok (c := 32) (by omega) ho, _, words_ok _, _, (), hitr _ _ _ _ (run_yof hw), _, words_ok _, t2, (), hitr _ _ _ _ (run_yof r2), ?_⟩
    have hj4 : ∀ k : Int, (k = ((splitL 32 l).length : Int) ∨ k = stop) → law20_SayNumbers_j4 stop ((splitL 32 l).map bstr) (((splitL 32 l).length : Int), ((0 + ((splitL 32 l).map List.length).sum + (splitL 32 l).length : Nat) : Int)) k true := by
      intro k hk
      refine ⟨true, known20_ok, ?_⟩
      rw [if_pos rfl, if_pos (by simp)]
      by_cases h : k = ((splitL 32 l).length : Int)
      · rw [if_pos (by simpa using h)]; rfl
      · rw [if_neg (by simpa using h), decide_eq_true (hk.resolve_left h)]; rfl
    rw [wrdsP_len] at h2
    rcases h2 with rfl | rfl
    · exact hj4 _ (.inl (by simp))
    · exact hj4 _ (.inr rfl)
  have hdl := decI_len hn
  have hdo : Oct (decI n) := fun x hx => by rcases decI_signs n x hx with h | h <;> omega
  have hr1 := sread_ok (l := decI n) (by omega) hdo
  rw [rdB_dec hn] at hr1
  refine ⟨_, snum_ok hn, _, hr1, ?_⟩
  generalize htq : s.extract 0 200 = t at hsz
  obtain ⟨l, hl, ho⟩ : ∃ l, t = bstr l ∧ Oct l := ⟨bints t, (bstr_bints t).symm, bints_byt t⟩
  subst hl
  rw [size_bstr] at hsz
  refine ⟨_, sread_ok (l := l) (by omega) ho, _, rread_ok (l := l) (by omega) ho, _, digits_ok hn, ?_⟩
  rw [if_neg (by simp), if_neg (by simp), if_neg (by simp), if_neg (by simp), if_neg (by simp)]
  by_cases h0 : (rdB l).2 = 0
  · rw [if_pos (by simpa using h0)]
    obtain ⟨h1, h2⟩ := rdB_back (l := l) (n := (rdB l).1) (by rw [← h0])
    refine ⟨_, snum_ok h2, ?_⟩
    rw [h1]
    simpa using hj1
  · rw [if_neg (by simpa using h0)]; exact hj1
theorem sayNumbers_claim {n : Int} {s : ByteArray} {stop : Int} (h0 : IntOk .i64 n) (_h1 : StrOk s) (_h2 : IntOk .i64 stop) : law20_SayNumbers n s stop true := sayNumbers_true h0
end Go.Rel
