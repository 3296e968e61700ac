import Derived.Test.YtgokdchgjpneoaaDoorPlFrameStream
import Derived.Test.YtgokdchgjpneoaaDoorPlHeadTells
/-! Plain law: whether any frames may be, and what they are on the wire. -/
namespace Go.Rel
open Go Go.Eng Go.Pl
/-! ### Bytes as strings, and back -/
theorem bints_bstr {l : List Int} (h : Byt l) : bints (bstr l) = l := by
  have key : ∀ (l : List Int) (r : ByteArray), Byt l → bints (l.foldl (fun r n => r.push (UInt8.ofNat n.toNat)) r) = bints r ++ l := by
    intro l
    induction l with
    | nil => intro r _; simp
    | cons x l ih =>
      intro r hx
      rw [List.foldl_cons, ih _ (fun y hy => hx y (List.mem_cons_of_mem _ hy))]
      have h0 := hx x List.mem_cons_self
      have : bints (r.push (UInt8.ofNat x.toNat)) = bints r ++ [x] := by
        simp only [bints, ByteArray.push, Array.toList_push, List.map_append, List.map_cons, List.map_nil]
        congr 2
        rw [UInt8.toNat_ofNat']
        omega
      rw [this, List.append_assoc]; rfl
  have := key l ByteArray.empty h
  simpa [bstr, bints] using this
theorem bstr_inj {a b : List Int} (ha : Byt a) (hb : Byt b) (h : bstr a = bstr b) : a = b := by
  rw [← bints_bstr ha, ← bints_bstr hb, h]
theorem beq_ok {a b : List Int} (ha : Byt a) (hb : Byt b) : bytes_Equal a b (decide (a = b)) := by
  show _ = _
  rw [decide_eq_decide]
  exact ⟨fun h => by rw [h], bstr_inj ha hb⟩
theorem fsame_ok (a b : Fm) (ha : Byt a.2) (hb : Byt b.2) : frame_Same a b (decide (a = b)) := by
  unfold frame_Same
  obtain ⟨⟨v, k, q, i, n⟩, x⟩ := a
  obtain ⟨⟨v', k', q', i', n'⟩, y⟩ := b
  simp only at ha hb ⊢
  by_cases h : v = v' ∧ k = k' ∧ q = q' ∧ i = i' ∧ n = n'
  · obtain ⟨rfl, rfl, rfl, rfl, rfl⟩ := h
    rw [if_pos (by simp)]
    refine ⟨_, beq_ok ha hb, ?_⟩
    show _ = _
    rw [decide_eq_decide]; simp
  · rw [if_neg (by simpa using h)]
    show _ = _
    rw [decide_eq_false_iff_not]
    intro e; cases e; exact h ⟨rfl, rfl, rfl, rfl, rfl⟩
theorem rfcheck_ok (f : Fm) : ref08_Check f (frameE f) := by
  refine ⟨_, rhcheck_ok f.1, ?_⟩
  by_cases h0 : headE f.1 = 0
  · rw [if_neg (by simpa using h0)]
    by_cases h1 : f.2.length = 0
    · have e : frameE f = 13 := by unfold frameE; rw [if_neg (by simpa using h0), if_pos h1]
      rw [e, if_pos (by simp only [decide_eq_true_eq]; omega)]
    · by_cases h2 : 242 < f.2.length
      · have e : frameE f = 2 := by unfold frameE; rw [if_neg (by simpa using h0), if_neg h1, if_pos h2]
        rw [e, if_neg (by simp only [decide_eq_true_eq]; omega), if_pos (by simp only [decide_eq_true_eq]; omega)]
      · have e : frameE f = 0 := by unfold frameE; rw [if_neg (by simpa using h0), if_neg h1, if_neg h2]
        rw [e, if_neg (by simp only [decide_eq_true_eq]; omega), if_neg (by simp only [decide_eq_true_eq]; omega)]
  · have e : frameE f = headE f.1 := by unfold frameE; rw [if_pos h0]
    rw [e, if_pos (by simpa using h0)]
    exact ⟨_, rhcheck_ok f.1, rfl⟩
/-- A frame's line. -/
def frameLn (f : Fm) : List Int := headLn f.1 ++ [32] ++ decI (f.2.length : Int)
theorem headLn_len {h : Hd} (ok : HdOk h) : (headLn h).length ≤ 200 := by
  obtain ⟨o1, o2, o3, o4, o5⟩ := ok
  have ⟨q0, q1⟩ := ok_u32 o3
  have o3i : IntOk .i64 h.2.2.1 := ⟨by show (-9223372036854775808 : Int) ≤ h.2.2.1; omega, by show h.2.2.1 ≤ 9223372036854775807; omega⟩
  have l1 := decI_len o1
  have l2 := decI_len o2
  have l3 := decI_len o3i
  have l4 := decI_len o4
  have l5 := decI_len o5
  simp only [headLn, List.length_append, List.length_cons, List.length_nil]; omega
theorem fline_ok {f : Fm} (ok : HdOk f.1) (hl : f.2.length < 1048576) : frame_Line f (bstr (frameLn f)) ∧ ref08_Line f (bstr (frameLn f)) := by
  have hh := headLn_len ok
  have ol : IntOk .i64 (f.2.length : Int) := ⟨by show (-9223372036854775808 : Int) ≤ _; omega, by show _ ≤ (9223372036854775807 : Int); omega⟩
  have l1 := decI_len ol
  have fin : ∀ a b : List Int, a.length + b.length < 1000 → (bstr a).size + (bstr b).size < 4611686018427387904 := by
    intro a b hab; rw [size_bstr, size_bstr]; omega
  constructor
  · refine ⟨_, (hline_ok ok).1, ?_, _, itoa_ok ol, ?_, ?_⟩
    all_goals (try simp only [← bstr_append])
    all_goals first | (refine fin _ _ ?_; simp only [List.length_append, List.length_cons, List.length_nil]; omega) | rfl
  · refine ⟨_, (hline_ok ok).2, ?_, _, digits_ok ol, ?_, ?_⟩
    all_goals (try simp only [← bstr_append])
    all_goals first | (refine fin _ _ ?_; simp only [List.length_append, List.length_cons, List.length_nil]; omega) | rfl
/-! ### Segments -/
theorem mem_join : ∀ (L : List (List Int)) (p : List Int) (c : Int), p ∈ L → c ∈ p → c ∈ joinB L
  | [q], p, c, hp, hc => by rw [List.mem_singleton] at hp; subst hp; exact hc
  | q :: r :: L, p, c, hp, hc => by
    rw [joinB]
    rcases List.mem_cons.1 hp with rfl | hp
    · exact List.mem_append_left _ (List.mem_append_left _ hc)
    · exact List.mem_append_right _ (mem_join (r :: L) p c hp hc)
theorem enc_mem {x : List Int} (hx : Byt x) : ∀ c ∈ encB x, c ≠ 0 ∧ 0 ≤ c ∧ c < 256 := by
  intro c hc
  obtain ⟨h1, h2, _⟩ := cb_ok (x.length + 1) x (by omega)
  simp only [encB, List.mem_flatten, List.mem_map] at hc
  obtain ⟨_, ⟨p, hp, rfl⟩, hc⟩ := hc
  obtain ⟨h3, h4⟩ := h1 p hp
  rcases List.mem_cons.1 hc with rfl | hc
  · omega
  · have := hx c (by rw [← h2]; exact mem_join _ p c hp hc)
    exact ⟨h3 c hc, this⟩
theorem block_byt {f : Fm} (h : frameE f = 0) (hq : 0 ≤ f.1.2.2.1 ∧ f.1.2.2.1 < 4294967296) (hb : Byt f.2) : Byt (blockB f) :=
  Byt.app (Byt.app (headB_byt (frameE_ok h).1 hq) hb) (sumB_byt _)
theorem unp_seg {f : Fm} (h : frameE f = 0) (hq : 0 ≤ f.1.2.2.1 ∧ f.1.2.2.1 < 4294967296) : unpB (segB f) = (f, 0) := by
  obtain ⟨h1, h2, h3⟩ := frameE_ok h
  have hl8 : (headB f.1).length = 8 := rfl
  have hs4 : ∀ w, (sumB w).length = 4 := fun w => rfl
  have hbl : (blockB f).length = f.2.length + 12 := by simp only [blockB, List.length_append, hl8, hs4]; omega
  have hd : decR (segB f) = (blockB f, 0) := by unfold decR segB; rw [dec_enc]
  have ho : openB (blockB f) = (headB f.1 ++ f.2, 0) := by
    have e : (blockB f).length - 4 = (headB f.1 ++ f.2).length := by rw [hbl, List.length_append, hl8]; omega
    unfold openB
    rw [if_neg (by omega), e]
    unfold blockB
    rw [List.take_left, List.drop_left, if_pos rfl]
  have hp : parseH (headB f.1) = (f.1, 0) := by unfold parseH; rw [hdOf_headB hq, if_pos h1]
  unfold unpB
  rw [segB_len h3, if_neg (by omega), hd, if_neg (by simp), if_neg (by simp only [hbl]; omega), ho, if_neg (by simp)]
  have e8 : (headB f.1 ++ f.2).take 8 = headB f.1 := by rw [← hl8, List.take_left]
  have d8 : (headB f.1 ++ f.2).drop 8 = f.2 := by rw [← hl8, List.drop_left]
  rw [e8, hp, if_neg (by simp), d8]
theorem segP_run : ∀ (s l now : List Int) (i : Nat), (∀ c ∈ s, c ≠ 0) → segP i now (s ++ l) = segP (i + s.length) (now ++ s) l
  | [], l, now, i, _ => by simp
  | c :: s, l, now, i, h => by
    rw [List.cons_append, segP, if_pos (h c List.mem_cons_self), segP_run s l (now ++ [c]) (i + 1) (fun x hx => h x (List.mem_cons_of_mem _ hx)), List.length_cons, List.append_assoc]
    congr 1; omega
theorem segP_wrap : ∀ (ss : List (List Int)) (i : Nat), (∀ s ∈ ss, s ≠ [] ∧ ∀ c ∈ s, c ≠ 0) → (segP i [] (wrapB ss)).map (·.2) = ss
  | [], i, _ => rfl
  | s :: ss, i, h => by
    obtain ⟨h1, h2⟩ := h s List.mem_cons_self
    have e : wrapB (s :: ss) = 0 :: (s ++ (0 :: wrapB ss)) := by simp [wrapB]
    rw [e, segP, if_neg (by simp), if_pos rfl, segP_run _ _ _ _ h2, List.nil_append, segP, if_neg (by simp), if_neg h1, List.map_cons, segP_wrap ss _ (fun x hx => h x (List.mem_cons_of_mem _ hx))]
theorem frames_wrap {l : List Fm} (h : ∀ f ∈ l, frameE f = 0 ∧ (0 ≤ f.1.2.2.1 ∧ f.1.2.2.1 < 4294967296) ∧ Byt f.2) : framesB (wrapB (l.map segB)) = l.map fun f => (f, 0) := by
  have hs : (segP 0 [] (wrapB (l.map segB))).map (·.2) = l.map segB := segP_wrap _ _ (fun s hs => by
    obtain ⟨f, hf, rfl⟩ := List.mem_map.1 hs
    obtain ⟨a, b, c⟩ := h f hf
    refine ⟨fun e => ?_, fun c hc => (enc_mem (block_byt a b ‹_›) c hc).1⟩
    have := segB_len (frameE_ok a).2.2
    rw [e] at this; simp at this)
  have : framesB (wrapB (l.map segB)) = ((segP 0 [] (wrapB (l.map segB))).map (·.2)).map unpB := by unfold framesB; rw [List.map_map]; rfl
  rw [this, hs, List.map_map]
  apply List.map_congr_left
  intro f hf
  exact unp_seg (h f hf).1 (h f hf).2.1
theorem wrap_byt {l : List Fm} (h : ∀ f ∈ l, frameE f = 0 ∧ (0 ≤ f.1.2.2.1 ∧ f.1.2.2.1 < 4294967296) ∧ Byt f.2) : Byt (wrapB (l.map segB)) := by
  intro c hc
  simp only [wrapB, List.mem_flatten, List.mem_map] at hc
  obtain ⟨_, ⟨_, ⟨f, hf, rfl⟩, rfl⟩, hc⟩ := hc
  obtain ⟨a, b, d⟩ := h f hf
  simp only [List.mem_append, List.mem_singleton] at hc
  rcases hc with (rfl | hc) | rfl
  · omega
  · exact (enc_mem (block_byt a b d) c hc).2
  · omega
theorem wrap_len : ∀ (l : List Fm), (∀ f ∈ l, frameE f = 0) → (wrapB (l.map segB)).length ≤ l.length * 257
  | [], _ => by simp [wrapB]
  | f :: l, h => by
    have ih := wrap_len l (fun g hg => h g (List.mem_cons_of_mem _ hg))
    have h3 := (frameE_ok (h f List.mem_cons_self)).2.2
    have hl := segB_len h3
    have e : wrapB ((f :: l).map segB) = [0] ++ segB f ++ [0] ++ wrapB (l.map segB) := by simp [wrapB]
    rw [e]
    simp only [List.length_append, List.length_cons, List.length_nil, hl]; omega
/-! ### The document's -/
theorem rsegment_ok {f : Fm} (h : frameE f = 0) (hq : 0 ≤ f.1.2.2.1 ∧ f.1.2.2.1 < 4294967296) (hb : Byt f.2) : ref08_Segment f (segB f) := by
  obtain ⟨h1, h2, h3⟩ := frameE_ok h
  have hby : Byt (headB f.1 ++ f.2) := Byt.app (headB_byt h1 hq) hb
  have hl8 : (headB f.1).length = 8 := rfl
  have hs4 : ∀ w, (sumB w).length = 4 := fun w => rfl
  refine ⟨_, rhbytes_ok h1 hq, by rw [hl8]; omega, by rw [hl8]; omega, by simp only [List.length_append, hl8, List.length_nil]; omega, by simp only [List.length_append, hl8, List.length_nil]; omega, _, rsum_ok hby (by rw [List.length_append, hl8]; omega), _, rbytes_ok _, by simp only [List.length_append, hl8, List.length_nil, hs4]; omega, by simp only [List.length_append, hl8, List.length_nil, hs4]; omega, _, rencode_ok (by simp only [List.length_append, hl8, List.length_nil, hs4]; omega), ?_⟩
  rw [List.nil_append]; rfl
theorem wrap_snoc (l : List (List Int)) (s : List Int) : wrapB (l ++ [s]) = wrapB l ++ [0] ++ s ++ [0] := by
  unfold wrapB; rw [List.map_append, List.flatten_append]; simp
theorem rwire_ok {l : List Fm} (hl : l.length ≤ 1000) (h : ∀ f ∈ l, frameE f = 0 ∧ (0 ≤ f.1.2.2.1 ∧ f.1.2.2.1 < 4294967296) ∧ Byt f.2) : ref08_Wire l (wrapB (l.map segB)) := by
  refine ⟨_, ?_, rfl⟩
  refine loops_count (step := ref08_Wire_l2 l) (fun k => (wrapB ((l.take k).map segB), (k : Int))) l.length (fun k hk => ?_) ?_
  · unfold ref08_Wire_l2
    simp only
    obtain ⟨a, b, c⟩ := h l[k] (List.getElem_mem _)
    have hw := wrap_len (l.take k) (fun f hf => (h f (List.mem_of_mem_take hf)).1)
    have hs := segB_len (frameE_ok a).2.2
    have h3 := (frameE_ok a).2.2
    rw [List.length_take] at hw
    rw [if_pos (by simp; omega)]
    refine ⟨by simp only [List.length_cons, List.length_nil]; omega, by simp only [List.length_cons, List.length_nil]; omega, l[k], idx_of hk, _, rsegment_ok a b c, by simp only [List.length_append, List.length_cons, List.length_nil]; omega, by simp only [List.length_append, List.length_cons, List.length_nil]; omega, by simp only [List.length_append, List.length_cons, List.length_nil]; omega, by simp only [List.length_append, List.length_cons, List.length_nil]; omega, ?_⟩
    rw [w_small (by omega) (by omega), take_map _ hk, wrap_snoc]; rfl
  · unfold ref08_Wire_l2
    simp only
    rw [if_neg (by simp), List.take_length]
/-! ### The law -/
def cutF (f : Fm) : Fm := (f.1, f.2.take 250)
theorem fcut_ok (f : Fm) : law08_Cut f (cutF f) := by
  refine ⟨by omega, by omega, ?_⟩
  have := take_min f.2 250
  rw [show ((250 : Nat) : Int) = 250 from rfl] at this
  rw [this]; rfl
/-- The first thing that is wrong with frames. -/
def wantB : List Fm → Int
  | [] => 0
  | f :: l => if frameE f = 0 then wantB l else frameE f
theorem want_snoc (l : List Fm) (f : Fm) : wantB (l ++ [f]) = if wantB l = 0 then frameE f else wantB l := by
  induction l with
  | nil => simp [wantB]; exact fun h => h.symm
  | cons g l ih =>
    simp only [List.cons_append, wantB, ih]
    by_cases h : frameE g = 0
    · simp [h]
    · simp [h]
theorem want_zero {l : List Fm} (h : wantB l = 0) : ∀ f ∈ l, frameE f = 0 := by
  induction l with
  | nil => intro f hf; cases hf
  | cons g l ih =>
    simp only [wantB] at h
    by_cases hg : frameE g = 0
    · rw [if_pos hg] at h
      intro f hf
      rcases List.mem_cons.1 hf with rfl | hf
      · exact hg
      · exact ih h f hf
    · rw [if_neg hg] at h; exact absurd h hg
theorem want_first {l : List Fm} (h : wantB l ≠ 0) : ∃ k, ∃ hk : k < l.length, wantB l = frameE l[k] ∧ frameE l[k] ≠ 0 ∧ ∀ j (hj : j < k), frameE (l[j]'(by omega)) = 0 := by
  induction l with
  | nil => exact absurd rfl h
  | cons g l ih =>
    by_cases hg : frameE g = 0
    · simp only [wantB, if_pos hg] at h ⊢
      obtain ⟨k, hk, h1, h2, h3⟩ := ih h
      refine ⟨k + 1, by simp; omega, by simpa using h1, by simpa using h2, fun j hj => ?_⟩
      cases j with
      | zero => simpa using hg
      | succ j => simpa using h3 j (by omega)
    · refine ⟨0, by simp, by simp [wantB, if_neg hg], by simpa using hg, fun j hj => by omega⟩
theorem framePacks_true {a : List Fm} (ok : ∀ f ∈ a, HdOk f.1 ∧ Byt f.2) (hal : a.length ≤ 9223372036854775807) : law08_FramePacks a true := by
  obtain ⟨t, ht1, ht2⟩ := fnew_ok
  refine ⟨t, ht1, ?_⟩
  have hL : ∃ L : List Fm, L = (a.take 10).map cutF := ⟨_, rfl⟩
  obtain ⟨L, hLe⟩ := hL
  have hLl : L.length = min 10 a.length := by rw [hLe, List.length_map, List.length_take]
  have hLok : ∀ f ∈ L, HdOk f.1 ∧ Byt f.2 ∧ f.2.length ≤ 250 := by
    intro f hf
    rw [hLe] at hf
    obtain ⟨g, hg, rfl⟩ := List.mem_map.1 hf
    obtain ⟨h1, h2⟩ := ok g (List.mem_of_mem_take hg)
    exact ⟨h1, h2.take _, by simp only [cutF, List.length_take]; omega⟩
  have hLk : ∀ k (hk : k < L.length), L[k] = cutF (a[k]'(by omega)) := by
    intro k hk
    simp only [hLe, List.getElem_map, List.getElem_take]
  refine ⟨.inl (L, wantB L, L), ?_, ?_⟩
  · refine loops_count (step := law08_FramePacks_l6 a t) (fun k => (L.take k, wantB (L.take k), (k : Int), L.take k)) L.length (fun k hk => ?_) ?_
    · unfold law08_FramePacks_l6
      simp only
      rw [if_pos (by simp; omega)]
      unfold law08_FramePacks_j7
      rw [if_pos (by simp; omega)]
      simp only
      have hka : k < a.length := by omega
      obtain ⟨o1, o2, o3⟩ := hLok L[k] (List.getElem_mem _)
      have hcut := fcut_ok a[k]
      rw [← hLk k hk] at hcut
      have htk : (L.take k).length = k := by rw [List.length_take]; omega
      have h0 : 0 < L.length := by omega
      have hsn : L.take k ++ [L[k]] = L.take (k + 1) := (List.take_succ_eq_append_getElem hk).symm
      have hid : idx (L.take k ++ [L[k]]) 0 L[0] := by
        rw [hsn]; exact idx_at (k := 0) rfl (by rw [List.getElem?_take]; simp [h0])
      obtain ⟨p1, p2, p3⟩ := hLok L[0] (List.getElem_mem _)
      have hs1 := fsame_ok L[k] L[k] o2 o2
      rw [decide_eq_true rfl] at hs1
      have hs2 := fsame_ok L[k] L[0] o2 p2
      have hs3 := rfsame_ok L[k] L[0] (by omega)
      have hw : IntKind.i64.wrap ((k : Int) + 1) = ((k + 1 : Nat) : Int) := by rw [w_small (by omega) (by omega)]; omega
      refine ⟨a[k], idx_of hka, _, hcut, by rw [htk]; simp only [List.length_cons, List.length_nil]; omega, by rw [htk]; simp only [List.length_cons, List.length_nil]; omega, _, rfl, by rw [htk]; simp only [List.length_cons, List.length_nil]; omega, by rw [htk]; simp only [List.length_cons, List.length_nil]; omega, _, rfl, _, rfcheck_ok _, _, fcheck_ok t _, true, fun _ => hs1, _, fun _ => (fline_ok o1 (by omega)).1, _, fun _ => rfl, _, fun _ => (fline_ok o1 (by omega)).2, _, fun _ => hid, _, fun _ => hs2, _, fun _ => rfl, _, fun _ => hid, _, fun _ => hs3, ?_⟩
      rw [if_neg (by simp)]
      unfold law08_FramePacks_j8
      rw [hsn, hw]
      have hws := want_snoc (L.take k) L[k]
      rw [hsn] at hws
      by_cases hz : wantB (L.take k) = 0
      · rw [if_pos (by simpa using hz)]
        rw [if_pos hz] at hws
        rw [hws]
      · rw [if_neg (by simpa using hz)]
        rw [if_neg hz] at hws
        rw [hws]
    · rw [List.take_length]
      unfold law08_FramePacks_l6 law08_FramePacks_j7
      simp only
      by_cases h : L.length < a.length
      · rw [if_pos (by simp; omega), if_neg (by simp; omega)]; trivial
      · rw [if_neg (by simp; omega), if_neg (by decide)]; trivial
  · show law08_FramePacks_j1 t (L, wantB L, L) true
    unfold law08_FramePacks_j1
    simp only
    by_cases hw : wantB L = 0
    · have hall : ∀ f ∈ L, frameE f = 0 ∧ (0 ≤ f.1.2.2.1 ∧ f.1.2.2.1 < 4294967296) ∧ Byt f.2 := fun f hf => ⟨want_zero hw f hf, ok_u32 (hLok f hf).1.2.2.1, (hLok f hf).2.1⟩
      have hwl := wrap_len L (fun f hf => (hall f hf).1)
      refine ⟨_, pack_ok ht2 (by omega) hall, ?_⟩
      rw [if_neg (by simp [hw])]
      unfold law08_FramePacks_j2
      rw [if_neg (by simp [hw])]
      simp only
      have hfr := frames_ok ht2 (wrap_byt hall) (by omega)
      rw [frames_wrap hall] at hfr
      obtain ⟨t', h1, h2⟩ := runB_inv (B := law08_FramePacks_l4 (L, wantB L, L)) (fun k (s : Int) => s = (k : Int)) (fun _ => False) (L.map fun f => (f, (0 : Int))) (s := 0) rfl (by
        rintro k hk s rfl
        left
        rw [List.length_map] at hk
        refine ⟨((k + 1 : Nat) : Int), ?_, rfl⟩
        rw [List.getElem_map]
        refine ⟨L[k], fun _ => idx_of hk, true, fun _ => ?_, ?_⟩
        · have o2 := (hLok L[k] (List.getElem_mem _)).2.1
          have := fsame_ok L[k] L[k] o2 o2
          rw [decide_eq_true rfl] at this; exact this
        · rw [if_neg (by simp; omega), w_small (by omega) (by omega)]; rfl)
      refine ⟨_, rfl, t', (), hfr _ _ _ _ (run_yof h1), ?_⟩
      rcases h2 with ⟨s', rfl, rfl⟩ | ⟨e, _, hf⟩
      · show ∃ r69 : Bool, _
        refine ⟨_, known08_ok, ?_⟩
        rw [if_pos rfl]
        refine ⟨_, rwire_ok (by omega) hall, true, ?_, ?_⟩
        · have := same_ok (a := wrapB (L.map segB)) (b := wrapB (L.map segB)) (by omega)
          simpa using this
        · rw [if_pos rfl]
          show true = _
          simp
      · exact hf.elim
    · obtain ⟨k, hk, h1, h2, h3⟩ := want_first hw
      refine ⟨_, pack_no ht2 (by omega) hk (fun j hj => ⟨h3 j hj, ok_u32 (hLok _ (List.getElem_mem _)).1.2.2.1, (hLok _ (List.getElem_mem _)).2.1⟩) h2, ?_⟩
      rw [if_neg (by simp [h1])]
      unfold law08_FramePacks_j2
      rw [if_pos (by simp [hw])]
      refine ⟨_, known08_ok, ?_⟩
      rw [if_pos rfl, if_pos (by simp [h1])]
      rfl
theorem framePacks_claim {a : List Fm} (h : ListOk (fun f : Fm => HdOk f.1 ∧ ListOk (IntOk .u8) f.2) a) : law08_FramePacks a true :=
  framePacks_true (fun f hf => ⟨(h.1 f hf).1, ok_byt (h.1 f hf).2⟩) h.2
end Go.Rel
