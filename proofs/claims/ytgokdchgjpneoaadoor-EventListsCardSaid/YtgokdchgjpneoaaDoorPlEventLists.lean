import Derived.Test.YtgokdchgjpneoaaDoorPlEvent
/-! Plain laws: the deliveries, the rejects and the numbers of any events. -/
namespace Go.Rel
open Go Go.Eng Go.Pl
/-- A loop that may end at any round. -/
theorem stop_run {X : Type} {B : X → Int → Sum Int Int → Prop} {stop : Int} (hB : ∀ x s, 0 ≤ s → s < 1099511627776 → B x s (if s = stop then .inr s else .inl (s + 1))) : ∀ (xs : List X) (s : Int), 0 ≤ s → s + xs.length < 1099511627776 → ∃ t, RunB B xs s t ∧ (t = .inl (s + xs.length) ∨ t = .inr stop)
  | [], s, _, _ => ⟨_, .nil, .inl (by simp)⟩
  | x :: xs, s, h0, h1 => by
    simp only [List.length_cons] at h1
    have := hB x s h0 (by omega)
    by_cases h : s = stop
    · rw [if_pos h] at this; rw [h] at this ⊢; exact ⟨_, .stop this, .inr rfl⟩
    · rw [if_neg h] at this
      obtain ⟨t, h2, h3⟩ := stop_run hB xs (s + 1) (by omega) (by omega)
      refine ⟨t, .go this h2, ?_⟩
      rcases h3 with h3 | h3
      · left; rw [h3]; simp only [List.length_cons]; congr 1; omega
      · exact .inr h3
def delivs : List Ev → List (Int × Mg)
  | [] => []
  | e :: l => if e.1 = 1 then (e.2.1, e.2.2.2.2) :: delivs l else delivs l
def rejs : Int → List Ev → List (Int × Int)
  | _, [] => []
  | i, e :: l => if e.1 = 2 then (i, e.2.2.2.1) :: rejs (i + 1) l else rejs (i + 1) l
theorem delivs_app : ∀ p l : List Ev, delivs (p ++ l) = delivs p ++ delivs l
  | [], _ => rfl
  | e :: p, l => by simp only [List.cons_append, delivs]; rw [delivs_app p l]; split <;> rfl
theorem delivs_len : ∀ l : List Ev, (delivs l).length ≤ l.length
  | [] => by simp [delivs]
  | e :: l => by have := delivs_len l; simp only [delivs]; split <;> simp <;> omega
theorem rejs_len : ∀ (i : Int) (l : List Ev), (rejs i l).length ≤ l.length
  | _, [] => by simp [rejs]
  | i, e :: l => by have := rejs_len (i + 1) l; simp only [rejs]; split <;> simp <;> omega
theorem delivered_itr {L : List Ev} (hl : L.length < 1099511627776) : Itr (event_Delivered_1 L) (delivs L) := by
  intro S Y s s' hr
  refine ⟨(s', ()), ?_, rfl⟩
  have key : ∀ (l pre : List Ev) (s : S), L = pre ++ l → Run Y (delivs l) s s' → Loops (event_Delivered_1_l1 S Y L) (s, (pre.length : Int)) (s', ()) := by
    intro l
    induction l with
    | nil =>
      intro pre s h hr
      cases hr
      refine .done ?_
      unfold event_Delivered_1_l1
      rw [if_neg (by rw [h]; simp)]
    | cons e l ih =>
      intro pre s h hr
      have hlen : L.length = pre.length + l.length + 1 := by rw [h]; simp; omega
      have hat : L[pre.length]? = some e := by rw [h]; simp
      have hi := ih (pre ++ [e])
      simp only [List.length_append, List.length_cons, List.length_nil] at hi
      have hn : L = pre ++ [e] ++ l := by rw [h]; simp
      by_cases he : e.1 = 1
      · simp only [delivs, if_pos he] at hr
        have st : ∀ o, (∃ y u, Y (e.2.1, e.2.2.2.2) s (y, u) ∧ if (!y) = true then o = .inr (u, ()) else o = .inl (u, ((pre.length + 1 : Nat) : Int))) → event_Delivered_1_l1 S Y L (s, (pre.length : Int)) o := by
          rintro o ⟨y, u, hy, ho⟩
          unfold event_Delivered_1_l1
          rw [if_pos (by simp; omega)]
          refine ⟨e, idx_at rfl hat, ?_⟩
          rw [if_neg (by simp [he])]
          refine ⟨y, u, hy, ?_⟩
          unfold event_Delivered_1_j2
          rw [len_wrap (by omega)]; exact ho
        cases hr with
        | go hy hr => exact .next (st _ ⟨true, _, hy, by rw [if_neg (by simp)]⟩) (hi _ hn hr)
        | stop hy => exact .done (st _ ⟨false, _, hy, by rw [if_pos (show (!false) = true from rfl)]⟩)
      · simp only [delivs, if_neg he] at hr
        refine .next ?_ (hi s hn hr)
        unfold event_Delivered_1_l1
        rw [if_pos (by simp; omega)]
        refine ⟨e, idx_at rfl hat, ?_⟩
        rw [if_pos (by simpa using he)]
        unfold event_Delivered_1_j2
        rw [len_wrap (by omega)]
  exact key L [] s rfl hr
theorem rejects_itr {L : List Ev} (hl : L.length < 1099511627776) : Itr (event_Rejects_1 L) (rejs 0 L) := by
  intro S Y s s' hr
  refine ⟨(s', ()), ?_, rfl⟩
  have key : ∀ (l pre : List Ev) (s : S), L = pre ++ l → Run Y (rejs (pre.length : Int) l) s s' → Loops (event_Rejects_1_l1 S Y L) (s, (pre.length : Int)) (s', ()) := by
    intro l
    induction l with
    | nil =>
      intro pre s h hr
      cases hr
      refine .done ?_
      unfold event_Rejects_1_l1
      rw [if_neg (by rw [h]; simp)]
    | cons e l ih =>
      intro pre s h hr
      have hlen : L.length = pre.length + l.length + 1 := by rw [h]; simp; omega
      have hat : L[pre.length]? = some e := by rw [h]; simp
      have hi := ih (pre ++ [e])
      simp only [List.length_append, List.length_cons, List.length_nil] at hi
      have hn : L = pre ++ [e] ++ l := by rw [h]; simp
      rw [show ((pre.length + (0 + 1) : Nat) : Int) = (pre.length : Int) + 1 by omega] at hi
      by_cases he : e.1 = 2
      · simp only [rejs, if_pos he] at hr
        have st : ∀ o, (∃ y u, Y ((pre.length : Int), e.2.2.2.1) s (y, u) ∧ if (!y) = true then o = .inr (u, ()) else o = .inl (u, (pre.length : Int) + 1)) → event_Rejects_1_l1 S Y L (s, (pre.length : Int)) o := by
          rintro o ⟨y, u, hy, ho⟩
          unfold event_Rejects_1_l1
          rw [if_pos (by simp; omega)]
          refine ⟨e, idx_at rfl hat, ?_⟩
          rw [if_pos (by simpa using he)]
          refine ⟨y, u, hy, ?_⟩
          unfold event_Rejects_1_j2
          rw [w_small (by omega) (by omega)]; exact ho
        cases hr with
        | go hy hr => exact .next (st _ ⟨true, _, hy, by rw [if_neg (by simp)]⟩) (hi _ hn hr)
        | stop hy => exact .done (st _ ⟨false, _, hy, by rw [if_pos (show (!false) = true from rfl)]⟩)
      · simp only [rejs, if_neg he] at hr
        refine .next ?_ (hi s hn hr)
        unfold event_Rejects_1_l1
        rw [if_pos (by simp; omega)]
        refine ⟨e, idx_at rfl hat, ?_⟩
        rw [if_neg (by simpa using he)]
        unfold event_Rejects_1_j2
        rw [if_neg (by simp), w_small (by omega) (by omega)]
  exact key L [] s rfl hr
theorem seqs_ok {L : List Ev} (hl : L.length < 1048576) : event_Seqs L ((delivs L).map (·.1)) := by
  have hd := delivs_len L
  have run := runB_fold (B := event_Seqs_l1) (E := Unit) (fun s x => s ++ [x.1]) (delivs L) [] (fun p x q e => by
    have hp : p.length < 1048576 := by rw [e] at hd; simp at hd; omega
    have hf : ∀ (p : List (Int × Mg)) (s : List Int), p.foldl (fun s x => s ++ [x.1]) s = s ++ p.map (·.1) := by
      intro p; induction p with
      | nil => intro s; simp
      | cons y p ih => intro s; rw [List.foldl_cons, ih]; simp
    rw [hf]
    unfold event_Seqs_l1
    refine ⟨by simp; omega, by simp; omega, rfl⟩)
  refine ⟨_, rfl, _, (), delivered_itr (by omega) _ _ _ _ (run_yof run), ?_⟩
  have hf : ∀ (p : List (Int × Mg)) (s : List Int), p.foldl (fun s x => s ++ [x.1]) s = s ++ p.map (·.1) := by
    intro p; induction p with
    | nil => intro s; simp
    | cons y p ih => intro s; rw [List.foldl_cons, ih]; simp
  show _ = _
  rw [hf]; rfl
theorem lists_run {L : List Ev} (hl : L.length < 1048576) (hok : ∀ e ∈ L, EvOk e) : ∀ (l pre : List Ev) (p n : Nat), L = pre ++ l → p ≤ pre.length → n ≤ pre.length → (∀ j (hj : j < L.length), p ≤ j → j < pre.length → (L[j]).1 ≠ 1) →
    ∃ at_, RunB (E := Unit) (law23_EventLists_l2 L) (delivs l) ((p : Int), (n : Int), true) (.inl (at_, ((n + (delivs l).length : Nat) : Int), true))
  | [], pre, p, n, _, _, _, _ => ⟨_, .nil⟩
  | e :: l, pre, p, n, h, hp, hn, hno => by
    have hlen : L.length = pre.length + l.length + 1 := by rw [h]; simp; omega
    have hat : L[pre.length]? = some e := by rw [h]; simp
    have hx : idx L (pre.length : Int) e := idx_at rfl hat
    have hget : L[pre.length]'(by omega) = e := by
      rw [List.getElem?_eq_getElem (by omega)] at hat; exact Option.some.inj hat
    have heok := hok e (by rw [h]; simp)
    by_cases he : e.1 = 1
    · obtain ⟨at_, run⟩ := lists_run hl hok l (pre ++ [e]) (pre.length + 1) (n + 1) (by rw [h]; simp) (by simp) (by simp; omega) (fun j hj h1 h2 => by simp at h2; omega)
      refine ⟨at_, ?_⟩
      simp only [delivs, if_pos he, List.length_cons]
      rw [show n + ((delivs l).length + 1) = n + 1 + (delivs l).length by omega]
      refine .go ?_ run
      refine ⟨(pre.length : Int), ?_, ?_⟩
      · exact loops_from (fun k => (k : Int)) p pre.length hp (fun k h1 h2 => by
          unfold law23_EventLists_l4
          rw [if_pos (by simp; omega)]
          refine ⟨_, idx_of (by omega), ?_⟩
          unfold law23_EventLists_j5
          rw [if_pos (by simpa using hno k (by omega) h1 h2), len_wrap (by omega)]) (by
          unfold law23_EventLists_l4
          rw [if_pos (by simp; omega)]
          refine ⟨e, hx, ?_⟩
          unfold law23_EventLists_j5
          rw [if_neg (by simp [he])])
      · have h1 := heok.msg.lpath
        have h2 := heok.msg.lcells
        refine ⟨e, fun _ => hx, e, fun _ => hx, _, fun _ => msame_ok (by simp only; omega) (by simp only; omega), ?_⟩
        rw [len_wrap (by omega), len_wrap (by omega), sameB_refl]
        have : (pre.length : Int) < (L.length : Int) := by omega
        simp [this]
    · obtain ⟨at_, run⟩ := lists_run hl hok l (pre ++ [e]) p n (by rw [h]; simp) (by simp; omega) (by simp; omega) (fun j hj h1 h2 => by
        simp at h2
        by_cases hj2 : j = pre.length
        · subst hj2; rw [hget]; exact he
        · exact hno j hj h1 (by omega))
      refine ⟨at_, ?_⟩
      simp only [delivs, if_neg he]; exact run
theorem lists_count {L : List Ev} (hl : L.length < 1048576) : ∀ (l pre : List Ev) (j : Nat), L = pre ++ l → j ≤ pre.length → Loops (law23_EventLists_l14 L ((delivs L).map (·.1))) (((delivs pre).length : Int), (j : Int), (pre.length : Int), true) (((delivs L).length : Int), ((j + (rejs (pre.length : Int) l).length : Nat) : Int), true)
  | [], pre, j, h, hj => by
    rw [List.append_nil] at h
    refine .done ?_
    unfold law23_EventLists_l14
    rw [if_neg (by rw [h]; simp), h]; rfl
  | e :: l, pre, j, h, hj => by
    have hlen : L.length = pre.length + l.length + 1 := by rw [h]; simp; omega
    have hat : L[pre.length]? = some e := by rw [h]; simp
    have hx : idx L (pre.length : Int) e := idx_at rfl hat
    have hdl := delivs_len pre
    have hn : L = pre ++ [e] ++ l := by rw [h]; simp
    have rest := fun j hj => lists_count hl l (pre ++ [e]) j hn hj
    simp only [List.length_append, List.length_cons, List.length_nil, Nat.zero_add] at rest
    have hds : delivs (pre ++ [e]) = delivs pre ++ delivs [e] := delivs_app pre [e]
    rw [hds] at rest
    rw [show ((pre.length + 1 : Nat) : Int) = (pre.length : Int) + 1 by omega] at rest
    -- the second half of a round
    have j16 : ∀ (s : Int × Int × Int × Bool) (d : Int) (o : Bool), s.2.2.1 = (pre.length : Int) → s.2.1 = (j : Int) → o = true → d = ((delivs pre ++ delivs [e]).length : Int) → law23_EventLists_j16 L s (d, o) (.inl (((delivs pre ++ delivs [e]).length : Int), (if e.1 = 2 then ((j + 1 : Nat) : Int) else (j : Int)), (pre.length : Int) + 1, true)) := by
      rintro s d o hs hj2 rfl rfl
      unfold law23_EventLists_j16
      rw [hs, hj2]
      refine ⟨e, hx, ?_⟩
      by_cases he2 : e.1 = 2
      · rw [if_pos (by simpa using he2), if_pos he2, len_wrap (by omega)]
        unfold law23_EventLists_j15
        rw [hs, w_small (by omega) (by omega)]
      · rw [if_neg (by simpa using he2), if_neg he2]
        unfold law23_EventLists_j15
        rw [hs, w_small (by omega) (by omega)]
    have step : law23_EventLists_l14 L ((delivs L).map (·.1)) (((delivs pre).length : Int), (j : Int), (pre.length : Int), true) (.inl (((delivs pre ++ delivs [e]).length : Int), (if e.1 = 2 then ((j + 1 : Nat) : Int) else (j : Int)), (pre.length : Int) + 1, true)) := by
      unfold law23_EventLists_l14
      rw [if_pos (by simp; omega)]
      refine ⟨e, hx, ?_⟩
      by_cases he : e.1 = 1
      · rw [if_pos (by simpa using he)]
        have hdL : delivs L = delivs pre ++ (e.2.1, e.2.2.2.2) :: delivs l := by rw [h, delivs_app]; simp only [delivs, if_pos he]
        have hq : idx ((delivs L).map (·.1)) ((delivs pre).length : Int) e.2.1 := idx_at rfl (by rw [hdL]; simp)
        refine ⟨e.2.1, fun _ => hq, e, fun _ => hx, ?_⟩
        have hlt : ((delivs pre).length : Int) < (((delivs L).map (·.1)).length : Int) := by rw [hdL]; simp; omega
        refine j16 _ _ _ rfl rfl (by rw [decide_eq_true hlt]; simp) ?_
        rw [len_wrap (by omega)]
        simp only [delivs, if_pos he, List.length_append, List.length_cons, List.length_nil]
      · rw [if_neg (by simpa using he)]
        refine j16 _ _ _ rfl rfl rfl ?_
        simp only [delivs, if_neg he, List.append_nil]
    by_cases he2 : e.1 = 2
    · rw [if_pos he2] at step
      simp only [rejs, if_pos he2, List.length_cons]
      rw [show j + ((rejs ((pre.length : Int) + 1) l).length + 1) = j + 1 + (rejs ((pre.length : Int) + 1) l).length by omega]
      exact .next step (rest (j + 1) (by omega))
    · rw [if_neg he2] at step
      simp only [rejs, if_neg he2]
      exact .next step (rest j (by omega))
theorem lists_rej {L : List Ev} (hl : L.length < 1048576) : ∀ (l pre : List Ev) (n : Nat) (last : Int), L = pre ++ l → n ≤ pre.length → last < pre.length → ∃ last', RunB (E := Unit) (law23_EventLists_l7 L) (rejs (pre.length : Int) l) (true, (n : Int), last) (.inl (true, ((n + (rejs (pre.length : Int) l).length : Nat) : Int), last'))
  | [], pre, n, last, _, _, _ => ⟨_, .nil⟩
  | e :: l, pre, n, last, h, hn, hla => by
    have hlen : L.length = pre.length + l.length + 1 := by rw [h]; simp; omega
    have hat : L[pre.length]? = some e := by rw [h]; simp
    have hx : idx L (pre.length : Int) e := idx_at rfl hat
    have hs : L = pre ++ [e] ++ l := by rw [h]; simp
    have rest := fun n last h1 h2 => lists_rej hl l (pre ++ [e]) n last hs h1 h2
    simp only [List.length_append, List.length_cons, List.length_nil, Nat.zero_add] at rest
    rw [show ((pre.length + 1 : Nat) : Int) = (pre.length : Int) + 1 by omega] at rest
    by_cases he : e.1 = 2
    · obtain ⟨last', run⟩ := rest (n + 1) (pre.length : Int) (by omega) (by omega)
      refine ⟨last', ?_⟩
      simp only [rejs, if_pos he, List.length_cons]
      rw [show n + ((rejs ((pre.length : Int) + 1) l).length + 1) = n + 1 + (rejs ((pre.length : Int) + 1) l).length by omega]
      refine .go ?_ run
      unfold law23_EventLists_l7
      rw [if_pos rfl, if_pos (by simpa using hla), if_pos (by simp; omega)]
      refine ⟨e, hx, ?_⟩
      rw [if_pos (by simpa using he)]
      refine ⟨e, hx, ?_⟩
      unfold law23_EventLists_j8
      rw [len_wrap (by omega)]; simp
    · obtain ⟨last', run⟩ := rest n last (by omega) (by omega)
      refine ⟨last', ?_⟩
      simp only [rejs, if_neg he]; exact run
theorem eventLists_true {a : List Ev} (ha : ∀ e ∈ a, EvIn e) (stop : Int) : law23_EventLists a stop true := by
  let L := (a.take 40).map cutE
  have hL : L.length ≤ 40 := by show ((a.take 40).map cutE).length ≤ 40; rw [List.length_map, List.length_take]; omega
  have hok : ∀ e ∈ L, EvOk e := by
    intro e he
    obtain ⟨x, hx, rfl⟩ := List.mem_map.1 he
    exact ecut_in (ha x (List.mem_of_mem_take hx))
  refine ⟨L, ?_, ?_⟩
  · have := loops_count (step := law23_EventLists_l17 a) (e := L) (fun k => ((k : Int), (a.take k).map cutE)) (min a.length 40) (fun k hk => by
      have hk1 : k < a.length := by omega
      unfold law23_EventLists_l17
      rw [if_pos (by simpa using hk1), decide_eq_true (show (k : Int) < 40 by omega)]
      unfold law23_EventLists_j18
      rw [if_pos rfl]
      refine ⟨_, idx_of hk1, _, ecut_ok _, ?_⟩
      simp only [List.length_map, List.length_take, List.length_cons, List.length_nil]
      refine ⟨by omega, by omega, ?_⟩
      rw [len_wrap (by omega), map_take_snoc _ _ hk1]) (by
      have hf : ∀ b, b = false → law23_EventLists_j18 a (((min a.length 40 : Nat) : Int), (a.take (min a.length 40)).map cutE) b (.inr L) := by
        rintro b rfl
        unfold law23_EventLists_j18
        rw [if_neg (by simp)]
        show Sum.inr ((a.take 40).map cutE) = Sum.inr ((a.take (min a.length 40)).map cutE)
        by_cases h : a.length ≤ 40
        · rw [Nat.min_eq_left h, List.take_length, List.take_of_length_le h]
        · rw [Nat.min_eq_right (by omega)]
      unfold law23_EventLists_l17
      by_cases h : a.length ≤ 40
      · rw [if_neg (by simp; omega)]; exact hf _ rfl
      · rw [if_pos (by simp; omega)]; exact hf _ (decide_eq_false (by omega)))
    simpa using this
  · generalize L = L at *
    obtain ⟨at_, r1⟩ := lists_run (by omega) hok L [] 0 0 rfl (by simp) (by simp) (fun j hj h1 h2 => by simp at h2)
    obtain ⟨la, r3⟩ := lists_rej (L := L) (by omega) L [] 0 (-1) rfl (by simp) (by simp)
    have hd := delivs_len L
    have hr := rejs_len 0 L
    have r2 := lists_count (L := L) (by omega) L [] 0 rfl (by simp)
    obtain ⟨t4, r4, h4⟩ := stop_run (B := law23_EventLists_l13 stop) (stop := stop) (fun x s h0 h1 => by
      unfold law23_EventLists_l13
      by_cases h : s = stop
      · rw [if_pos (by simpa using h), if_pos h]
      · rw [if_neg (by simpa using h), if_neg h, w_small (by omega) (by omega)]) (rejs 0 L) 0 (by omega) (by omega)
    obtain ⟨t5, r5, h5⟩ := stop_run (B := law23_EventLists_l12 stop) (stop := stop) (fun x s h0 h1 => by
      unfold law23_EventLists_l12
      by_cases h : s = stop
      · rw [if_pos (by simpa using h), if_pos h]
      · rw [if_neg (by simpa using h), if_neg h, w_small (by omega) (by omega)]) (delivs L) 0 (by omega) (by omega)
    refine ⟨_, rfl, _, (), delivered_itr (by omega) _ _ _ _ (run_yof r1), ?_⟩
    refine ⟨_, seqs_ok (by omega), _, r2, ?_⟩
    refine ⟨_, rfl, _, (), rejects_itr (by omega) _ _ _ _ (run_yof r3), ?_⟩
    refine ⟨_, rfl, _, (), rejects_itr (by omega) _ _ _ _ (run_yof r4), ?_⟩
    have fin : ∀ x y : Int, (x = ((rejs 0 L).length : Int) ∨ x = stop) → (y = ((delivs L).length : Int) ∨ y = stop) → law23_EventLists_j10 stop (at_, ((0 + (delivs L).length : Nat) : Int), true) ((delivs L).map (·.1)) (((delivs L).length : Int), ((0 + (rejs 0 L).length : Nat) : Int), true) (true, ((0 + (rejs 0 L).length : Nat) : Int), la) x y true := by
      intro x y hx hy
      have j11 : ∀ b, b = true → law23_EventLists_j11 b true := fun b hb => hb.symm
      have last : if (decide (y = ((0 + (delivs L).length : Nat) : Int))) = true then law23_EventLists_j11 true true else law23_EventLists_j11 (decide (y = stop)) true := by
        by_cases h : y = ((0 + (delivs L).length : Nat) : Int)
        · rw [if_pos (decide_eq_true h)]; exact j11 _ rfl
        · rw [if_neg (by simpa using h)]
          exact j11 _ (decide_eq_true (hy.resolve_left (by simpa using h)))
      refine ⟨true, known23_ok, ?_⟩
      rw [if_pos rfl, if_pos rfl, if_pos (by simp), if_pos (by simp), if_pos (by simp)]
      by_cases h : x = ((0 + (rejs 0 L).length : Nat) : Int)
      · rw [if_pos (decide_eq_true h)]; exact last
      · rw [if_neg (by simpa using h), if_pos (decide_eq_true (hx.resolve_left (by simpa using h)))]; exact last
    have j9 : ∀ x : Int, (x = ((rejs 0 L).length : Int) ∨ x = stop) → law23_EventLists_j9 stop L (at_, ((0 + (delivs L).length : Nat) : Int), true) ((delivs L).map (·.1)) (((delivs L).length : Int), ((0 + (rejs 0 L).length : Nat) : Int), true) (true, ((0 + (rejs 0 L).length : Nat) : Int), la) x true := by
      intro x hx
      refine ⟨_, rfl, _, (), delivered_itr (by omega) _ _ _ _ (run_yof r5), ?_⟩
      rcases h5 with rfl | rfl
      · exact fin x _ hx (.inl (by omega))
      · exact fin x _ hx (.inr rfl)
    rcases h4 with rfl | rfl
    · exact j9 _ (.inl (by omega))
    · exact j9 _ (.inr rfl)
theorem eventLists_claim {a : List Ev} {stop : Int} (h0 : ListOk (fun e : Ev => EvRaw e) a) (_h1 : IntOk .i64 stop) : law23_EventLists a stop true := eventLists_true (fun e he => evIn (h0.1 e he)) stop
end Go.Rel
