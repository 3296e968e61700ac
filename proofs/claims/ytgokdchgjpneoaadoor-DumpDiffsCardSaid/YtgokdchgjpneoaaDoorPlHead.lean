import Derived.Test.YtgokdchgjpneoaaDoorPlI
import Derived.Test.YtgokdchgjpneoaaDoorURel
/-! Plain laws: heads. -/
namespace Go.Rel
open Go Go.Eng Go.Pl
abbrev Hd := Int × Int × Int × Int × Int
def headE (h : Hd) : Int := if ¬ (1 ≤ h.1 ∧ h.1 ≤ 2) then 10 else if ¬ (1 ≤ h.2.1 ∧ h.2.1 ≤ 5) then 9 else if ¬ (1 ≤ h.2.2.2.2 ∧ h.2.2.2.2 ≤ 255 ∧ 0 ≤ h.2.2.2.1 ∧ h.2.2.2.1 < h.2.2.2.2) then 3 else 0
/-- The errors that a head may have, and whether it has them, in their order. -/
def headL (h : Hd) : List (Int × Bool) := [(10, decide (¬ (1 ≤ h.1 ∧ h.1 ≤ 2))), (9, decide (¬ (1 ≤ h.2.1 ∧ h.2.1 ≤ 5))), (3, decide (¬ (1 ≤ h.2.2.2.2 ∧ h.2.2.2.2 ≤ 255 ∧ 0 ≤ h.2.2.2.1 ∧ h.2.2.2.1 < h.2.2.2.2)))]
theorem run_cons {X S : Type} {Y : X → S → Bool × S → Prop} {x : X} {xs : List X} {s s' : S} (h : Run Y (x :: xs) s s') : ∃ b s1, Y x s (b, s1) ∧ ((b = true ∧ Run Y xs s1 s') ∨ (b = false ∧ s1 = s')) := by
  cases h with
  | go h h' => exact ⟨true, _, h, .inl ⟨rfl, h'⟩⟩
  | stop h => exact ⟨false, _, h, .inr ⟨rfl, rfl⟩⟩
theorem run_one {X S : Type} {Y : X → S → Bool × S → Prop} {x : X} {s s' : S} (h : Run Y [x] s s') : ∃ b, Y x s (b, s') := by
  obtain ⟨b, s1, h1, h2⟩ := run_cons h
  rcases h2 with ⟨_, h2⟩ | ⟨_, rfl⟩
  · cases h2; exact ⟨b, h1⟩
  · exact ⟨b, h1⟩
theorem wrong_ok (h : Hd) : Itr (head_wrong_1 h) (headL h) := by
  intro S Y s s' hr
  obtain ⟨v, k, q, i, n⟩ := h
  obtain ⟨b1, u1, y1, r1⟩ := run_cons hr
  have last : ∀ u, Run Y [((3 : Int), decide (¬ (1 ≤ n ∧ n ≤ 255 ∧ 0 ≤ i ∧ i < n)))] u s' → if (decide (n < 1)) = true then (∃ y15 : Bool, ∃ u16 : S, Y (3, true) u (y15, u16) ∧ (s', ()) = (u16, ())) else (if (decide (255 < n)) = true then (∃ y22 : Bool, ∃ u23 : S, Y (3, true) u (y22, u23) ∧ (s', ()) = (u23, ())) else (if (decide (i < 0)) = true then (∃ y29 : Bool, ∃ u30 : S, Y (3, true) u (y29, u30) ∧ (s', ()) = (u30, ())) else (∃ y36 : Bool, ∃ u37 : S, Y (3, (decide (n ≤ i))) u (y36, u37) ∧ (s', ()) = (u37, ())))) := by
    intro u hu
    obtain ⟨b, hb⟩ := run_one hu
    by_cases h1 : n < 1
    · rw [if_pos (by simpa using h1)]
      exact ⟨b, s', by rw [decide_eq_true (by omega)] at hb; exact hb, rfl⟩
    · rw [if_neg (by simpa using h1)]
      by_cases h2 : 255 < n
      · rw [if_pos (by simpa using h2)]
        exact ⟨b, s', by rw [decide_eq_true (by omega)] at hb; exact hb, rfl⟩
      · rw [if_neg (by simpa using h2)]
        by_cases h3 : i < 0
        · rw [if_pos (by simpa using h3)]
          exact ⟨b, s', by rw [decide_eq_true (by omega)] at hb; exact hb, rfl⟩
        · rw [if_neg (by simpa using h3)]
          refine ⟨b, s', ?_, rfl⟩
          rw [show decide (n ≤ i) = decide (¬ (1 ≤ n ∧ n ≤ 255 ∧ 0 ≤ i ∧ i < n)) by rw [decide_eq_decide]; omega]; exact hb
  unfold head_wrong_1
  simp only at y1 ⊢
  by_cases c1 : v < 1
  · rw [if_pos (by simpa using c1)]
    refine ⟨b1, u1, by rw [decide_eq_true (by omega)] at y1; exact y1, ?_⟩
    rcases r1 with ⟨rfl, r1⟩ | ⟨rfl, rfl⟩
    · rw [if_pos rfl]
      obtain ⟨b2, u2, y2, r2⟩ := run_cons r1
      simp only at y2
      by_cases c2 : k < 1
      · rw [if_pos (by simpa using c2)]
        refine ⟨b2, u2, by rw [decide_eq_true (by omega)] at y2; exact y2, ?_⟩
        rcases r2 with ⟨rfl, r2⟩ | ⟨rfl, rfl⟩
        · rw [if_pos rfl]; exact last u2 r2
        · rw [if_neg (by decide)]
      · rw [if_neg (by simpa using c2)]
        refine ⟨b2, u2, by rw [show decide (5 < k) = decide (¬ (1 ≤ k ∧ k ≤ 5)) by rw [decide_eq_decide]; omega]; exact y2, ?_⟩
        rcases r2 with ⟨rfl, r2⟩ | ⟨rfl, rfl⟩
        · rw [if_pos rfl]; exact last u2 r2
        · rw [if_neg (by decide)]
    · rw [if_neg (by decide)]
  · rw [if_neg (by simpa using c1)]
    refine ⟨b1, u1, by rw [show decide (2 < v) = decide (¬ (1 ≤ v ∧ v ≤ 2)) by rw [decide_eq_decide]; omega]; exact y1, ?_⟩
    rcases r1 with ⟨rfl, r1⟩ | ⟨rfl, rfl⟩
    · rw [if_pos rfl]
      obtain ⟨b2, u2, y2, r2⟩ := run_cons r1
      simp only at y2
      by_cases c2 : k < 1
      · rw [if_pos (by simpa using c2)]
        refine ⟨b2, u2, by rw [decide_eq_true (by omega)] at y2; exact y2, ?_⟩
        rcases r2 with ⟨rfl, r2⟩ | ⟨rfl, rfl⟩
        · rw [if_pos rfl]; exact last u2 r2
        · rw [if_neg (by decide)]
      · rw [if_neg (by simpa using c2)]
        refine ⟨b2, u2, by rw [show decide (5 < k) = decide (¬ (1 ≤ k ∧ k ≤ 5)) by rw [decide_eq_decide]; omega]; exact y2, ?_⟩
        rcases r2 with ⟨rfl, r2⟩ | ⟨rfl, rfl⟩
        · rw [if_pos rfl]; exact last u2 r2
        · rw [if_neg (by decide)]
    · rw [if_neg (by decide)]
theorem hcheck_ok (h : Hd) : head_Check h (headE h) := by
  refine ⟨_, rfl, ?_⟩
  have go : ∀ e, head_Check_l2 (e, false) () (.inl ()) := fun e => by unfold head_Check_l2; rw [if_neg (ne_true rfl)]
  have st : ∀ e, head_Check_l2 (e, true) () (.inr e) := fun e => by unfold head_Check_l2; rw [if_pos rfl]
  have key : ∀ t, RunB head_Check_l2 (headL h) () t → head_wrong_1 h (Sum Unit Int) (Yof head_Check_l2) (.inl ()) (t, ()) := fun t ht => wrong_ok h _ _ _ _ (run_yof ht)
  unfold headE headL at *
  by_cases c1 : 1 ≤ h.1 ∧ h.1 ≤ 2
  · rw [if_neg (by simpa using c1)]
    rw [decide_eq_false (show ¬ ¬ (1 ≤ h.1 ∧ h.1 ≤ 2) from fun e => e c1)] at key
    by_cases c2 : 1 ≤ h.2.1 ∧ h.2.1 ≤ 5
    · rw [if_neg (by simpa using c2)]
      rw [decide_eq_false (show ¬ ¬ (1 ≤ h.2.1 ∧ h.2.1 ≤ 5) from fun e => e c2)] at key
      by_cases c3 : 1 ≤ h.2.2.2.2 ∧ h.2.2.2.2 ≤ 255 ∧ 0 ≤ h.2.2.2.1 ∧ h.2.2.2.1 < h.2.2.2.2
      · rw [if_neg (fun e => e c3)]
        rw [decide_eq_false (fun e => e c3)] at key
        exact ⟨.inl (), (), key _ (.go (go _) (.go (go _) (.go (go _) .nil))), rfl⟩
      · rw [if_pos c3]
        rw [decide_eq_true c3] at key
        exact ⟨.inr 3, (), key _ (.go (go _) (.go (go _) (.stop (st _)))), rfl⟩
    · rw [if_pos c2]
      rw [decide_eq_true c2] at key
      exact ⟨.inr 9, (), key _ (.go (go _) (.stop (st _))), rfl⟩
  · rw [if_pos c1]
    rw [decide_eq_true c1] at key
    exact ⟨.inr 10, (), key _ (.stop (st _)), rfl⟩
/-- A head's bytes. -/
def headB (h : Hd) : List Int := [h.1, h.2.1, h.2.2.1 % 256, h.2.2.1 / 256 % 256, h.2.2.1 / 65536 % 256, h.2.2.1 / 16777216, h.2.2.2.1, h.2.2.2.2]
theorem headE_ok {h : Hd} (he : headE h = 0) : 1 ≤ h.1 ∧ h.1 ≤ 2 ∧ 1 ≤ h.2.1 ∧ h.2.1 ≤ 5 ∧ 1 ≤ h.2.2.2.2 ∧ h.2.2.2.2 ≤ 255 ∧ 0 ≤ h.2.2.2.1 ∧ h.2.2.2.1 < h.2.2.2.2 := by
  unfold headE at he
  split at he
  · cases he
  · split at he
    · cases he
    · split at he
      · cases he
      · omega
theorem shr_u32 {a : Int} (n : Nat) (hn : n ≤ 32) {s : Int} (hs : s = (n : Int)) : ishr .u32 a s = a / 2 ^ n := by
  subst hs
  show a.fdiv (2 ^ min (n : Int).toNat 32) = _
  have hp : (0 : Int) < 2 ^ n := Int.pow_pos (by decide)
  rw [show min (n : Int).toNat 32 = n by omega, Int.fdiv_eq_ediv_of_nonneg _ (Int.le_of_lt hp)]
theorem hbytes_ok {h : Hd} (he : headE h = 0) (hq : 0 ≤ h.2.2.1 ∧ h.2.2.1 < 4294967296) : head_Bytes h (headB h, 0) := by
  have h1 := headE_ok he
  refine ⟨_, hcheck_ok h, ?_⟩
  rw [if_neg (by simp [he])]
  rw [shr_u32 8 (by omega) (s := 8) rfl, shr_u32 16 (by omega) (s := 16) rfl, shr_u32 24 (by omega) (s := 24) rfl]
  simp only [w_u8, headB]
  have e : ∀ a b c d e f g i a' b' c' d' e' f' g' i' : Int, a = a' → b = b' → c = c' → d = d' → e = e' → f = f' → g = g' → i = i' → ([a, b, c, d, e, f, g, i], (0 : Int)) = ([a', b', c', d', e', f', g', i'], 0) := by
    intros; subst_vars; rfl
  apply e <;> omega
theorem headB_byt {h : Hd} (he : headE h = 0) (hq : 0 ≤ h.2.2.1 ∧ h.2.2.1 < 4294967296) : ∀ x ∈ headB h, 0 ≤ x ∧ x < 256 := by
  have h1 := headE_ok he
  intro x hx
  simp only [headB, List.mem_cons, List.not_mem_nil, or_false] at hx
  rcases hx with rfl | rfl | rfl | rfl | rfl | rfl | rfl | rfl <;> omega
end Go.Rel
