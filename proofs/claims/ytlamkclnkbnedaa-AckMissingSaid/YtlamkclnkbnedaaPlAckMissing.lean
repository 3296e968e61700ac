import Derived.Test.YtlamkclnkbnedaaPlAck
/-! Plain law: which numbers an ack lacks. -/
namespace Go.Rel
open Go Go.Eng Go.Pl

def numB (f : Int) (k : Nat) : Int := (f + k) % 4294967296
theorem num32 (f : Int) (k : Nat) : U32 (numB f k) := by unfold numB U32; omega

section
variable {S : Type} {Y : Int → S → Bool × S → Prop} {f n : Int} (g : Nat → S)
theorem run_step {N : Nat} (hN : (N : Int) < 4611686018427387904) {k : Nat} (hk : k < N) (hn : (N : Int) ≤ n) {b : Bool} {s' : S} (hY : Y (numB f k) (g k) (b, s')) :
    serial_Run_1_l1 S Y n f (g k, (k : Int)) (if b = true then .inl (s', ((k + 1 : Nat) : Int)) else .inr (s', ())) := by
  unfold serial_Run_1_l1
  rw [if_pos (by simp; omega)]
  refine ⟨_, add_ok _ _, b, s', hY, ?_⟩
  rw [w_small (by omega) (by omega)]
  cases b <;> simp
theorem run_full {N : Nat} (hN : (N : Int) < 4611686018427387904) (hn : N = n.toNat) (hY : ∀ k, k < N → Y (numB f k) (g k) (true, g (k + 1))) : serial_Run_1 n f S Y (g 0) (g N, ()) := by
  refine ⟨_, ?_, rfl⟩
  refine loops_count (fun k => (g k, (k : Int))) N (fun k hk => ?_) ?_
  · exact run_step g hN hk (by omega) (hY k hk)
  · unfold serial_Run_1_l1
    rw [if_neg (by simp; omega)]
theorem run_stop {N K : Nat} (hN : (N : Int) < 4611686018427387904) (hn : N = n.toNat) (hK : K < N) {s' : S} (hY : ∀ k, k < K → Y (numB f k) (g k) (true, g (k + 1))) (hs : Y (numB f K) (g K) (false, s')) : serial_Run_1 n f S Y (g 0) (s', ()) := by
  refine ⟨_, ?_, rfl⟩
  refine loops_count (fun k => (g k, (k : Int))) K (fun k hk => ?_) ?_
  · exact run_step g hN (show k < N by omega) (by omega) (hY k hk)
  · exact run_step g hN hK (by omega) hs
variable {a : Int × Int}
theorem miss_round (ha : U64 a.2) {x : Int} {s s' : S} (h : if lackB a x = true then Y x s (true, s') else s' = s) : Yof (ack_Missing_1_l1 S Y a) x (.inl s) (true, .inl s') := by
  refine ⟨s, .inl s', rfl, ⟨_, has_ok ha x, ?_⟩, .inl ⟨s', rfl, rfl⟩⟩
  cases hl : lackB a x with
  | true =>
    rw [if_pos hl] at h
    rw [if_neg (by simp)]
    exact ⟨true, s', h, by simp⟩
  | false =>
    rw [if_neg (by simp [hl])] at h
    subst h
    rw [if_pos (by simp)]
theorem miss_full (ha : U64 a.2) {N : Nat} (hN : (N : Int) < 4611686018427387904) (hn : N = n.toNat) (h : ∀ k, k < N → if lackB a (numB f k) = true then Y (numB f k) (g k) (true, g (k + 1)) else g (k + 1) = g k) :
    ack_Missing_1 f n a S Y (g 0) (g N, ()) := by
  refine ⟨_, rfl, .inl (g N), (), ?_, rfl⟩
  exact run_full (fun k => (Sum.inl (g k) : Sum S S)) hN hn (fun k hk => miss_round ha (h k hk))
theorem miss_stop (ha : U64 a.2) {N K : Nat} (hN : (N : Int) < 4611686018427387904) (hn : N = n.toNat) (hK : K < N) {s' : S} (h : ∀ k, k < K → if lackB a (numB f k) = true then Y (numB f k) (g k) (true, g (k + 1)) else g (k + 1) = g k)
    (hl : lackB a (numB f K) = true) (hs : Y (numB f K) (g K) (false, s')) : ack_Missing_1 f n a S Y (g 0) (s', ()) := by
  refine ⟨_, rfl, .inr s', (), ?_, rfl⟩
  refine run_stop (fun k => (Sum.inl (g k) : Sum S S)) hN hn hK (fun k hk => miss_round ha (h k hk)) ?_
  refine ⟨g K, .inr s', rfl, ⟨_, has_ok ha _, ?_⟩, .inr ⟨s', rfl, rfl⟩⟩
  rw [if_neg (by simp [hl])]
  exact ⟨false, s', hs, by simp⟩
end

section
variable (L : Nat → Bool)
def cntB : Nat → Nat
  | 0 => 0
  | k + 1 => if L k = true then cntB k + 1 else cntB k
def nxB : Nat → Nat
  | 0 => 0
  | k + 1 => if L k = true then k + 1 else nxB k
theorem nxB_le : ∀ k, nxB L k ≤ k
  | 0 => Nat.le_refl _
  | k + 1 => by have := nxB_le k; unfold nxB; split <;> omega
theorem nxB_no : ∀ k j, nxB L k ≤ j → j < k → L j = false
  | 0, j, _, h => by omega
  | k + 1, j, h1, h2 => by
    unfold nxB at h1
    cases hL : L k with
    | true => rw [if_pos hL] at h1; omega
    | false =>
      rw [if_neg (by simp [hL])] at h1
      by_cases e : j = k
      · subst e; exact hL
      · exact nxB_no k j h1 (by omega)
theorem cntB_le : ∀ k, cntB L k ≤ k
  | 0 => Nat.le_refl _
  | k + 1 => by have := cntB_le k; unfold cntB; split <;> omega
end

theorem ackMissing_true {a : Int × Int} {f n stop : Int} (ht : U32 a.1) (hb : U64 a.2) (hf : U32 f) (hn : -9223372036854775808 ≤ n ∧ n ≤ 9223372036854775807) : law32_AckMissing a f n stop true := by
  obtain ⟨N, hN⟩ : ∃ N, N = (min n 200).toNat := ⟨_, rfl⟩
  have hN2 : N ≤ 200 := by omega
  have hmin : ∀ k : Nat, (k : Int) < min n 200 ↔ k < N := fun k => by omega
  obtain ⟨L, hL⟩ : ∃ L : Nat → Bool, L = fun k => lackB a (numB f k) := ⟨_, rfl⟩
  have hLk : ∀ k, lackB a (numB f k) = L k := fun k => by rw [hL]
  have hadd : ∀ k : Nat, k ≤ 200 → ref10_Add f (k : Int) (numB f k) := fun k hk => radd_ok hf (by omega)
  have hhas : ∀ k : Nat, ref32_Has a (numB f k) (!L k) := fun k => by rw [← hLk]; exact rhas_ok ht hb (num32 f k)
  refine ⟨_, rfl, .inl ((nxB L N : Int), true, (cntB L N : Int)), (), ?_, ?_⟩
  · refine miss_full (fun k => (Sum.inl ((nxB L k : Int), true, (cntB L k : Int)) : Sum (Int × Bool × Int) Unit)) hb (by omega) hN (fun k hk => ?_)
    rw [hLk]
    cases hl : L k with
    | false => simp [nxB, cntB, hl]
    | true =>
      rw [if_pos rfl]
      refine ⟨_, .inl ((nxB L (k + 1) : Int), true, (cntB L (k + 1) : Int)), rfl, ?_, .inl ⟨_, rfl, rfl⟩⟩
      refine ⟨(k : Int), ?_, ?_⟩
      · refine loops_from (step := law32_AckMissing_l4 a f n) (fun j => (j : Int)) (nxB L k) k (nxB_le L k) (fun j h1 h2 => ?_) ?_
        · refine ⟨_, fun _ => hadd j (by omega), _, fun _ => hhas j, ?_⟩
          rw [if_pos (by simp [nxB_no L k j h1 h2]; omega), w_small (by omega) (by omega)]
          simp
        · refine ⟨_, fun _ => hadd k (by omega), _, fun _ => hhas k, ?_⟩
          rw [if_neg (by simp [hl])]
      · unfold law32_AckMissing_j2
        rw [if_pos rfl, if_pos (by simp; omega)]
        refine ⟨_, hadd k (by omega), ?_⟩
        unfold law32_AckMissing_j3
        have := cntB_le L k
        simp only [nxB, cntB, hl, if_true]
        rw [w_small (by omega) (by omega), w_small (by omega) (by omega)]
        simp
  · show ∃ e58 : Bool, _
    refine ⟨true, ?_, ?_⟩
    · refine loops_from (step := law32_AckMissing_l9 a f n) (fun j => ((j : Int), true)) (nxB L N) N (nxB_le L N) (fun j h1 h2 => ?_) ?_
      · unfold law32_AckMissing_l9
        rw [if_pos (by simp; omega)]
        refine ⟨_, fun _ => hadd j (by omega), _, fun _ => hhas j, ?_⟩
        rw [w_small (by omega) (by omega), nxB_no L N j h1 h2]
        simp
      · unfold law32_AckMissing_l9
        rw [if_neg (by simp; omega)]
    · have fin : ∀ y : Int, (y = (cntB L N : Int) ∨ y = stop) → law32_AckMissing_j6 stop ((nxB L N : Int), true, (cntB L N : Int)) true y true := by
        intro y hy
        refine ⟨_, known_ok, ?_⟩
        rw [if_pos rfl, if_pos rfl]
        by_cases h1 : y = (cntB L N : Int)
        · rw [if_pos (by simpa using h1)]; rfl
        · rw [if_neg (by simpa using h1)]
          rcases hy with h2 | h2
          · exact absurd h2 h1
          · show true = decide (y = stop); simp [h2]
      by_cases hK : ∃ K, K < N ∧ L K = true ∧ (cntB L K : Int) = stop
      · obtain ⟨K, h1, h2⟩ : ∃ K, (K < N ∧ L K = true ∧ (cntB L K : Int) = stop) ∧ ∀ k, k < K → ¬ (k < N ∧ L k = true ∧ (cntB L k : Int) = stop) := by
          obtain ⟨K, h⟩ := hK
          induction K using Nat.strongRecOn with
          | _ K ih =>
            by_cases e : ∃ k, k < K ∧ (k < N ∧ L k = true ∧ (cntB L k : Int) = stop)
            · obtain ⟨k, h1, h2⟩ := e; exact ih k h1 h2
            · exact ⟨K, h, fun k hk h2 => e ⟨k, hk, h2⟩⟩
        refine ⟨_, rfl, .inr stop, (), ?_, fin stop (.inr rfl)⟩
        refine miss_stop (fun k => (Sum.inl (cntB L k : Int) : Sum Int Int)) (K := K) hb (by omega) hN h1.1 (fun k hk => ?_) (by rw [hLk]; exact h1.2.1) ?_
        · rw [hLk]
          cases hl : L k with
          | false => simp [cntB, hl]
          | true =>
            rw [if_pos rfl]
            refine ⟨_, .inl (cntB L (k + 1) : Int), rfl, ?_, .inl ⟨_, rfl, rfl⟩⟩
            have h4 := h2 k hk
            have := cntB_le L k
            unfold law32_AckMissing_l8
            rw [if_neg (by simp; intro e; exact h4 ⟨by omega, hl, e⟩), w_small (by omega) (by omega)]
            simp [cntB, hl]
        · refine ⟨_, .inr stop, rfl, ?_, .inr ⟨_, rfl, rfl⟩⟩
          unfold law32_AckMissing_l8
          rw [if_pos (by simpa using h1.2.2), h1.2.2]
      · refine ⟨_, rfl, .inl (cntB L N : Int), (), ?_, fin _ (.inl rfl)⟩
        refine miss_full (fun k => (Sum.inl (cntB L k : Int) : Sum Int Int)) hb (by omega) hN (fun k hk => ?_)
        rw [hLk]
        cases hl : L k with
        | false => simp [cntB, hl]
        | true =>
          rw [if_pos rfl]
          refine ⟨_, .inl (cntB L (k + 1) : Int), rfl, ?_, .inl ⟨_, rfl, rfl⟩⟩
          have := cntB_le L k
          unfold law32_AckMissing_l8
          rw [if_neg (by simp; intro e; exact hK ⟨k, hk, hl, e⟩), w_small (by omega) (by omega)]
          simp [cntB, hl]
end Go.Rel
