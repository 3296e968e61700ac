import Derived.Test.YtlamkclnkbnedaaDoorPlA
import Derived.Test.YtlamkclnkbnedaaDoorURel
/-! Plain laws: acks. -/
namespace Go.Rel
open Go Go.Eng Go.Pl

/-- a number of 32 bits. -/
def U32 (x : Int) : Prop := 0 ≤ x ∧ x < 4294967296
def U64 (x : Int) : Prop := 0 ≤ x ∧ x < 18446744073709551616
def afterB (x t : Int) : Bool := decide (1 ≤ (x - t) % 4294967296 ∧ (x - t) % 4294967296 < 2147483648)
def lackB (a : Int × Int) (x : Int) : Bool := if (a.1 - x) % 4294967296 < 64 then decide (a.2 / 2 ^ ((a.1 - x) % 4294967296).toNat % 2 = 0) else afterB x a.1

theorem way_ok (x t : Int) : serial_Way x t ((t - x) % 4294967296) := by simp [serial_Way, w_u32]
theorem after_ok (x t : Int) : serial_After x t (afterB x t) := by
  refine ⟨_, rfl, ?_⟩
  simp only [w_u32, w_i32, w_i64, afterB]
  rw [decide_eq_decide]; omega
theorem lacks_ok {a : Int × Int} (h : U64 a.2) (x : Int) : ack_Lacks a x (lackB a x) := by
  refine ⟨_, way_ok _ _, ?_⟩
  unfold lackB
  have h0 : 0 ≤ (a.1 - x) % 4294967296 := by omega
  by_cases hc : (a.1 - x) % 4294967296 < 64
  · rw [if_pos (by simpa using hc), if_pos hc]
    refine ⟨h0, ?_⟩
    have hp : (0 : Int) < 2 ^ ((a.1 - x) % 4294967296).toNat := Int.pow_pos (by decide)
    have hle : a.2 / 2 ^ ((a.1 - x) % 4294967296).toNat ≤ a.2 := Int.ediv_le_self _ h.1
    rw [ishr_u64 h0 (by omega), iand_one (Int.ediv_nonneg h.1 (by omega)) (by have := h.2; omega)]
  · rw [if_neg (by simpa using hc), if_neg hc]
    exact ⟨_, after_ok _ _, rfl⟩
theorem has_ok {a : Int × Int} (h : U64 a.2) (x : Int) : ack_Has a x (!lackB a x) := ⟨_, lacks_ok h x, rfl⟩

/-! ### the document's answer -/
theorem radd_ok {a n : Int} (ha : U32 a) (hn : -4611686018427387904 ≤ n ∧ n ≤ 4611686018427387904) : ref10_Add a n ((a + n) % 4294967296) := by
  obtain ⟨h1, h2⟩ := ha
  unfold ref10_Add
  have e1 : n.tmod 4294967296 = if 0 ≤ n then n % 4294967296 else -((-n) % 4294967296) := by
    split
    · rw [Int.tmod_eq_emod_of_nonneg (by assumption)]
    · have := Int.neg_tmod (-n) 4294967296
      rw [Int.neg_neg] at this
      rw [this, Int.tmod_eq_emod_of_nonneg (by omega)]
  by_cases hc : n.tmod 4294967296 < 0
  · rw [if_pos (by simpa using hc)]
    simp only [ref10_Add_j1, w_u32, w_u64, w_i64]
    rw [Int.tmod_eq_emod_of_nonneg (by omega)]
    rw [e1] at hc ⊢
    split at hc <;> rename_i h3
    · rw [if_pos h3]; omega
    · rw [if_neg h3]; omega
  · rw [if_neg (by simpa using hc)]
    simp only [ref10_Add_j1, w_u32, w_u64]
    rw [Int.tmod_eq_emod_of_nonneg (by omega)]
    rw [e1] at hc ⊢
    split at hc <;> rename_i h3
    · rw [if_pos h3]; omega
    · rw [if_neg h3]; omega
theorem rway_ok {a b : Int} (ha : U32 a) (hb : U32 b) : ref10_Way a b ((b - a) % 4294967296) := by
  obtain ⟨h1, h2⟩ := ha
  obtain ⟨h3, h4⟩ := hb
  simp only [ref10_Way, w_u32, w_u64]
  rw [Int.tmod_eq_emod_of_nonneg (by omega)]; omega
theorem rafter_ok {x t : Int} (hx : U32 x) (ht : U32 t) : ref10_After x t (afterB x t) := by
  refine ⟨_, rway_ok ht hx, ?_⟩
  unfold afterB
  by_cases hc : 1 ≤ (x - t) % 4294967296
  · rw [if_pos (by simpa using hc)]
    refine ⟨_, rway_ok ht hx, ?_⟩
    show _ = _
    rw [decide_eq_decide]; omega
  · rw [if_neg (by simpa using hc)]
    show _ = _
    rw [decide_eq_false]; omega
theorem rbit_ok {b : Int} (hb : U64 b) {n : Nat} (hn : n < 64) : ref32_bit b n (decide (b / 2 ^ n % 2 = 1)) := by
  obtain ⟨h1, h2⟩ := hb
  have hp : ∀ k : Nat, (0 : Int) < 2 ^ k := fun k => Int.pow_pos (by decide)
  refine ⟨b / 2 ^ n, ?_, ?_⟩
  · have := loops_count (step := ref32_bit_l2 n) (fun k => (b / 2 ^ k, (k : Int))) n (e := b / 2 ^ n) (fun k hk => ?_) ?_
    · simpa using this
    · unfold ref32_bit_l2
      rw [if_pos (by simp; omega)]
      have h3 : 0 ≤ b / 2 ^ k := Int.ediv_nonneg h1 (by have := hp k; omega)
      have h4 : b / 2 ^ k ≤ b := Int.ediv_le_self _ h1
      have e1 : (b / 2 ^ k).tdiv 2 = b / 2 ^ (k + 1) := by
        rw [Int.tdiv_eq_ediv_of_nonneg h3, Int.ediv_ediv_of_nonneg (by have := hp k; omega), Int.pow_succ]
      have h5 : b / 2 ^ (k + 1) ≤ b := Int.ediv_le_self _ h1
      have h6 : 0 ≤ b / 2 ^ (k + 1) := Int.ediv_nonneg h1 (by have := hp (k + 1); omega)
      rw [e1, w64_small h6 (by omega), w_small (by omega) (by omega)]
      simp
    · unfold ref32_bit_l2
      rw [if_neg (by simp)]
  · show _ = _
    have h3 : 0 ≤ b / 2 ^ n := Int.ediv_nonneg h1 (by have := hp n; omega)
    rw [Int.tmod_eq_emod_of_nonneg h3]
theorem rhas_ok {a : Int × Int} (ht : U32 a.1) (hb : U64 a.2) {x : Int} (hx : U32 x) : ref32_Has a x (!lackB a x) := by
  have h0 : 0 ≤ (a.1 - x) % 4294967296 := by omega
  have hx1 := hx.1
  have hx2 := hx.2
  have ht1 := ht.1
  have ht2 := ht.2
  unfold lackB
  have hadd : ∀ k : Nat, k < 64 → ref10_Add a.1 (IntKind.i64.wrap (0 - (k : Int))) ((a.1 - k) % 4294967296) := fun k hk => by
    rw [w_small (by omega) (by omega)]
    have := radd_ok (n := 0 - (k : Int)) ht (by omega)
    rw [show a.1 - (k : Int) = a.1 + (0 - k) by omega]; exact this
  by_cases hc : (a.1 - x) % 4294967296 < 64
  · rw [if_pos hc]
    obtain ⟨m, hm⟩ := Int.eq_ofNat_of_zero_le h0
    rw [hm]
    rw [hm] at hc
    have hm2 : m < 64 := by omega
    refine ⟨.inr (!decide (a.2 / 2 ^ m % 2 = 0)), ?_, rfl⟩
    refine loops_count (fun k => (k : Int)) m (fun k hk => ?_) ?_
    · unfold ref32_Has_l2
      rw [if_pos (by simp; omega)]
      refine ⟨_, hadd k (by omega), ?_⟩
      rw [if_neg (by simp; omega), w_small (by omega) (by omega)]
      simp
    · unfold ref32_Has_l2
      rw [if_pos (by simp; omega)]
      refine ⟨_, hadd m (by omega), ?_⟩
      rw [if_pos (by simp; omega)]
      refine ⟨_, rbit_ok hb hm2, ?_⟩
      congr 2
      have : a.2 / 2 ^ m % 2 = 0 ∨ a.2 / 2 ^ m % 2 = 1 := by omega
      rcases this with h | h <;> simp [h]
  · rw [if_neg hc]
    refine ⟨.inl (), ?_, ⟨_, rafter_ok hx ht, rfl⟩⟩
    refine loops_count (fun k => (k : Int)) 64 (fun k hk => ?_) ?_
    · unfold ref32_Has_l2
      rw [if_pos (by simp; omega)]
      refine ⟨_, hadd k (by omega), ?_⟩
      rw [if_neg (by simp; omega), w_small (by omega) (by omega)]
      simp
    · unfold ref32_Has_l2
      rw [if_neg (by simp)]

theorem add_ok (a n : Int) : serial_Add a n ((a + n) % 4294967296) := by simp only [serial_Add, w_u32]; omega
theorem known_ok : law32_known true := by
  refine ⟨_, ⟨_, rfl, rfl⟩, _, ⟨_, rfl, _, rfl, rfl⟩, ?_⟩
  simp only [w_u32]
  rw [if_pos (by decide), if_pos (by decide)]
  refine ⟨_, has_ok (by constructor <;> decide) 4, ?_⟩
  rw [if_pos (by decide)]
  refine ⟨_, has_ok (by constructor <;> decide) 5, ?_⟩
  show _ = _
  decide
end Go.Rel
