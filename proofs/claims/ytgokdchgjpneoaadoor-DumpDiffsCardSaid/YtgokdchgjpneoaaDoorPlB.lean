import Derived.Test.YtgokdchgjpneoaaDoorPlA
/-! Plain laws: loops by what holds; words of 32 bits. -/
namespace Go.Pl
open Go Go.Eng

/-- A loop, by what holds ahead of each round. -/
theorem loops_inv {S E : Type} {step : S → Sum S E → Prop} (I : Nat → S → Prop) (Q : E → Prop) (N : Nat) {s : S} (h0 : I 0 s)
    (hs : ∀ k s, k < N → I k s → (∃ s', step s (.inl s') ∧ I (k + 1) s') ∨ ∃ e, step s (.inr e) ∧ Q e) (he : ∀ s, I N s → ∃ e, step s (.inr e) ∧ Q e) : ∃ e, Loops step s e ∧ Q e := by
  have key : ∀ m k s, k + m = N → I k s → ∃ e, Loops step s e ∧ Q e := by
    intro m
    induction m with
    | zero =>
      intro k s hk hi
      have : k = N := by omega
      subst this
      obtain ⟨e, h1, h2⟩ := he s hi
      exact ⟨e, .done h1, h2⟩
    | succ m ih =>
      intro k s hk hi
      rcases hs k s (by omega) hi with ⟨s', h1, h2⟩ | ⟨e, h1, h2⟩
      · obtain ⟨e, h3, h4⟩ := ih (k + 1) s' (by omega) h2
        exact ⟨e, .next h1 h3, h4⟩
      · exact ⟨e, .done h1, h2⟩
  exact key N 0 s (by omega) h0
theorem ne_true {b : Bool} (h : b = false) : ¬ b = true := by rw [h]; decide

theorem idx_of {α : Type} {xs : List α} {k : Nat} (h : k < xs.length) : idx xs (k : Int) xs[k] := ⟨by omega, by simp [h]⟩
theorem idx_at {α : Type} {xs : List α} {i : Int} {k : Nat} {x : α} (hi : i = (k : Int)) (h : xs[k]? = some x) : idx xs i x := by
  subst hi; exact ⟨by omega, by simpa using h⟩
theorem putN_getD {α : Type} {n : Nat} {z v : α} {xs : List α} {q j : Nat} (hj : j < n) : (putN n z xs q v).getD j z = if j = q then v else xs.getD j z := by
  simp only [putN, List.getD_eq_getElem?_getD, List.getElem?_map]
  rw [List.getElem?_range hj]; rfl

/-- A word of 32 bits as a whole number. -/
def B (x : BitVec 32) : Int := (x.toNat : Int)
theorem B_lo (x : BitVec 32) : 0 ≤ B x := by unfold B; omega
theorem B_hi (x : BitVec 32) : B x < 4294967296 := by have := x.isLt; unfold B; omega
theorem B_inj {x y : BitVec 32} (h : B x = B y) : x = y := by unfold B at h; exact BitVec.eq_of_toNat_eq (by omega)
def bw (c : Int) : BitVec 32 := BitVec.ofInt 32 c
theorem bw_B (x : BitVec 32) : bw (B x) = x := by unfold bw B; rw [BitVec.ofInt_natCast, BitVec.ofNat_toNat]; simp
theorem B_bw {c : Int} (h0 : 0 ≤ c) (h1 : c < 4294967296) : B (bw c) = c := by
  unfold bw B
  rw [BitVec.toNat_ofInt]; omega
theorem ofI (x : BitVec 32) : BitVec.ofInt 32 (B x) = x := bw_B x
theorem wB (x : BitVec 32) : IntKind.u32.wrap ((x.toNat : Nat) : Int) = B x := by have := x.isLt; rw [w_u32]; unfold B; omega
theorem wB' (x : BitVec 32) : IntKind.u32.wrap (B x) = B x := wB x
theorem iand_B (x y : BitVec 32) : iand .u32 (B x) (B y) = B (x &&& y) := by
  show IntKind.u32.wrap (((BitVec.ofInt 32 (B x) &&& BitVec.ofInt 32 (B y)).toNat : Nat) : Int) = _
  rw [ofI, ofI, wB]
theorem ior_B (x y : BitVec 32) : ior .u32 (B x) (B y) = B (x ||| y) := by
  show IntKind.u32.wrap (((BitVec.ofInt 32 (B x) ||| BitVec.ofInt 32 (B y)).toNat : Nat) : Int) = _
  rw [ofI, ofI, wB]
theorem ixor_B (x y : BitVec 32) : ixor .u32 (B x) (B y) = B (x ^^^ y) := by
  show IntKind.u32.wrap (((BitVec.ofInt 32 (B x) ^^^ BitVec.ofInt 32 (B y)).toNat : Nat) : Int) = _
  rw [ofI, ofI, wB]
theorem icompl_B (x : BitVec 32) : icompl .u32 (B x) = B (~~~x) := by
  have : (if IntKind.u32.signed = true then (-1 : Int) else IntKind.u32.max) = B (BitVec.allOnes 32) := by decide
  unfold icompl
  rw [this, ixor_B, BitVec.allOnes_xor]
theorem ishr_B (x : BitVec 32) {s : Int} (n : Nat) (hs : s = (n : Int)) (hn : n ≤ 32) : ishr .u32 (B x) s = B (x >>> n) := by
  subst hs
  show (B x).fdiv (2 ^ min (n : Int).toNat 32) = _
  have e : min (n : Int).toNat 32 = n := by omega
  rw [e, Int.fdiv_eq_ediv_of_nonneg _ (by have : (0 : Int) < 2 ^ n := Int.pow_pos (by decide)
                                          omega)]
  unfold B
  rw [BitVec.toNat_ushiftRight, Nat.shiftRight_eq_div_pow]
  norm_cast
theorem ishl_B (x : BitVec 32) {s : Int} (n : Nat) (hs : s = (n : Int)) (hn : n ≤ 32) : ishl .u32 (B x) s = B (x <<< n) := by
  subst hs
  show IntKind.u32.wrap (B x * 2 ^ min (n : Int).toNat 32) = _
  have e : min (n : Int).toNat 32 = n := by omega
  rw [e, w_u32]
  unfold B
  rw [BitVec.toNat_shiftLeft, Nat.shiftLeft_eq]
  have e2 : (x.toNat : Int) * 2 ^ n = ((x.toNat * 2 ^ n : Nat) : Int) := by norm_cast
  rw [e2]
  generalize x.toNat * 2 ^ n = q
  omega
theorem ineg_B (x : BitVec 32) : IntKind.u32.wrap (0 - B x) = B (-x) := by
  have := x.isLt
  rw [w_u32]; unfold B
  rw [BitVec.toNat_neg]; omega
theorem take_min (l : List Int) (n : Nat) : (l.drop (0 : Int).toNat).take (((min (l.length : Int) (n : Int)) : Int) - 0).toNat = l.take n := by
  rw [show (0 : Int).toNat = 0 from rfl, List.drop_zero, show ((min (l.length : Int) (n : Int)) - 0).toNat = min l.length n by omega]
  by_cases h : l.length ≤ n
  · rw [Nat.min_eq_left h, List.take_length, List.take_of_length_le h]
  · rw [Nat.min_eq_right (by omega)]
theorem ok_u8 {n : Int} (h : IntOk .u8 n) : 0 ≤ n ∧ n < 256 := by
  obtain ⟨h1, h2⟩ := h
  simp only [IntKind.min, IntKind.max, IntKind.signed, IntKind.bits] at h1 h2
  simp at h1 h2; omega
theorem ok_u32 {n : Int} (h : IntOk .u32 n) : 0 ≤ n ∧ n < 4294967296 := by
  obtain ⟨h1, h2⟩ := h
  simp only [IntKind.min, IntKind.max, IntKind.signed, IntKind.bits] at h1 h2
  simp at h1 h2; omega
theorem ok_i64 {n : Int} (h : IntOk .i64 n) : -9223372036854775808 ≤ n ∧ n ≤ 9223372036854775807 := by
  obtain ⟨h1, h2⟩ := h
  simp only [IntKind.min, IntKind.max, IntKind.signed, IntKind.bits] at h1 h2
  simp at h1 h2; omega
end Go.Pl
