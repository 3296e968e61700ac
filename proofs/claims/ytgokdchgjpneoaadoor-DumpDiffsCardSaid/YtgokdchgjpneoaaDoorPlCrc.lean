import Derived.Test.YtgokdchgjpneoaaDoorPlB
import Derived.Test.YtgokdchgjpneoaaDoorURel
/-! Plain laws: sums over bytes. -/
namespace Go.Rel
open Go Go.Eng Go.Pl

def polyB : BitVec 32 := 3988292384#32
def st1 (w : BitVec 32) : BitVec 32 := (w >>> 1) ^^^ (polyB &&& -(w &&& 1#32))
def itS : Nat → BitVec 32 → BitVec 32
  | 0, w => w
  | k + 1, w => st1 (itS k w)
def sh8 (w : BitVec 32) : BitVec 32 := itS 8 w

theorem neg_and1 (w : BitVec 32) : -(w &&& 1#32) = if w.getLsbD 0 then BitVec.allOnes 32 else 0#32 := by
  have h : w &&& 1#32 = if w.getLsbD 0 then 1#32 else 0#32 := by
    apply BitVec.eq_of_getLsbD_eq
    intro i hi
    rw [BitVec.getLsbD_and]
    by_cases h0 : i = 0
    · subst h0; cases hw : w.getLsbD 0 <;> simp
    · have : (1#32).getLsbD i = false := by rw [BitVec.getLsbD_one]; simp [h0]
      rw [this]; cases hw : w.getLsbD 0 <;> simp [this]
  rw [h]; cases w.getLsbD 0 <;> rfl
theorem st1_eq (w : BitVec 32) : st1 w = if w.getLsbD 0 then (w >>> 1) ^^^ polyB else w >>> 1 := by
  unfold st1; rw [neg_and1]
  cases w.getLsbD 0
  · simp
  · rw [if_pos rfl, if_pos rfl, BitVec.and_allOnes]
theorem st1_xor (a b : BitVec 32) : st1 (a ^^^ b) = st1 a ^^^ st1 b := by
  rw [st1_eq, st1_eq, st1_eq, BitVec.getLsbD_xor, BitVec.ushiftRight_xor_distrib]
  cases a.getLsbD 0 <;> cases b.getLsbD 0 <;> simp
  · rw [BitVec.xor_assoc]
  · rw [BitVec.xor_assoc, BitVec.xor_assoc, BitVec.xor_comm polyB]
  · rw [BitVec.xor_assoc, BitVec.xor_comm polyB, BitVec.xor_assoc, BitVec.xor_self, BitVec.xor_zero]
theorem itS_xor (k : Nat) (a b : BitVec 32) : itS k (a ^^^ b) = itS k a ^^^ itS k b := by
  induction k with
  | zero => rfl
  | succ k ih => simp only [itS]; rw [ih, st1_xor]
theorem itS_add (j k : Nat) (w : BitVec 32) : itS (j + k) w = itS j (itS k w) := by
  induction j with
  | zero => simp [itS]
  | succ j ih => rw [Nat.succ_add]; simp only [itS]; rw [ih]
theorem itS_one (w : BitVec 32) : itS 1 w = st1 w := rfl
theorem st1_shl {a : BitVec 32} (h : a.toNat < 2 ^ 31) : st1 (a <<< 1) = a := by
  rw [st1_eq]
  have : (a <<< 1).getLsbD 0 = false := by rw [BitVec.getLsbD_shiftLeft]; simp
  rw [this]
  simp only [Bool.false_eq_true, if_false]
  apply BitVec.eq_of_toNat_eq
  rw [BitVec.toNat_ushiftRight, BitVec.toNat_shiftLeft, Nat.shiftRight_eq_div_pow, Nat.shiftLeft_eq]
  omega
theorem itS_shl : ∀ (k : Nat) {a : BitVec 32}, a.toNat * 2 ^ k < 2 ^ 32 → itS k (a <<< k) = a
  | 0, a, _ => by simp [itS]
  | k + 1, a, h => by
    have h1 : a <<< (k + 1) = (a <<< k) <<< 1 := by rw [BitVec.shiftLeft_add]
    have h2 : a.toNat * 2 ^ k < 2 ^ 31 := by rw [Nat.pow_succ, ← Nat.mul_assoc] at h; omega
    have h3 : (a <<< k).toNat < 2 ^ 31 := by
      rw [BitVec.toNat_shiftLeft, Nat.shiftLeft_eq]
      exact Nat.lt_of_le_of_lt (Nat.mod_le _ _) h2
    rw [itS_add k 1, h1, itS_one, st1_shl h3]
    exact itS_shl k (by rw [Nat.pow_succ, ← Nat.mul_assoc] at h; omega)

theorem shift_ok (w : BitVec 32) : crc_shift (B w) (B (sh8 w)) := by
  refine ⟨B (sh8 w), ?_, rfl⟩
  have := loops_count (step := crc_shift_l2) (fun k => (B (itS k w), (k : Int))) 8 (e := B (sh8 w)) (fun k hk => ?_) ?_
  · exact this
  · unfold crc_shift_l2
    rw [if_pos (by simp; omega), w_small (by omega) (by omega)]
    have e1 : (1 : Int) = B 1#32 := rfl
    have e2 : (3988292384 : Int) = B polyB := rfl
    simp only
    rw [ishr_B _ (s := 1) 1 rfl (by omega), e1, iand_B, ineg_B, e2, iand_B, ixor_B]
    congr 2
  · unfold crc_shift_l2
    rw [if_neg (by simp)]; rfl

/-- The tables that crc.New makes. -/
def IsTab (t : List Int) : Prop := ∀ k i, k < 4 → i < 256 → t.getD (k * 256 + i) 0 = B (itS (8 * (k + 1)) (BitVec.ofNat 32 i))
theorem new_ok : ∃ t, crc_New t ∧ IsTab t := by
  have key := loops_inv (step := crc_New_l2) (s := (0, List.replicate 1024 0)) (fun i (s : Int × List Int) => s.1 = (i : Int) ∧ ∀ k j, k < 4 → j < i → s.2.getD (k * 256 + j) 0 = B (itS (8 * (k + 1)) (BitVec.ofNat 32 j))) IsTab 256 ⟨rfl, fun _ _ _ h => by omega⟩ ?_ ?_
  · obtain ⟨e, h1, h2⟩ := key
    exact ⟨e, ⟨e, h1, rfl⟩, h2⟩
  · rintro i ⟨s1, t0⟩ hi ⟨rfl, h2⟩
    left
    have k2 := loops_inv (step := crc_New_l4 ((i : Int), t0)) (s := (IntKind.u32.wrap (i : Int), 0, t0)) (fun k (s : Int × Int × List Int) => s.1 = B (itS (8 * k) (BitVec.ofNat 32 i)) ∧ s.2.1 = (k : Int) ∧ (∀ q j, q < 4 → j < i → s.2.2.getD (q * 256 + j) 0 = B (itS (8 * (q + 1)) (BitVec.ofNat 32 j))) ∧ ∀ q, q < k → s.2.2.getD (q * 256 + i) 0 = B (itS (8 * (q + 1)) (BitVec.ofNat 32 i)))
      (fun t => ∀ q j, q < 4 → j < i + 1 → t.getD (q * 256 + j) 0 = B (itS (8 * (q + 1)) (BitVec.ofNat 32 j))) 4 ?_ ?_ ?_
    · obtain ⟨e, h3, h4⟩ := k2
      refine ⟨((i + 1 : Nat), e), ?_, rfl, h4⟩
      unfold crc_New_l2
      rw [if_pos (by simp; omega)]
      refine ⟨e, h3, ?_⟩
      unfold crc_New_j3
      rw [w_small (by simp; omega) (by simp; omega)]; simp
    · refine ⟨?_, rfl, h2, fun q hq => by omega⟩
      simp only [itS]
      rw [w_u32]; unfold B; rw [BitVec.toNat_ofNat]; omega
    · rintro k ⟨x, y, t⟩ hk ⟨h3, h4, h5, h6⟩
      simp only at h3 h4 h5 h6
      subst h3 h4
      left
      refine ⟨(B (sh8 (itS (8 * k) (BitVec.ofNat 32 i))), IntKind.i64.wrap ((k : Int) + 1), putN 1024 0 t ((k : Int).toNat * 256 + (i : Int).toNat) (B (sh8 (itS (8 * k) (BitVec.ofNat 32 i))))), ?_, ?_⟩
      · unfold crc_New_l4
        rw [if_pos (by simp; omega)]
        exact ⟨_, shift_ok _, by simp, by simp; omega, by simp, by simp; omega, rfl⟩
      · simp only [Int.toNat_natCast]
        refine ⟨by rw [Nat.mul_succ, Nat.add_comm, itS_add]; rfl, by rw [w_small (by omega) (by omega)]; rfl, fun q j hq hj => ?_, fun q hq => ?_⟩
        · rw [putN_getD (by omega), if_neg (by omega)]; exact h5 q j hq hj
        · rw [putN_getD (by omega)]
          by_cases e : q = k
          · subst e; rw [if_pos rfl, Nat.mul_succ, Nat.add_comm (8 * q), itS_add]; rfl
          · rw [if_neg (by omega)]; exact h6 q (by omega)
    · rintro ⟨x, y, t⟩ ⟨h3, h4, h5, h6⟩
      simp only at h3 h4 h5 h6
      refine ⟨t, ?_, fun q j hq hj => ?_⟩
      · unfold crc_New_l4
        rw [if_neg (by simp [h4])]
      · by_cases e : j = i
        · subst e; exact h6 q hq
        · exact h5 q j hq (by omega)
  · rintro ⟨s1, t⟩ ⟨h1, h2⟩
    simp only at h1 h2
    refine ⟨t, ?_, fun k i hk hi => h2 k i hk hi⟩
    unfold crc_New_l2
    rw [if_neg (by simp [h1])]
/-- Numbers that are bytes. -/
def Byt (l : List Int) : Prop := ∀ x ∈ l, 0 ≤ x ∧ x < 256
theorem Byt.drop {l : List Int} (h : Byt l) (n : Nat) : Byt (l.drop n) := fun x hx => h x (List.mem_of_mem_drop hx)
theorem Byt.take {l : List Int} (h : Byt l) (n : Nat) : Byt (l.take n) := fun x hx => h x (List.mem_of_mem_take hx)
theorem Byt.app {l m : List Int} (h : Byt l) (h' : Byt m) : Byt (l ++ m) := fun x hx => (List.mem_append.1 hx).elim (h x) (h' x)
theorem ok_byt {l : List Int} (h : ListOk (IntOk .u8) l) : Byt l := fun x hx => ok_u8 (h.1 x hx)
def upd (w : BitVec 32) (c : Int) : BitVec 32 := sh8 (w ^^^ bw c)
def sumF (w : BitVec 32) (l : List Int) : BitVec 32 := l.foldl upd w

theorem bits255 {i : Nat} (h : i < 32) : (255#32).getLsbD i = decide (i < 8) := by
  have : ∀ i : Fin 32, (255#32).getLsbD i.val = decide (i.val < 8) := by decide
  exact this ⟨i, h⟩
theorem split8 (z : BitVec 32) : z = ((z >>> 8) <<< 8) ^^^ (z &&& 255#32) := by
  apply BitVec.eq_of_getLsbD_eq
  intro i hi
  rw [BitVec.getLsbD_xor, BitVec.getLsbD_and, bits255 hi, BitVec.getLsbD_shiftLeft, BitVec.getLsbD_ushiftRight]
  by_cases h : i < 8
  · simp [h]
  · simp [h, hi, show 8 + (i - 8) = i by omega]
theorem sh8_split (z : BitVec 32) : sh8 z = (z >>> 8) ^^^ sh8 (z &&& 255#32) := by
  have e := congrArg sh8 (split8 z)
  refine e.trans ?_
  show itS 8 _ = _
  rw [itS_xor, itS_shl 8 (a := z >>> 8)]
  · rfl
  · have := z.isLt
    rw [BitVec.toNat_ushiftRight, Nat.shiftRight_eq_div_pow]; omega
theorem and255_toNat (z : BitVec 32) : (z &&& 255#32).toNat = z.toNat % 256 := by
  rw [BitVec.toNat_and]; exact Nat.and_two_pow_sub_one_eq_mod z.toNat 8
theorem bw_toNat {c : Int} (h : 0 ≤ c ∧ c < 256) : (bw c).toNat = c.toNat := by
  have := B_bw h.1 (show c < 4294967296 by omega)
  unfold B at this; omega
theorem bw_shr {c : Int} (h : 0 ≤ c ∧ c < 256) : bw c >>> 8 = 0#32 := by
  apply BitVec.eq_of_toNat_eq
  rw [BitVec.toNat_ushiftRight, Nat.shiftRight_eq_div_pow, bw_toNat h]
  simp; omega
theorem ixor8 (w : BitVec 32) {c : Int} (h : 0 ≤ c ∧ c < 256) : ixor .u8 (IntKind.u8.wrap (B w)) c = B ((w ^^^ bw c) &&& 255#32) := by
  show IntKind.u8.wrap (((BitVec.ofInt 8 (IntKind.u8.wrap (B w)) ^^^ BitVec.ofInt 8 c).toNat : Nat) : Int) = _
  have e1 : BitVec.ofInt 8 (IntKind.u8.wrap (B w)) = w.setWidth 8 := by
    apply BitVec.eq_of_toNat_eq
    rw [BitVec.toNat_ofInt, BitVec.toNat_setWidth, w_u8]; unfold B; omega
  have e2 : BitVec.ofInt 8 c = (bw c).setWidth 8 := by
    apply BitVec.eq_of_toNat_eq
    rw [BitVec.toNat_ofInt, BitVec.toNat_setWidth, bw_toNat h]; omega
  rw [e1, e2, ← BitVec.setWidth_xor, BitVec.toNat_setWidth, w_u8]
  unfold B
  rw [and255_toNat]; omega

section
variable {t : List Int} (ht : IsTab t)
include ht
theorem tab_at {k : Nat} (hk : k < 4) (z : BitVec 32) (hz : z.toNat < 256) {q : Nat} (hq : q = k * 256 + z.toNat) : t.getD q 0 = B (itS (8 * (k + 1)) z) := by
  subst hq
  rw [ht k z.toNat hk hz]
  simp
theorem add_l3 {w : BitVec 32} {c : Int} (hc : 0 ≤ c ∧ c < 256) : ixor .u32 (ishr .u32 (B w) 8) (t.getD ((ixor .u8 (IntKind.u8.wrap (B w)) c).toNat) 0) = B (upd w c) := by
  have h1 : (ixor .u8 (IntKind.u8.wrap (B w)) c).toNat = ((w ^^^ bw c) &&& 255#32).toNat := by rw [ixor8 w hc]; unfold B; omega
  have h2 := and255_toNat (w ^^^ bw c)
  rw [h1, tab_at ht (k := 0) (by omega) ((w ^^^ bw c) &&& 255#32) (by omega) (by omega), ishr_B _ (s := 8) 8 rfl (by omega), ixor_B]
  unfold upd
  rw [sh8_split, BitVec.ushiftRight_xor_distrib, bw_shr hc, BitVec.xor_zero]
  rfl
end

theorem or_xor {a b : BitVec 32} (k : Nat) (h : a.toNat < 2 ^ k) : a ||| (b <<< k) = a ^^^ (b <<< k) := by
  apply BitVec.eq_of_getLsbD_eq
  intro i hi
  rw [BitVec.getLsbD_or, BitVec.getLsbD_xor, BitVec.getLsbD_shiftLeft]
  by_cases h1 : i < k
  · simp [h1]
  · have : a.getLsbD i = false := by
      rw [BitVec.getLsbD]
      exact Nat.testBit_lt_two_pow (Nat.lt_of_lt_of_le h (Nat.pow_le_pow_right (by omega) (by omega)))
    simp [this]
theorem or_lt {a b : BitVec 32} (k : Nat) (h : a.toNat < 2 ^ k) (hb : b.toNat < 256) : (a ||| (b <<< k)).toNat < 2 ^ (k + 8) := by
  rw [BitVec.toNat_or, BitVec.toNat_shiftLeft, Nat.shiftLeft_eq]
  refine Nat.or_lt_two_pow (Nat.lt_of_lt_of_le h (Nat.pow_le_pow_right (by omega) (by omega))) ?_
  refine Nat.lt_of_le_of_lt (Nat.mod_le _ _) ?_
  rw [Nat.pow_add, Nat.mul_comm]
  exact Nat.mul_lt_mul_of_pos_left hb (Nat.pow_pos (by omega))
/-- One byte more, k bits on. -/
theorem upd_it (k : Nat) (hk : k ≤ 24) (x : BitVec 32) {c : Int} (hc : 0 ≤ c ∧ c < 256) : upd (itS k x) c = itS (8 + k) (x ^^^ (bw c <<< k)) := by
  unfold upd
  have hp : (2 : Nat) ^ k ≤ 2 ^ 24 := Nat.pow_le_pow_right (by omega) hk
  have h1 : (bw c).toNat < 256 := by rw [bw_toNat hc]; omega
  have : bw c = itS k (bw c <<< k) := (itS_shl k (by
    have := Nat.mul_le_mul (Nat.le_of_lt_succ h1) hp
    omega)).symm
  rw [itS_add, itS_xor, ← this]; rfl
/-- Four bytes at once. -/
theorem four (s : BitVec 32) : itS 32 s = itS 32 (s &&& 255#32) ^^^ itS 24 ((s >>> 8) &&& 255#32) ^^^ itS 16 ((s >>> 16) &&& 255#32) ^^^ itS 8 (s >>> 24) := by
  have e : ∀ z : BitVec 32, ∀ k, itS (8 + k) z = itS k (z >>> 8) ^^^ itS (8 + k) (z &&& 255#32) := fun z k => by
    rw [Nat.add_comm 8 k, itS_add, show itS 8 z = sh8 z from rfl, sh8_split, itS_xor, itS_add]; rfl
  have e1 := e s 24
  have e2 := e (s >>> 8) 16
  have e3 := e (s >>> 16) 8
  rw [← BitVec.shiftRight_add] at e2 e3
  simp only [Nat.reduceAdd] at e1 e2 e3
  rw [e1, e2, e3]
  rw [BitVec.xor_comm, BitVec.xor_comm (itS 8 (s >>> 24) ^^^ itS 16 ((s >>> 16) &&& 255#32)), ← BitVec.xor_assoc, BitVec.xor_comm (itS 8 (s >>> 24)), ← BitVec.xor_assoc]
def word4 (a b c d : Int) : BitVec 32 := ((bw a ||| (bw b <<< 8)) ||| (bw c <<< 16)) ||| (bw d <<< 24)
theorem word4_eq {a b c d : Int} (ha : 0 ≤ a ∧ a < 256) (hb : 0 ≤ b ∧ b < 256) (hc : 0 ≤ c ∧ c < 256) : word4 a b c d = bw a ^^^ (bw b <<< 8) ^^^ (bw c <<< 16) ^^^ (bw d <<< 24) := by
  have h1 : (bw a).toNat < 2 ^ 8 := by rw [bw_toNat ha]; omega
  have h2 : (bw b).toNat < 256 := by rw [bw_toNat hb]; omega
  have h3 : (bw c).toNat < 256 := by rw [bw_toNat hc]; omega
  have g1 := or_lt 8 h1 h2
  have g2 := or_lt 16 g1 h3
  unfold word4
  rw [or_xor 24 g2, or_xor 16 g1, or_xor 8 h1]
theorem upd4 (w : BitVec 32) {a b c d : Int} (ha : 0 ≤ a ∧ a < 256) (hb : 0 ≤ b ∧ b < 256) (hc : 0 ≤ c ∧ c < 256) (hd : 0 ≤ d ∧ d < 256) : upd (upd (upd (upd w a) b) c) d = itS 32 (w ^^^ word4 a b c d) := by
  have e1 : upd w a = itS 8 (w ^^^ bw a) := rfl
  rw [e1, upd_it 8 (by omega) _ hb, upd_it 16 (by omega) _ hc, upd_it 24 (by omega) _ hd, word4_eq ha hb hc]
  simp only [BitVec.xor_assoc]
theorem lt_at {l : List Int} (hl : Byt l) {k : Nat} (h : k < l.length) : 0 ≤ l[k] ∧ l[k] < 256 := hl _ (List.getElem_mem h)
theorem B_lt (z : BitVec 32) : B (z &&& 255#32) < 256 := by have := and255_toNat z; unfold B; omega
theorem shr24 (z : BitVec 32) : (z >>> 24).toNat < 256 := by have := z.isLt; rw [BitVec.toNat_ushiftRight, Nat.shiftRight_eq_div_pow]; omega
theorem B_toNat (z : BitVec 32) : (B z).toNat = z.toNat := by unfold B; omega

theorem add_l4 {t : List Int} (ht : IsTab t) (w : BitVec 32) {l : List Int} (hl : Byt l) (h4 : 4 ≤ l.length) : crc_Table_Add_l4 t (B w, l) (.inl (B (sumF w (l.take 4)), l.drop 4)) := by
  unfold crc_Table_Add_l4
  simp only
  rw [if_neg (by simp; omega)]
  have b0 := lt_at hl (show 0 < l.length by omega)
  have b1 := lt_at hl (show 1 < l.length by omega)
  have b2 := lt_at hl (show 2 < l.length by omega)
  have b3 := lt_at hl (show 3 < l.length by omega)
  have ea : ∀ c : Int, 0 ≤ c ∧ c < 256 → IntKind.u32.wrap c = B (bw c) := fun c hc => by rw [w_u32, B_bw hc.1 (by omega)]; omega
  refine ⟨l[0], idx_of (k := 0) (by omega), l[1], idx_of (k := 1) (by omega), l[2], idx_of (k := 2) (by omega), l[3], idx_of (k := 3) (by omega), ?_⟩
  have e0 : (255 : Int) = B 255#32 := rfl
  rw [ea _ b0, ea _ b1, ea _ b2, ea _ b3, ishl_B _ (s := 8) 8 rfl (by omega), ishl_B _ (s := 16) 16 rfl (by omega), ishl_B _ (s := 24) 24 rfl (by omega), ior_B, ior_B, ior_B, ixor_B, e0, iand_B, ishr_B _ (s := 8) 8 rfl (by omega), ishr_B _ (s := 16) 16 rfl (by omega), ishr_B _ (s := 24) 24 rfl (by omega), iand_B, iand_B]
  have ew : bw l[0] ||| bw l[1] <<< 8 ||| bw l[2] <<< 16 ||| bw l[3] <<< 24 = word4 l[0] l[1] l[2] l[3] := rfl
  rw [ew]
  have h24 := shr24 (w ^^^ word4 l[0] l[1] l[2] l[3])
  refine ⟨B_lo _, B_lt _, B_lo _, B_lt _, B_lo _, B_lt _, B_lo _, ?_, by omega, Int.le_refl _, ?_⟩
  · unfold B; omega
  · have c1 := and255_toNat (w ^^^ word4 l[0] l[1] l[2] l[3])
    have c2 := and255_toNat ((w ^^^ word4 l[0] l[1] l[2] l[3]) >>> 8)
    have c3 := and255_toNat ((w ^^^ word4 l[0] l[1] l[2] l[3]) >>> 16)
    rw [tab_at ht (k := 3) (by omega) ((w ^^^ word4 l[0] l[1] l[2] l[3]) &&& 255#32) (by omega) (by rw [B_toNat]),
      tab_at ht (k := 2) (by omega) (((w ^^^ word4 l[0] l[1] l[2] l[3]) >>> 8) &&& 255#32) (by omega) (by rw [B_toNat]),
      tab_at ht (k := 1) (by omega) (((w ^^^ word4 l[0] l[1] l[2] l[3]) >>> 16) &&& 255#32) (by omega) (by rw [B_toNat]),
      tab_at ht (k := 0) (by omega) ((w ^^^ word4 l[0] l[1] l[2] l[3]) >>> 24) (by omega) (by rw [B_toNat]; omega), ixor_B, ixor_B, ixor_B]
    have ef := four (w ^^^ word4 l[0] l[1] l[2] l[3])
    simp only [Nat.reduceMul, Nat.reduceAdd]
    rw [← ef, ← upd4 w b0 b1 b2 b3]
    have e9 : sumF w (l.take 4) = upd (upd (upd (upd w l[0]) l[1]) l[2]) l[3] := by
      match l, h4 with
      | a :: b :: c :: d :: l, _ => rfl
    rw [e9]
    congr 2
    have : ((l.length : Int) - 4).toNat = l.length - 4 := by omega
    rw [this, show (4 : Int).toNat = 4 from rfl, List.take_of_length_le (by simp)]
theorem sumF_app (w : BitVec 32) (l m : List Int) : sumF w (l ++ m) = sumF (sumF w l) m := by simp [sumF]

theorem add_ok' {t : List Int} (ht : IsTab t) (w : BitVec 32) {l : List Int} (hl : Byt l) (_hlen : l.length < 4611686018427387904) : crc_Table_Add t (B w) l (B (sumF w l)) := by
  have k1 := loops_inv (step := crc_Table_Add_l4 t) (s := (B w, l)) (fun k (s : Int × List Int) => s = (B (sumF w (l.take (4 * k))), l.drop (4 * k))) (fun e => e = (B (sumF w (l.take (4 * (l.length / 4)))), l.drop (4 * (l.length / 4)))) (l.length / 4) ?_ ?_ ?_
  · obtain ⟨e, h1, rfl⟩ := k1
    refine ⟨_, h1, ?_⟩
    generalize hm : l.drop (4 * (l.length / 4)) = m
    generalize hv : sumF w (l.take (4 * (l.length / 4))) = v
    have hml : Byt m := by rw [← hm]; exact hl.drop _
    have hmn : m.length < 4611686018427387904 := by rw [← hm, List.length_drop]; omega
    have hfin : sumF w l = sumF v m := by
      rw [← hv, ← hm, ← sumF_app, List.take_append_drop]
    refine ⟨B (sumF v m), ?_, by rw [hfin]; rfl⟩
    refine loops_count (step := crc_Table_Add_l3 t (B v, m)) (fun k => (B (sumF v (m.take k)), (k : Int))) m.length (fun k hk => ?_) ?_
    · unfold crc_Table_Add_l3
      simp only
      rw [if_pos (by simp; omega)]
      have hc := lt_at hml hk
      have hi := ixor8 (sumF v (m.take k)) hc
      refine ⟨m[k], idx_of hk, by rw [hi]; exact B_lo _, by rw [hi]; exact B_lt _, ?_⟩
      rw [add_l3 ht hc, w_small (by omega) (by omega)]
      have : sumF v (m.take (k + 1)) = upd (sumF v (m.take k)) m[k] := by
        rw [List.take_succ_eq_append_getElem hk, sumF_app]; rfl
      rw [this]; simp
    · unfold crc_Table_Add_l3
      simp only
      rw [if_neg (by simp), List.take_length]
  · rfl
  · rintro k s hk rfl
    left
    refine ⟨_, add_l4 ht _ (hl.drop _) (by rw [List.length_drop]; omega), ?_⟩
    rw [← sumF_app, List.drop_drop, show 4 * k + 4 = 4 * (k + 1) by omega]
    have : l.take (4 * k) ++ (l.drop (4 * k)).take 4 = l.take (4 * (k + 1)) := by
      rw [show 4 * (k + 1) = 4 * k + 4 by omega, List.take_add]
    rw [this]
  · rintro s rfl
    refine ⟨_, ?_, rfl⟩
    unfold crc_Table_Add_l4
    rw [if_pos (by simp; omega)]
def sumW (l : List Int) : BitVec 32 := ~~~ (sumF (BitVec.allOnes 32) l)
/-- The sum of bytes. -/
theorem sum_ok {t : List Int} (ht : IsTab t) {l : List Int} (hl : Byt l) (hlen : l.length < 4611686018427387904) : crc_Table_Sum t [l] (B (sumW l)) := by
  refine ⟨_, rfl, B (sumF (BitVec.allOnes 32) l), ?_, ?_⟩
  · refine loops_count (step := crc_Table_Sum_l2 t [l]) (fun k => (if k = 0 then 4294967295 else B (sumF (BitVec.allOnes 32) l), (k : Int))) 1 (fun k hk => ?_) ?_
    · have : k = 0 := by omega
      subst this
      unfold crc_Table_Sum_l2
      rw [if_pos (by simp)]
      refine ⟨l, ⟨by simp, by simp⟩, _, add_ok' ht (BitVec.allOnes 32) hl hlen, ?_⟩
      simp; rfl
    · unfold crc_Table_Sum_l2
      rw [if_neg (by simp)]
      simp
  · refine ⟨_, rfl, ?_⟩
    rw [icompl_B]; rfl
def sumB (w : BitVec 32) : List Int := [B w % 256, B w / 256 % 256, B w / 65536 % 256, B w / 16777216]
theorem bytes_ok (w : BitVec 32) : crc_bytes (B w) (sumB w) := by
  have h1 := B_hi w
  have h2 := B_lo w
  have e : ∀ n : Nat, n ≤ 32 → ∀ s : Int, s = (n : Int) → ishr .u32 (B w) s = B w / 2 ^ n := fun n hn s hs => by
    subst hs
    show (B w).fdiv (2 ^ min (n : Int).toNat 32) = _
    have hp : (0 : Int) < 2 ^ n := Int.pow_pos (by decide)
    rw [show min (n : Int).toNat 32 = n by omega, Int.fdiv_eq_ediv_of_nonneg _ (Int.le_of_lt hp)]
  unfold crc_bytes sumB
  rw [e 8 (by omega) 8 rfl, e 16 (by omega) 16 rfl, e 24 (by omega) 24 rfl]
  simp only [w_u8]
  congr 4
  omega
theorem sumB_byt (w : BitVec 32) : Byt (sumB w) := by
  have h1 := B_hi w
  have h2 := B_lo w
  intro x hx
  simp only [sumB, List.mem_cons, List.not_mem_nil, or_false] at hx
  rcases hx with rfl | rfl | rfl | rfl <;> omega
theorem seal_ok {t : List Int} (ht : IsTab t) {l : List Int} (hl : Byt l) (hlen : l.length < 1073741824) : crc_Seal t l (l ++ sumB (sumW l)) := by
  refine ⟨_, sum_ok ht hl (by omega), _, bytes_ok _, ?_⟩
  simp only [List.length_nil, List.nil_append, List.length_cons]
  refine ⟨by omega, by omega, by omega, by omega, rfl⟩
end Go.Rel
