import Derived.Test.YtlamkclnkbnedaaDoorPlLens
import Derived.Test.YtlamkclnkbnedaaDoorPlAck
/-! Plain law: the ack of any bytes. -/
namespace Go.Rel
open Go Go.Eng Go.Pl
theorem words_step {S : Type} {Y : Int → S → Bool × S → Prop} {x : List Int} (hx : Byt x) (hl : x.length < 1073741824) {at_ : Nat} (h : at_ + 4 ≤ x.length) {s u : S} {y : Bool} (hy : Y (leV ((x.drop at_).take 4)) s (y, u)) :
    lens_Lens_Words_1_l1 S Y 4 (s, x, (at_ : Int), 0) (if y = true then .inl (u, x, ((at_ + 4 : Nat) : Int), 0) else .inr (u, (x, ((at_ + 4 : Nat) : Int), 0))) := by
  unfold lens_Lens_Words_1_l1
  rw [if_neg (by decide), if_neg (by decide)]
  unfold lens_Lens_Words_1_j2
  refine (if_pos rfl).mpr ?_
  have hc : ((!(decide ((0 : Int) = 0))) || (decide (((x.drop at_).length : Int) < 4))) = false := by
    rw [decide_eq_true rfl, decide_eq_false (by rw [List.length_drop]; omega)]; rfl
  refine ⟨0, rfl, ((x.drop at_).length : Int), fun _ => ⟨_, left_ok (by omega), rfl⟩, _, fun _ => lword_ok hx (by omega) (n := 4) (by omega) h, y, u, fun _ => hy, ?_⟩
  rw [if_pos hc, hc]
  cases y with
  | true => rw [if_neg (by decide)]; rfl
  | false => rw [if_pos (by decide)]; rfl
/-- What an ack's bytes tell. -/
def ackV (x : List Int) : Int × Int := (leV (x.take 4), leV ((x.drop 8).take 4) * 4294967296 + leV ((x.drop 4).take 4))
def ackP (b : List Int) : (Int × Int) × Int := if b.length < 16 then ((0, 0), 13) else if 16 < b.length then ((0, 0), 3) else if (openB b).2 ≠ 0 then ((0, 0), (openB b).2) else (ackV (openB b).1, 0)
theorem leV4 {x : List Int} (hx : Byt x) (k : Nat) : 0 ≤ leV ((x.drop k).take 4) ∧ leV ((x.drop k).take 4) < 4294967296 := by
  have h1 := leV_bound ((x.drop k).take 4) ((hx.drop k).take 4)
  have hp : 256 ^ ((x.drop k).take 4).length ≤ 256 ^ 4 := Nat.pow_le_pow_right (by omega) (by rw [List.length_take]; omega)
  omega
theorem aparse_ok {b : List Int} (hb : Byt b) (hl : b.length < 1073741824) : ack_Parse b (ackP b) := by
  unfold ack_Parse ackP
  by_cases h1 : b.length < 16
  · rw [if_pos (by simp; omega), if_pos h1]
  · rw [if_neg (by simp; omega), if_neg h1]
    by_cases h2 : 16 < b.length
    · rw [if_pos (by simp; omega), if_pos h2]
    · rw [if_neg (by simp; omega), if_neg h2]
      obtain ⟨t, ht1, ht2⟩ := new_ok
      refine ⟨t, ht1, _, copen_ok ht2 hb hl, ?_⟩
      by_cases he : (openB b).2 = 0
      · rw [if_neg (by simpa using he), if_neg (by simpa using he)]
        obtain ⟨_, hx, _⟩ := openB_ok' he
        have hxl : (openB b).1.length = 12 := by rw [hx, List.length_take]; omega
        have hxb : Byt (openB b).1 := by rw [hx]; exact hb.take _
        generalize (openB b).1 = x at hxl hxb
        refine ⟨_, lnew_ok (by omega), _, rfl, .inr (leV (x.take 4), leV ((x.drop 4).take 4), leV ((x.drop 8).take 4), 2), (x, 12, 0), ?_, ?_⟩
        · refine ⟨(.inr (leV (x.take 4), leV ((x.drop 4).take 4), leV ((x.drop 8).take 4), 2), (x, 12, 0)), ?_, rfl⟩
          refine .next (words_step hxb (by omega) (at_ := 0) (by omega) (y := true) (u := .inl (leV (x.take 4), 0, 0, 1)) ⟨(0, 0, 0, 0), _, rfl, ?_, .inl ⟨_, rfl, rfl⟩⟩) ?_
          · unfold ack_Parse_l2
            refine ⟨by decide, by decide, ?_⟩
            rw [if_neg (by decide)]; rfl
          · refine .next (words_step hxb (by omega) (at_ := 4) (by omega) (y := true) (u := .inl (leV (x.take 4), leV ((x.drop 4).take 4), 0, 2)) ⟨(leV (x.take 4), 0, 0, 1), _, rfl, ?_, .inl ⟨_, rfl, rfl⟩⟩) ?_
            · unfold ack_Parse_l2
              refine ⟨by simp, by simp, ?_⟩
              rw [if_neg (by simp)]; rfl
            · refine .done (words_step hxb (by omega) (at_ := 8) (by omega) (y := false) (u := (Sum.inr (leV (x.take 4), leV ((x.drop 4).take 4), leV ((x.drop 8).take 4), 2) : Sum (Int × Int × Int × Int) (Int × Int × Int × Int))) ⟨(leV (x.take 4), leV ((x.drop 4).take 4), 0, 2), _, rfl, ?_, .inr ⟨_, rfl, rfl⟩⟩)
              unfold ack_Parse_l2
              refine ⟨by simp, by simp, ?_⟩
              rw [if_pos (by simp)]; rfl
        · show ack_Parse_j1 _ _
          unfold ack_Parse_j1 ackV
          have h4 := leV4 hxb 4
          have h8 := leV4 hxb 8
          simp only
          rw [w64_small (by omega) (by omega), w64_small (by omega) (by omega), ior_64 h8 h4]
      · rw [if_pos (by simpa using he), if_pos he]
theorem leV_app : ∀ (l m : List Int), leV (l ++ m) = leV l + ((256 ^ l.length : Nat) : Int) * leV m
  | [], m => by simp [leV]
  | c :: l, m => by
    have ih := leV_app l m
    simp only [List.cons_append, leV, ih, List.length_cons, Nat.pow_succ]
    rw [Int.natCast_mul, show ((256 : Nat) : Int) = 256 from rfl, Int.add_mul, Int.mul_right_comm]; omega
theorem rparse_ok {b : List Int} (hb : Byt b) (hl : b.length < 1073741824) : ref32_Parse b (ackP b) := by
  unfold ref32_Parse ackP
  by_cases h1 : b.length < 16
  · rw [if_pos (by simp; omega), if_pos h1]
  · rw [if_neg (by simp; omega), if_neg h1]
    by_cases h2 : 16 < b.length
    · rw [if_pos (by simp; omega), if_pos h2]
    · rw [if_neg (by simp; omega), if_neg h2]
      refine ⟨_, ropen_ok hb hl, ?_⟩
      by_cases he : (openB b).2 = 0
      · rw [if_neg (by simpa using he), if_neg (by simpa using he)]
        obtain ⟨_, hx, _⟩ := openB_ok' he
        have hxl : (openB b).1.length = 12 := by rw [hx, List.length_take]; omega
        have hxb : Byt (openB b).1 := by rw [hx]; exact hb.take _
        generalize hp : openB b = p at hxl hxb
        obtain ⟨x, e⟩ := p
        simp only at hxl hxb
        have ht4 : Byt (x.take 4) := hxb.take 4
        have hl4 : (x.take 4).length = 4 := by rw [List.length_take]; omega
        refine ⟨leV (x.take 4), ?_, leV ((x.drop 4).take 8), ?_, ?_⟩
        · have := loops_count (step := ref32_Parse_l4 (x, e)) (fun k => (3 - (k : Int), leV ((x.take 4).drop (4 - k)))) 4 (e := leV (x.take 4)) (fun k hk => ?_) ?_
          · simpa [leV, hl4] using this
          · unfold ref32_Parse_l4
            have hc := byt_at ht4 (show 3 - k < (x.take 4).length by omega)
            have hv := leV_bound ((x.take 4).drop (4 - k)) (ht4.drop _)
            have hp2 : 256 ^ ((x.take 4).drop (4 - k)).length ≤ 256 ^ 3 := Nat.pow_le_pow_right (by omega) (by rw [List.length_drop]; omega)
            simp only
            rw [if_pos (by simp; omega)]
            refine ⟨(x.take 4)[3 - k]'(by omega), idx_at (k := 3 - k) (by omega) (by rw [List.getElem_take]; exact List.getElem?_eq_getElem (by omega)), ?_⟩
            rw [w32_small (n := 256 * _) (by omega) (by omega), w32_small (n := (x.take 4)[3 - k]'(by omega)) (by omega) (by omega), w32_small (by omega) (by omega), w_small (by omega) (by omega), show 4 - (k + 1) = 3 - k by omega, leV_drop (show 3 - k < (x.take 4).length by omega), show 3 - k + 1 = 4 - k by omega]
            congr 2 <;> omega
          · unfold ref32_Parse_l4
            rw [if_neg (by simp)]; simp
        · have ht8 : Byt ((x.drop 4).take 8) := (hxb.drop 4).take 8
          have hl8 : ((x.drop 4).take 8).length = 8 := by rw [List.length_take, List.length_drop]; omega
          have := loops_count (step := ref32_Parse_l3 (x, e)) (fun k => (11 - (k : Int), leV (((x.drop 4).take 8).drop (8 - k)))) 8 (e := leV ((x.drop 4).take 8)) (fun k hk => ?_) ?_
          · have e0 : leV (((x.drop 4).take 8).drop 8) = 0 := by rw [List.drop_eq_nil_of_le (by omega)]; rfl
            simpa [e0, leV] using this
          · unfold ref32_Parse_l3
            have hc := byt_at ht8 (show 7 - k < ((x.drop 4).take 8).length by omega)
            have hv := leV_bound (((x.drop 4).take 8).drop (8 - k)) (ht8.drop _)
            have hp2 : 256 ^ (((x.drop 4).take 8).drop (8 - k)).length ≤ 256 ^ 7 := Nat.pow_le_pow_right (by omega) (by rw [List.length_drop]; omega)
            simp only
            rw [if_pos (by simp; omega)]
            refine ⟨((x.drop 4).take 8)[7 - k]'(by omega), idx_at (k := 11 - k) (by omega) ?_, ?_⟩
            · rw [List.getElem_take, List.getElem_drop, List.getElem?_eq_getElem (by omega)]
              congr 2; omega
            · rw [w64_small (n := 256 * _) (by omega) (by omega), w64_small (n := ((x.drop 4).take 8)[7 - k]'(by omega)) (by omega) (by omega), w64_small (by omega) (by omega), w_small (by omega) (by omega), show 8 - (k + 1) = 7 - k by omega, leV_drop (show 7 - k < ((x.drop 4).take 8).length by omega), show 7 - k + 1 = 8 - k by omega]
              congr 2 <;> omega
          · unfold ref32_Parse_l3
            rw [if_neg (by simp)]; simp
        · unfold ref32_Parse_j2 ackV
          have e8 : (x.drop 4).take 8 = (x.drop 4).take 4 ++ (x.drop 8).take 4 := by
            rw [show (8 : Nat) = 4 + 4 from rfl, List.take_add, List.drop_drop]
          rw [e8, leV_app, show ((x.drop 4).take 4).length = 4 by rw [List.length_take, List.length_drop]; omega]
          congr 2
          simp only
          omega
      · rw [if_pos (by simpa using he), if_pos he]
/-- An ack's bytes. -/
def ackB (a : Int × Int) : List Int := leB a.1 ++ leB (a.2 % 4294967296) ++ leB (a.2 / 4294967296 % 4294967296)
theorem abytes_ok (a : Int × Int) : ack_Bytes a (ackB a ++ sumB (sumW (ackB a))) := by
  refine ⟨_, rfl, (ackB a, 16, false), ?_, ?_⟩
  · have hs : ishr .u64 a.2 32 = a.2 / 4294967296 := ishr_u64 (by decide) (by decide)
    have e2 : IntKind.u32.wrap a.2 = a.2 % 4294967296 := w_u32 _
    have e3 : IntKind.u32.wrap (ishr .u64 a.2 32) = a.2 / 4294967296 % 4294967296 := by rw [hs, w_u32]
    have stp : ∀ (k : Nat) (p : List Int) (v : Int), k < 3 → p.length + 4 ≤ 16 → [a.1, (IntKind.u32.wrap a.2), (IntKind.u32.wrap (ishr .u64 a.2 32))].getD k 0 = v → ack_Bytes_l2 a ((k : Int), p, 16, false) (.inl (((k + 1 : Nat) : Int), p ++ leB v, 16, false)) := by
      intro k p v hk hp hv
      unfold ack_Bytes_l2
      simp only
      rw [if_pos (by simp; omega)]
      refine ⟨by omega, by omega, (0, (p ++ leB v, 16, false)), ?_, ?_⟩
      · rw [Int.toNat_natCast, hv]; exact pu32_ok (room := 16) hp (by decide)
      · simp only
        rw [w_small (by omega) (by omega)]; rfl
    refine .next (stp 0 [] _ (by omega) (by simp) rfl) (.next (stp 1 _ _ (by omega) (by simp [leB]) rfl) (.next (stp 2 _ _ (by omega) (by simp [leB]) rfl) (.done ?_)))
    unfold ack_Bytes_l2
    simp only
    rw [if_neg (by simp)]
    simp only [List.nil_append, ackB, e2, e3, List.append_assoc]
    rfl
  · obtain ⟨t, ht1, ht2⟩ := new_ok
    have hb : Byt (ackB a) := Byt.app (Byt.app (leB_byt _) (leB_byt _)) (leB_byt _)
    exact ⟨t, ht1, _, pbytes_ok (by simp [ackB, leB]), _, seal_ok ht2 hb (by simp [ackB, leB]), rfl⟩
theorem ackB_ackV {x : List Int} (hx : Byt x) (hl : x.length = 12) : ackB (ackV x) = x := by
  have h0 := leV4 hx 0
  have h4 := leV4 hx 4
  have h8 := leV4 hx 8
  rw [List.drop_zero] at h0
  unfold ackB ackV
  simp only
  rw [show (leV ((x.drop 8).take 4) * 4294967296 + leV ((x.drop 4).take 4)) % 4294967296 = leV ((x.drop 4).take 4) by omega,
    show (leV ((x.drop 8).take 4) * 4294967296 + leV ((x.drop 4).take 4)) / 4294967296 % 4294967296 = leV ((x.drop 8).take 4) by omega,
    leB_leV (hx.take 4) (by rw [List.length_take]; omega), leB_leV ((hx.drop 4).take 4) (by rw [List.length_take, List.length_drop]; omega), leB_leV ((hx.drop 8).take 4) (by rw [List.length_take, List.length_drop]; omega)]
  have e1 : (x.drop 8).take 4 = x.drop 8 := List.take_of_length_le (by rw [List.length_drop]; omega)
  have e2 : (x.drop 4).take 4 ++ x.drop 8 = x.drop 4 := by
    have := List.take_append_drop 4 (x.drop 4)
    rw [List.drop_drop] at this; exact this
  rw [e1, List.append_assoc, e2, List.take_append_drop]
theorem ackParses_true {b : List Int} (hb : Byt b) : law32_AckParses b true := by
  have h20 := take_min b 20
  have hl : (b.take 20).length ≤ 20 := by rw [List.length_take]; omega
  have hbt : Byt (b.take 20) := hb.take _
  unfold law32_AckParses
  rw [show ((20 : Nat) : Int) = 20 from rfl] at h20
  rw [h20]
  generalize b.take 20 = c at hl hbt
  refine ⟨by omega, by omega, _, aparse_ok hbt (by omega), _, rparse_ok hbt (by omega), _, known_ok, ?_⟩
  rw [if_pos rfl, if_pos (by simp), if_pos (by simp)]
  by_cases he : (ackP c).2 = 0
  · rw [if_neg (by simp [he])]
    refine ⟨_, abytes_ok _, _, same_ok (by simp [ackB, leB, sumB]), ?_⟩
    show true = _
    symm
    rw [decide_eq_true_eq]
    unfold ackP at he ⊢
    by_cases h1 : c.length < 16
    · rw [if_pos h1] at he; cases he
    · rw [if_neg h1] at he ⊢
      by_cases h2 : 16 < c.length
      · rw [if_pos h2] at he; cases he
      · rw [if_neg h2] at he ⊢
        by_cases h3 : (openB c).2 = 0
        · rw [if_neg (by simpa using h3)]
          obtain ⟨h4, h5, h6⟩ := openB_ok' h3
          have hxl : (openB c).1.length = 12 := by rw [h5, List.length_take]; omega
          have hxb : Byt (openB c).1 := by rw [h5]; exact hbt.take _
          simp only
          rw [ackB_ackV hxb hxl, h5, ← h6, List.take_append_drop]
        · rw [if_pos h3] at he; exact absurd he h3
  · rw [if_pos (by simpa using he)]; rfl
theorem ackParses_claim {b : List Int} (h0 : ListOk (IntOk .u8) b) : law32_AckParses b true := ackParses_true (ok_byt h0)
end Go.Rel
