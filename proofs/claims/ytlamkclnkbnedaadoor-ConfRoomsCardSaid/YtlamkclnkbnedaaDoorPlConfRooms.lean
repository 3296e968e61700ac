import Derived.Test.YtlamkclnkbnedaaDoorPlItoa
import Derived.Test.YtlamkclnkbnedaaDoorPlRoom
import Derived.Test.YtlamkclnkbnedaaDoorPlI
/-! Plain law: each MTU has a room. -/
namespace Go.Rel
open Go Go.Eng Go.Pl
def roomL : List (Int × Int) := (List.range 242).map fun (k : Nat) => (16 + (k : Int), 1 + (k : Int))
set_option maxRecDepth 10000 in
theorem rooms_ok : Itr conf_Rooms_1 roomL := by
  intro S Y s s' hr
  refine ⟨(s', ()), ?_, rfl⟩
  have hcons : ∀ {x : Int × Int} {T : List (Int × Int)} {s : S}, Run Y (x :: T) s s' → ∃ b u, Y x s (b, u) ∧ ((b = true ∧ Run Y T u s') ∨ (b = false ∧ u = s')) := by
    intro x T s h
    cases h with
    | go h h' => exact ⟨true, _, h, .inl ⟨rfl, h'⟩⟩
    | stop h => exact ⟨false, _, h, .inr ⟨rfl, rfl⟩⟩
  have key : ∀ (m : Nat) (s : S), m ≤ 242 → Run Y (roomL.drop (242 - m)) s s' → Loops (conf_Rooms_1_l1 S Y) (s, 258 - (m : Int)) (s', ()) := by
    intro m
    induction m with
    | zero =>
      intro s _ hr
      rw [List.drop_eq_nil_of_le (by simp [roomL])] at hr
      cases hr
      refine .done ?_
      unfold conf_Rooms_1_l1
      rw [if_neg (by simp)]
    | succ m ih =>
      intro s hm hr
      have hk : 242 - (m + 1) < roomL.length := by simp [roomL]; omega
      rw [List.drop_eq_getElem_cons hk] at hr
      have hx : roomL[242 - (m + 1)] = (258 - ((m + 1 : Nat) : Int), 243 - ((m + 1 : Nat) : Int)) := by
        simp only [roomL, List.getElem_map, List.getElem_range, Prod.mk.injEq]; omega
      rw [hx, show 242 - (m + 1) + 1 = 242 - m by omega] at hr
      have hs : ∀ b u, Y (258 - ((m + 1 : Nat) : Int), 243 - ((m + 1 : Nat) : Int)) s (b, u) → conf_Rooms_1_l1 S Y (s, 258 - ((m + 1 : Nat) : Int)) (if b = true then .inl (u, 258 - (m : Int)) else .inr (u, ())) := by
        intro b u hy
        unfold conf_Rooms_1_l1
        simp only
        rw [if_pos (by simp; omega)]
        refine ⟨_, room_ok (by omega), b, u, ?_, ?_⟩
        · have : roomB (258 - ((m + 1 : Nat) : Int)) = 243 - ((m + 1 : Nat) : Int) := by unfold roomB; rw [if_neg (by omega)]; omega
          rw [this]; exact hy
        · cases b with
          | true => rw [if_neg (by decide), w_small (by omega) (by omega), show 258 - ((m + 1 : Nat) : Int) + 1 = 258 - (m : Int) by omega]; rfl
          | false => rw [if_pos (by decide)]; rfl
      obtain ⟨b, u, h, h2⟩ := hcons hr
      rcases h2 with ⟨rfl, h2⟩ | ⟨rfl, rfl⟩
      · have h3 := hs true u h
        rw [if_pos rfl] at h3
        exact Loops.next h3 (ih u (by omega) h2)
      · have h3 := hs false u h
        rw [if_neg (by decide)] at h3
        exact Loops.done h3
  exact key 242 s (Nat.le_refl _) (by simpa using hr)
theorem number_small {n : Int} {s : ByteArray} (h0 : 0 ≤ n) (h1 : n < 100) (hs : internal_strconv_small n s) : say_Number n s := ⟨s, itoa_small h0 h1 hs, rfl⟩
theorem csend_ok : conf_CheckSender (2, 64, 10) 0 := by
  unfold conf_CheckSender
  rw [if_pos (by decide)]
  unfold conf_CheckSender_j1
  rw [if_neg (by decide), if_neg (by decide)]
  unfold conf_CheckSender_j2
  rw [if_neg (by decide)]
theorem crecv_ok : conf_CheckReceiver (10, 4) 0 := by
  unfold conf_CheckReceiver
  rw [if_neg (by decide)]
  unfold conf_CheckReceiver_j1
  rw [if_neg (by decide)]
theorem croom_ok : conf_Room (2, 64, 10) 49 := by
  refine ⟨_, csend_ok, ?_⟩
  rw [if_neg (by decide)]
  exact ⟨_, room_ok (by decide), by decide⟩
theorem known21_ok : law21_known true := by
  refine ⟨bstr [108, 105, 110, 107, 32, 50, 32, 54, 52, 32, 49, 48, 32, 49, 48, 32, 52], ?_, ?_⟩
  · refine ⟨_, csend_ok, ?_⟩
    rw [if_neg (by decide)]
    refine ⟨_, crecv_ok, ?_⟩
    unfold conf_Line_j1
    rw [if_neg (by decide)]
    refine ⟨_, ?_, rfl⟩
    have stp : ∀ (k : Nat) (p q : ByteArray) (n : Int) (s : ByteArray), k < 5 → [2, 64, (IntKind.i64.wrap 10), (IntKind.i64.wrap 10), 4].getD k 0 = n → say_Number n s → (bstr [32]).size + s.size < 4611686018427387904 → p.size + ((bstr [32]) ++ s).size < 4611686018427387904 → p ++ ((bstr [32]) ++ s) = q → conf_Line_l3 (2, 64, 10) (10, 4) (p, (k : Int)) (.inl (q, ((k + 1 : Nat) : Int))) := by
      rintro k p q n s hk rfl hs h1 h2 rfl
      unfold conf_Line_l3
      rw [if_pos (by simp; omega)]
      refine ⟨by simp, by simp; omega, s, by simpa using hs, h1, h2, ?_⟩
      simp only
      rw [w_small (by omega) (by omega)]; rfl
    refine .next (stp 0 (bstr [108, 105, 110, 107]) (bstr [108, 105, 110, 107, 32, 50]) 2 (bstr [50]) (by decide) rfl (number_small (by decide) (by decide) dig2) (by decide +kernel) (by decide +kernel) (by decide +kernel)) ?_
    refine .next (stp 1 _ (bstr [108, 105, 110, 107, 32, 50, 32, 54, 52]) 64 (bstr [54, 52]) (by decide) rfl (number_small (by decide) (by decide) dig64) (by decide +kernel) (by decide +kernel) (by decide +kernel)) ?_
    refine .next (stp 2 _ (bstr [108, 105, 110, 107, 32, 50, 32, 54, 52, 32, 49, 48]) 10 (bstr [49, 48]) (by decide) (by decide) (number_small (by decide) (by decide) dig10) (by decide +kernel) (by decide +kernel) (by decide +kernel)) ?_
    refine .next (stp 3 _ (bstr [108, 105, 110, 107, 32, 50, 32, 54, 52, 32, 49, 48, 32, 49, 48]) 10 (bstr [49, 48]) (by decide) (by decide) (number_small (by decide) (by decide) dig10) (by decide +kernel) (by decide +kernel) (by decide +kernel)) ?_
    refine .next (stp 4 _ (bstr [108, 105, 110, 107, 32, 50, 32, 54, 52, 32, 49, 48, 32, 49, 48, 32, 52]) 4 (bstr [52]) (by decide) rfl (number_small (by decide) (by decide) dig4) (by decide +kernel) (by decide +kernel) (by decide +kernel)) ?_
    refine .done ?_
    unfold conf_Line_l3
    rw [if_neg (by simp)]
  · rw [if_pos (by rw [decide_eq_true rfl])]
    refine ⟨_, croom_ok, ?_⟩
    rw [if_pos (by decide)]
    refine ⟨3, ?_, by show true = _; decide⟩
    unfold conf_Frames
    rw [if_neg (by decide)]
    unfold conf_Frames_j1
    rw [if_neg (by decide)]
    refine ⟨_, croom_ok, 3, ?_, rfl⟩
    unfold cut_Count
    rw [if_neg (by decide), if_neg (by decide)]
    exact ⟨by decide, by decide⟩
theorem confRooms_true (stop : Int) : law21_ConfRooms stop true := by
  have hll : roomL.length = 242 := by simp [roomL]
  have hat : ∀ k (hk : k < roomL.length), roomL[k] = (16 + (k : Int), 1 + (k : Int)) := fun k hk => by simp [roomL]
  have j3 : ∀ y : Int, (y = 242 ∨ y = stop) → law21_ConfRooms_j3 stop 242 y true := by
    intro y hy
    refine ⟨_, known21_ok, ?_⟩
    rw [if_pos rfl, if_pos (by decide)]
    by_cases h : y = 242
    · rw [if_pos (by simpa using h)]; rfl
    · rw [if_neg (by simpa using h)]
      rcases hy with h2 | h2
      · exact absurd h2 h
      · show true = _
        simp [h2]
  obtain ⟨t1, h1, h2⟩ := runB_inv (B := law21_ConfRooms_l1) (fun k (s : Int) => s = (k : Int)) (fun _ => False) roomL (s := 0) rfl (by
    rintro k hk s rfl
    left
    refine ⟨((k + 1 : Nat) : Int), ?_, rfl⟩
    unfold law21_ConfRooms_l1
    rw [hat k hk]
    simp only
    rw [w_small (by omega) (by omega), if_neg (by simp), w_small (by omega) (by omega)]
    unfold law21_ConfRooms_j2
    rw [if_neg (by simp), w_small (by omega) (by omega)]; rfl)
  refine ⟨_, rfl, t1, (), rooms_ok _ _ _ _ (run_yof h1), ?_⟩
  rcases h2 with ⟨s', rfl, rfl⟩ | ⟨e, _, hf⟩
  · obtain ⟨t2, h3, h4⟩ := runB_inv (B := law21_ConfRooms_l5 stop) (fun k (s : Int) => s = (k : Int)) (fun e => e = stop) roomL (s := 0) rfl (by
      rintro k hk s rfl
      by_cases h : (k : Int) = stop
      · right
        refine ⟨(k : Int), ?_, h⟩
        unfold law21_ConfRooms_l5
        rw [if_pos (by simpa using h)]
      · left
        refine ⟨((k + 1 : Nat) : Int), ?_, rfl⟩
        unfold law21_ConfRooms_l5
        rw [if_neg (by simpa using h), w_small (by omega) (by omega)]; rfl)
    refine ⟨_, rfl, t2, (), rooms_ok _ _ _ _ (run_yof h3), ?_⟩
    rw [hll]
    rcases h4 with ⟨s', rfl, rfl⟩ | ⟨e, rfl, rfl⟩
    · exact j3 _ (.inl (by rw [hll]; rfl))
    · exact j3 _ (.inr rfl)
  · exact hf.elim
theorem confRooms_claim {stop : Int} {p : Prop} (_h0 : p) : law21_ConfRooms stop true := confRooms_true stop
end Go.Rel
