import Derived.Test.YtonmgcebhhdplabDoorURel
import Derived.Test.YtonmgcebhhdplabDoorUFacts
import Derived.Test.YtonmgcebhhdplabDoorUWalk0
/-! The walks. -/
set_option linter.unusedVariables false
set_option linter.unusedSimpArgs false
set_option maxRecDepth 4000
set_option maxHeartbeats 4000000
namespace Go.Rel
open Go Go.Eng Go.Proofs
theorem fleet_Fleet_Lines_ok {a0 : List (Int × (Int × Int × Int × Int × Int × Bool × Bool × Int × Int × List (Int × Int) × Int × Int)) × List ((Int × Int) × List Int)} {ba0 : Nat} {v1 : Value} {g2 : Grp} {v3 : Value} {g4 : Grp} {r : List ByteArray} (h : fleet_Fleet_Lines a0 r) (σ : Sto) (ho5 : Mp (Value.int .i64) (rK (kP (kI .i64) (kP (kI .i64) (kP (kI .i64) (kP (kI .i64) (kP (kI .i64) (kP kB (kP kB (kP (kI .i64) (kP (kI .i64) (kP (kSl (kP (kI .i64) (kI .i64))) (kP (kI .i64) (kI .i64))))))))))))) σ v1 a0.1 g2) (ho6 : Mp kPr (rSl (kI .i64)) σ v3 a0.2 g4) (hT : Tab Tryd.prog σ) :
    Does Tryd.prog 21 [.pointer (some ⟨ba0, 0, none⟩)] σ [[(ba0, .cells [v1, v3].toArray 66 (0, 0))], g2, g4] (fun v τ gs => ∃ (v237 : Value), gs = [[(ba0, .cells [v1, v3].toArray 66 (0, 0))], g2, g4] ∧ v237 = v ∧ Sl kS τ v237 r) := by
 refine call_of Tryd.func21 Tryd.ntmps21 rfl rfl (fun cs fs => ?_)
 refine Z 2 rfl ?_
 refine o_boxC rfl rfl rfl rfl rfl rfl (fun b7 => ?_)
 refine Z 4 rfl ?_
 refine o_alloc rfl rfl rfl z_zero44 (fun b8 => ?_)
 refine ZZ 5 [1] rfl rfl ?_
 obtain ⟨r9, hr10, h⟩ := h
 refine st_ord [2, 2, 2, 0, 0] _ rfl ?_
 refine st_call (foot := [[(ba0, .cells #[v1, v3] 66 (0, 0))], g2, g4]) rfl rfl rfl rfl rfl rfl (callV_fn z_en37 (fleet_Fleet_Robots_ok hr10 σ ho5 ho6)) ?_
 rintro vτ11 τ11 gsτ11 hl12 ⟨f13, q14, rfl, rfl, hit15⟩
 refine Z 2 rfl ?_
 obtain ⟨t24, w24, hR24, hA24⟩ := h
 refine st_env (ρ' := [(1, .pointer (some ⟨b7, 0, none⟩)), (2, .slice none 0 0), (3, .pointer (some ⟨b8, 0, none⟩)), (12, .func (.func f13) #[] q14)]) ⟨rfl, rfl, rfl, rfl, trivial⟩ ?_
 refine st_addNil ?_
 refine st_ord [1, 4, 3, 1, 1, 0] _ rfl ?_
 refine st_rangeS (r0 := List.flatten [[(b7, .cells #[.pointer (some ⟨ba0, 0, none⟩)] 33 (0, 0))], [(b8, .cells #[.slice none 0 0] 44 (0, 0))], []]) (B := fleet_Fleet_Lines_l1 a0) (s0 := []) ranges_fctx rfl (hit15 a0 _ _ _ _ τ11 (Sto.Le.refl _) (ho5.up hl12) (ho6.up hl12)) (Sto.Le.refl _) hR24 ((ordG_perm [0, 2, 2, 0, 0, 0] [[(ba0, .cells #[v1, v3] 66 (0, 0))], g2, g4, [(b7, .cells #[.pointer (some ⟨ba0, 0, none⟩)] 33 (0, 0))], [(b8, .cells #[.slice none 0 0] 44 (0, 0))], []] rfl rfl).trans (by simp)) rfl (fun _ _ _ h => by cases h; rfl) (fun (s24 : List ByteArray) τ24 gs => τ11.Le τ24 ∧ ∃ (v25 : Value) (g26 : Grp), gs = [[(ba0, .cells #[v1, v3] 66 (0, 0))], [(b7, .cells #[.pointer (some ⟨ba0, 0, none⟩)] 33 (0, 0))], [(b8, .cells #[v25] 44 (0, 0))], g2, g4, g26] ∧ Ow kS 9 τ24 v25 s24 g26) (fun _ _ _ _ => False) (fun _ _ _ _ hl ⟨hb, v25, g26, hg, ho27⟩ => ⟨hb.trans hl, v25, g26, hg, ho27.up hl⟩) (fun _ _ _ _ _ _ h => h.elim) ⟨Sto.Le.refl _, _, _, rfl, Ow.nil⟩ ?_ ?_ ?_
 ·rintro x24 s24 o24 τ24 gs24 vx24 hl24 h rfl ⟨hb24, v25, g26, rfl, ho27⟩ l24 rc24 caller24 cs24 fs24
  refine Z 3 rfl ?_
  refine st_begin ?_
  refine ZZ 8 [1, 0] rfl rfl ?_
  refine o_lookR (rv := (rK (kP (kI .i64) (kP (kI .i64) (kP (kI .i64) (kP (kI .i64) (kP (kI .i64) (kP kB (kP kB (kP (kI .i64) (kP (kI .i64) (kP (kSl (kP (kI .i64) (kI .i64))) (kP (kI .i64) (kI .i64)))))))))))))) (q0 := (0, 0, 0, 0, 0, false, false, 0, 0, [], 0, 0)) (j := 3) (a := x24) rfl rfl rfl z_map63 (keyI Tryd.underlying3) z_zeroV75 ⟨[.int .i64 0, .int .i64 0, .int .i64 0, .int .i64 0, .int .i64 0, .bool false, .bool false, .int .i64 0, .int .i64 0, .slice none 0 0, .int .i64 0, .int .i64 0], ⟨[.int .i64 0], _, rfl, rfl, ⟨[.int .i64 0], _, rfl, rfl, ⟨[.int .i64 0], _, rfl, rfl, ⟨[.int .i64 0], _, rfl, rfl, ⟨[.int .i64 0], _, rfl, rfl, ⟨[.bool false], _, rfl, rfl, ⟨[.bool false], _, rfl, rfl, ⟨[.int .i64 0], _, rfl, rfl, ⟨[.int .i64 0], _, rfl, rfl, ⟨[.slice none 0 0], _, rfl, ⟨_, rfl, Sl.nil⟩, ⟨[.int .i64 0], _, rfl, rfl, rfl⟩⟩⟩⟩⟩⟩⟩⟩⟩⟩⟩, rfl⟩ rfl (ho5.up (hl12.trans hl24)) rfl rfl (fun v28 hv29 => ?_)
  obtain ⟨_, ⟨_, _, rfl, rfl, ⟨_, _, rfl, rfl, ⟨_, _, rfl, rfl, ⟨_, _, rfl, rfl, ⟨_, _, rfl, rfl, ⟨_, _, rfl, rfl, ⟨_, _, rfl, rfl, ⟨_, _, rfl, rfl, ⟨_, _, rfl, rfl, ⟨_, _, rfl, ⟨v30, rfl, hs31⟩, ⟨_, _, rfl, rfl, rfl⟩⟩⟩⟩⟩⟩⟩⟩⟩⟩⟩, rfl⟩ := hv29
  refine o_alloc rfl rfl rfl z_zero75 (fun b32 => ?_)
  refine o_store (j := 0) (vs := [.int .i64 (((mget a0.1 x24).getD (0, 0, 0, 0, 0, false, false, 0, 0, [], 0, 0)).1), .int .i64 (((mget a0.1 x24).getD (0, 0, 0, 0, 0, false, false, 0, 0, [], 0, 0)).2.1), .int .i64 (((mget a0.1 x24).getD (0, 0, 0, 0, 0, false, false, 0, 0, [], 0, 0)).2.2.1), .int .i64 (((mget a0.1 x24).getD (0, 0, 0, 0, 0, false, false, 0, 0, [], 0, 0)).2.2.2.1), .int .i64 (((mget a0.1 x24).getD (0, 0, 0, 0, 0, false, false, 0, 0, [], 0, 0)).2.2.2.2.1), .bool (((mget a0.1 x24).getD (0, 0, 0, 0, 0, false, false, 0, 0, [], 0, 0)).2.2.2.2.2.1), .bool (((mget a0.1 x24).getD (0, 0, 0, 0, 0, false, false, 0, 0, [], 0, 0)).2.2.2.2.2.2.1), .int .i64 (((mget a0.1 x24).getD (0, 0, 0, 0, 0, false, false, 0, 0, [], 0, 0)).2.2.2.2.2.2.2.1), .int .i64 (((mget a0.1 x24).getD (0, 0, 0, 0, 0, false, false, 0, 0, [], 0, 0)).2.2.2.2.2.2.2.2.1), v30, .int .i64 (((mget a0.1 x24).getD (0, 0, 0, 0, 0, false, false, 0, 0, [], 0, 0)).2.2.2.2.2.2.2.2.2.2.1), .int .i64 (((mget a0.1 x24).getD (0, 0, 0, 0, 0, false, false, 0, 0, [], 0, 0)).2.2.2.2.2.2.2.2.2.2.2)]) (cs' := [.int .i64 (((mget a0.1 x24).getD (0, 0, 0, 0, 0, false, false, 0, 0, [], 0, 0)).1), .int .i64 (((mget a0.1 x24).getD (0, 0, 0, 0, 0, false, false, 0, 0, [], 0, 0)).2.1), .int .i64 (((mget a0.1 x24).getD (0, 0, 0, 0, 0, false, false, 0, 0, [], 0, 0)).2.2.1), .int .i64 (((mget a0.1 x24).getD (0, 0, 0, 0, 0, false, false, 0, 0, [], 0, 0)).2.2.2.1), .int .i64 (((mget a0.1 x24).getD (0, 0, 0, 0, 0, false, false, 0, 0, [], 0, 0)).2.2.2.2.1), .bool (((mget a0.1 x24).getD (0, 0, 0, 0, 0, false, false, 0, 0, [], 0, 0)).2.2.2.2.2.1), .bool (((mget a0.1 x24).getD (0, 0, 0, 0, 0, false, false, 0, 0, [], 0, 0)).2.2.2.2.2.2.1), .int .i64 (((mget a0.1 x24).getD (0, 0, 0, 0, 0, false, false, 0, 0, [], 0, 0)).2.2.2.2.2.2.2.1), .int .i64 (((mget a0.1 x24).getD (0, 0, 0, 0, 0, false, false, 0, 0, [], 0, 0)).2.2.2.2.2.2.2.2.1), v30, .int .i64 (((mget a0.1 x24).getD (0, 0, 0, 0, 0, false, false, 0, 0, [], 0, 0)).2.2.2.2.2.2.2.2.2.2.1), .int .i64 (((mget a0.1 x24).getD (0, 0, 0, 0, 0, false, false, 0, 0, [], 0, 0)).2.2.2.2.2.2.2.2.2.2.2)]) rfl rfl rfl z_size75 rfl rfl rfl (ones_cons rfl (ones_cons rfl (ones_cons rfl (ones_cons rfl (ones_cons rfl (ones_cons rfl (ones_cons rfl (ones_cons rfl (ones_cons rfl (ones_cons hs31.one' (ones_cons rfl (ones_cons rfl ones_nil)))))))))))) rfl rfl rfl ?_
  refine st_gs [[(b32, .cells #[.int .i64 (((mget a0.1 x24).getD (0, 0, 0, 0, 0, false, false, 0, 0, [], 0, 0)).1), .int .i64 (((mget a0.1 x24).getD (0, 0, 0, 0, 0, false, false, 0, 0, [], 0, 0)).2.1), .int .i64 (((mget a0.1 x24).getD (0, 0, 0, 0, 0, false, false, 0, 0, [], 0, 0)).2.2.1), .int .i64 (((mget a0.1 x24).getD (0, 0, 0, 0, 0, false, false, 0, 0, [], 0, 0)).2.2.2.1), .int .i64 (((mget a0.1 x24).getD (0, 0, 0, 0, 0, false, false, 0, 0, [], 0, 0)).2.2.2.2.1), .bool (((mget a0.1 x24).getD (0, 0, 0, 0, 0, false, false, 0, 0, [], 0, 0)).2.2.2.2.2.1), .bool (((mget a0.1 x24).getD (0, 0, 0, 0, 0, false, false, 0, 0, [], 0, 0)).2.2.2.2.2.2.1), .int .i64 (((mget a0.1 x24).getD (0, 0, 0, 0, 0, false, false, 0, 0, [], 0, 0)).2.2.2.2.2.2.2.1), .int .i64 (((mget a0.1 x24).getD (0, 0, 0, 0, 0, false, false, 0, 0, [], 0, 0)).2.2.2.2.2.2.2.2.1), v30, .int .i64 (((mget a0.1 x24).getD (0, 0, 0, 0, 0, false, false, 0, 0, [], 0, 0)).2.2.2.2.2.2.2.2.2.2.1), .int .i64 (((mget a0.1 x24).getD (0, 0, 0, 0, 0, false, false, 0, 0, [], 0, 0)).2.2.2.2.2.2.2.2.2.2.2)] 75 (0, 0))], [(ba0, .cells #[v1, v3] 66 (0, 0))], [(b7, .cells #[.pointer (some ⟨ba0, 0, none⟩)] 33 (0, 0))], [(b8, .cells #[v25] 44 (0, 0))], g2, g4, g26] rfl ?_
  refine Z 4 rfl ?_
  refine o_litE (eI .i64) [x24] rfl rfl rfl z_slT37 z_zero3 ⟨rfl, ⟨_, rfl, rfl⟩, trivial⟩ rfl rfl rfl rfl (fun v33 g34 ho35 => ?_)
  obtain ⟨r40, hr41, h⟩ := h
  refine st_freeze (fun τ36 hl37 hg38 => ?_)
  have hs39 := ho35.freeze hl37 hg38
  refine st_call (foot := []) rfl rfl rfl rfl (evs_cons (ev_str z_str30) (evs_cons rfl rfl)) rfl (callV_fn z_en38 (fleet_line_ok hr41 τ36 hs39 (hT.up ((hl12.trans hl24).trans hl37)))) ?_
  rintro vτ42 τ42 gsτ42 hl43 ⟨rfl, rfl⟩
  refine Z 3 rfl ?_
  refine st_cut (fun ρ τ44 gs => ∃ (s44 : ByteArray), fleet_Fleet_Lines_j2 a0 x24 s24 s44 o24 ∧ τ42.Le τ44 ∧ ESub ρ [(1, .pointer (some ⟨b7, 0, none⟩)), (2, .slice none 0 0), (3, .pointer (some ⟨b8, 0, none⟩)), (13, .int .i64 x24), (4, .int .i64 x24), (5, .pointer (some ⟨b32, 0, none⟩)), (6, .string s44)] ∧ gs = [[(ba0, .cells #[v1, v3] 66 (0, 0))], [(b7, .cells #[.pointer (some ⟨ba0, 0, none⟩)] 33 (0, 0))], [(b8, .cells #[v25] 44 (0, 0))], [(b32, .cells #[.int .i64 (((mget a0.1 x24).getD (0, 0, 0, 0, 0, false, false, 0, 0, [], 0, 0)).1), .int .i64 (((mget a0.1 x24).getD (0, 0, 0, 0, 0, false, false, 0, 0, [], 0, 0)).2.1), .int .i64 (((mget a0.1 x24).getD (0, 0, 0, 0, 0, false, false, 0, 0, [], 0, 0)).2.2.1), .int .i64 (((mget a0.1 x24).getD (0, 0, 0, 0, 0, false, false, 0, 0, [], 0, 0)).2.2.2.1), .int .i64 (((mget a0.1 x24).getD (0, 0, 0, 0, 0, false, false, 0, 0, [], 0, 0)).2.2.2.2.1), .bool (((mget a0.1 x24).getD (0, 0, 0, 0, 0, false, false, 0, 0, [], 0, 0)).2.2.2.2.2.1), .bool (((mget a0.1 x24).getD (0, 0, 0, 0, 0, false, false, 0, 0, [], 0, 0)).2.2.2.2.2.2.1), .int .i64 (((mget a0.1 x24).getD (0, 0, 0, 0, 0, false, false, 0, 0, [], 0, 0)).2.2.2.2.2.2.2.1), .int .i64 (((mget a0.1 x24).getD (0, 0, 0, 0, 0, false, false, 0, 0, [], 0, 0)).2.2.2.2.2.2.2.2.1), v30, .int .i64 (((mget a0.1 x24).getD (0, 0, 0, 0, 0, false, false, 0, 0, [], 0, 0)).2.2.2.2.2.2.2.2.2.2.1), .int .i64 (((mget a0.1 x24).getD (0, 0, 0, 0, 0, false, false, 0, 0, [], 0, 0)).2.2.2.2.2.2.2.2.2.2.2)] 75 (0, 0))], g2, g4, g26]) ?_ (fun hk44 => ?_)
  ·rintro ρ44 τ44 gs44 ⟨s44, h, hl44, hρ, rfl⟩
   refine st_es hρ ?_
   refine st_seq ?_
   refine st_cut (fun ρ τ45 gs => ∃ (s45 : ByteArray), fleet_Fleet_Lines_j3 a0 x24 s24 s45 o24 ∧ τ44.Le τ45 ∧ ESub ρ [(1, .pointer (some ⟨b7, 0, none⟩)), (2, .slice none 0 0), (3, .pointer (some ⟨b8, 0, none⟩)), (13, .int .i64 x24), (4, .int .i64 x24), (5, .pointer (some ⟨b32, 0, none⟩)), (6, .string s45)] ∧ gs = [[(ba0, .cells #[v1, v3] 66 (0, 0))], [(b7, .cells #[.pointer (some ⟨ba0, 0, none⟩)] 33 (0, 0))], [(b8, .cells #[v25] 44 (0, 0))], [(b32, .cells #[.int .i64 (((mget a0.1 x24).getD (0, 0, 0, 0, 0, false, false, 0, 0, [], 0, 0)).1), .int .i64 (((mget a0.1 x24).getD (0, 0, 0, 0, 0, false, false, 0, 0, [], 0, 0)).2.1), .int .i64 (((mget a0.1 x24).getD (0, 0, 0, 0, 0, false, false, 0, 0, [], 0, 0)).2.2.1), .int .i64 (((mget a0.1 x24).getD (0, 0, 0, 0, 0, false, false, 0, 0, [], 0, 0)).2.2.2.1), .int .i64 (((mget a0.1 x24).getD (0, 0, 0, 0, 0, false, false, 0, 0, [], 0, 0)).2.2.2.2.1), .bool (((mget a0.1 x24).getD (0, 0, 0, 0, 0, false, false, 0, 0, [], 0, 0)).2.2.2.2.2.1), .bool (((mget a0.1 x24).getD (0, 0, 0, 0, 0, false, false, 0, 0, [], 0, 0)).2.2.2.2.2.2.1), .int .i64 (((mget a0.1 x24).getD (0, 0, 0, 0, 0, false, false, 0, 0, [], 0, 0)).2.2.2.2.2.2.2.1), .int .i64 (((mget a0.1 x24).getD (0, 0, 0, 0, 0, false, false, 0, 0, [], 0, 0)).2.2.2.2.2.2.2.2.1), v30, .int .i64 (((mget a0.1 x24).getD (0, 0, 0, 0, 0, false, false, 0, 0, [], 0, 0)).2.2.2.2.2.2.2.2.2.2.1), .int .i64 (((mget a0.1 x24).getD (0, 0, 0, 0, 0, false, false, 0, 0, [], 0, 0)).2.2.2.2.2.2.2.2.2.2.2)] 75 (0, 0))], g2, g4, g26]) ?_ (fun hk45 => ?_)
   ·rintro ρ45 τ45 gs45 ⟨s45, h, hl45, hρ, rfl⟩
    refine st_es hρ ?_
    refine st_seq ?_
    obtain ⟨r53, hr54, hf57, r65, hr66, hf69, hf80, hf81, h⟩ := h
    refine st_ord [0, 0, 1, 1, 1, 0, 0] _ rfl ?_
    refine st_d41 [[(ba0, .cells #[v1, v3] 66 (0, 0))], [(b7, .cells #[.pointer (some ⟨ba0, 0, none⟩)] 33 (0, 0))], [(b32, .cells #[.int .i64 (((mget a0.1 x24).getD (0, 0, 0, 0, 0, false, false, 0, 0, [], 0, 0)).1), .int .i64 (((mget a0.1 x24).getD (0, 0, 0, 0, 0, false, false, 0, 0, [], 0, 0)).2.1), .int .i64 (((mget a0.1 x24).getD (0, 0, 0, 0, 0, false, false, 0, 0, [], 0, 0)).2.2.1), .int .i64 (((mget a0.1 x24).getD (0, 0, 0, 0, 0, false, false, 0, 0, [], 0, 0)).2.2.2.1), .int .i64 (((mget a0.1 x24).getD (0, 0, 0, 0, 0, false, false, 0, 0, [], 0, 0)).2.2.2.2.1), .bool (((mget a0.1 x24).getD (0, 0, 0, 0, 0, false, false, 0, 0, [], 0, 0)).2.2.2.2.2.1), .bool (((mget a0.1 x24).getD (0, 0, 0, 0, 0, false, false, 0, 0, [], 0, 0)).2.2.2.2.2.2.1), .int .i64 (((mget a0.1 x24).getD (0, 0, 0, 0, 0, false, false, 0, 0, [], 0, 0)).2.2.2.2.2.2.2.1), .int .i64 (((mget a0.1 x24).getD (0, 0, 0, 0, 0, false, false, 0, 0, [], 0, 0)).2.2.2.2.2.2.2.2.1), v30, .int .i64 (((mget a0.1 x24).getD (0, 0, 0, 0, 0, false, false, 0, 0, [], 0, 0)).2.2.2.2.2.2.2.2.2.2.1), .int .i64 (((mget a0.1 x24).getD (0, 0, 0, 0, 0, false, false, 0, 0, [], 0, 0)).2.2.2.2.2.2.2.2.2.2.2)] 75 (0, 0))], g2, g4] [[(b8, .cells #[v25] 44 (0, 0))], g26] 17 2 [some (0, 0), none, none, none, none, none, none, none, none, none, none, none, none, none, none, none, some (0, 1)] [none, none, none, none, none, none, none, none, none, none, none, none, none, none, none, none, none] [[none, some 49, some 65]] [.v (v25), .v (.string s45), .v (.pointer (some ⟨b32, 9, none⟩)), .v (v30), .v (.int .i64 ((((mget a0.1 x24).getD (0, 0, 0, 0, 0, false, false, 0, 0, [], 0, 0)).2.2.2.2.2.2.2.2.2.1).length : Int)), .t fun τ v => ∃ (v46 : Value), (v46 : Value) = v ∧ Sl (kI .i64) τ v46 [((((mget a0.1 x24).getD (0, 0, 0, 0, 0, false, false, 0, 0, [], 0, 0)).2.2.2.2.2.2.2.2.2.1).length : Int)], .v (.string r53), .v (.string (s45 ++ r53)), .v (.pointer (some ⟨b32, 10, none⟩)), .v (.int .i64 (((mget a0.1 x24).getD (0, 0, 0, 0, 0, false, false, 0, 0, [], 0, 0)).2.2.2.2.2.2.2.2.2.2.1)), .v (.pointer (some ⟨b32, 11, none⟩)), .v (.int .i64 (((mget a0.1 x24).getD (0, 0, 0, 0, 0, false, false, 0, 0, [], 0, 0)).2.2.2.2.2.2.2.2.2.2.2)), .t fun τ v => ∃ (v58 : Value), (v58 : Value) = v ∧ Sl (kI .i64) τ v58 [((mget a0.1 x24).getD (0, 0, 0, 0, 0, false, false, 0, 0, [], 0, 0)).2.2.2.2.2.2.2.2.2.2.1, ((mget a0.1 x24).getD (0, 0, 0, 0, 0, false, false, 0, 0, [], 0, 0)).2.2.2.2.2.2.2.2.2.2.2], .v (.string r65), .v (.string ((s45 ++ r53) ++ r65)), .t fun τ v => ∃ (v70 : Value), (v70 : Value) = v ∧ Sl kS τ v70 [((s45 ++ r53) ++ r65)], .t fun _ _ => True] [[fun τ u F => F = [[(b8, .cells #[v25] 44 (0, 0))], g26], fun τ u F => F = [[(b8, .cells #[v25] 44 (0, 0))], g26], fun τ u F => ∃ (v82 : Value) (g83 : Grp), F = [g83, [(b8, .cells #[v25] 44 (0, 0))]] ∧ v82 = u ∧ Ow kS 9 τ v82 (s24 ++ [((s45 ++ r53) ++ r65)]) g83]] rfl z_mix rfl ⟨fun _ _ _ hl ⟨v46, hv, hs52⟩ => ⟨v46, hv, hs52.up hl⟩, ⟨fun _ _ _ hl ⟨v58, hv, hs64⟩ => ⟨v58, hv, hs64.up hl⟩, ⟨fun _ _ _ hl ⟨v70, hv, hs76⟩ => ⟨v70, hv, hs76.up hl⟩, ⟨fun _ _ _ _ _ => trivial, trivial⟩⟩⟩⟩ ⟨⟨fun _ _ _ _ hl h => h, ⟨fun _ _ _ _ hl h => h, ⟨fun _ _ _ _ hl h => (let ⟨v82, g83, hF, hU, ho84⟩ := h; ⟨v82, g83, hF, hU, ho84.up hl⟩), trivial⟩⟩⟩, trivial⟩ rfl rfl ?_ (allB_cons (allB_cons (allB_cons (allB_cons (allB_cons (allB_cons (allB_cons (allB_cons (allB_cons (allB_cons (allB_cons (allB_cons (allB_cons (allB_cons (allB_cons (allB_cons (allB_cons allB_nil ?_) (p4 dA)) (p4 dA)) ?_) ?_) ?_) ?_) ?_) (p4 dA)) ?_) (p4 dA)) ?_) ?_) ?_) ?_) ?_) ?_) ?_
    ·exact rfl
    ·intro ρ' τ u Fv pool rs hl hI hu hd hout hw hk
     have hI0 := hI
     obtain rfl := hI
     refine st_gs [[(ba0, .cells #[v1, v3] 66 (0, 0))], [(b7, .cells #[.pointer (some ⟨ba0, 0, none⟩)] 33 (0, 0))], [(b32, .cells #[.int .i64 (((mget a0.1 x24).getD (0, 0, 0, 0, 0, false, false, 0, 0, [], 0, 0)).1), .int .i64 (((mget a0.1 x24).getD (0, 0, 0, 0, 0, false, false, 0, 0, [], 0, 0)).2.1), .int .i64 (((mget a0.1 x24).getD (0, 0, 0, 0, 0, false, false, 0, 0, [], 0, 0)).2.2.1), .int .i64 (((mget a0.1 x24).getD (0, 0, 0, 0, 0, false, false, 0, 0, [], 0, 0)).2.2.2.1), .int .i64 (((mget a0.1 x24).getD (0, 0, 0, 0, 0, false, false, 0, 0, [], 0, 0)).2.2.2.2.1), .bool (((mget a0.1 x24).getD (0, 0, 0, 0, 0, false, false, 0, 0, [], 0, 0)).2.2.2.2.2.1), .bool (((mget a0.1 x24).getD (0, 0, 0, 0, 0, false, false, 0, 0, [], 0, 0)).2.2.2.2.2.2.1), .int .i64 (((mget a0.1 x24).getD (0, 0, 0, 0, 0, false, false, 0, 0, [], 0, 0)).2.2.2.2.2.2.2.1), .int .i64 (((mget a0.1 x24).getD (0, 0, 0, 0, 0, false, false, 0, 0, [], 0, 0)).2.2.2.2.2.2.2.2.1), v30, .int .i64 (((mget a0.1 x24).getD (0, 0, 0, 0, 0, false, false, 0, 0, [], 0, 0)).2.2.2.2.2.2.2.2.2.2.1), .int .i64 (((mget a0.1 x24).getD (0, 0, 0, 0, 0, false, false, 0, 0, [], 0, 0)).2.2.2.2.2.2.2.2.2.2.2)] 75 (0, 0))], g2, g4, [(b8, .cells #[v25] 44 (0, 0))], g26, pool] rfl ?_
     refine o_load (j := 5) (v := v25) rfl rfl rfl z_sc44 ((hout 3 rfl).trans rfl) rfl rfl ?_
     exact hk _ _ [[(b8, .cells #[v25] 44 (0, 0))], g26] (Sto.Le.refl _) rfl (by exact hI0)
    ·intro ρ' τ pool rs hl hd hout hw hk
     obtain ⟨_, e2, rfl⟩ := hd 2 rfl _ rfl
     refine o_load (j := 2) (v := v30) rfl rfl rfl z_sc36 e2 rfl rfl ?_
     exact hk _ _ (Sto.Le.refl _) rfl
    ·intro ρ' τ pool rs hl hd hout hw hk
     obtain ⟨_, e3, rfl⟩ := hd 3 rfl _ rfl
     refine o_lenI rfl rfl rfl z_slT36 e3 (hs31.up ((((hl37.trans hl43).trans hl44).trans hl45).trans hl)) ?_
     exact hk _ _ (Sto.Le.refl _) rfl
    ·intro ρ' τ pool rs hl hd hout hw hk
     obtain ⟨_, e4, rfl⟩ := hd 4 rfl _ rfl
     refine o_litE (eI .i64) [((((mget a0.1 x24).getD (0, 0, 0, 0, 0, false, false, 0, 0, [], 0, 0)).2.2.2.2.2.2.2.2.2.1).length : Int)] rfl rfl rfl z_slT37 z_zero3 ⟨rfl, ⟨_, e4, rfl⟩, trivial⟩ rfl rfl rfl rfl (fun v46 g47 ho48 => ?_)
     refine st_freeze (fun τ49 hl50 hg51 => ?_)
     have hs52 := ho48.freeze hl50 hg51
     exact hk _ _ hl50 ⟨v46, rfl, hs52⟩
    ·intro ρ' τ pool rs hl hd hout hw hk
     obtain ⟨_, e5, v46, rfl, hs52⟩ := hd 5 rfl _ rfl
     refine st_call (foot := []) rfl rfl rfl rfl (evs_cons (ev_str z_str50) (evs_cons e5 rfl)) rfl (callV_fn z_en38 (fleet_line_ok hr54 τ hs52 (hT.up ((((((hl12.trans hl24).trans hl37).trans hl43).trans hl44).trans hl45).trans hl)))) ?_
     rintro vτ55 τ55 gsτ55 hl56 ⟨rfl, rfl⟩
     exact hk _ _ hl56 rfl
    ·intro ρ' τ pool rs hl hd hout hw hk
     obtain ⟨_, e1, rfl⟩ := hd 1 rfl _ rfl
     obtain ⟨_, e6, rfl⟩ := hd 6 rfl _ rfl
     refine o_sadd rfl rfl rfl e1 e6 hf57 ?_
     exact hk _ _ (Sto.Le.refl _) rfl
    ·intro ρ' τ pool rs hl hd hout hw hk
     obtain ⟨_, e8, rfl⟩ := hd 8 rfl _ rfl
     refine o_load (j := 2) (v := .int .i64 (((mget a0.1 x24).getD (0, 0, 0, 0, 0, false, false, 0, 0, [], 0, 0)).2.2.2.2.2.2.2.2.2.2.1)) rfl rfl rfl z_sc3 e8 rfl rfl ?_
     exact hk _ _ (Sto.Le.refl _) rfl
    ·intro ρ' τ pool rs hl hd hout hw hk
     obtain ⟨_, e10, rfl⟩ := hd 10 rfl _ rfl
     refine o_load (j := 2) (v := .int .i64 (((mget a0.1 x24).getD (0, 0, 0, 0, 0, false, false, 0, 0, [], 0, 0)).2.2.2.2.2.2.2.2.2.2.2)) rfl rfl rfl z_sc3 e10 rfl rfl ?_
     exact hk _ _ (Sto.Le.refl _) rfl
    ·intro ρ' τ pool rs hl hd hout hw hk
     obtain ⟨_, e9, rfl⟩ := hd 9 rfl _ rfl
     obtain ⟨_, e11, rfl⟩ := hd 11 rfl _ rfl
     refine o_litE (eI .i64) [((mget a0.1 x24).getD (0, 0, 0, 0, 0, false, false, 0, 0, [], 0, 0)).2.2.2.2.2.2.2.2.2.2.1, ((mget a0.1 x24).getD (0, 0, 0, 0, 0, false, false, 0, 0, [], 0, 0)).2.2.2.2.2.2.2.2.2.2.2] rfl rfl rfl z_slT37 z_zero3 ⟨rfl, ⟨_, e9, rfl⟩, ⟨rfl, ⟨_, e11, rfl⟩, trivial⟩⟩ rfl rfl rfl rfl (fun v58 g59 ho60 => ?_)
     refine st_freeze (fun τ61 hl62 hg63 => ?_)
     have hs64 := ho60.freeze hl62 hg63
     exact hk _ _ hl62 ⟨v58, rfl, hs64⟩
    ·intro ρ' τ pool rs hl hd hout hw hk
     obtain ⟨_, e12, v58, rfl, hs64⟩ := hd 12 rfl _ rfl
     refine st_call (foot := []) rfl rfl rfl rfl (evs_cons (ev_str z_str51) (evs_cons e12 rfl)) rfl (callV_fn z_en38 (fleet_line_ok hr66 τ hs64 (hT.up ((((((hl12.trans hl24).trans hl37).trans hl43).trans hl44).trans hl45).trans hl)))) ?_
     rintro vτ67 τ67 gsτ67 hl68 ⟨rfl, rfl⟩
     exact hk _ _ hl68 rfl
    ·intro ρ' τ pool rs hl hd hout hw hk
     obtain ⟨_, e7, rfl⟩ := hd 7 rfl _ rfl
     obtain ⟨_, e13, rfl⟩ := hd 13 rfl _ rfl
     refine o_sadd rfl rfl rfl e7 e13 hf69 ?_
     exact hk _ _ (Sto.Le.refl _) rfl
    ·intro ρ' τ pool rs hl hd hout hw hk
     obtain ⟨_, e14, rfl⟩ := hd 14 rfl _ rfl
     refine o_litE eS [((s45 ++ r53) ++ r65)] rfl rfl rfl z_slT44 z_zero9 ⟨rfl, ⟨_, e14, rfl⟩, trivial⟩ rfl rfl rfl rfl (fun v70 g71 ho72 => ?_)
     refine st_freeze (fun τ73 hl74 hg75 => ?_)
     have hs76 := ho72.freeze hl74 hg75
     exact hk _ _ hl74 ⟨v70, rfl, hs76⟩
    ·intro ρ' τ u Fv pool rs hl hI hu hd hout hw hk
     obtain ⟨_, e0, rfl⟩ := hd 0 rfl _ rfl
     obtain ⟨_, e15, v70, rfl, hs76⟩ := hd 15 rfl _ rfl
     have hI0 := hI
     obtain rfl := hI
     refine st_gs [[(ba0, .cells #[v1, v3] 66 (0, 0))], [(b7, .cells #[.pointer (some ⟨ba0, 0, none⟩)] 33 (0, 0))], [(b32, .cells #[.int .i64 (((mget a0.1 x24).getD (0, 0, 0, 0, 0, false, false, 0, 0, [], 0, 0)).1), .int .i64 (((mget a0.1 x24).getD (0, 0, 0, 0, 0, false, false, 0, 0, [], 0, 0)).2.1), .int .i64 (((mget a0.1 x24).getD (0, 0, 0, 0, 0, false, false, 0, 0, [], 0, 0)).2.2.1), .int .i64 (((mget a0.1 x24).getD (0, 0, 0, 0, 0, false, false, 0, 0, [], 0, 0)).2.2.2.1), .int .i64 (((mget a0.1 x24).getD (0, 0, 0, 0, 0, false, false, 0, 0, [], 0, 0)).2.2.2.2.1), .bool (((mget a0.1 x24).getD (0, 0, 0, 0, 0, false, false, 0, 0, [], 0, 0)).2.2.2.2.2.1), .bool (((mget a0.1 x24).getD (0, 0, 0, 0, 0, false, false, 0, 0, [], 0, 0)).2.2.2.2.2.2.1), .int .i64 (((mget a0.1 x24).getD (0, 0, 0, 0, 0, false, false, 0, 0, [], 0, 0)).2.2.2.2.2.2.2.1), .int .i64 (((mget a0.1 x24).getD (0, 0, 0, 0, 0, false, false, 0, 0, [], 0, 0)).2.2.2.2.2.2.2.2.1), v30, .int .i64 (((mget a0.1 x24).getD (0, 0, 0, 0, 0, false, false, 0, 0, [], 0, 0)).2.2.2.2.2.2.2.2.2.2.1), .int .i64 (((mget a0.1 x24).getD (0, 0, 0, 0, 0, false, false, 0, 0, [], 0, 0)).2.2.2.2.2.2.2.2.2.2.2)] 75 (0, 0))], g2, g4, [(b8, .cells #[v25] 44 (0, 0))], g26, pool] rfl ?_
     refine st_ord [6, 0, 0, 0, 0, 0, 0, 0] _ rfl ?_
     refine o_append (dk := kS) (xs := s24) (ys := [((s45 ++ r53) ++ r65)]) rfl rfl rfl rfl z_slT44 e0 (ho27.up ((((hl37.trans hl43).trans hl44).trans hl45).trans hl)) e15 (Sl.src hs76) hf80 hf81 (fun v77 g78 ho79 => ?_)
     refine st_ord [1, 1, 1, 1, 1, 0, 0, 0] _ rfl ?_
     exact hk _ _ [g78, [(b8, .cells #[v25] 44 (0, 0))]] (Sto.Le.refl _) trivial (by exact ⟨v77, g78, rfl, rfl, ho79⟩)
    intro ρ' τ85 vals u Fv hl85 hI hu hv hout
    obtain ⟨v82, g83, rfl, rfl, ho84⟩ := hI
    refine st_gs [[(ba0, .cells #[v1, v3] 66 (0, 0))], [(b7, .cells #[.pointer (some ⟨ba0, 0, none⟩)] 33 (0, 0))], [(b32, .cells #[.int .i64 (((mget a0.1 x24).getD (0, 0, 0, 0, 0, false, false, 0, 0, [], 0, 0)).1), .int .i64 (((mget a0.1 x24).getD (0, 0, 0, 0, 0, false, false, 0, 0, [], 0, 0)).2.1), .int .i64 (((mget a0.1 x24).getD (0, 0, 0, 0, 0, false, false, 0, 0, [], 0, 0)).2.2.1), .int .i64 (((mget a0.1 x24).getD (0, 0, 0, 0, 0, false, false, 0, 0, [], 0, 0)).2.2.2.1), .int .i64 (((mget a0.1 x24).getD (0, 0, 0, 0, 0, false, false, 0, 0, [], 0, 0)).2.2.2.2.1), .bool (((mget a0.1 x24).getD (0, 0, 0, 0, 0, false, false, 0, 0, [], 0, 0)).2.2.2.2.2.1), .bool (((mget a0.1 x24).getD (0, 0, 0, 0, 0, false, false, 0, 0, [], 0, 0)).2.2.2.2.2.2.1), .int .i64 (((mget a0.1 x24).getD (0, 0, 0, 0, 0, false, false, 0, 0, [], 0, 0)).2.2.2.2.2.2.2.1), .int .i64 (((mget a0.1 x24).getD (0, 0, 0, 0, 0, false, false, 0, 0, [], 0, 0)).2.2.2.2.2.2.2.2.1), v30, .int .i64 (((mget a0.1 x24).getD (0, 0, 0, 0, 0, false, false, 0, 0, [], 0, 0)).2.2.2.2.2.2.2.2.2.2.1), .int .i64 (((mget a0.1 x24).getD (0, 0, 0, 0, 0, false, false, 0, 0, [], 0, 0)).2.2.2.2.2.2.2.2.2.2.2)] 75 (0, 0))], g2, g4, g83, [(b8, .cells #[v25] 44 (0, 0))]] rfl ?_
    refine st_env (ρ' := [(1, .pointer (some ⟨b7, 0, none⟩)), (2, .slice none 0 0), (3, .pointer (some ⟨b8, 0, none⟩)), (13, .int .i64 x24), (4, .int .i64 x24), (65, v82)]) ⟨(hout 1 rfl).trans rfl, (hout 2 rfl).trans rfl, (hout 3 rfl).trans rfl, (hout 13 rfl).trans rfl, (hout 4 rfl).trans rfl, (by exact hu _ rfl), trivial⟩ ?_
    refine o_store (j := 6) (vs := [v82]) (cs' := [v82]) rfl rfl rfl z_size44 rfl rfl (oneL_ow ho84) (ones_cons ho84.one' ones_nil) rfl rfl rfl ?_
    refine st_gs [[(ba0, .cells #[v1, v3] 66 (0, 0))], [(b7, .cells #[.pointer (some ⟨ba0, 0, none⟩)] 33 (0, 0))], [(b32, .cells #[.int .i64 (((mget a0.1 x24).getD (0, 0, 0, 0, 0, false, false, 0, 0, [], 0, 0)).1), .int .i64 (((mget a0.1 x24).getD (0, 0, 0, 0, 0, false, false, 0, 0, [], 0, 0)).2.1), .int .i64 (((mget a0.1 x24).getD (0, 0, 0, 0, 0, false, false, 0, 0, [], 0, 0)).2.2.1), .int .i64 (((mget a0.1 x24).getD (0, 0, 0, 0, 0, false, false, 0, 0, [], 0, 0)).2.2.2.1), .int .i64 (((mget a0.1 x24).getD (0, 0, 0, 0, 0, false, false, 0, 0, [], 0, 0)).2.2.2.2.1), .bool (((mget a0.1 x24).getD (0, 0, 0, 0, 0, false, false, 0, 0, [], 0, 0)).2.2.2.2.2.1), .bool (((mget a0.1 x24).getD (0, 0, 0, 0, 0, false, false, 0, 0, [], 0, 0)).2.2.2.2.2.2.1), .int .i64 (((mget a0.1 x24).getD (0, 0, 0, 0, 0, false, false, 0, 0, [], 0, 0)).2.2.2.2.2.2.2.1), .int .i64 (((mget a0.1 x24).getD (0, 0, 0, 0, 0, false, false, 0, 0, [], 0, 0)).2.2.2.2.2.2.2.2.1), v30, .int .i64 (((mget a0.1 x24).getD (0, 0, 0, 0, 0, false, false, 0, 0, [], 0, 0)).2.2.2.2.2.2.2.2.2.2.1), .int .i64 (((mget a0.1 x24).getD (0, 0, 0, 0, 0, false, false, 0, 0, [], 0, 0)).2.2.2.2.2.2.2.2.2.2.2)] 75 (0, 0))], g2, g4, g83, [(b8, .cells #[v82] 44 (0, 0))]] rfl ?_
    refine ZZ 5 [1] rfl rfl ?_
    obtain ⟨r86, hr87, h⟩ := h
    refine st_ord [0, 2, 2, 0, 0, 0, 0] _ rfl ?_
    refine st_call (foot := [[(ba0, .cells #[v1, v3] 66 (0, 0))], g2, g4]) rfl rfl rfl rfl rfl rfl (callV_fn z_en39 (fleet_Fleet_zones_ok hr87 τ85 (ho5.up ((((((hl12.trans hl24).trans hl37).trans hl43).trans hl44).trans hl45).trans hl85)) (ho6.up ((((((hl12.trans hl24).trans hl37).trans hl43).trans hl44).trans hl45).trans hl85)))) ?_
    rintro vτ88 τ88 gsτ88 hl89 ⟨v90, rfl, rfl, hs91⟩
    refine o_lenI rfl rfl rfl z_slT37 rfl hs91 ?_
    refine Z 2 rfl ?_
    obtain ⟨e92, hL92, hA92⟩ := h
    refine st_ord [0, 2, 4, 0, 0, 1] _ rfl ?_
    refine st_loop hL92 (fun (s92 : Int × List ByteArray) ρ τ92 gs => τ88.Le τ92 ∧ ∃ (v93 : Value) (g94 : Grp), ESub ρ [(1, .pointer (some ⟨b7, 0, none⟩)), (2, .slice none 0 0), (3, .pointer (some ⟨b8, 0, none⟩)), (13, .int .i64 x24), (4, .int .i64 x24), (68, v90), (69, .int .i64 (r86.length : Int)), (70, .int .i64 s92.1)] ∧ gs = [[(ba0, .cells #[v1, v3] 66 (0, 0))], [(b7, .cells #[.pointer (some ⟨ba0, 0, none⟩)] 33 (0, 0))], [(b8, .cells #[v93] 44 (0, 0))], g2, g4, g94] ∧ Ow kS 9 τ92 v93 s92.2 g94) ⟨Sto.Le.refl _, _, _, rfl, rfl, (ho84.up hl89)⟩ ?_
    rintro s92 o92 h he92 ρ92 τ92 gs92 ⟨hl92, v93, g94, hρ, rfl, ho95⟩ hn92
    refine st_es hρ ?_
    refine Z 5 rfl ?_
    refine st_if rfl h (fun h => ?_) (fun h => ?_)
    ·refine Z 5 rfl ?_
     obtain ⟨q96, hf97, h⟩ := h
     refine o_index rfl rfl rfl z_slT37 rfl rfl (hs91.up hl92) rfl hf97 (fun b98 of99 vs hc100 hrep => ?_)
     obtain rfl := hrep
     refine o_loadI (v := .int .i64 q96) rfl rfl rfl z_sc3 rfl (hc100 0 _ rfl) ?_
     refine Z 2 rfl ?_
     obtain ⟨r107, hr108, hf116, hf117, r125, hr126, hf139, hf140, h⟩ := h
     refine st_ord [0, 0, 1, 1, 0, 0] _ rfl ?_
     refine st_d42 [[(ba0, .cells #[v1, v3] 66 (0, 0))], [(b7, .cells #[.pointer (some ⟨ba0, 0, none⟩)] 33 (0, 0))], g2, g4] [[(b8, .cells #[v93] 44 (0, 0))], g94] [] 12 2 3 [some (0, 0), none, none, some (1, 0), none, none, none, none, some (1, 1), some (1, 2), none, some (0, 1)] [none, none, none, none, none, none, none, none, none, none, none, none] [[none, some 74, some 85], [none, some 77, some 82, some 83]] [.v (v93), .v (.int .i64 x24), .v (.int .i64 q96), .t fun _ _ => True, .v (.pointer (some ⟨ba0, 0, none⟩)), .v (.int .i64 x24), .v (.int .i64 q96), .t fun τ v => ∃ (v111 : Value), (v111 : Value) = v ∧ Sl (kI .i64) τ v111 r107, .t fun _ _ => True, .v (.string r125), .t fun τ v => ∃ (v129 : Value), (v129 : Value) = v ∧ Sl kS τ v129 [r125], .t fun _ _ => True] [[fun τ u F => F = [[(b8, .cells #[v93] 44 (0, 0))], g94], fun τ u F => F = [[(b8, .cells #[v93] 44 (0, 0))], g94], fun τ u F => ∃ (v141 : Value) (g142 : Grp), F = [g142, [(b8, .cells #[v93] 44 (0, 0))]] ∧ v141 = u ∧ Ow kS 9 τ v141 (s92.2 ++ [r125]) g142], [fun τ u F => F = [], fun τ u F => ∃ (v104 : Value) (g105 : Grp), F = [g105] ∧ v104 = u ∧ Ow (kI .i64) 3 τ v104 [x24, q96] g105, fun τ u F => ∃ (v118 : Value) (g119 : Grp), F = [g119] ∧ v118 = u ∧ Ow (kI .i64) 3 τ v118 ([x24, q96] ++ r107) g119, fun τ u F => F = []]] rfl z_mix rfl ⟨fun _ _ _ _ _ => trivial, ⟨fun _ _ _ hl ⟨v111, hv, hs112⟩ => ⟨v111, hv, hs112.up hl⟩, ⟨fun _ _ _ _ _ => trivial, ⟨fun _ _ _ hl ⟨v129, hv, hs135⟩ => ⟨v129, hv, hs135.up hl⟩, ⟨fun _ _ _ _ _ => trivial, trivial⟩⟩⟩⟩⟩ ⟨⟨fun _ _ _ _ hl h => h, ⟨fun _ _ _ _ hl h => h, ⟨fun _ _ _ _ hl h => (let ⟨v141, g142, hF, hU, ho143⟩ := h; ⟨v141, g142, hF, hU, ho143.up hl⟩), trivial⟩⟩⟩, ⟨⟨fun _ _ _ _ hl h => h, ⟨fun _ _ _ _ hl h => (let ⟨v104, g105, hF, hU, ho106⟩ := h; ⟨v104, g105, hF, hU, ho106.up hl⟩), ⟨fun _ _ _ _ hl h => (let ⟨v118, g119, hF, hU, ho120⟩ := h; ⟨v118, g119, hF, hU, ho120.up hl⟩), ⟨fun _ _ _ _ hl h => h, trivial⟩⟩⟩⟩, trivial⟩⟩ rfl rfl ?_ ?_ (allB_cons (allB_cons (allB_cons (allB_cons (allB_cons (allB_cons (allB_cons (allB_cons (allB_cons (allB_cons (allB_cons (allB_cons allB_nil ?_) (p4 dA)) (p4 dA)) ?_) ?_) (p4 dA)) (p4 dA)) ?_) ?_) ?_) ?_) ?_) ?_
     ·exact rfl
     ·exact rfl
     ·intro ρ' τ u Fv pool rs hl hI hu hd hout hw hk
      have hI0 := hI
      obtain rfl := hI
      refine st_gs [[(ba0, .cells #[v1, v3] 66 (0, 0))], [(b7, .cells #[.pointer (some ⟨ba0, 0, none⟩)] 33 (0, 0))], g2, g4, [(b8, .cells #[v93] 44 (0, 0))], g94, pool] rfl ?_
      refine o_load (j := 4) (v := v93) rfl rfl rfl z_sc44 ((hout 3 rfl).trans rfl) rfl rfl ?_
      exact hk _ _ [[(b8, .cells #[v93] 44 (0, 0))], g94] (Sto.Le.refl _) rfl (by exact hI0)
     ·intro ρ' τ u Fv pool rs hl hI hu hd hout hw hk
      obtain ⟨_, e1, rfl⟩ := hd 1 rfl _ rfl
      obtain ⟨_, e2, rfl⟩ := hd 2 rfl _ rfl
      have hI0 := hI
      obtain rfl := hI
      refine st_gs [[(ba0, .cells #[v1, v3] 66 (0, 0))], [(b7, .cells #[.pointer (some ⟨ba0, 0, none⟩)] 33 (0, 0))], g2, g4, pool] rfl ?_
      refine o_litE (eI .i64) [x24, q96] rfl rfl rfl z_slT37 z_zero3 ⟨rfl, ⟨_, e1, rfl⟩, ⟨rfl, ⟨_, e2, rfl⟩, trivial⟩⟩ rfl rfl rfl rfl (fun v101 g102 ho103 => ?_)
      refine st_ord [1, 1, 1, 1, 0, 0] _ rfl ?_
      exact hk _ _ [g102] (Sto.Le.refl _) trivial (by exact ⟨v101, g102, rfl, rfl, ho103⟩)
     ·intro ρ' τ pool rs hl hd hout hw hk
      refine o_load (j := 1) (v := .pointer (some ⟨ba0, 0, none⟩)) rfl rfl rfl z_sc33 ((hout 1 rfl).trans rfl) rfl rfl ?_
      exact hk _ _ (Sto.Le.refl _) rfl
     ·intro ρ' τ pool rs hl hd hout hw hk
      obtain ⟨_, e4, rfl⟩ := hd 4 rfl _ rfl
      obtain ⟨_, e5, rfl⟩ := hd 5 rfl _ rfl
      obtain ⟨_, e6, rfl⟩ := hd 6 rfl _ rfl
      refine st_ord [0, 1, 1, 0, 0] _ rfl ?_
      refine st_call (foot := [[(ba0, .cells #[v1, v3] 66 (0, 0))], g2, g4]) rfl rfl rfl rfl (evs_cons e4 (evs_cons e5 (evs_cons e6 rfl))) rfl (callV_fn z_en40 (fleet_Fleet_Cells_ok hr108 τ (ho5.up (((((((((hl12.trans hl24).trans hl37).trans hl43).trans hl44).trans hl45).trans hl85).trans hl89).trans hl92).trans hl)) (ho6.up (((((((((hl12.trans hl24).trans hl37).trans hl43).trans hl44).trans hl45).trans hl85).trans hl89).trans hl92).trans hl)))) ?_
      rintro vτ109 τ109 gsτ109 hl110 ⟨v111, rfl, rfl, hs112⟩
      refine st_ord [0, 2, 0, 0, 0] _ rfl ?_
      exact hk _ _ hl110 ⟨v111, rfl, hs112⟩
     ·intro ρ' τ u Fv pool rs hl hI hu hd hout hw hk
      obtain ⟨_, e7, v111, rfl, hs112⟩ := hd 7 rfl _ rfl
      obtain ⟨v104, g105, rfl, rfl, ho106⟩ := hI
      refine st_gs [[(ba0, .cells #[v1, v3] 66 (0, 0))], [(b7, .cells #[.pointer (some ⟨ba0, 0, none⟩)] 33 (0, 0))], g2, g4, g105, pool] rfl ?_
      refine st_ord [4, 0, 0, 0, 0, 0] _ rfl ?_
      refine o_append (dk := (kI .i64)) (xs := [x24, q96]) (ys := r107) rfl rfl rfl rfl z_slT37 (hu (by decide) _ rfl) ho106 e7 (Sl.src hs112) hf116 hf117 (fun v113 g114 ho115 => ?_)
      refine st_ord [1, 1, 1, 1, 0, 0] _ rfl ?_
      exact hk _ _ [g114] (Sto.Le.refl _) trivial (by exact ⟨v113, g114, rfl, rfl, ho115⟩)
     ·intro ρ' τ u Fv pool rs hl hI hu hd hout hw hk
      obtain ⟨v118, g119, rfl, rfl, ho120⟩ := hI
      refine st_gs [[(ba0, .cells #[v1, v3] 66 (0, 0))], [(b7, .cells #[.pointer (some ⟨ba0, 0, none⟩)] 33 (0, 0))], g2, g4, g119, pool] rfl ?_
      refine st_ord [4, 0, 0, 0, 0, 0] _ rfl ?_
      refine st_freeze (fun τ121 hl122 hg123 => ?_)
      have hs124 := ho120.freeze hl122 hg123
      refine st_call (foot := []) rfl rfl rfl rfl (evs_cons (ev_str z_str3) (evs_cons (hu (by decide) _ rfl) rfl)) rfl (callV_fn z_en38 (fleet_line_ok hr126 τ121 hs124 (hT.up ((((((((((hl12.trans hl24).trans hl37).trans hl43).trans hl44).trans hl45).trans hl85).trans hl89).trans hl92).trans hl).trans hl122)))) ?_
      rintro vτ127 τ127 gsτ127 hl128 ⟨rfl, rfl⟩
      exact hk _ _ [] (hl122.trans hl128) rfl (by exact rfl)
     ·intro ρ' τ pool rs hl hd hout hw hk
      obtain ⟨_, e9, rfl⟩ := hd 9 rfl _ rfl
      refine o_litE eS [r125] rfl rfl rfl z_slT44 z_zero9 ⟨rfl, ⟨_, e9, rfl⟩, trivial⟩ rfl rfl rfl rfl (fun v129 g130 ho131 => ?_)
      refine st_freeze (fun τ132 hl133 hg134 => ?_)
      have hs135 := ho131.freeze hl133 hg134
      exact hk _ _ hl133 ⟨v129, rfl, hs135⟩
     ·intro ρ' τ u Fv pool rs hl hI hu hd hout hw hk
      obtain ⟨_, e0, rfl⟩ := hd 0 rfl _ rfl
      obtain ⟨_, e10, v129, rfl, hs135⟩ := hd 10 rfl _ rfl
      have hI0 := hI
      obtain rfl := hI
      refine st_gs [[(ba0, .cells #[v1, v3] 66 (0, 0))], [(b7, .cells #[.pointer (some ⟨ba0, 0, none⟩)] 33 (0, 0))], g2, g4, [(b8, .cells #[v93] 44 (0, 0))], g94, pool] rfl ?_
      refine st_ord [5, 0, 0, 0, 0, 0, 0] _ rfl ?_
      refine o_append (dk := kS) (xs := s92.2) (ys := [r125]) rfl rfl rfl rfl z_slT44 e0 (ho95.up hl) e10 (Sl.src hs135) hf139 hf140 (fun v136 g137 ho138 => ?_)
      refine st_ord [1, 1, 1, 1, 0, 0, 0] _ rfl ?_
      exact hk _ _ [g137, [(b8, .cells #[v93] 44 (0, 0))]] (Sto.Le.refl _) trivial (by exact ⟨v136, g137, rfl, rfl, ho138⟩)
     intro ρ' τ144 vals u u1 Fv Fv1 hl144 hI hu hI1 hu1 hv hout
     obtain ⟨v141, g142, rfl, rfl, ho143⟩ := hI
     obtain rfl := hI1
     refine st_gs [[(ba0, .cells #[v1, v3] 66 (0, 0))], [(b7, .cells #[.pointer (some ⟨ba0, 0, none⟩)] 33 (0, 0))], g2, g4, g142, [(b8, .cells #[v93] 44 (0, 0))]] rfl ?_
     refine st_env (ρ' := [(1, .pointer (some ⟨b7, 0, none⟩)), (2, .slice none 0 0), (3, .pointer (some ⟨b8, 0, none⟩)), (13, .int .i64 x24), (4, .int .i64 x24), (68, v90), (69, .int .i64 (r86.length : Int)), (70, .int .i64 s92.1), (85, v141)]) ⟨(hout 1 rfl).trans rfl, (hout 2 rfl).trans rfl, (hout 3 rfl).trans rfl, (hout 13 rfl).trans rfl, (hout 4 rfl).trans rfl, (hout 68 rfl).trans rfl, (hout 69 rfl).trans rfl, (hout 70 rfl).trans rfl, (by exact hu _ rfl), trivial⟩ ?_
     refine o_store (j := 5) (vs := [v141]) (cs' := [v141]) rfl rfl rfl z_size44 rfl rfl (oneL_ow ho143) (ones_cons ho143.one' ones_nil) rfl rfl rfl ?_
     refine st_gs [[(ba0, .cells #[v1, v3] 66 (0, 0))], [(b7, .cells #[.pointer (some ⟨ba0, 0, none⟩)] 33 (0, 0))], g2, g4, g142, [(b8, .cells #[v141] 44 (0, 0))]] rfl ?_
     refine Z 6 rfl ?_
     refine st_ord [0, 0, 3, 0, 0, 0] _ rfl ?_
     exact hn92 _ _ _ _ h ⟨(hl92.trans hl144), _, _, rfl, rfl, ho143⟩
    ·refine Z 2 rfl ?_
     obtain rfl := he92 _ h
     replace h := hA92
     exact st_rend (List.Sublist.refl _) ((((((hl37.trans hl43).trans hl44).trans hl45).trans hl85).trans hl89).trans hl92) ⟨_, h, (((((((hl24.trans hl37).trans hl43).trans hl44).trans hl45).trans hl85).trans hl89).trans hl92), _, _, rfl, ho95⟩
   refine ZZ 5 [3] rfl rfl ?_
   refine st_if rfl h (fun h => ?_) (fun h => ?_)
   ·refine ZZ 6 [3, 3] rfl rfl ?_
    refine o_litE (eI .i64) [((mget a0.1 x24).getD (0, 0, 0, 0, 0, false, false, 0, 0, [], 0, 0)).2.2.2.2.2.2.2.1, ((mget a0.1 x24).getD (0, 0, 0, 0, 0, false, false, 0, 0, [], 0, 0)).2.2.2.2.2.2.2.2.1] rfl rfl rfl z_slT37 z_zero3 ⟨rfl, ⟨_, rfl, rfl⟩, ⟨rfl, ⟨_, rfl, rfl⟩, trivial⟩⟩ rfl rfl rfl rfl (fun v146 g147 ho148 => ?_)
    obtain ⟨r153, hr154, h⟩ := h
    refine st_freeze (fun τ149 hl150 hg151 => ?_)
    have hs152 := ho148.freeze hl150 hg151
    refine st_call (foot := []) rfl rfl rfl rfl (evs_cons (ev_str z_str49) (evs_cons rfl rfl)) rfl (callV_fn z_en38 (fleet_line_ok hr154 τ149 hs152 (hT.up (((((hl12.trans hl24).trans hl37).trans hl43).trans hl44).trans hl150)))) ?_
    rintro vτ155 τ155 gsτ155 hl156 ⟨rfl, rfl⟩
    obtain ⟨hf157, h⟩ := h
    refine o_sadd rfl rfl rfl rfl rfl hf157 ?_
    refine Z 2 rfl ?_
    exact hk45 _ _ _ ⟨(s44 ++ r153), h, (hl150.trans hl156), rfl, rfl⟩
   ·refine st_skip ?_
    exact hk45 _ _ _ ⟨s44, h, (Sto.Le.refl _), rfl, rfl⟩
  refine ZZ 5 [0] rfl rfl ?_
  refine st_if rfl h (fun h => ?_) (fun h => ?_)
  ·refine ZZ 12 [0, 0, 0, 0, 0] rfl rfl ?_
   refine o_litE (eI .i64) [((mget a0.1 x24).getD (0, 0, 0, 0, 0, false, false, 0, 0, [], 0, 0)).1, ((mget a0.1 x24).getD (0, 0, 0, 0, 0, false, false, 0, 0, [], 0, 0)).2.1, ((mget a0.1 x24).getD (0, 0, 0, 0, 0, false, false, 0, 0, [], 0, 0)).2.2.1, ((mget a0.1 x24).getD (0, 0, 0, 0, 0, false, false, 0, 0, [], 0, 0)).2.2.2.1, ((mget a0.1 x24).getD (0, 0, 0, 0, 0, false, false, 0, 0, [], 0, 0)).2.2.2.2.1] rfl rfl rfl z_slT37 z_zero3 ⟨rfl, ⟨_, rfl, rfl⟩, ⟨rfl, ⟨_, rfl, rfl⟩, ⟨rfl, ⟨_, rfl, rfl⟩, ⟨rfl, ⟨_, rfl, rfl⟩, ⟨rfl, ⟨_, rfl, rfl⟩, trivial⟩⟩⟩⟩⟩ rfl rfl rfl rfl (fun v158 g159 ho160 => ?_)
   obtain ⟨r165, hr166, h⟩ := h
   refine st_freeze (fun τ161 hl162 hg163 => ?_)
   have hs164 := ho160.freeze hl162 hg163
   refine st_call (foot := []) rfl rfl rfl rfl (evs_cons (ev_str z_str48) (evs_cons rfl rfl)) rfl (callV_fn z_en38 (fleet_line_ok hr166 τ161 hs164 (hT.up ((((hl12.trans hl24).trans hl37).trans hl43).trans hl162)))) ?_
   rintro vτ167 τ167 gsτ167 hl168 ⟨rfl, rfl⟩
   obtain ⟨hf169, h⟩ := h
   refine o_sadd rfl rfl rfl rfl rfl hf169 ?_
   refine Z 2 rfl ?_
   refine st_ord [1, 1, 1, 0, 0, 0, 0] _ rfl ?_
   exact hk44 _ _ _ ⟨(r40 ++ r165), h, (hl162.trans hl168), rfl, rfl⟩
  ·refine st_skip ?_
   refine st_ord [1, 1, 1, 0, 0, 0, 0] _ rfl ?_
   exact hk44 _ _ _ ⟨r40, h, (Sto.Le.refl _), rfl, rfl⟩
 ·rintro p177 τ178 gs24 ht hl179 ⟨hb, v180, g181, rfl, ho182⟩ 
  subst ht
  replace h := hA24
  refine Z 2 rfl ?_
  refine st_cut (fun ρ τ183 gs => ∃ (s183 : List ByteArray) (v184 : Value) (g185 : Grp), fleet_Fleet_Lines_j5 s183 r ∧ τ178.Le τ183 ∧ ESub ρ [(2, .slice none 0 0), (3, .pointer (some ⟨b8, 0, none⟩))] ∧ gs = [[(ba0, .cells #[v1, v3] 66 (0, 0))], [(b8, .cells #[v184] 44 (0, 0))], g2, g4, g185] ∧ Ow kS 9 τ183 v184 s183 g185) ?_ (fun hk183 => ?_)
  ·rintro ρ183 τ183 gs183 ⟨s183, v184, g185, h, hl183, hρ, rfl, ho186⟩
   refine st_es hρ ?_
   refine ZZ 5 [1] rfl rfl ?_
   refine st_ord [4, 0, 0, 0, 0] _ rfl ?_
   refine st_freeze (fun τ187 hl188 hg189 => ?_)
   have hs190 := ho186.freeze hl188 hg189
   refine st_ord [0, 1, 1] _ rfl ?_
   obtain rfl := Eq.symm h
   exact st_ret (gs' := [[(ba0, .cells #[v1, v3] 66 (0, 0))], g2, g4]) Tryd.func21 rfl (List.Sublist.refl _) (((hl12.trans hl179).trans hl183).trans hl188) ⟨_, rfl, rfl, hs190⟩
  refine ZZ 3 [1] rfl rfl ?_
  obtain ⟨r193, hr194, h⟩ := h
  refine st_ord [0, 2, 2, 0, 0, 0] _ rfl ?_
  refine st_call (foot := [[(ba0, .cells #[v1, v3] 66 (0, 0))], g2, g4]) rfl rfl rfl rfl rfl rfl (callV_fn z_en32 (fleet_Fleet_Contested_ok hr194 τ178 (ho5.up (hl12.trans hl179)) (ho6.up (hl12.trans hl179)))) ?_
  rintro vτ195 τ195 gsτ195 hl196 ⟨v197, rfl, rfl, hs198⟩
  refine o_lenI rfl rfl rfl z_slT69 rfl hs198 ?_
  refine Z 2 rfl ?_
  obtain ⟨e199, hL199, hA199⟩ := h
  refine st_ord [0, 3, 0, 0, 1] _ rfl ?_
  refine st_loop hL199 (fun (s199 : Int × List ByteArray) ρ τ199 gs => τ195.Le τ199 ∧ ∃ (v200 : Value) (g201 : Grp), ESub ρ [(2, .slice none 0 0), (3, .pointer (some ⟨b8, 0, none⟩)), (88, v197), (89, .int .i64 (r193.length : Int)), (90, .int .i64 s199.1)] ∧ gs = [[(ba0, .cells #[v1, v3] 66 (0, 0))], [(b8, .cells #[v200] 44 (0, 0))], g2, g4, g201] ∧ Ow kS 9 τ199 v200 s199.2 g201) ⟨Sto.Le.refl _, _, _, rfl, rfl, (ho182.up hl196)⟩ ?_
  rintro s199 o199 h he199 ρ199 τ199 gs199 ⟨hl199, v200, g201, hρ, rfl, ho202⟩ hn199
  refine st_es hρ ?_
  refine Z 5 rfl ?_
  refine st_if rfl h (fun h => ?_) (fun h => ?_)
  ·refine Z 5 rfl ?_
   obtain ⟨q203, hf204, h⟩ := h
   refine o_index rfl rfl rfl z_slT69 rfl rfl (hs198.up hl199) rfl hf204 (fun b205 of206 vs hc207 hrep => ?_)
   obtain ⟨_, _, rfl, rfl, rfl⟩ := hrep
   refine o_loadIN (vs := [.int .i64 q203.1, .int .i64 q203.2]) rfl rfl rfl z_agg72 rfl rfl (celn_part 0 rfl hc207) ?_
   refine o_alloc rfl rfl rfl z_zero72 (fun b208 => ?_)
   refine ZZ 2 [0] rfl rfl ?_
   obtain ⟨r216, hr217, hf230, hf231, h⟩ := h
   refine st_ord [0, 0, 1, 1, 0, 0] _ rfl ?_
   refine st_d41 [[(b208, .cells #[.int .i64 q203.1, .int .i64 q203.2] 72 (0, 0))], [(ba0, .cells #[v1, v3] 66 (0, 0))], g2, g4] [[(b8, .cells #[v200] 44 (0, 0))], g201] 9 2 [some (0, 0), none, none, none, none, none, none, none, some (0, 1)] [none, none, none, none, none, none, none, none, none] [[none, some 94, some 102]] [.v (v200), .v (.pointer (some ⟨b208, 0, none⟩)), .v (.int .i64 q203.1), .v (.pointer (some ⟨b208, 1, none⟩)), .v (.int .i64 q203.2), .t fun τ v => ∃ (v209 : Value), (v209 : Value) = v ∧ Sl (kI .i64) τ v209 [q203.1, q203.2], .v (.string r216), .t fun τ v => ∃ (v220 : Value), (v220 : Value) = v ∧ Sl kS τ v220 [r216], .t fun _ _ => True] [[fun τ u F => F = [[(b8, .cells #[v200] 44 (0, 0))], g201], fun τ u F => F = [[(b8, .cells #[v200] 44 (0, 0))], g201], fun τ u F => ∃ (v232 : Value) (g233 : Grp), F = [g233, [(b8, .cells #[v200] 44 (0, 0))]] ∧ v232 = u ∧ Ow kS 9 τ v232 (s199.2 ++ [r216]) g233]] rfl z_mix rfl ⟨fun _ _ _ hl ⟨v209, hv, hs215⟩ => ⟨v209, hv, hs215.up hl⟩, ⟨fun _ _ _ hl ⟨v220, hv, hs226⟩ => ⟨v220, hv, hs226.up hl⟩, ⟨fun _ _ _ _ _ => trivial, trivial⟩⟩⟩ ⟨⟨fun _ _ _ _ hl h => h, ⟨fun _ _ _ _ hl h => h, ⟨fun _ _ _ _ hl h => (let ⟨v232, g233, hF, hU, ho234⟩ := h; ⟨v232, g233, hF, hU, ho234.up hl⟩), trivial⟩⟩⟩, trivial⟩ rfl rfl ?_ (allB_cons (allB_cons (allB_cons (allB_cons (allB_cons (allB_cons (allB_cons (allB_cons (allB_cons allB_nil ?_) (p4 dA)) ?_) (p4 dA)) ?_) ?_) ?_) ?_) ?_) ?_
   ·exact rfl
   ·intro ρ' τ u Fv pool rs hl hI hu hd hout hw hk
    have hI0 := hI
    obtain rfl := hI
    refine st_gs [[(b208, .cells #[.int .i64 q203.1, .int .i64 q203.2] 72 (0, 0))], [(ba0, .cells #[v1, v3] 66 (0, 0))], g2, g4, [(b8, .cells #[v200] 44 (0, 0))], g201, pool] rfl ?_
    refine o_load (j := 4) (v := v200) rfl rfl rfl z_sc44 ((hout 3 rfl).trans rfl) rfl rfl ?_
    exact hk _ _ [[(b8, .cells #[v200] 44 (0, 0))], g201] (Sto.Le.refl _) rfl (by exact hI0)
   ·intro ρ' τ pool rs hl hd hout hw hk
    obtain ⟨_, e1, rfl⟩ := hd 1 rfl _ rfl
    refine o_load (j := 0) (v := .int .i64 q203.1) rfl rfl rfl z_sc3 e1 rfl rfl ?_
    exact hk _ _ (Sto.Le.refl _) rfl
   ·intro ρ' τ pool rs hl hd hout hw hk
    obtain ⟨_, e3, rfl⟩ := hd 3 rfl _ rfl
    refine o_load (j := 0) (v := .int .i64 q203.2) rfl rfl rfl z_sc3 e3 rfl rfl ?_
    exact hk _ _ (Sto.Le.refl _) rfl
   ·intro ρ' τ pool rs hl hd hout hw hk
    obtain ⟨_, e2, rfl⟩ := hd 2 rfl _ rfl
    obtain ⟨_, e4, rfl⟩ := hd 4 rfl _ rfl
    refine o_litE (eI .i64) [q203.1, q203.2] rfl rfl rfl z_slT37 z_zero3 ⟨rfl, ⟨_, e2, rfl⟩, ⟨rfl, ⟨_, e4, rfl⟩, trivial⟩⟩ rfl rfl rfl rfl (fun v209 g210 ho211 => ?_)
    refine st_freeze (fun τ212 hl213 hg214 => ?_)
    have hs215 := ho211.freeze hl213 hg214
    exact hk _ _ hl213 ⟨v209, rfl, hs215⟩
   ·intro ρ' τ pool rs hl hd hout hw hk
    obtain ⟨_, e5, v209, rfl, hs215⟩ := hd 5 rfl _ rfl
    refine st_call (foot := []) rfl rfl rfl rfl (evs_cons (ev_str z_str52) (evs_cons e5 rfl)) rfl (callV_fn z_en38 (fleet_line_ok hr217 τ hs215 (hT.up ((((hl12.trans hl179).trans hl196).trans hl199).trans hl)))) ?_
    rintro vτ218 τ218 gsτ218 hl219 ⟨rfl, rfl⟩
    exact hk _ _ hl219 rfl
   ·intro ρ' τ pool rs hl hd hout hw hk
    obtain ⟨_, e6, rfl⟩ := hd 6 rfl _ rfl
    refine o_litE eS [r216] rfl rfl rfl z_slT44 z_zero9 ⟨rfl, ⟨_, e6, rfl⟩, trivial⟩ rfl rfl rfl rfl (fun v220 g221 ho222 => ?_)
    refine st_freeze (fun τ223 hl224 hg225 => ?_)
    have hs226 := ho222.freeze hl224 hg225
    exact hk _ _ hl224 ⟨v220, rfl, hs226⟩
   ·intro ρ' τ u Fv pool rs hl hI hu hd hout hw hk
    obtain ⟨_, e0, rfl⟩ := hd 0 rfl _ rfl
    obtain ⟨_, e7, v220, rfl, hs226⟩ := hd 7 rfl _ rfl
    have hI0 := hI
    obtain rfl := hI
    refine st_gs [[(b208, .cells #[.int .i64 q203.1, .int .i64 q203.2] 72 (0, 0))], [(ba0, .cells #[v1, v3] 66 (0, 0))], g2, g4, [(b8, .cells #[v200] 44 (0, 0))], g201, pool] rfl ?_
    refine st_ord [5, 0, 0, 0, 0, 0, 0] _ rfl ?_
    refine o_append (dk := kS) (xs := s199.2) (ys := [r216]) rfl rfl rfl rfl z_slT44 e0 (ho202.up hl) e7 (Sl.src hs226) hf230 hf231 (fun v227 g228 ho229 => ?_)
    refine st_ord [1, 1, 1, 1, 0, 0, 0] _ rfl ?_
    exact hk _ _ [g228, [(b8, .cells #[v200] 44 (0, 0))]] (Sto.Le.refl _) trivial (by exact ⟨v227, g228, rfl, rfl, ho229⟩)
   intro ρ' τ235 vals u Fv hl235 hI hu hv hout
   obtain ⟨v232, g233, rfl, rfl, ho234⟩ := hI
   refine st_gs [[(b208, .cells #[.int .i64 q203.1, .int .i64 q203.2] 72 (0, 0))], [(ba0, .cells #[v1, v3] 66 (0, 0))], g2, g4, g233, [(b8, .cells #[v200] 44 (0, 0))]] rfl ?_
   refine st_env (ρ' := [(2, .slice none 0 0), (3, .pointer (some ⟨b8, 0, none⟩)), (88, v197), (89, .int .i64 (r193.length : Int)), (90, .int .i64 s199.1), (102, v232)]) ⟨(hout 2 rfl).trans rfl, (hout 3 rfl).trans rfl, (hout 88 rfl).trans rfl, (hout 89 rfl).trans rfl, (hout 90 rfl).trans rfl, (by exact hu _ rfl), trivial⟩ ?_
   refine o_store (j := 5) (vs := [v232]) (cs' := [v232]) rfl rfl rfl z_size44 rfl rfl (oneL_ow ho234) (ones_cons ho234.one' ones_nil) rfl rfl rfl ?_
   refine st_gs [[(b208, .cells #[.int .i64 q203.1, .int .i64 q203.2] 72 (0, 0))], [(ba0, .cells #[v1, v3] 66 (0, 0))], g2, g4, g233, [(b8, .cells #[v232] 44 (0, 0))]] rfl ?_
   refine Z 6 rfl ?_
   refine st_ord [1, 4, 1, 1, 1] _ rfl ?_
   exact hn199 _ _ _ _ h ⟨(hl199.trans hl235), _, _, rfl, rfl, ho234⟩
  ·refine st_exit rfl ?_
   obtain rfl := he199 _ h
   replace h := hA199
   exact hk183 _ _ _ ⟨s199.2, _, _, h, (hl196.trans hl199), rfl, rfl, ho202⟩
 ·exact fun _ _ _ _ _ _ h => h.elim
theorem law30_FleetOrder_ok {a0 : List (Int × List Int × List (Int × Int) × List Int × ByteArray × ByteArray)} {a1 : Int} {v1 : Value} {r : Bool} (h : law30_FleetOrder a0 a1 r) (σ : Sto) (hs2 : Sl (kP (kI .i64) (kP (kA .i64 6) (kP (kSl (kP (kI .i64) (kI .i64))) (kP (kSl (kI .i64)) (kP kS kS))))) σ v1 a0) (hT : Tab Tryd.prog σ) :
    Does Tryd.prog 4 [v1, .int .i64 a1] σ [] (fun v τ gs => gs = [] ∧ .bool r = v) := by
 refine call_of Tryd.func4 Tryd.ntmps4 rfl rfl (fun cs fs => ?_)
 refine Z 6 rfl ?_
 obtain ⟨r3, hr4, h⟩ := h
 refine st_call (foot := []) rfl rfl rfl rfl rfl rfl (callV_fn z_en15 (fleet_New_ok hr4 σ)) ?_
 rintro vτ5 τ5 gsτ5 hl6 ⟨b7, v8, g9, v10, g11, rfl, rfl, ho12, ho13⟩
 obtain ⟨r14, hr15, h⟩ := h
 refine st_call (foot := []) rfl rfl rfl rfl rfl rfl (callV_fn z_en15 (fleet_New_ok hr15 τ5)) ?_
 rintro vτ16 τ16 gsτ16 hl17 ⟨b18, v19, g20, v21, g22, rfl, rfl, ho23, ho24⟩
 refine Z 21 rfl ?_
 refine st_cut (fun ρ τ25 gs => ∃ (s25 : (List (Int × List Int × List (Int × Int) × List Int × ByteArray × ByteArray)) × (List (Int × List Int × List (Int × Int) × List Int × ByteArray × ByteArray)) × (List (Int × (Int × Int × Int × Int × Int × Bool × Bool × Int × Int × List (Int × Int) × Int × Int))) × (List ((Int × Int) × List Int))) (v26 : Value) (g27 : Grp) (v29 : Value) (g30 : Grp) (v32 : Value) (g33 : Grp) (v35 : Value) (g36 : Grp), law30_FleetOrder_j1 a0 r14 s25 r ∧ τ16.Le τ25 ∧ ESub ρ [(0, v1), (4, .bool false), (5, .pointer (some ⟨b7, 0, none⟩)), (6, .pointer (some ⟨b18, 0, none⟩)), (7, v26), (8, v29)] ∧ gs = [[(b7, .cells #[v32, v35] 66 (0, 0))], [(b18, .cells #[v19, v21] 66 (0, 0))], g20, g22, g27, g30, g33, g36] ∧ Ow (kP (kI .i64) (kP (kA .i64 6) (kP (kSl (kP (kI .i64) (kI .i64))) (kP (kSl (kI .i64)) (kP kS kS))))) 39 τ25 v26 s25.1 g27 ∧ Ow (kP (kI .i64) (kP (kA .i64 6) (kP (kSl (kP (kI .i64) (kI .i64))) (kP (kSl (kI .i64)) (kP kS kS))))) 39 τ25 v29 s25.2.1 g30 ∧ Mp (Value.int .i64) (rK (kP (kI .i64) (kP (kI .i64) (kP (kI .i64) (kP (kI .i64) (kP (kI .i64) (kP kB (kP kB (kP (kI .i64) (kP (kI .i64) (kP (kSl (kP (kI .i64) (kI .i64))) (kP (kI .i64) (kI .i64))))))))))))) τ25 v32 s25.2.2.1 g33 ∧ Mp kPr (rSl (kI .i64)) τ25 v35 s25.2.2.2 g36) ?_ (fun hk25 => ?_)
 ·rintro ρ25 τ25 gs25 ⟨s25, v26, g27, v29, g30, v32, g33, v35, g36, h, hl25, hρ, rfl, ho28, ho31, ho34, ho37⟩
  refine st_es hρ ?_
  refine Z 4 rfl ?_
  obtain ⟨r43, hr44, h⟩ := h
  refine st_ord [5, 0, 0, 0, 0, 0, 0, 0] _ rfl ?_
  refine st_freeze (fun τ38 hl39 hg40 => ?_)
  have hs41 := ho31.freeze hl39 hg40
  refine st_ord [1, 1, 1, 0, 0, 0, 0] _ rfl ?_
  refine st_call (foot := [[(b18, .cells #[v19, v21] 66 (0, 0))], g20, g22]) rfl rfl rfl rfl rfl rfl (callV_fn z_en17 (fleet_Fleet_Apply_ok hr44 τ38 (ho23.up (hl25.trans hl39)) (ho24.up (hl25.trans hl39)) hs41)) ?_
  rintro vτ45 τ45 gsτ45 hl46 ⟨v47, g48, v49, g50, rfl, rfl, ho51, ho52⟩
  refine Z 6 rfl ?_
  obtain ⟨r58, hr59, h⟩ := h
  refine st_ord [4, 0, 0, 0, 0, 0, 0] _ rfl ?_
  refine st_freeze (fun τ53 hl54 hg55 => ?_)
  have hs56 := ho28.freeze ((hl39.trans hl46).trans hl54) hg55
  refine st_call (foot := [[(b18, .cells #[v47, v49] 66 (0, 0))], g48, g50]) rfl rfl rfl rfl rfl rfl (callV_fn z_en17 (fleet_Fleet_Apply_ok hr59 τ53 (ho51.up hl54) (ho52.up hl54) hs56)) ?_
  rintro vτ60 τ60 gsτ60 hl61 ⟨v62, g63, v64, g65, rfl, rfl, ho66, ho67⟩
  refine Z 3 rfl ?_
  refine st_cut (fun ρ τ68 gs => ∃ (s68 : Bool), law30_FleetOrder_j2 s68 r ∧ τ60.Le τ68 ∧ ESub ρ [(4, .bool s68)] ∧ gs = []) ?_ (fun hk68 => ?_)
  ·rintro ρ68 τ68 gs68 ⟨s68, h, hl68, hρ, rfl⟩
   refine st_es hρ ?_
   obtain rfl := Eq.symm h
   exact st_ret (gs' := []) Tryd.func4 rfl (List.Sublist.refl _) (((((((hl6.trans hl17).trans hl25).trans hl39).trans hl46).trans hl54).trans hl61).trans hl68) ⟨rfl, rfl⟩
  refine st_region ?_
  obtain ⟨r69, hr70, h⟩ := h
  refine st_call (foot := []) rfl rfl rfl rfl rfl rfl (callV_fn z_en18 (law30_known_ok hr70 τ60)) ?_
  rintro vτ71 τ71 gsτ71 hl72 ⟨rfl, rfl⟩
  refine o_mif rfl rfl rfl rfl h (fun h => ?_) (fun h => ?_)
  ·refine Z 4 rfl ?_
   refine o_lenI rfl rfl rfl z_slT32 rfl (hs2.up (((((((hl6.trans hl17).trans hl25).trans hl39).trans hl46).trans hl54).trans hl61).trans hl72)) ?_
   refine Z 2 rfl ?_
   refine o_mif rfl rfl rfl rfl h (fun h => ?_) (fun h => ?_)
   ·refine Z 2 rfl ?_
    obtain ⟨r73, hr74, h⟩ := h
    refine st_ord [3, 3, 3, 0, 0, 0] _ rfl ?_
    refine st_call (foot := [[(b7, .cells #[v32, v35] 66 (0, 0))], g33, g36, [(b18, .cells #[v62, v64] 66 (0, 0))], g63, g65]) rfl rfl rfl rfl rfl rfl (callV_fn z_en19 (fleet_Same_ok hr74 τ71 (ho34.up ((((hl39.trans hl46).trans hl54).trans hl61).trans hl72)) (ho37.up ((((hl39.trans hl46).trans hl54).trans hl61).trans hl72)) (ho66.up hl72) (ho67.up hl72))) ?_
    rintro vτ75 τ75 gsτ75 hl76 ⟨rfl, rfl⟩
    refine o_pick rfl rfl rfl rfl rfl ?_
    refine o_mif rfl rfl rfl rfl h (fun h => ?_) (fun h => ?_)
    ·refine o_move rfl rfl rfl rfl ?_
     obtain ⟨r77, hr78, h⟩ := h
     refine st_call (foot := [[(b7, .cells #[v32, v35] 66 (0, 0))], g33, g36]) rfl rfl rfl rfl rfl rfl (callV_fn z_en21 (fleet_Fleet_Lines_ok hr78 τ75 (ho34.up (((((hl39.trans hl46).trans hl54).trans hl61).trans hl72).trans hl76)) (ho37.up (((((hl39.trans hl46).trans hl54).trans hl61).trans hl72).trans hl76)) (hT.up ((((((((hl6.trans hl17).trans hl25).trans hl39).trans hl46).trans hl54).trans hl61).trans hl72).trans hl76)))) ?_
     rintro vτ79 τ79 gsτ79 hl80 ⟨v81, rfl, rfl, hs82⟩
     refine o_move rfl rfl rfl rfl ?_
     obtain ⟨r83, hr84, h⟩ := h
     refine st_ord [3, 3, 3, 0, 0, 0] _ rfl ?_
     refine st_call (foot := [[(b18, .cells #[v62, v64] 66 (0, 0))], g63, g65]) rfl rfl rfl rfl rfl rfl (callV_fn z_en21 (fleet_Fleet_Lines_ok hr84 τ79 (ho66.up ((hl72.trans hl76).trans hl80)) (ho67.up ((hl72.trans hl76).trans hl80)) (hT.up (((((((((hl6.trans hl17).trans hl25).trans hl39).trans hl46).trans hl54).trans hl61).trans hl72).trans hl76).trans hl80)))) ?_
     rintro vτ85 τ85 gsτ85 hl86 ⟨v87, rfl, rfl, hs88⟩
     obtain ⟨r89, hr90, h⟩ := h
     refine st_call (foot := []) rfl rfl rfl rfl rfl rfl (callV_fn z_en20 (law25_Lines_ok hr90 τ85 (hs82.up hl86) hs88)) ?_
     rintro vτ91 τ91 gsτ91 hl92 ⟨rfl, rfl⟩
     refine Z 3 rfl ?_
     refine st_ord [] _ rfl ?_
     exact hk68 _ _ _ ⟨r89, h, ((((hl72.trans hl76).trans hl80).trans hl86).trans hl92), rfl, rfl⟩
    ·refine Z 8 rfl ?_
     refine st_ord [] _ rfl ?_
     exact hk68 _ _ _ ⟨false, h, (hl72.trans hl76), rfl, rfl⟩
   ·refine Z 13 rfl ?_
    refine st_ord [] _ rfl ?_
    exact hk68 _ _ _ ⟨false, h, hl72, rfl, rfl⟩
  ·refine Z 21 rfl ?_
   refine st_ord [] _ rfl ?_
   exact hk68 _ _ _ ⟨false, h, hl72, rfl, rfl⟩
 refine Z 4 rfl ?_
 obtain ⟨e93, hL93, hA93⟩ := h
 refine st_addNil ?_
 refine st_addNil ?_
 refine st_ord [5, 2, 2, 2, 0, 0, 0, 0] _ rfl ?_
 refine st_loop hL93 (fun (s93 : (List (Int × List Int × List (Int × Int) × List Int × ByteArray × ByteArray)) × (List (Int × List Int × List (Int × Int) × List Int × ByteArray × ByteArray)) × Int × (List (Int × (Int × Int × Int × Int × Int × Bool × Bool × Int × Int × List (Int × Int) × Int × Int))) × (List ((Int × Int) × List Int))) ρ τ93 gs => τ16.Le τ93 ∧ ∃ (v94 : Value) (g95 : Grp) (v97 : Value) (g98 : Grp) (v100 : Value) (g101 : Grp) (v103 : Value) (g104 : Grp), ESub ρ [(0, v1), (1, .int .i64 a1), (4, .bool false), (5, .pointer (some ⟨b7, 0, none⟩)), (6, .pointer (some ⟨b18, 0, none⟩)), (7, v94), (8, v97), (9, .int .i64 s93.2.2.1)] ∧ gs = [[(b7, .cells #[v100, v103] 66 (0, 0))], [(b18, .cells #[v19, v21] 66 (0, 0))], g20, g22, g95, g98, g101, g104] ∧ Ow (kP (kI .i64) (kP (kA .i64 6) (kP (kSl (kP (kI .i64) (kI .i64))) (kP (kSl (kI .i64)) (kP kS kS))))) 39 τ93 v94 s93.1 g95 ∧ Ow (kP (kI .i64) (kP (kA .i64 6) (kP (kSl (kP (kI .i64) (kI .i64))) (kP (kSl (kI .i64)) (kP kS kS))))) 39 τ93 v97 s93.2.1 g98 ∧ Mp (Value.int .i64) (rK (kP (kI .i64) (kP (kI .i64) (kP (kI .i64) (kP (kI .i64) (kP (kI .i64) (kP kB (kP kB (kP (kI .i64) (kP (kI .i64) (kP (kSl (kP (kI .i64) (kI .i64))) (kP (kI .i64) (kI .i64))))))))))))) τ93 v100 s93.2.2.2.1 g101 ∧ Mp kPr (rSl (kI .i64)) τ93 v103 s93.2.2.2.2 g104) ⟨Sto.Le.refl _, _, _, _, _, _, _, _, _, rfl, rfl, Ow.nil, Ow.nil, (ho12.up hl17), (ho13.up hl17)⟩ ?_
 rintro s93 o93 h he93 ρ93 τ93 gs93 ⟨hl93, v94, g95, v97, g98, v100, g101, v103, g104, hρ, rfl, ho96, ho99, ho102, ho105⟩ hn93
 refine st_es hρ ?_
 refine Z 2 rfl ?_
 refine st_cut (fun ρ τ106 gs => ∃ (s106 : Bool), law30_FleetOrder_j4 a0 a1 s93 s106 o93 ∧ τ93.Le τ106 ∧ ESub ρ [(0, v1), (1, .int .i64 a1), (4, .bool false), (5, .pointer (some ⟨b7, 0, none⟩)), (6, .pointer (some ⟨b18, 0, none⟩)), (7, v94), (8, v97), (9, .int .i64 s93.2.2.1), (28, .bool s106)] ∧ gs = [[(b7, .cells #[v100, v103] 66 (0, 0))], [(b18, .cells #[v19, v21] 66 (0, 0))], g95, g98, g101, g104, g20, g22]) ?_ (fun hk106 => ?_)
 ·rintro ρ106 τ106 gs106 ⟨s106, h, hl106, hρ, rfl⟩
  refine st_es hρ ?_
  refine st_if rfl h (fun h => ?_) (fun h => ?_)
  ·refine Z 2 rfl ?_
   refine st_cut (fun ρ τ107 gs => ∃ (s107 : (List (Int × List Int × List (Int × Int) × List Int × ByteArray × ByteArray)) × (List (Int × List Int × List (Int × Int) × List Int × ByteArray × ByteArray)) × (List (Int × (Int × Int × Int × Int × Int × Bool × Bool × Int × Int × List (Int × Int) × Int × Int))) × (List ((Int × Int) × List Int))) (v108 : Value) (g109 : Grp) (v111 : Value) (g112 : Grp) (v114 : Value) (g115 : Grp) (v117 : Value) (g118 : Grp), law30_FleetOrder_j5 s93 s107 o93 ∧ τ106.Le τ107 ∧ ESub ρ [(0, v1), (1, .int .i64 a1), (4, .bool false), (5, .pointer (some ⟨b7, 0, none⟩)), (6, .pointer (some ⟨b18, 0, none⟩)), (7, v108), (8, v111), (9, .int .i64 s93.2.2.1)] ∧ gs = [[(b7, .cells #[v114, v117] 66 (0, 0))], [(b18, .cells #[v19, v21] 66 (0, 0))], g20, g22, g109, g112, g115, g118] ∧ Ow (kP (kI .i64) (kP (kA .i64 6) (kP (kSl (kP (kI .i64) (kI .i64))) (kP (kSl (kI .i64)) (kP kS kS))))) 39 τ107 v108 s107.1 g109 ∧ Ow (kP (kI .i64) (kP (kA .i64 6) (kP (kSl (kP (kI .i64) (kI .i64))) (kP (kSl (kI .i64)) (kP kS kS))))) 39 τ107 v111 s107.2.1 g112 ∧ Mp (Value.int .i64) (rK (kP (kI .i64) (kP (kI .i64) (kP (kI .i64) (kP (kI .i64) (kP (kI .i64) (kP kB (kP kB (kP (kI .i64) (kP (kI .i64) (kP (kSl (kP (kI .i64) (kI .i64))) (kP (kI .i64) (kI .i64))))))))))))) τ107 v114 s107.2.2.1 g115 ∧ Mp kPr (rSl (kI .i64)) τ107 v117 s107.2.2.2 g118) ?_ (fun hk107 => ?_)
   ·rintro ρ107 τ107 gs107 ⟨s107, v108, g109, v111, g112, v114, g115, v117, g118, h, hl107, hρ, rfl, ho110, ho113, ho116, ho119⟩
    refine st_es hρ ?_
    refine Z 5 rfl ?_
    exact hn93 _ _ _ _ h ⟨((hl93.trans hl106).trans hl107), _, _, _, _, _, _, _, _, rfl, rfl, ho110, ho113, ho116, ho119⟩
   refine Z 5 rfl ?_
   obtain ⟨q120, hf121, h⟩ := h
   refine o_index rfl rfl rfl z_slT32 rfl rfl (hs2.up (((hl6.trans hl17).trans hl93).trans hl106)) rfl hf121 (fun b122 of123 vs hc126 hrep => ?_)
   obtain ⟨_, _, rfl, rfl, ⟨_, _, rfl, rfl, ⟨_, _, rfl, ⟨v124, rfl, hs127⟩, ⟨_, _, rfl, ⟨v125, rfl, hs128⟩, ⟨_, _, rfl, rfl, rfl⟩⟩⟩⟩⟩ := hrep
   refine o_loadIN (vs := [.int .i64 q120.1, .int .i64 (q120.2.1.getD 0 0), .int .i64 (q120.2.1.getD 1 0), .int .i64 (q120.2.1.getD 2 0), .int .i64 (q120.2.1.getD 3 0), .int .i64 (q120.2.1.getD 4 0), .int .i64 (q120.2.1.getD 5 0), v124, v125, .string q120.2.2.2.2.1, .string q120.2.2.2.2.2]) rfl rfl rfl z_agg39 rfl rfl (celn_part 0 rfl hc126) ?_
   obtain ⟨r129, hr130, h⟩ := h
   refine st_call (foot := []) rfl rfl rfl rfl rfl rfl (callV_fn z_en16 (law17_Cut_ok hr130 τ106 hs127 hs128)) ?_
   rintro vτ131 τ131 gsτ131 hl132 ⟨v133, v134, rfl, rfl, hs135, hs136⟩
   refine o_alloc rfl rfl rfl z_zero39 (fun b137 => ?_)
   refine o_store (j := 0) (vs := [.int .i64 r129.1, .int .i64 (r129.2.1.getD 0 0), .int .i64 (r129.2.1.getD 1 0), .int .i64 (r129.2.1.getD 2 0), .int .i64 (r129.2.1.getD 3 0), .int .i64 (r129.2.1.getD 4 0), .int .i64 (r129.2.1.getD 5 0), v133, v134, .string r129.2.2.2.2.1, .string r129.2.2.2.2.2]) (cs' := [.int .i64 r129.1, .int .i64 (r129.2.1.getD 0 0), .int .i64 (r129.2.1.getD 1 0), .int .i64 (r129.2.1.getD 2 0), .int .i64 (r129.2.1.getD 3 0), .int .i64 (r129.2.1.getD 4 0), .int .i64 (r129.2.1.getD 5 0), v133, v134, .string r129.2.2.2.2.1, .string r129.2.2.2.2.2]) rfl rfl rfl z_size39 rfl rfl rfl (ones_cons rfl (ones_cons rfl (ones_cons rfl (ones_cons rfl (ones_cons rfl (ones_cons rfl (ones_cons rfl (ones_cons hs135.one' (ones_cons hs136.one' (ones_cons rfl (ones_cons rfl ones_nil))))))))))) rfl rfl rfl ?_
   refine st_gs [[(b137, .cells #[.int .i64 r129.1, .int .i64 (r129.2.1.getD 0 0), .int .i64 (r129.2.1.getD 1 0), .int .i64 (r129.2.1.getD 2 0), .int .i64 (r129.2.1.getD 3 0), .int .i64 (r129.2.1.getD 4 0), .int .i64 (r129.2.1.getD 5 0), v133, v134, .string r129.2.2.2.2.1, .string r129.2.2.2.2.2] 39 (0, 0))], [(b7, .cells #[v100, v103] 66 (0, 0))], [(b18, .cells #[v19, v21] 66 (0, 0))], g95, g98, g101, g104, g20, g22] rfl ?_
   refine ZZ 5 [0] rfl rfl ?_
   refine o_lit (dk := (kP (kI .i64) (kP (kA .i64 6) (kP (kSl (kP (kI .i64) (kI .i64))) (kP (kSl (kI .i64)) (kP kS kS)))))) (xs := [r129]) (ps := [(0, [.int .i64 r129.1, .int .i64 (r129.2.1.getD 0 0), .int .i64 (r129.2.1.getD 1 0), .int .i64 (r129.2.1.getD 2 0), .int .i64 (r129.2.1.getD 3 0), .int .i64 (r129.2.1.getD 4 0), .int .i64 (r129.2.1.getD 5 0), v133, v134, .string r129.2.2.2.2.1, .string r129.2.2.2.2.2])]) (cs := [.int .i64 r129.1, .int .i64 (r129.2.1.getD 0 0), .int .i64 (r129.2.1.getD 1 0), .int .i64 (r129.2.1.getD 2 0), .int .i64 (r129.2.1.getD 3 0), .int .i64 (r129.2.1.getD 4 0), .int .i64 (r129.2.1.getD 5 0), v133, v134, .string r129.2.2.2.2.1, .string r129.2.2.2.2.2]) rfl rfl rfl z_slT32 z_zero39 ⟨rfl, ⟨_, rfl, rfl⟩, trivial⟩ rfl rfl rfl rfl (Kd.Many.cons (d := (kP (kI .i64) (kP (kA .i64 6) (kP (kSl (kP (kI .i64) (kI .i64))) (kP (kSl (kI .i64)) (kP kS kS)))))) (x := r129) (a := [.int .i64 r129.1, .int .i64 (r129.2.1.getD 0 0), .int .i64 (r129.2.1.getD 1 0), .int .i64 (r129.2.1.getD 2 0), .int .i64 (r129.2.1.getD 3 0), .int .i64 (r129.2.1.getD 4 0), .int .i64 (r129.2.1.getD 5 0), v133, v134, .string r129.2.2.2.2.1, .string r129.2.2.2.2.2]) ⟨[.int .i64 r129.1], _, rfl, rfl, ⟨[.int .i64 (r129.2.1.getD 0 0), .int .i64 (r129.2.1.getD 1 0), .int .i64 (r129.2.1.getD 2 0), .int .i64 (r129.2.1.getD 3 0), .int .i64 (r129.2.1.getD 4 0), .int .i64 (r129.2.1.getD 5 0)], _, rfl, rfl, ⟨[v133], _, rfl, ⟨_, rfl, hs135⟩, ⟨[v134], _, rfl, ⟨_, rfl, hs136⟩, ⟨[.string r129.2.2.2.2.1], _, rfl, rfl, rfl⟩⟩⟩⟩⟩ Kd.Many.nil) (fun v138 g139 ho140 => ?_)
   obtain ⟨r145, hr146, h⟩ := h
   refine st_freeze (fun τ141 hl142 hg143 => ?_)
   have hs144 := ho140.freeze hl142 hg143
   refine st_ord [1, 4, 4, 0, 0, 0, 0, 0, 0] _ rfl ?_
   refine st_call (foot := [[(b7, .cells #[v100, v103] 66 (0, 0))], g101, g104]) rfl rfl rfl rfl rfl rfl (callV_fn z_en17 (fleet_Fleet_Apply_ok hr146 τ141 (ho102.up ((hl106.trans hl132).trans hl142)) (ho105.up ((hl106.trans hl132).trans hl142)) hs144)) ?_
   rintro vτ147 τ147 gsτ147 hl148 ⟨v149, g150, v151, g152, rfl, rfl, ho153, ho154⟩
   refine Z 4 rfl ?_
   refine o_indexA rfl rfl rfl z_arr35 rfl rfl (by decide) (by decide) ?_
   refine ZZ 4 [3] rfl rfl ?_
   refine st_if rfl h (fun h => ?_) (fun h => ?_)
   ·refine ZZ 3 [3] rfl rfl ?_
    refine o_lit (dk := (kP (kI .i64) (kP (kA .i64 6) (kP (kSl (kP (kI .i64) (kI .i64))) (kP (kSl (kI .i64)) (kP kS kS)))))) (xs := [r129]) (ps := [(0, [.int .i64 r129.1, .int .i64 (r129.2.1.getD 0 0), .int .i64 (r129.2.1.getD 1 0), .int .i64 (r129.2.1.getD 2 0), .int .i64 (r129.2.1.getD 3 0), .int .i64 (r129.2.1.getD 4 0), .int .i64 (r129.2.1.getD 5 0), v133, v134, .string r129.2.2.2.2.1, .string r129.2.2.2.2.2])]) (cs := [.int .i64 r129.1, .int .i64 (r129.2.1.getD 0 0), .int .i64 (r129.2.1.getD 1 0), .int .i64 (r129.2.1.getD 2 0), .int .i64 (r129.2.1.getD 3 0), .int .i64 (r129.2.1.getD 4 0), .int .i64 (r129.2.1.getD 5 0), v133, v134, .string r129.2.2.2.2.1, .string r129.2.2.2.2.2]) rfl rfl rfl z_slT32 z_zero39 ⟨rfl, ⟨_, rfl, rfl⟩, trivial⟩ rfl rfl rfl rfl (Kd.Many.cons (d := (kP (kI .i64) (kP (kA .i64 6) (kP (kSl (kP (kI .i64) (kI .i64))) (kP (kSl (kI .i64)) (kP kS kS)))))) (x := r129) (a := [.int .i64 r129.1, .int .i64 (r129.2.1.getD 0 0), .int .i64 (r129.2.1.getD 1 0), .int .i64 (r129.2.1.getD 2 0), .int .i64 (r129.2.1.getD 3 0), .int .i64 (r129.2.1.getD 4 0), .int .i64 (r129.2.1.getD 5 0), v133, v134, .string r129.2.2.2.2.1, .string r129.2.2.2.2.2]) ⟨[.int .i64 r129.1], _, rfl, rfl, ⟨[.int .i64 (r129.2.1.getD 0 0), .int .i64 (r129.2.1.getD 1 0), .int .i64 (r129.2.1.getD 2 0), .int .i64 (r129.2.1.getD 3 0), .int .i64 (r129.2.1.getD 4 0), .int .i64 (r129.2.1.getD 5 0)], _, rfl, rfl, ⟨[v133], _, rfl, ⟨_, rfl, (hs135.up (hl142.trans hl148))⟩, ⟨[v134], _, rfl, ⟨_, rfl, (hs136.up (hl142.trans hl148))⟩, ⟨[.string r129.2.2.2.2.1], _, rfl, rfl, rfl⟩⟩⟩⟩⟩ Kd.Many.nil) (fun v155 g156 ho157 => ?_)
    obtain ⟨hf161, hf162, h⟩ := h
    refine st_ord [6, 0, 0, 0, 0, 0, 0, 0, 0, 0] _ rfl ?_
    refine o_append (dk := (kP (kI .i64) (kP (kA .i64 6) (kP (kSl (kP (kI .i64) (kI .i64))) (kP (kSl (kI .i64)) (kP kS kS)))))) (xs := s93.1) (ys := [r129]) rfl rfl rfl rfl z_slT32 rfl (ho96.up (((hl106.trans hl132).trans hl142).trans hl148)) rfl (Ow.src (j := 1) ho157 rfl) hf161 hf162 (fun v158 g159 ho160 => ?_)
    refine Z 3 rfl ?_
    refine st_ord [2, 5, 6, 6, 0, 4, 1, 1] _ rfl ?_
    exact hk107 _ _ _ ⟨((s93.1 ++ [r129]), s93.2.1, r145.2.1, r145.2.2), _, _, _, _, _, _, _, _, h, ((hl132.trans hl142).trans hl148), rfl, rfl, ho160, (ho99.up (((hl106.trans hl132).trans hl142).trans hl148)), ho153, ho154⟩
   ·refine ZZ 3 [3] rfl rfl ?_
    refine o_lit (dk := (kP (kI .i64) (kP (kA .i64 6) (kP (kSl (kP (kI .i64) (kI .i64))) (kP (kSl (kI .i64)) (kP kS kS)))))) (xs := [r129]) (ps := [(0, [.int .i64 r129.1, .int .i64 (r129.2.1.getD 0 0), .int .i64 (r129.2.1.getD 1 0), .int .i64 (r129.2.1.getD 2 0), .int .i64 (r129.2.1.getD 3 0), .int .i64 (r129.2.1.getD 4 0), .int .i64 (r129.2.1.getD 5 0), v133, v134, .string r129.2.2.2.2.1, .string r129.2.2.2.2.2])]) (cs := [.int .i64 r129.1, .int .i64 (r129.2.1.getD 0 0), .int .i64 (r129.2.1.getD 1 0), .int .i64 (r129.2.1.getD 2 0), .int .i64 (r129.2.1.getD 3 0), .int .i64 (r129.2.1.getD 4 0), .int .i64 (r129.2.1.getD 5 0), v133, v134, .string r129.2.2.2.2.1, .string r129.2.2.2.2.2]) rfl rfl rfl z_slT32 z_zero39 ⟨rfl, ⟨_, rfl, rfl⟩, trivial⟩ rfl rfl rfl rfl (Kd.Many.cons (d := (kP (kI .i64) (kP (kA .i64 6) (kP (kSl (kP (kI .i64) (kI .i64))) (kP (kSl (kI .i64)) (kP kS kS)))))) (x := r129) (a := [.int .i64 r129.1, .int .i64 (r129.2.1.getD 0 0), .int .i64 (r129.2.1.getD 1 0), .int .i64 (r129.2.1.getD 2 0), .int .i64 (r129.2.1.getD 3 0), .int .i64 (r129.2.1.getD 4 0), .int .i64 (r129.2.1.getD 5 0), v133, v134, .string r129.2.2.2.2.1, .string r129.2.2.2.2.2]) ⟨[.int .i64 r129.1], _, rfl, rfl, ⟨[.int .i64 (r129.2.1.getD 0 0), .int .i64 (r129.2.1.getD 1 0), .int .i64 (r129.2.1.getD 2 0), .int .i64 (r129.2.1.getD 3 0), .int .i64 (r129.2.1.getD 4 0), .int .i64 (r129.2.1.getD 5 0)], _, rfl, rfl, ⟨[v133], _, rfl, ⟨_, rfl, (hs135.up (hl142.trans hl148))⟩, ⟨[v134], _, rfl, ⟨_, rfl, (hs136.up (hl142.trans hl148))⟩, ⟨[.string r129.2.2.2.2.1], _, rfl, rfl, rfl⟩⟩⟩⟩⟩ Kd.Many.nil) (fun v163 g164 ho165 => ?_)
    obtain ⟨hf169, hf170, h⟩ := h
    refine st_ord [7, 0, 0, 0, 0, 0, 0, 0, 0, 0] _ rfl ?_
    refine o_append (dk := (kP (kI .i64) (kP (kA .i64 6) (kP (kSl (kP (kI .i64) (kI .i64))) (kP (kSl (kI .i64)) (kP kS kS)))))) (xs := s93.2.1) (ys := [r129]) rfl rfl rfl rfl z_slT32 rfl (ho99.up (((hl106.trans hl132).trans hl142).trans hl148)) rfl (Ow.src (j := 1) ho165 rfl) hf169 hf170 (fun v166 g167 ho168 => ?_)
    refine Z 3 rfl ?_
    refine st_ord [2, 5, 6, 6, 5, 0, 1, 1] _ rfl ?_
    exact hk107 _ _ _ ⟨(s93.1, (s93.2.1 ++ [r129]), r145.2.1, r145.2.2), _, _, _, _, _, _, _, _, h, ((hl132.trans hl142).trans hl148), rfl, rfl, (ho96.up (((hl106.trans hl132).trans hl142).trans hl148)), ho168, ho153, ho154⟩
  ·refine st_exit rfl ?_
   obtain rfl := he93 _ h
   replace h := hA93
   refine st_ord [0, 0, 4, 4, 0, 0, 0, 0] _ rfl ?_
   exact hk25 _ _ _ ⟨(s93.1, s93.2.1, s93.2.2.2.1, s93.2.2.2.2), _, _, _, _, _, _, _, _, h, (hl93.trans hl106), rfl, rfl, (ho96.up hl106), (ho99.up hl106), (ho102.up hl106), (ho105.up hl106)⟩
 refine Z 3 rfl ?_
 refine o_lenI rfl rfl rfl z_slT32 rfl (hs2.up ((hl6.trans hl17).trans hl93)) ?_
 refine o_ibin (v := .bool (decide (s93.2.2.1 < (a0.length : Int)))) rfl rfl rfl rfl rfl rfl ?_
 refine o_mif rfl rfl rfl rfl h (fun h => ?_) (fun h => ?_)
 ·refine Z 4 rfl ?_
  refine st_ord [0, 0, 2, 2, 2, 2, 0, 0] _ rfl ?_
  exact hk106 _ _ _ ⟨(decide (s93.2.2.1 < 30)), h, (Sto.Le.refl _), rfl, rfl⟩
 ·refine Z 4 rfl ?_
  refine st_ord [0, 0, 2, 2, 2, 2, 0, 0] _ rfl ?_
  exact hk106 _ _ _ ⟨false, h, (Sto.Le.refl _), rfl, rfl⟩
end Go.Rel
