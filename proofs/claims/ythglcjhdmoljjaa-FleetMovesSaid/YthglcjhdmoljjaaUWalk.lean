import Derived.Test.YthglcjhdmoljjaaURel
import Derived.Test.YthglcjhdmoljjaaUFacts
import Derived.Test.YthglcjhdmoljjaaUWalk0
/-! The walks. -/
set_option linter.unusedVariables false
set_option linter.unusedSimpArgs false
set_option maxRecDepth 4000
set_option maxHeartbeats 4000000
namespace Go.Rel
open Go Go.Eng Go.Proofs
theorem law30_FleetMoves_ok {a0 : List (Int × List Int × List (Int × Int) × List Int × ByteArray × ByteArray)} {v1 : Value} {r : Bool} (h : law30_FleetMoves a0 r) (σ : Sto) (hs2 : Sl (kP (kI .i64) (kP (kA .i64 6) (kP (kSl (kP (kI .i64) (kI .i64))) (kP (kSl (kI .i64)) (kP kS kS))))) σ v1 a0) :
    Does Try.prog 3 [v1] σ [] (fun v τ gs => gs = [] ∧ .bool r = v) := by
 refine call_of Try.func3 Try.ntmps3 rfl rfl (fun cs fs => ?_)
 refine Z 6 rfl ?_
 obtain ⟨r3, hr4, h⟩ := h
 refine st_call (foot := []) rfl rfl rfl rfl rfl rfl (callV_fn z_en4 (fleet_New_ok hr4 σ)) ?_
 rintro vτ5 τ5 gsτ5 hl6 ⟨b7, v8, g9, v10, g11, rfl, rfl, ho12, ho13⟩
 refine Z 11 rfl ?_
 refine st_cut (fun ρ τ14 gs => ∃ (s14 : Unit), law30_FleetMoves_j1 s14 r ∧ τ5.Le τ14 ∧ ESub ρ [(2, .bool false)] ∧ gs = []) ?_ (fun hk14 => ?_)
 ·rintro ρ14 τ14 gs14 ⟨s14, h, hl14, hρ, rfl⟩
  refine st_es hρ ?_
  refine Z 2 rfl ?_
  obtain ⟨r15, hr16, h⟩ := h
  refine st_call (foot := []) rfl rfl rfl rfl rfl rfl (callV_fn z_en8 (law30_known_ok hr16 τ14)) ?_
  rintro vτ17 τ17 gsτ17 hl18 ⟨rfl, rfl⟩
  refine Z 2 rfl ?_
  obtain rfl := Eq.symm h
  exact st_ret (gs' := []) Try.func3 rfl (List.Sublist.refl _) ((hl6.trans hl14).trans hl18) ⟨rfl, rfl⟩
 refine Z 4 rfl ?_
 obtain ⟨e19, hL19, hA19⟩ := h
 refine st_loop hL19 (fun (s19 : Int × (List (Int × (Int × Int × Int × Int × Int × Bool × Bool × Int × Int × List (Int × Int) × Int × Int))) × (List ((Int × Int) × List Int))) ρ τ19 gs => τ5.Le τ19 ∧ ∃ (v20 : Value) (g21 : Grp) (v23 : Value) (g24 : Grp), ESub ρ [(0, v1), (2, .bool false), (3, .pointer (some ⟨b7, 0, none⟩)), (4, .int .i64 s19.1)] ∧ gs = [[(b7, .cells #[v20, v23] 41 (0, 0))], g21, g24] ∧ Mp (Value.int .i64) (rK (kP (kI .i64) (kP (kI .i64) (kP (kI .i64) (kP (kI .i64) (kP (kI .i64) (kP kB (kP kB (kP (kI .i64) (kP (kI .i64) (kP (kSl (kP (kI .i64) (kI .i64))) (kP (kI .i64) (kI .i64))))))))))))) τ19 v20 s19.2.1 g21 ∧ Mp kPr (rSl (kI .i64)) τ19 v23 s19.2.2 g24) ⟨Sto.Le.refl _, _, _, _, _, rfl, rfl, ho12, ho13⟩ ?_
 rintro s19 o19 h he19 ρ19 τ19 gs19 ⟨hl19, v20, g21, v23, g24, hρ, rfl, ho22, ho25⟩ hn19
 refine st_es hρ ?_
 refine Z 2 rfl ?_
 refine st_cut (fun ρ τ26 gs => ∃ (s26 : Bool), law30_FleetMoves_j3 a0 s19 s26 o19 ∧ τ19.Le τ26 ∧ ESub ρ [(0, v1), (2, .bool false), (3, .pointer (some ⟨b7, 0, none⟩)), (4, .int .i64 s19.1), (20, .bool s26)] ∧ gs = [[(b7, .cells #[v20, v23] 41 (0, 0))], g21, g24]) ?_ (fun hk26 => ?_)
 ·rintro ρ26 τ26 gs26 ⟨s26, h, hl26, hρ, rfl⟩
  refine st_es hρ ?_
  refine st_if rfl h (fun h => ?_) (fun h => ?_)
  ·refine Z 2 rfl ?_
   refine st_cut (fun ρ τ27 gs => ∃ (s27 : (List (Int × (Int × Int × Int × Int × Int × Bool × Bool × Int × Int × List (Int × Int) × Int × Int))) × (List ((Int × Int) × List Int))) (v28 : Value) (g29 : Grp) (v31 : Value) (g32 : Grp), law30_FleetMoves_j4 s19 s27 o19 ∧ τ26.Le τ27 ∧ ESub ρ [(0, v1), (2, .bool false), (3, .pointer (some ⟨b7, 0, none⟩)), (4, .int .i64 s19.1)] ∧ gs = [[(b7, .cells #[v28, v31] 41 (0, 0))], g29, g32] ∧ Mp (Value.int .i64) (rK (kP (kI .i64) (kP (kI .i64) (kP (kI .i64) (kP (kI .i64) (kP (kI .i64) (kP kB (kP kB (kP (kI .i64) (kP (kI .i64) (kP (kSl (kP (kI .i64) (kI .i64))) (kP (kI .i64) (kI .i64))))))))))))) τ27 v28 s27.1 g29 ∧ Mp kPr (rSl (kI .i64)) τ27 v31 s27.2 g32) ?_ (fun hk27 => ?_)
   ·rintro ρ27 τ27 gs27 ⟨s27, v28, g29, v31, g32, h, hl27, hρ, rfl, ho30, ho33⟩
    refine st_es hρ ?_
    refine Z 5 rfl ?_
    exact hn19 _ _ _ _ h ⟨((hl19.trans hl26).trans hl27), _, _, _, _, rfl, rfl, ho30, ho33⟩
   refine Z 5 rfl ?_
   obtain ⟨q34, hf35, h⟩ := h
   refine o_index rfl rfl rfl z_slT22 rfl rfl (hs2.up ((hl6.trans hl19).trans hl26)) rfl hf35 (fun b36 of37 vs hc40 hrep => ?_)
   obtain ⟨_, _, rfl, rfl, ⟨_, _, rfl, rfl, ⟨_, _, rfl, ⟨v38, rfl, hs41⟩, ⟨_, _, rfl, ⟨v39, rfl, hs42⟩, ⟨_, _, rfl, rfl, rfl⟩⟩⟩⟩⟩ := hrep
   refine o_loadIN (vs := [.int .i64 q34.1, .int .i64 (q34.2.1.getD 0 0), .int .i64 (q34.2.1.getD 1 0), .int .i64 (q34.2.1.getD 2 0), .int .i64 (q34.2.1.getD 3 0), .int .i64 (q34.2.1.getD 4 0), .int .i64 (q34.2.1.getD 5 0), v38, v39, .string q34.2.2.2.2.1, .string q34.2.2.2.2.2]) rfl rfl rfl z_agg29 rfl rfl (celn_part 0 rfl hc40) ?_
   obtain ⟨r43, hr44, h⟩ := h
   refine st_call (foot := []) rfl rfl rfl rfl rfl rfl (callV_fn z_en5 (law17_Cut_ok hr44 τ26 hs41 hs42)) ?_
   rintro vτ45 τ45 gsτ45 hl46 ⟨v47, v48, rfl, rfl, hs49, hs50⟩
   refine o_alloc rfl rfl rfl z_zero29 (fun b51 => ?_)
   refine o_store (j := 0) (vs := [.int .i64 r43.1, .int .i64 (r43.2.1.getD 0 0), .int .i64 (r43.2.1.getD 1 0), .int .i64 (r43.2.1.getD 2 0), .int .i64 (r43.2.1.getD 3 0), .int .i64 (r43.2.1.getD 4 0), .int .i64 (r43.2.1.getD 5 0), v47, v48, .string r43.2.2.2.2.1, .string r43.2.2.2.2.2]) (cs' := [.int .i64 r43.1, .int .i64 (r43.2.1.getD 0 0), .int .i64 (r43.2.1.getD 1 0), .int .i64 (r43.2.1.getD 2 0), .int .i64 (r43.2.1.getD 3 0), .int .i64 (r43.2.1.getD 4 0), .int .i64 (r43.2.1.getD 5 0), v47, v48, .string r43.2.2.2.2.1, .string r43.2.2.2.2.2]) rfl rfl rfl z_size29 rfl rfl rfl (ones_cons rfl (ones_cons rfl (ones_cons rfl (ones_cons rfl (ones_cons rfl (ones_cons rfl (ones_cons rfl (ones_cons hs49.one' (ones_cons hs50.one' (ones_cons rfl (ones_cons rfl ones_nil))))))))))) rfl rfl rfl ?_
   refine st_gs [[(b51, .cells #[.int .i64 r43.1, .int .i64 (r43.2.1.getD 0 0), .int .i64 (r43.2.1.getD 1 0), .int .i64 (r43.2.1.getD 2 0), .int .i64 (r43.2.1.getD 3 0), .int .i64 (r43.2.1.getD 4 0), .int .i64 (r43.2.1.getD 5 0), v47, v48, .string r43.2.2.2.2.1, .string r43.2.2.2.2.2] 29 (0, 0))], [(b7, .cells #[v20, v23] 41 (0, 0))], g21, g24] rfl ?_
   refine Z 5 rfl ?_
   refine o_indexA rfl rfl rfl z_arr25 rfl rfl (by decide) (by decide) ?_
   refine ZZ 1 [0] rfl rfl ?_
   obtain ⟨r52, hr53, h⟩ := h
   refine st_ord [1, 1, 1, 0] _ rfl ?_
   refine st_call (foot := [[(b7, .cells #[v20, v23] 41 (0, 0))], g21, g24]) rfl rfl rfl rfl rfl rfl (callV_fn z_en6 (fleet_Fleet_Robot_ok hr53 τ45 (ho22.up (hl26.trans hl46)) (ho25.up (hl26.trans hl46)))) ?_
   rintro vτ54 τ54 gsτ54 hl55 ⟨v56, rfl, rfl, hs57⟩
   refine Z 3 rfl ?_
   refine o_alloc rfl rfl rfl z_zero32 (fun b58 => ?_)
   refine o_store (j := 0) (vs := [.int .i64 r52.1.1, .int .i64 r52.1.2.1, .int .i64 r52.1.2.2.1, .int .i64 r52.1.2.2.2.1, .int .i64 r52.1.2.2.2.2.1, .bool r52.1.2.2.2.2.2.1, .bool r52.1.2.2.2.2.2.2.1, .int .i64 r52.1.2.2.2.2.2.2.2.1, .int .i64 r52.1.2.2.2.2.2.2.2.2.1, v56, .int .i64 r52.1.2.2.2.2.2.2.2.2.2.2.1, .int .i64 r52.1.2.2.2.2.2.2.2.2.2.2.2]) (cs' := [.int .i64 r52.1.1, .int .i64 r52.1.2.1, .int .i64 r52.1.2.2.1, .int .i64 r52.1.2.2.2.1, .int .i64 r52.1.2.2.2.2.1, .bool r52.1.2.2.2.2.2.1, .bool r52.1.2.2.2.2.2.2.1, .int .i64 r52.1.2.2.2.2.2.2.2.1, .int .i64 r52.1.2.2.2.2.2.2.2.2.1, v56, .int .i64 r52.1.2.2.2.2.2.2.2.2.2.2.1, .int .i64 r52.1.2.2.2.2.2.2.2.2.2.2.2]) rfl rfl rfl z_size32 rfl rfl rfl (ones_cons rfl (ones_cons rfl (ones_cons rfl (ones_cons rfl (ones_cons rfl (ones_cons rfl (ones_cons rfl (ones_cons rfl (ones_cons rfl (ones_cons hs57.one' (ones_cons rfl (ones_cons rfl ones_nil)))))))))))) rfl rfl rfl ?_
   refine st_gs [[(b58, .cells #[.int .i64 r52.1.1, .int .i64 r52.1.2.1, .int .i64 r52.1.2.2.1, .int .i64 r52.1.2.2.2.1, .int .i64 r52.1.2.2.2.2.1, .bool r52.1.2.2.2.2.2.1, .bool r52.1.2.2.2.2.2.2.1, .int .i64 r52.1.2.2.2.2.2.2.2.1, .int .i64 r52.1.2.2.2.2.2.2.2.2.1, v56, .int .i64 r52.1.2.2.2.2.2.2.2.2.2.2.1, .int .i64 r52.1.2.2.2.2.2.2.2.2.2.2.2] 32 (0, 0))], [(b7, .cells #[v20, v23] 41 (0, 0))], g21, g24, [(b51, .cells #[.int .i64 r43.1, .int .i64 (r43.2.1.getD 0 0), .int .i64 (r43.2.1.getD 1 0), .int .i64 (r43.2.1.getD 2 0), .int .i64 (r43.2.1.getD 3 0), .int .i64 (r43.2.1.getD 4 0), .int .i64 (r43.2.1.getD 5 0), v47, v48, .string r43.2.2.2.2.1, .string r43.2.2.2.2.2] 29 (0, 0))]] rfl ?_
   refine ZZ 7 [4] rfl rfl ?_
   refine o_lit (dk := (kP (kI .i64) (kP (kA .i64 6) (kP (kSl (kP (kI .i64) (kI .i64))) (kP (kSl (kI .i64)) (kP kS kS)))))) (xs := [r43]) (ps := [(0, [.int .i64 r43.1, .int .i64 (r43.2.1.getD 0 0), .int .i64 (r43.2.1.getD 1 0), .int .i64 (r43.2.1.getD 2 0), .int .i64 (r43.2.1.getD 3 0), .int .i64 (r43.2.1.getD 4 0), .int .i64 (r43.2.1.getD 5 0), v47, v48, .string r43.2.2.2.2.1, .string r43.2.2.2.2.2])]) (cs := [.int .i64 r43.1, .int .i64 (r43.2.1.getD 0 0), .int .i64 (r43.2.1.getD 1 0), .int .i64 (r43.2.1.getD 2 0), .int .i64 (r43.2.1.getD 3 0), .int .i64 (r43.2.1.getD 4 0), .int .i64 (r43.2.1.getD 5 0), v47, v48, .string r43.2.2.2.2.1, .string r43.2.2.2.2.2]) rfl rfl rfl z_slT22 z_zero29 ⟨rfl, ⟨_, rfl, rfl⟩, trivial⟩ rfl rfl rfl rfl (Kd.Many.cons (d := (kP (kI .i64) (kP (kA .i64 6) (kP (kSl (kP (kI .i64) (kI .i64))) (kP (kSl (kI .i64)) (kP kS kS)))))) (x := r43) (a := [.int .i64 r43.1, .int .i64 (r43.2.1.getD 0 0), .int .i64 (r43.2.1.getD 1 0), .int .i64 (r43.2.1.getD 2 0), .int .i64 (r43.2.1.getD 3 0), .int .i64 (r43.2.1.getD 4 0), .int .i64 (r43.2.1.getD 5 0), v47, v48, .string r43.2.2.2.2.1, .string r43.2.2.2.2.2]) ⟨[.int .i64 r43.1], _, rfl, rfl, ⟨[.int .i64 (r43.2.1.getD 0 0), .int .i64 (r43.2.1.getD 1 0), .int .i64 (r43.2.1.getD 2 0), .int .i64 (r43.2.1.getD 3 0), .int .i64 (r43.2.1.getD 4 0), .int .i64 (r43.2.1.getD 5 0)], _, rfl, rfl, ⟨[v47], _, rfl, ⟨_, rfl, (hs49.up hl55)⟩, ⟨[v48], _, rfl, ⟨_, rfl, (hs50.up hl55)⟩, ⟨[.string r43.2.2.2.2.1], _, rfl, rfl, rfl⟩⟩⟩⟩⟩ Kd.Many.nil) (fun v59 g60 ho61 => ?_)
   obtain ⟨r66, hr67, h⟩ := h
   refine st_freeze (fun τ62 hl63 hg64 => ?_)
   have hs65 := ho61.freeze hl63 hg64
   refine st_ord [1, 1, 1, 0, 0] _ rfl ?_
   refine st_call (foot := [[(b7, .cells #[v20, v23] 41 (0, 0))], g21, g24]) rfl rfl rfl rfl rfl rfl (callV_fn z_en7 (fleet_Fleet_Apply_ok hr67 τ62 (ho22.up (((hl26.trans hl46).trans hl55).trans hl63)) (ho25.up (((hl26.trans hl46).trans hl55).trans hl63)) hs65)) ?_
   rintro vτ68 τ68 gsτ68 hl69 ⟨v70, g71, v72, g73, rfl, rfl, ho74, ho75⟩
   refine Z 2 rfl ?_
   refine st_if rfl h (fun h => ?_) (fun h => ?_)
   ·refine st_exit rfl ?_
    refine st_ord [0, 0, 0] _ rfl ?_
    exact hk27 _ _ _ ⟨(r66.2.1, r66.2.2), _, _, _, _, h, (((hl46.trans hl55).trans hl63).trans hl69), rfl, rfl, ho74, ho75⟩
   ·refine Z 5 rfl ?_
    refine o_indexA rfl rfl rfl z_arr25 rfl rfl (by decide) (by decide) ?_
    refine ZZ 1 [4] rfl rfl ?_
    obtain ⟨r76, hr77, h⟩ := h
    refine st_call (foot := [[(b7, .cells #[v70, v72] 41 (0, 0))], g71, g73]) rfl rfl rfl rfl rfl rfl (callV_fn z_en6 (fleet_Fleet_Robot_ok hr77 τ68 ho74 ho75)) ?_
    rintro vτ78 τ78 gsτ78 hl79 ⟨v80, rfl, rfl, hs81⟩
    refine Z 3 rfl ?_
    refine o_alloc rfl rfl rfl z_zero32 (fun b82 => ?_)
    refine o_store (j := 0) (vs := [.int .i64 r76.1.1, .int .i64 r76.1.2.1, .int .i64 r76.1.2.2.1, .int .i64 r76.1.2.2.2.1, .int .i64 r76.1.2.2.2.2.1, .bool r76.1.2.2.2.2.2.1, .bool r76.1.2.2.2.2.2.2.1, .int .i64 r76.1.2.2.2.2.2.2.2.1, .int .i64 r76.1.2.2.2.2.2.2.2.2.1, v80, .int .i64 r76.1.2.2.2.2.2.2.2.2.2.2.1, .int .i64 r76.1.2.2.2.2.2.2.2.2.2.2.2]) (cs' := [.int .i64 r76.1.1, .int .i64 r76.1.2.1, .int .i64 r76.1.2.2.1, .int .i64 r76.1.2.2.2.1, .int .i64 r76.1.2.2.2.2.1, .bool r76.1.2.2.2.2.2.1, .bool r76.1.2.2.2.2.2.2.1, .int .i64 r76.1.2.2.2.2.2.2.2.1, .int .i64 r76.1.2.2.2.2.2.2.2.2.1, v80, .int .i64 r76.1.2.2.2.2.2.2.2.2.2.2.1, .int .i64 r76.1.2.2.2.2.2.2.2.2.2.2.2]) rfl rfl rfl z_size32 rfl rfl rfl (ones_cons rfl (ones_cons rfl (ones_cons rfl (ones_cons rfl (ones_cons rfl (ones_cons rfl (ones_cons rfl (ones_cons rfl (ones_cons rfl (ones_cons hs81.one' (ones_cons rfl (ones_cons rfl ones_nil)))))))))))) rfl rfl rfl ?_
    refine st_gs [[(b82, .cells #[.int .i64 r76.1.1, .int .i64 r76.1.2.1, .int .i64 r76.1.2.2.1, .int .i64 r76.1.2.2.2.1, .int .i64 r76.1.2.2.2.2.1, .bool r76.1.2.2.2.2.2.1, .bool r76.1.2.2.2.2.2.2.1, .int .i64 r76.1.2.2.2.2.2.2.2.1, .int .i64 r76.1.2.2.2.2.2.2.2.2.1, v80, .int .i64 r76.1.2.2.2.2.2.2.2.2.2.2.1, .int .i64 r76.1.2.2.2.2.2.2.2.2.2.2.2] 32 (0, 0))], [(b7, .cells #[v70, v72] 41 (0, 0))], g71, g73, [(b58, .cells #[.int .i64 r52.1.1, .int .i64 r52.1.2.1, .int .i64 r52.1.2.2.1, .int .i64 r52.1.2.2.2.1, .int .i64 r52.1.2.2.2.2.1, .bool r52.1.2.2.2.2.2.1, .bool r52.1.2.2.2.2.2.2.1, .int .i64 r52.1.2.2.2.2.2.2.2.1, .int .i64 r52.1.2.2.2.2.2.2.2.2.1, v56, .int .i64 r52.1.2.2.2.2.2.2.2.2.2.2.1, .int .i64 r52.1.2.2.2.2.2.2.2.2.2.2.2] 32 (0, 0))], [(b51, .cells #[.int .i64 r43.1, .int .i64 (r43.2.1.getD 0 0), .int .i64 (r43.2.1.getD 1 0), .int .i64 (r43.2.1.getD 2 0), .int .i64 (r43.2.1.getD 3 0), .int .i64 (r43.2.1.getD 4 0), .int .i64 (r43.2.1.getD 5 0), v47, v48, .string r43.2.2.2.2.1, .string r43.2.2.2.2.2] 29 (0, 0))]] rfl ?_
    refine Z 3 rfl ?_
    refine st_cut (fun ρ τ83 gs => ∃ (s83 : Bool), law30_FleetMoves_j5 s19 r66 s83 o19 ∧ τ78.Le τ83 ∧ ESub ρ [(0, v1), (2, .bool false), (3, .pointer (some ⟨b7, 0, none⟩)), (4, .int .i64 s19.1), (135, .bool s83)] ∧ gs = [[(b7, .cells #[v70, v72] 41 (0, 0))], g71, g73]) ?_ (fun hk83 => ?_)
    ·rintro ρ83 τ83 gs83 ⟨s83, h, hl83, hρ, rfl⟩
     refine st_es hρ ?_
     refine st_if rfl h (fun h => ?_) (fun h => ?_)
     ·refine Z 4 rfl ?_
      refine st_ord [] _ rfl ?_
      obtain rfl := he19 _ h
      replace h := hA19
      obtain rfl := Eq.symm h
      exact st_ret (gs' := []) Try.func3 rfl (List.Sublist.refl _) ((((((((hl6.trans hl19).trans hl26).trans hl46).trans hl55).trans hl63).trans hl69).trans hl79).trans hl83) ⟨rfl, rfl⟩
     ·refine Z 2 rfl ?_
      exact hk27 _ _ _ ⟨(r66.2.1, r66.2.2), _, _, _, _, h, (((((hl46.trans hl55).trans hl63).trans hl69).trans hl79).trans hl83), rfl, rfl, (ho74.up (hl79.trans hl83)), (ho75.up (hl79.trans hl83))⟩
    refine Z 3 rfl ?_
    refine o_mif rfl rfl rfl rfl h (fun h => ?_) (fun h => ?_)
    ·refine Z 85 rfl ?_
     refine st_ord [1, 1, 1] _ rfl ?_
     exact hk83 _ _ _ ⟨true, h, (Sto.Le.refl _), rfl, rfl⟩
    ·refine ZZ 3 [5] rfl rfl ?_
     refine o_mif rfl rfl rfl rfl h (fun h => ?_) (fun h => ?_)
     ·refine ZZ 2 [0] rfl rfl ?_
      refine o_mif rfl rfl rfl rfl h (fun h => ?_) (fun h => ?_)
      ·refine Z 78 rfl ?_
       refine st_ord [1, 1, 1] _ rfl ?_
       exact hk83 _ _ _ ⟨true, h, (Sto.Le.refl _), rfl, rfl⟩
      ·refine ZZ 2 [0] rfl rfl ?_
       refine o_lenI rfl rfl rfl z_slT26 rfl hs81 ?_
       refine ZZ 2 [5] rfl rfl ?_
       refine o_lenI rfl rfl rfl z_slT26 rfl (hs49.up (((hl55.trans hl63).trans hl69).trans hl79)) ?_
       refine Z 4 rfl ?_
       refine o_mif rfl rfl rfl rfl h (fun h => ?_) (fun h => ?_)
       ·refine Z 67 rfl ?_
        refine st_ord [1, 1, 1] _ rfl ?_
        exact hk83 _ _ _ ⟨true, h, (Sto.Le.refl _), rfl, rfl⟩
       ·refine ZZ 3 [5] rfl rfl ?_
        refine o_mif rfl rfl rfl rfl h (fun h => ?_) (fun h => ?_)
        ·refine ZZ 3 [0] rfl rfl ?_
         refine o_mif rfl rfl rfl rfl h (fun h => ?_) (fun h => ?_)
         ·refine Z 59 rfl ?_
          refine st_ord [1, 1, 1] _ rfl ?_
          exact hk83 _ _ _ ⟨true, h, (Sto.Le.refl _), rfl, rfl⟩
         ·refine ZZ 2 [0] rfl rfl ?_
          refine o_lenI rfl rfl rfl z_slT26 rfl hs81 ?_
          refine Z 4 rfl ?_
          refine o_mif rfl rfl rfl rfl h (fun h => ?_) (fun h => ?_)
          ·refine Z 51 rfl ?_
           refine st_ord [1, 1, 1] _ rfl ?_
           exact hk83 _ _ _ ⟨true, h, (Sto.Le.refl _), rfl, rfl⟩
          ·refine ZZ 3 [5] rfl rfl ?_
           refine o_mif rfl rfl rfl rfl h (fun h => ?_) (fun h => ?_)
           ·refine ZZ 5 [0, 4] rfl rfl ?_
            refine o_mif rfl rfl rfl rfl h (fun h => ?_) (fun h => ?_)
            ·refine Z 41 rfl ?_
             refine st_ord [1, 1, 1] _ rfl ?_
             exact hk83 _ _ _ ⟨true, h, (Sto.Le.refl _), rfl, rfl⟩
            ·refine ZZ 6 [0, 4] rfl rfl ?_
             refine o_mif rfl rfl rfl rfl h (fun h => ?_) (fun h => ?_)
             ·refine Z 34 rfl ?_
              refine st_ord [1, 1, 1] _ rfl ?_
              exact hk83 _ _ _ ⟨true, h, (Sto.Le.refl _), rfl, rfl⟩
             ·refine ZZ 8 [0, 4] rfl rfl ?_
              refine o_mif rfl rfl rfl rfl h (fun h => ?_) (fun h => ?_)
              ·refine Z 25 rfl ?_
               refine st_ord [1, 1, 1] _ rfl ?_
               exact hk83 _ _ _ ⟨true, h, (Sto.Le.refl _), rfl, rfl⟩
              ·refine ZZ 3 [5] rfl rfl ?_
               refine o_mif rfl rfl rfl rfl h (fun h => ?_) (fun h => ?_)
               ·refine ZZ 3 [0] rfl rfl ?_
                refine o_mif rfl rfl rfl rfl h (fun h => ?_) (fun h => ?_)
                ·refine Z 17 rfl ?_
                 refine st_ord [1, 1, 1] _ rfl ?_
                 exact hk83 _ _ _ ⟨true, h, (Sto.Le.refl _), rfl, rfl⟩
                ·refine ZZ 3 [0] rfl rfl ?_
                 refine o_indexA rfl rfl rfl z_arr25 rfl rfl (by decide) (by decide) ?_
                 refine ZZ 5 [5] rfl rfl ?_
                 refine o_mif rfl rfl rfl rfl h (fun h => ?_) (fun h => ?_)
                 ·refine Z 7 rfl ?_
                  refine st_ord [1, 1, 1] _ rfl ?_
                  exact hk83 _ _ _ ⟨true, h, (Sto.Le.refl _), rfl, rfl⟩
                 ·refine ZZ 7 [0, 4] rfl rfl ?_
                  refine st_ord [1, 1, 1] _ rfl ?_
                  exact hk83 _ _ _ ⟨(decide (r76.1.2.2.2.2.2.2.2.2.2.2.1 < r52.1.2.2.2.2.2.2.2.2.2.2.1)), h, (Sto.Le.refl _), rfl, rfl⟩
               ·refine ZZ 21 [0, 4] rfl rfl ?_
                refine st_ord [1, 1, 1] _ rfl ?_
                exact hk83 _ _ _ ⟨(decide (r76.1.2.2.2.2.2.2.2.2.2.2.1 < r52.1.2.2.2.2.2.2.2.2.2.2.1)), h, (Sto.Le.refl _), rfl, rfl⟩
           ·refine ZZ 25 [5] rfl rfl ?_
            refine o_mif rfl rfl rfl rfl h (fun h => ?_) (fun h => ?_)
            ·refine ZZ 3 [0] rfl rfl ?_
             refine o_mif rfl rfl rfl rfl h (fun h => ?_) (fun h => ?_)
             ·refine Z 17 rfl ?_
              refine st_ord [1, 1, 1] _ rfl ?_
              exact hk83 _ _ _ ⟨true, h, (Sto.Le.refl _), rfl, rfl⟩
             ·refine ZZ 3 [0] rfl rfl ?_
              refine o_indexA rfl rfl rfl z_arr25 rfl rfl (by decide) (by decide) ?_
              refine ZZ 5 [5] rfl rfl ?_
              refine o_mif rfl rfl rfl rfl h (fun h => ?_) (fun h => ?_)
              ·refine Z 7 rfl ?_
               refine st_ord [1, 1, 1] _ rfl ?_
               exact hk83 _ _ _ ⟨true, h, (Sto.Le.refl _), rfl, rfl⟩
              ·refine ZZ 7 [0, 4] rfl rfl ?_
               refine st_ord [1, 1, 1] _ rfl ?_
               exact hk83 _ _ _ ⟨(decide (r76.1.2.2.2.2.2.2.2.2.2.2.1 < r52.1.2.2.2.2.2.2.2.2.2.2.1)), h, (Sto.Le.refl _), rfl, rfl⟩
            ·refine ZZ 21 [0, 4] rfl rfl ?_
             refine st_ord [1, 1, 1] _ rfl ?_
             exact hk83 _ _ _ ⟨(decide (r76.1.2.2.2.2.2.2.2.2.2.2.1 < r52.1.2.2.2.2.2.2.2.2.2.2.1)), h, (Sto.Le.refl _), rfl, rfl⟩
        ·refine ZZ 15 [5] rfl rfl ?_
         refine o_mif rfl rfl rfl rfl h (fun h => ?_) (fun h => ?_)
         ·refine ZZ 5 [0, 4] rfl rfl ?_
          refine o_mif rfl rfl rfl rfl h (fun h => ?_) (fun h => ?_)
          ·refine Z 41 rfl ?_
           refine st_ord [1, 1, 1] _ rfl ?_
           exact hk83 _ _ _ ⟨true, h, (Sto.Le.refl _), rfl, rfl⟩
          ·refine ZZ 6 [0, 4] rfl rfl ?_
           refine o_mif rfl rfl rfl rfl h (fun h => ?_) (fun h => ?_)
           ·refine Z 34 rfl ?_
            refine st_ord [1, 1, 1] _ rfl ?_
            exact hk83 _ _ _ ⟨true, h, (Sto.Le.refl _), rfl, rfl⟩
           ·refine ZZ 8 [0, 4] rfl rfl ?_
            refine o_mif rfl rfl rfl rfl h (fun h => ?_) (fun h => ?_)
            ·refine Z 25 rfl ?_
             refine st_ord [1, 1, 1] _ rfl ?_
             exact hk83 _ _ _ ⟨true, h, (Sto.Le.refl _), rfl, rfl⟩
            ·refine ZZ 3 [5] rfl rfl ?_
             refine o_mif rfl rfl rfl rfl h (fun h => ?_) (fun h => ?_)
             ·refine ZZ 3 [0] rfl rfl ?_
              refine o_mif rfl rfl rfl rfl h (fun h => ?_) (fun h => ?_)
              ·refine Z 17 rfl ?_
               refine st_ord [1, 1, 1] _ rfl ?_
               exact hk83 _ _ _ ⟨true, h, (Sto.Le.refl _), rfl, rfl⟩
              ·refine ZZ 3 [0] rfl rfl ?_
               refine o_indexA rfl rfl rfl z_arr25 rfl rfl (by decide) (by decide) ?_
               refine ZZ 5 [5] rfl rfl ?_
               refine o_mif rfl rfl rfl rfl h (fun h => ?_) (fun h => ?_)
               ·refine Z 7 rfl ?_
                refine st_ord [1, 1, 1] _ rfl ?_
                exact hk83 _ _ _ ⟨true, h, (Sto.Le.refl _), rfl, rfl⟩
               ·refine ZZ 7 [0, 4] rfl rfl ?_
                refine st_ord [1, 1, 1] _ rfl ?_
                exact hk83 _ _ _ ⟨(decide (r76.1.2.2.2.2.2.2.2.2.2.2.1 < r52.1.2.2.2.2.2.2.2.2.2.2.1)), h, (Sto.Le.refl _), rfl, rfl⟩
             ·refine ZZ 21 [0, 4] rfl rfl ?_
              refine st_ord [1, 1, 1] _ rfl ?_
              exact hk83 _ _ _ ⟨(decide (r76.1.2.2.2.2.2.2.2.2.2.2.1 < r52.1.2.2.2.2.2.2.2.2.2.2.1)), h, (Sto.Le.refl _), rfl, rfl⟩
         ·refine ZZ 25 [5] rfl rfl ?_
          refine o_mif rfl rfl rfl rfl h (fun h => ?_) (fun h => ?_)
          ·refine ZZ 3 [0] rfl rfl ?_
           refine o_mif rfl rfl rfl rfl h (fun h => ?_) (fun h => ?_)
           ·refine Z 17 rfl ?_
            refine st_ord [1, 1, 1] _ rfl ?_
            exact hk83 _ _ _ ⟨true, h, (Sto.Le.refl _), rfl, rfl⟩
           ·refine ZZ 3 [0] rfl rfl ?_
            refine o_indexA rfl rfl rfl z_arr25 rfl rfl (by decide) (by decide) ?_
            refine ZZ 5 [5] rfl rfl ?_
            refine o_mif rfl rfl rfl rfl h (fun h => ?_) (fun h => ?_)
            ·refine Z 7 rfl ?_
             refine st_ord [1, 1, 1] _ rfl ?_
             exact hk83 _ _ _ ⟨true, h, (Sto.Le.refl _), rfl, rfl⟩
            ·refine ZZ 7 [0, 4] rfl rfl ?_
             refine st_ord [1, 1, 1] _ rfl ?_
             exact hk83 _ _ _ ⟨(decide (r76.1.2.2.2.2.2.2.2.2.2.2.1 < r52.1.2.2.2.2.2.2.2.2.2.2.1)), h, (Sto.Le.refl _), rfl, rfl⟩
          ·refine ZZ 21 [0, 4] rfl rfl ?_
           refine st_ord [1, 1, 1] _ rfl ?_
           exact hk83 _ _ _ ⟨(decide (r76.1.2.2.2.2.2.2.2.2.2.2.1 < r52.1.2.2.2.2.2.2.2.2.2.2.1)), h, (Sto.Le.refl _), rfl, rfl⟩
     ·refine ZZ 17 [5] rfl rfl ?_
      refine o_mif rfl rfl rfl rfl h (fun h => ?_) (fun h => ?_)
      ·refine ZZ 3 [0] rfl rfl ?_
       refine o_mif rfl rfl rfl rfl h (fun h => ?_) (fun h => ?_)
       ·refine Z 59 rfl ?_
        refine st_ord [1, 1, 1] _ rfl ?_
        exact hk83 _ _ _ ⟨true, h, (Sto.Le.refl _), rfl, rfl⟩
       ·refine ZZ 2 [0] rfl rfl ?_
        refine o_lenI rfl rfl rfl z_slT26 rfl hs81 ?_
        refine Z 4 rfl ?_
        refine o_mif rfl rfl rfl rfl h (fun h => ?_) (fun h => ?_)
        ·refine Z 51 rfl ?_
         refine st_ord [1, 1, 1] _ rfl ?_
         exact hk83 _ _ _ ⟨true, h, (Sto.Le.refl _), rfl, rfl⟩
        ·refine ZZ 3 [5] rfl rfl ?_
         refine o_mif rfl rfl rfl rfl h (fun h => ?_) (fun h => ?_)
         ·refine ZZ 5 [0, 4] rfl rfl ?_
          refine o_mif rfl rfl rfl rfl h (fun h => ?_) (fun h => ?_)
          ·refine Z 41 rfl ?_
           refine st_ord [1, 1, 1] _ rfl ?_
           exact hk83 _ _ _ ⟨true, h, (Sto.Le.refl _), rfl, rfl⟩
          ·refine ZZ 6 [0, 4] rfl rfl ?_
           refine o_mif rfl rfl rfl rfl h (fun h => ?_) (fun h => ?_)
           ·refine Z 34 rfl ?_
            refine st_ord [1, 1, 1] _ rfl ?_
            exact hk83 _ _ _ ⟨true, h, (Sto.Le.refl _), rfl, rfl⟩
           ·refine ZZ 8 [0, 4] rfl rfl ?_
            refine o_mif rfl rfl rfl rfl h (fun h => ?_) (fun h => ?_)
            ·refine Z 25 rfl ?_
             refine st_ord [1, 1, 1] _ rfl ?_
             exact hk83 _ _ _ ⟨true, h, (Sto.Le.refl _), rfl, rfl⟩
            ·refine ZZ 3 [5] rfl rfl ?_
             refine o_mif rfl rfl rfl rfl h (fun h => ?_) (fun h => ?_)
             ·refine ZZ 3 [0] rfl rfl ?_
              refine o_mif rfl rfl rfl rfl h (fun h => ?_) (fun h => ?_)
              ·refine Z 17 rfl ?_
               refine st_ord [1, 1, 1] _ rfl ?_
               exact hk83 _ _ _ ⟨true, h, (Sto.Le.refl _), rfl, rfl⟩
              ·refine ZZ 3 [0] rfl rfl ?_
               refine o_indexA rfl rfl rfl z_arr25 rfl rfl (by decide) (by decide) ?_
               refine ZZ 5 [5] rfl rfl ?_
               refine o_mif rfl rfl rfl rfl h (fun h => ?_) (fun h => ?_)
               ·refine Z 7 rfl ?_
                refine st_ord [1, 1, 1] _ rfl ?_
                exact hk83 _ _ _ ⟨true, h, (Sto.Le.refl _), rfl, rfl⟩
               ·refine ZZ 7 [0, 4] rfl rfl ?_
                refine st_ord [1, 1, 1] _ rfl ?_
                exact hk83 _ _ _ ⟨(decide (r76.1.2.2.2.2.2.2.2.2.2.2.1 < r52.1.2.2.2.2.2.2.2.2.2.2.1)), h, (Sto.Le.refl _), rfl, rfl⟩
             ·refine ZZ 21 [0, 4] rfl rfl ?_
              refine st_ord [1, 1, 1] _ rfl ?_
              exact hk83 _ _ _ ⟨(decide (r76.1.2.2.2.2.2.2.2.2.2.2.1 < r52.1.2.2.2.2.2.2.2.2.2.2.1)), h, (Sto.Le.refl _), rfl, rfl⟩
         ·refine ZZ 25 [5] rfl rfl ?_
          refine o_mif rfl rfl rfl rfl h (fun h => ?_) (fun h => ?_)
          ·refine ZZ 3 [0] rfl rfl ?_
           refine o_mif rfl rfl rfl rfl h (fun h => ?_) (fun h => ?_)
           ·refine Z 17 rfl ?_
            refine st_ord [1, 1, 1] _ rfl ?_
            exact hk83 _ _ _ ⟨true, h, (Sto.Le.refl _), rfl, rfl⟩
           ·refine ZZ 3 [0] rfl rfl ?_
            refine o_indexA rfl rfl rfl z_arr25 rfl rfl (by decide) (by decide) ?_
            refine ZZ 5 [5] rfl rfl ?_
            refine o_mif rfl rfl rfl rfl h (fun h => ?_) (fun h => ?_)
            ·refine Z 7 rfl ?_
             refine st_ord [1, 1, 1] _ rfl ?_
             exact hk83 _ _ _ ⟨true, h, (Sto.Le.refl _), rfl, rfl⟩
            ·refine ZZ 7 [0, 4] rfl rfl ?_
             refine st_ord [1, 1, 1] _ rfl ?_
             exact hk83 _ _ _ ⟨(decide (r76.1.2.2.2.2.2.2.2.2.2.2.1 < r52.1.2.2.2.2.2.2.2.2.2.2.1)), h, (Sto.Le.refl _), rfl, rfl⟩
          ·refine ZZ 21 [0, 4] rfl rfl ?_
           refine st_ord [1, 1, 1] _ rfl ?_
           exact hk83 _ _ _ ⟨(decide (r76.1.2.2.2.2.2.2.2.2.2.2.1 < r52.1.2.2.2.2.2.2.2.2.2.2.1)), h, (Sto.Le.refl _), rfl, rfl⟩
      ·refine ZZ 15 [5] rfl rfl ?_
       refine o_mif rfl rfl rfl rfl h (fun h => ?_) (fun h => ?_)
       ·refine ZZ 5 [0, 4] rfl rfl ?_
        refine o_mif rfl rfl rfl rfl h (fun h => ?_) (fun h => ?_)
        ·refine Z 41 rfl ?_
         refine st_ord [1, 1, 1] _ rfl ?_
         exact hk83 _ _ _ ⟨true, h, (Sto.Le.refl _), rfl, rfl⟩
        ·refine ZZ 6 [0, 4] rfl rfl ?_
         refine o_mif rfl rfl rfl rfl h (fun h => ?_) (fun h => ?_)
         ·refine Z 34 rfl ?_
          refine st_ord [1, 1, 1] _ rfl ?_
          exact hk83 _ _ _ ⟨true, h, (Sto.Le.refl _), rfl, rfl⟩
         ·refine ZZ 8 [0, 4] rfl rfl ?_
          refine o_mif rfl rfl rfl rfl h (fun h => ?_) (fun h => ?_)
          ·refine Z 25 rfl ?_
           refine st_ord [1, 1, 1] _ rfl ?_
           exact hk83 _ _ _ ⟨true, h, (Sto.Le.refl _), rfl, rfl⟩
          ·refine ZZ 3 [5] rfl rfl ?_
           refine o_mif rfl rfl rfl rfl h (fun h => ?_) (fun h => ?_)
           ·refine ZZ 3 [0] rfl rfl ?_
            refine o_mif rfl rfl rfl rfl h (fun h => ?_) (fun h => ?_)
            ·refine Z 17 rfl ?_
             refine st_ord [1, 1, 1] _ rfl ?_
             exact hk83 _ _ _ ⟨true, h, (Sto.Le.refl _), rfl, rfl⟩
            ·refine ZZ 3 [0] rfl rfl ?_
             refine o_indexA rfl rfl rfl z_arr25 rfl rfl (by decide) (by decide) ?_
             refine ZZ 5 [5] rfl rfl ?_
             refine o_mif rfl rfl rfl rfl h (fun h => ?_) (fun h => ?_)
             ·refine Z 7 rfl ?_
              refine st_ord [1, 1, 1] _ rfl ?_
              exact hk83 _ _ _ ⟨true, h, (Sto.Le.refl _), rfl, rfl⟩
             ·refine ZZ 7 [0, 4] rfl rfl ?_
              refine st_ord [1, 1, 1] _ rfl ?_
              exact hk83 _ _ _ ⟨(decide (r76.1.2.2.2.2.2.2.2.2.2.2.1 < r52.1.2.2.2.2.2.2.2.2.2.2.1)), h, (Sto.Le.refl _), rfl, rfl⟩
           ·refine ZZ 21 [0, 4] rfl rfl ?_
            refine st_ord [1, 1, 1] _ rfl ?_
            exact hk83 _ _ _ ⟨(decide (r76.1.2.2.2.2.2.2.2.2.2.2.1 < r52.1.2.2.2.2.2.2.2.2.2.2.1)), h, (Sto.Le.refl _), rfl, rfl⟩
       ·refine ZZ 25 [5] rfl rfl ?_
        refine o_mif rfl rfl rfl rfl h (fun h => ?_) (fun h => ?_)
        ·refine ZZ 3 [0] rfl rfl ?_
         refine o_mif rfl rfl rfl rfl h (fun h => ?_) (fun h => ?_)
         ·refine Z 17 rfl ?_
          refine st_ord [1, 1, 1] _ rfl ?_
          exact hk83 _ _ _ ⟨true, h, (Sto.Le.refl _), rfl, rfl⟩
         ·refine ZZ 3 [0] rfl rfl ?_
          refine o_indexA rfl rfl rfl z_arr25 rfl rfl (by decide) (by decide) ?_
          refine ZZ 5 [5] rfl rfl ?_
          refine o_mif rfl rfl rfl rfl h (fun h => ?_) (fun h => ?_)
          ·refine Z 7 rfl ?_
           refine st_ord [1, 1, 1] _ rfl ?_
           exact hk83 _ _ _ ⟨true, h, (Sto.Le.refl _), rfl, rfl⟩
          ·refine ZZ 7 [0, 4] rfl rfl ?_
           refine st_ord [1, 1, 1] _ rfl ?_
           exact hk83 _ _ _ ⟨(decide (r76.1.2.2.2.2.2.2.2.2.2.2.1 < r52.1.2.2.2.2.2.2.2.2.2.2.1)), h, (Sto.Le.refl _), rfl, rfl⟩
        ·refine ZZ 21 [0, 4] rfl rfl ?_
         refine st_ord [1, 1, 1] _ rfl ?_
         exact hk83 _ _ _ ⟨(decide (r76.1.2.2.2.2.2.2.2.2.2.2.1 < r52.1.2.2.2.2.2.2.2.2.2.2.1)), h, (Sto.Le.refl _), rfl, rfl⟩
  ·refine st_exit rfl ?_
   obtain rfl := he19 _ h
   replace h := hA19
   refine st_ord [] _ rfl ?_
   exact hk14 _ _ _ ⟨(), h, (hl19.trans hl26), rfl, rfl⟩
 refine Z 3 rfl ?_
 refine o_lenI rfl rfl rfl z_slT22 rfl (hs2.up (hl6.trans hl19)) ?_
 refine o_ibin (v := .bool (decide (s19.1 < (a0.length : Int)))) rfl rfl rfl rfl rfl rfl ?_
 refine o_mif rfl rfl rfl rfl h (fun h => ?_) (fun h => ?_)
 ·refine Z 4 rfl ?_
  exact hk26 _ _ _ ⟨(decide (s19.1 < 30)), h, (Sto.Le.refl _), rfl, rfl⟩
 ·refine Z 4 rfl ?_
  exact hk26 _ _ _ ⟨false, h, (Sto.Le.refl _), rfl, rfl⟩
end Go.Rel
