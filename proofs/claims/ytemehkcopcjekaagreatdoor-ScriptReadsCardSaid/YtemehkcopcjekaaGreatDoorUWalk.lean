import Derived.Test.YtemehkcopcjekaaGreatDoorURel
import Derived.Test.YtemehkcopcjekaaGreatDoorUFacts
import Derived.Test.YtemehkcopcjekaaGreatDoorUWalk2
import Derived.Test.YtemehkcopcjekaaGreatDoorEngO
/-! The walks. -/
set_option linter.unusedVariables false
set_option linter.unusedSimpArgs false
set_option maxRecDepth 4000
set_option maxHeartbeats 4000000
namespace Go.Rel
open Go Go.Eng Go.Proofs Go.Proofs.Tryz
open Go.IntKind (i64 u8 u16 u32 u64)
theorem ref27_Read_ok {a0 : ByteArray} {r : (Int × Int × Int) × (Int × Int) × (List (TyZ)) × Int × Int} (h : ref27_Read a0 r) (σ : Sto)  :
    Does prog 19 [.string a0] σ [] (fun v τ gs => ∃ (v72 : Value), gs = [] ∧ .tuple [.agg [.I r.1.1, .I r.1.2.1, .int .u32 r.1.2.2].toArray, .agg [.int .u32 r.2.1.1, .I r.2.1.2].toArray, v72, .I r.2.2.2.1, .I r.t4].toArray = v ∧ Sl (kP (kI .i64) (kP (kP (kI .i64) (kP (kA .i64 6) (kP (kSl (kA .i64 2)) (kP (kSl (kI .i64)) (kP kS kS))))) (kP (kP (kI .i64) (kP (kI .i64) (kP (kI .i64) (kP (kI .i64) (kSl (kI .u8)))))) (kSl (kI .i64))))) τ v72 r.2.2.1) := by
 refine CO func19 ntmps19 rfl (fun cs fs => Z 2 ?_)
 refine o_alloc rfl rfl rfl z_zero62 (fun b1 => ?_)
 refine o_alloc rfl rfl rfl z_zero63 (fun b2 => Z 6 ?_)
 refine o_alloc rfl rfl rfl z_zero62 (fun b3 => Z 3 ?_)
 refine o_alloc rfl rfl rfl z_zero63 (fun b4 => Z 8 ?_)
 obtain ⟨r5, hr6, h⟩ := h
 refine SC z_en20 (ref20_Split_ok hr6 σ) ?_
 rintro _ τ7 _ hl8 ⟨v9, rfl, rfl, hs10⟩
 refine Z 3 ?_
 refine st_cut (fun ρ τ11 gs => ∃ (s11 : K38) (v12 : Value) (g13 : Grp), ref27_Read_j1 r5 s11 r ∧ τ7.Le τ11 ∧ ESub ρ [(2, .Pb b1), (3, .Pb b2), (4, .N0), (5, .I 0), (6, .I 0), (7, .Pb b3), (8, .Pb b4), (9, v12), (10, v9)] ∧ gs = [[(b1, .cells #[.I 0, .I 0, .int .u32 0] 62 (0, 0))], [(b2, .cells #[.int .u32 0, .I 0] 63 (0, 0))], [(b3, .cells #[.I s11.2.1, .I s11.2.2.1, .int .u32 s11.2.2.2.1] 62 (0, 0))], [(b4, .cells #[.int .u32 s11.t4.1, .I s11.t4.2] 63 (0, 0))], g13] ∧ Ow (kP (kI .i64) (kP (kP (kI .i64) (kP (kA .i64 6) (kP (kSl (kA .i64 2)) (kP (kSl (kI .i64)) (kP kS kS))))) (kP (kP (kI .i64) (kP (kI .i64) (kP (kI .i64) (kP (kI .i64) (kSl (kI .u8)))))) (kSl (kI .i64))))) 40 τ11 v12 s11.1 g13) ?_ (fun hk11 => ?_)
 ·rintro ρ11 τ11 gs11 ⟨s11, v12, g13, h, hl11, hρ, rfl, ho14⟩
  refine st_es hρ (Z 2 ?_)
  refine cutS τ11 (fun (s15 : Bool) => ref27_Read_j2 r5 s11 s15 r) (fun s15 => [(2, .Pb b1), (3, .Pb b2), (4, .N0), (5, .I 0), (6, .I 0), (7, .Pb b3), (8, .Pb b4), (9, v12), (10, v9), (64, .bool s15)]) (fun s15 => [[(b1, .cells #[.I 0, .I 0, .int .u32 0] 62 (0, 0))], [(b2, .cells #[.int .u32 0, .I 0] 63 (0, 0))], [(b3, .cells #[.I s11.2.1, .I s11.2.2.1, .int .u32 s11.2.2.2.1] 62 (0, 0))], [(b4, .cells #[.int .u32 s11.t4.1, .I s11.t4.2] 63 (0, 0))], g13]) (fun s15 τ15 h hl15 => ?_) (fun hk15 => ?_)
  ·refine I2 h (fun h => ?_) (fun h => ?_)
   ·refine ZZ 5 [] ?_
    refine o_lenI rfl rfl rfl z_slT67 rfl (hs10.up (hl11.trans hl15)) (ZZ 7 [0, 1] ?_)
    obtain rfl := h.symm
    exact RC [.agg #[.I 0, .I 0, .int .u32 0], .agg #[.int .u32 0, .I 0], .N0, .I (i64.wrap ((r5.length : Int) - 1)), .I 4] func19 ⟨cN 0 z_agg62, cN 1 z_agg63, rfl, rfl, rfl, trivial⟩ ((hl8.trans hl11).trans hl15) ⟨_, rfl, rfl, Sl.nil⟩
   ·refine Z 2 ?_
    refine st_ord [2, 2, 2, 0, 0] _ rfl ?_
    refine st_d42 [[(b3, .cells #[.I s11.2.1, .I s11.2.2.1, .int .u32 s11.2.2.2.1] 62 (0, 0))], [(b4, .cells #[.int .u32 s11.t4.1, .I s11.t4.2] 63 (0, 0))], g13] [[(b1, .cells #[.I 0, .I 0, .int .u32 0] 62 (0, 0))]] [[(b2, .cells #[.int .u32 0, .I 0] 63 (0, 0))]] 5 1 1 [none, none, none, some (0, 0), some (1, 0)] [none, none, none, none, none] [[none, none], [none, none]] [.v (.agg #[.I s11.2.1, .I s11.2.2.1, .int .u32 s11.2.2.2.1]), .v (.agg #[.int .u32 s11.t4.1, .I s11.t4.2]), .v (v12), .t fun _ _ => True, .t fun _ _ => True] [[fun τ u F => F = [[(b1, .cells #[.I 0, .I 0, .int .u32 0] 62 (0, 0))]], fun τ u F => F = [[(b1, .cells #[.I s11.2.1, .I s11.2.2.1, .int .u32 s11.2.2.2.1] 62 (0, 0))]]], [fun τ u F => F = [[(b2, .cells #[.int .u32 0, .I 0] 63 (0, 0))]], fun τ u F => F = [[(b2, .cells #[.int .u32 s11.t4.1, .I s11.t4.2] 63 (0, 0))]]]] rfl z_mix rfl ⟨fun _ _ _ _ _ => trivial, ⟨fun _ _ _ _ _ => trivial, trivial⟩⟩ ⟨⟨fun _ _ _ _ hl h => h, ⟨fun _ _ _ _ hl h => h, trivial⟩⟩, ⟨⟨fun _ _ _ _ hl h => h, ⟨fun _ _ _ _ hl h => h, trivial⟩⟩, trivial⟩⟩ rfl rfl ?_ ?_ (allB_cons (allB_cons (allB_cons (allB_cons (allB_cons allB_nil ?_) ?_) (p4 dA)) ?_) ?_) ?_
    ·exact rfl
    ·exact rfl
    ·intro ρ' τ pq rs hl hd hq hw hk
     refine o_loadN (j := 0) (vs := [.I s11.2.1, .I s11.2.2.1, .int .u32 s11.2.2.2.1]) rfl rfl rfl z_agg62 (oT hq 7) rfl rfl ?_
     exact hk _ _ LR rfl
    ·intro ρ' τ pq rs hl hd hq hw hk
     refine o_loadN (j := 1) (vs := [.int .u32 s11.t4.1, .I s11.t4.2]) rfl rfl rfl z_agg63 (oT hq 8) rfl rfl ?_
     exact hk _ _ LR rfl
    ·intro ρ' τ u Fv pq rs hl hI hu hd hq hw hk
     obtain ⟨_, e0, rfl⟩ := hd 0 rfl _ rfl
     have hI0 := hI
     obtain rfl := hI
     refine o_store (j := 3) (vs := [.I s11.2.1, .I s11.2.2.1, .int .u32 s11.2.2.2.1]) (cs' := [.I s11.2.1, .I s11.2.2.1, .int .u32 s11.2.2.2.1]) rfl rfl rfl z_size62 (oT hq 2) e0 rfl (ones_cons rfl (ones_cons rfl (ones_cons rfl ones_nil))) rfl rfl rfl ?_
     exact hk _ _ [[(b1, .cells #[.I s11.2.1, .I s11.2.2.1, .int .u32 s11.2.2.2.1] 62 (0, 0))]] LR trivial (by exact rfl)
    ·intro ρ' τ u Fv pq rs hl hI hu hd hq hw hk
     obtain ⟨_, e1, rfl⟩ := hd 1 rfl _ rfl
     have hI0 := hI
     obtain rfl := hI
     refine o_store (j := 3) (vs := [.int .u32 s11.t4.1, .I s11.t4.2]) (cs' := [.int .u32 s11.t4.1, .I s11.t4.2]) rfl rfl rfl z_size63 (oT hq 3) e1 rfl (ones_cons rfl (ones_cons rfl ones_nil)) rfl rfl rfl ?_
     exact hk _ _ [[(b2, .cells #[.int .u32 s11.t4.1, .I s11.t4.2] 63 (0, 0))]] LR trivial (by exact rfl)
    intro ρ' τ16 vals u u1 Fv Fv1 hl16 hI hu hI1 hu1 hv hq
    obtain rfl := hI
    obtain rfl := hI1
    refine st_env (ρ' := [(72, v12), (2, .Pb b1), (3, .Pb b2), (4, .N0), (5, .I 0), (6, .I 0)]) ⟨(lv4 hv 2 rfl rfl rfl), oT hq 2, oT hq 3, oT hq 4, oT hq 5, oT hq 6, trivial⟩ (Z 4 ?_)
    refine st_ord [2, 0, 0, 0, 0] _ rfl ?_
    refine st_freeze (fun τ17 hl18 hg19 => ?_)
    have hs20 := ho14.freeze ((hl15.trans hl16).trans hl18) hg19
    obtain rfl := h.symm
    exact RC [.agg #[.I s11.2.1, .I s11.2.2.1, .int .u32 s11.2.2.2.1], .agg #[.int .u32 s11.t4.1, .I s11.t4.2], v12, .I 0, .I 0] func19 ⟨cN 2 z_agg62, cN 3 z_agg63, rfl, rfl, rfl, trivial⟩ ((((hl8.trans hl11).trans hl15).trans hl16).trans hl18) ⟨_, rfl, rfl, hs20⟩
  refine Z 2 ?_
  refine o_lenI rfl rfl rfl z_slT67 rfl (hs10.up hl11) ?_
  refine o_ibin (v := .bool (decide ((r5.length : Int) = 1))) rfl rfl rfl rfl rfl rfl ?_
  refine M2 h (fun h => ?_) (fun h => ?_)
  ·refine Z 9 ?_
   exact hk15 _ _ _ ⟨true, h, LR, rfl, rfl⟩
  ·refine Z 2 ?_
   refine o_lenI rfl rfl rfl z_slT67 rfl (hs10.up hl11) ?_
   refine o_ibin (v := .I (i64.wrap ((r5.length : Int) - 1))) rfl rfl rfl rfl rfl rfl ?_
   obtain ⟨q22, hf23, h⟩ := h
   refine o_index rfl rfl rfl z_slT67 rfl rfl (hs10.up hl11) rfl hf23 (fun b24 of25 vs hc26 hrep => ?_)
   obtain rfl := hrep
   refine o_loadI (v := .string q22) rfl rfl rfl z_sc9 rfl (hc26 0 _ rfl) ?_
   refine o_sbin (v := .bool (!(decide (q22 = (bstr []))))) rfl rfl rfl rfl (ev_str z_str1) rfl (Z 2 ?_)
   exact hk15 _ _ _ ⟨(!(decide (q22 = (bstr [])))), h, LR, rfl, rfl⟩
 refine Z 4 ?_
 obtain ⟨e27, hL27, hA27⟩ := h
 refine st_addNil ?_
 refine st_ord [4, 3, 2, 1, 0] _ rfl ?_
 refine st_loop hL27 (fun (s27 : K18) ρ τ27 gs => τ7.Le τ27 ∧ ∃ (v28 : Value) (g29 : Grp), ESub ρ [(2, .Pb b1), (3, .Pb b2), (4, .N0), (5, .I 0), (6, .I 0), (7, .Pb b3), (8, .Pb b4), (9, v28), (10, v9), (11, .I s27.2.1)] ∧ gs = [[(b1, .cells #[.I 0, .I 0, .int .u32 0] 62 (0, 0))], [(b2, .cells #[.int .u32 0, .I 0] 63 (0, 0))], [(b3, .cells #[.I s27.2.2.1, .I s27.2.2.2.1, .int .u32 s27.t4.1] 62 (0, 0))], [(b4, .cells #[.int .u32 s27.t4.2.1, .I s27.t4.2.2] 63 (0, 0))], g29] ∧ Ow (kP (kI .i64) (kP (kP (kI .i64) (kP (kA .i64 6) (kP (kSl (kA .i64 2)) (kP (kSl (kI .i64)) (kP kS kS))))) (kP (kP (kI .i64) (kP (kI .i64) (kP (kI .i64) (kP (kI .i64) (kSl (kI .u8)))))) (kSl (kI .i64))))) 40 τ27 v28 s27.1 g29) ⟨LR, _, _, rfl, rfl, Ow.nil⟩ ?_
 rintro s27 o27 h he27 ρ27 τ27 gs27 ⟨hl27, v28, g29, hρ, rfl, ho30⟩ hn27
 refine st_es hρ (Z 5 ?_)
 refine o_lenI rfl rfl rfl z_slT67 rfl (hs10.up hl27) (Z 3 ?_)
 refine I2 h (fun h => ?_) (fun h => ?_)
 ·refine Z 8 ?_
  refine st_cut (fun ρ τ31 gs => ∃ (s31 : K18) (v32 : Value) (g33 : Grp), ref27_Read_j4 s27 s31 o27 ∧ τ27.Le τ31 ∧ ESub ρ [(2, .Pb b1), (3, .Pb b2), (4, .N0), (5, .I 0), (6, .I 0), (7, .Pb b3), (8, .Pb b4), (9, v32), (10, v9), (11, .I s27.2.1), (12, .I s31.2.1)] ∧ gs = [[(b1, .cells #[.I 0, .I 0, .int .u32 0] 62 (0, 0))], [(b2, .cells #[.int .u32 0, .I 0] 63 (0, 0))], [(b3, .cells #[.I s31.2.2.1, .I s31.2.2.2.1, .int .u32 s31.t4.1] 62 (0, 0))], [(b4, .cells #[.int .u32 s31.t4.2.1, .I s31.t4.2.2] 63 (0, 0))], g33] ∧ Ow (kP (kI .i64) (kP (kP (kI .i64) (kP (kA .i64 6) (kP (kSl (kA .i64 2)) (kP (kSl (kI .i64)) (kP kS kS))))) (kP (kP (kI .i64) (kP (kI .i64) (kP (kI .i64) (kP (kI .i64) (kSl (kI .u8)))))) (kSl (kI .i64))))) 40 τ31 v32 s31.1 g33) ?_ (fun hk31 => ?_)
  ·rintro ρ31 τ31 gs31 ⟨s31, v32, g33, h, hl31, hρ, rfl, ho34⟩
   refine st_es hρ (Z 5 ?_)
   refine I2 h (fun h => ?_) (fun h => ?_)
   ·refine ZZ 12 [0, 1] ?_
    obtain rfl := he27 _ h
    replace h := hA27
    obtain rfl := h.symm
    exact RC [.agg #[.I 0, .I 0, .int .u32 0], .agg #[.int .u32 0, .I 0], .N0, .I s27.2.1, .I s31.2.1] func19 ⟨cN 0 z_agg62, cN 1 z_agg63, rfl, rfl, rfl, trivial⟩ ((hl8.trans hl27).trans hl31) ⟨_, rfl, rfl, Sl.nil⟩
   ·refine Z 7 ?_
    exact hn27 _ _ _ _ h ⟨(hl27.trans hl31), _, _, rfl, rfl, ho34⟩
  refine Z 5 ?_
  refine I2 h (fun h => ?_) (fun h => ?_)
  ·refine Z 2 ?_
   obtain ⟨q35, hf36, h⟩ := h
   refine o_index rfl rfl rfl z_slT67 rfl rfl (hs10.up hl27) rfl hf36 (fun b37 of38 vs hc39 hrep => ?_)
   obtain rfl := hrep
   refine o_loadI (v := .string q35) rfl rfl rfl z_sc9 rfl (hc39 0 _ rfl) ?_
   obtain ⟨r40, hr41, h⟩ := h
   refine SC z_en51 (ref21_Parse_ok hr41 τ27) ?_
   rintro _ τ42 _ hl43 ⟨rfl, rfl⟩
   refine ZZ 8 [2, 3] ?_
   exact hk31 _ _ _ ⟨(s27.1, r40.2.2, r40.1.1, r40.1.2.1, r40.1.2.2, r40.2.1.1, r40.2.1.2), _, _, h, hl43, rfl, rfl, (ho30.up hl43)⟩
  ·refine Z 4 ?_
   obtain ⟨q44, hf45, h⟩ := h
   refine o_index rfl rfl rfl z_slT67 rfl rfl (hs10.up hl27) rfl hf45 (fun b46 of47 vs hc48 hrep => ?_)
   obtain rfl := hrep
   refine o_loadI (v := .string q44) rfl rfl rfl z_sc9 rfl (hc48 0 _ rfl) ?_
   obtain ⟨r49, hr50, h⟩ := h
   refine SC z_en8 (ref27_Parse_ok hr50 τ27) ?_
   rintro _ τ51 _ hl52 ⟨v53, v54, v55, v56, rfl, rfl, hs57, hs58, hs59, hs60⟩
   refine Z 3 ?_
   refine o_alloc rfl rfl rfl z_zero40 (fun b61 => ?_)
   refine o_store (j := 0) (vs := (lS r49.1 v53 v54 v55 v56)) (cs' := (lS r49.1 v53 v54 v55 v56)) rfl rfl rfl z_size40 rfl rfl rfl (o4 (o4 (ones_cons hs57.one' (ones_cons hs58.one' (o4 (ones_cons rfl (ones_cons rfl (ones_cons hs59.one' (ones_cons hs60.one' ones_nil))))))))) rfl rfl rfl (ZZ 5 [0] ?_)
   refine o_lit (dk := (kP (kI .i64) (kP (kP (kI .i64) (kP (kA .i64 6) (kP (kSl (kA .i64 2)) (kP (kSl (kI .i64)) (kP kS kS))))) (kP (kP (kI .i64) (kP (kI .i64) (kP (kI .i64) (kP (kI .i64) (kSl (kI .u8)))))) (kSl (kI .i64)))))) (xs := [r49.1]) (ps := [(0, (lS r49.1 v53 v54 v55 v56))]) (cs := (lS r49.1 v53 v54 v55 v56)) rfl rfl rfl z_slT64 z_zero40 ⟨rfl, ⟨_, rfl, rfl⟩, trivial⟩ rfl rfl rfl rfl (Kd.Many.cons (d := (kP (kI .i64) (kP (kP (kI .i64) (kP (kA .i64 6) (kP (kSl (kA .i64 2)) (kP (kSl (kI .i64)) (kP kS kS))))) (kP (kP (kI .i64) (kP (kI .i64) (kP (kI .i64) (kP (kI .i64) (kSl (kI .u8)))))) (kSl (kI .i64)))))) (x := r49.1) (a := (lS r49.1 v53 v54 v55 v56)) ⟨[.I r49.1.1], _, rfl, rfl, ⟨(lM r49.1.2.1 v53 v54), _, rfl, ⟨[.I r49.1.2.1.1], _, rfl, rfl, ⟨[.I (r49.1.2.1.2.1.getD 0 0), .I (r49.1.2.1.2.1.getD 1 0), .I (r49.1.2.1.2.1.getD 2 0), .I (r49.1.2.1.2.1.getD 3 0), .I (r49.1.2.1.2.1.getD 4 0), .I (r49.1.2.1.2.1.getD 5 0)], _, rfl, rfl, ⟨[v53], _, rfl, ⟨_, rfl, hs57⟩, ⟨[v54], _, rfl, ⟨_, rfl, hs58⟩, ⟨[.string r49.1.2.1.t4.1], _, rfl, rfl, rfl⟩⟩⟩⟩⟩, ⟨(lI r49.1.2.2.1 v55), _, rfl, ⟨[.I r49.1.2.2.1.1], _, rfl, rfl, ⟨[.I r49.1.2.2.1.2.1], _, rfl, rfl, ⟨[.I r49.1.2.2.1.2.2.1], _, rfl, rfl, ⟨[.I r49.1.2.2.1.2.2.2.1], _, rfl, rfl, ⟨_, rfl, hs59⟩⟩⟩⟩⟩, ⟨_, rfl, hs60⟩⟩⟩⟩ Kd.Many.nil) (fun v62 g63 ho64 => ?_)
   obtain ⟨hf68, hf69, h⟩ := h
   refine st_ord [6, 0, 0, 0, 0, 0, 0] _ rfl ?_
   refine o_append (dk := (kP (kI .i64) (kP (kP (kI .i64) (kP (kA .i64 6) (kP (kSl (kA .i64 2)) (kP (kSl (kI .i64)) (kP kS kS))))) (kP (kP (kI .i64) (kP (kI .i64) (kP (kI .i64) (kP (kI .i64) (kSl (kI .u8)))))) (kSl (kI .i64)))))) (xs := s27.1) (ys := [r49.1]) rfl rfl rfl rfl z_slT64 rfl (ho30.up hl52) rfl (Ow.src (j := 1) ho64 rfl) hf68 hf69 (fun v65 g66 ho67 => Z 4 ?_)
   refine st_ord [3, 3, 3, 3, 0] _ rfl ?_
   exact hk31 _ _ _ ⟨((s27.1 ++ [r49.1]), r49.2, s27.2.2.1, s27.2.2.2.1, s27.t4.1, s27.t4.2.1, s27.t4.2.2), _, _, h, hl52, rfl, rfl, ho67⟩
 ·refine st_exit rfl ?_
  obtain rfl := he27 _ h
  replace h := hA27
  exact hk11 _ _ _ ⟨(s27.1, s27.2.2.1, s27.2.2.2.1, s27.t4.1, s27.t4.2.1, s27.t4.2.2), _, _, h, hl27, rfl, rfl, ho30⟩
theorem law27_ScriptReads_ok {a0 : ByteArray} {a1 : Int} {r : Bool} (h : law27_ScriptReads a0 a1 r) (σ : Sto) (hT : Tab prog σ) (hE : Errs prog σ) :
    Does prog 5 [.string a0, .I a1] σ [] (fun v τ gs => gs = [] ∧ .bool r = v) := by
 refine CO func5 ntmps5 rfl (fun cs fs => Z 2 ?_)
 refine o_boxC rfl rfl rfl rfl rfl rfl (fun b1 => ?_)
 refine o_alloc rfl rfl rfl z_zero4 (fun b2 => Z 7 ?_)
 obtain ⟨hf3, hf4, h⟩ := h
 refine o_sliceSh rfl rfl rfl underlying9 rfl rfl hf3 hf4 (Z 5 ?_)
 obtain ⟨r5, hr6, h⟩ := h
 refine SC z_en18 (script_Read_ok hr6 σ hT hE) ?_
 rintro _ τ7 _ hl8 ⟨v9, rfl, rfl, hs10⟩
 refine Z 6 ?_
 refine o_alloc rfl rfl rfl z_zero56 (fun b11 => ?_)
 refine o_alloc rfl rfl rfl z_zero58 (fun b12 => ZZ 9 [1, 0] ?_)
 obtain ⟨r13, hr14, h⟩ := h
 refine SC z_en19 (ref27_Read_ok hr14 τ7) ?_
 rintro _ τ15 _ hl16 ⟨v17, rfl, rfl, hs18⟩
 refine Z 6 ?_
 refine o_alloc rfl rfl rfl z_zero62 (fun b19 => ?_)
 refine o_alloc rfl rfl rfl z_zero63 (fun b20 => ZZ 8 [1, 0] ?_)
 refine cutS τ15 (fun (s21 : Bool) => law27_ScriptReads_j1 a0 a1 r5 r13 s21 r) (fun s21 => [(0, .string (a0.extract 0 (min (a0.size : Int) 900).toNat)), (3, .Pb b1), (4, .Pb b2), (5, .Pb b11), (6, .Pb b12), (7, v9), (9, .I r5.t4), (12, v17), (70, .bool s21)]) (fun s21 => [[(b1, .cells #[.I a1] 3 (0, 0))], [(b2, .cells #[.bool false] 4 (0, 0))], [(b11, .cells #[.I r5.1.1, .I r5.1.2.1, .int .u32 r5.1.2.2] 56 (0, 0))], [(b12, .cells #[.int .u32 r5.2.1.1, .I r5.2.1.2] 58 (0, 0))]]) (fun s21 τ21 h hl21 => ?_) (fun hk21 => ?_)
 ·refine st_cond rfl (fun hc => ?_) (fun hc => ?_)
  ·replace h := (if_pos hc).mp h
   refine ZZ 4 [1] ?_
   obtain rfl := h.symm
   exact RC [.bool false] func5 ⟨c1 1 z_sc4, trivial⟩ ((hl8.trans hl16).trans hl21) ⟨rfl, rfl⟩
  ·replace h := (if_neg (ne_t hc)).mp h
   refine Z 2 ?_
   refine cutS τ21 (fun (s22 : Unit) => law27_ScriptReads_j2 a0 a1 r5 s22 r) (fun s22 => [(0, .string (a0.extract 0 (min (a0.size : Int) 900).toNat)), (3, .Pb b1), (4, .Pb b2), (5, .Pb b11), (6, .Pb b12), (7, v9), (9, .I r5.t4)]) (fun s22 => [[(b1, .cells #[.I a1] 3 (0, 0))], [(b2, .cells #[.bool false] 4 (0, 0))], [(b11, .cells #[.I r5.1.1, .I r5.1.2.1, .int .u32 r5.1.2.2] 56 (0, 0))], [(b12, .cells #[.int .u32 r5.2.1.1, .I r5.2.1.2] 58 (0, 0))]]) (fun s22 τ22 h hl22 => (Z 3 ?_)) (fun hk22 => ?_)
   ·obtain ⟨r23, hr24, h⟩ := h
    refine SC z_en20 (ref20_Split_ok hr24 τ22) ?_
    rintro _ τ25 _ hl26 ⟨v27, rfl, rfl, hs28⟩
    refine o_alloc rfl rfl rfl z_zero67 (fun b29 => ?_)
    refine o_store (j := 0) (vs := [v27]) (cs' := [v27]) rfl rfl rfl z_size67 rfl rfl (oneL_sl hs28) (ones_cons hs28.one' ones_nil) rfl rfl rfl (Z 3 ?_)
    refine o_alloc rfl rfl rfl z_zero3 (fun b30 => ZZ 5 [0] ?_)
    obtain ⟨r31, hr32, h⟩ := h
    refine SC z_en21 (script_Lines_ok hr32 τ25) ?_
    rintro _ τ33 _ hl34 ⟨f35, q36, rfl, rfl, hit37⟩
    refine Z 16 ?_
    obtain ⟨t38, w38, hR38, hA38⟩ := h
    refine st_env (ρ' := [(0, .string (a0.extract 0 (min (a0.size : Int) 900).toNat)), (3, .Pb b1), (4, .Pb b2), (5, .Pb b11), (6, .Pb b12), (7, v9), (9, .I r5.t4), (16, .Pb b29), (17, .Pb b30), (93, .func (.func f35) #[] q36)]) ⟨rfl, rfl, rfl, rfl, rfl, rfl, rfl, rfl, rfl, rfl, trivial⟩ ?_
    refine st_ord [2, 2, 2, 2, 1, 0] _ rfl ?_
    refine st_addNil ?_
    refine st_range (B := law27_ScriptReads_l3 r23) (s0 := 0) ranges_fctx rfl hit37 LR hR38 rfl (fun _ _ _ h => by cases h; rfl) (fun (s38 : Int) τ38 gs => τ33.Le τ38 ∧ gs = [[(b1, .cells #[.I a1] 3 (0, 0))], [(b2, .cells #[.bool false] 4 (0, 0))], [(b11, .cells #[.I r5.1.1, .I r5.1.2.1, .int .u32 r5.1.2.2] 56 (0, 0))], [(b12, .cells #[.int .u32 r5.2.1.1, .I r5.2.1.2] 58 (0, 0))], [(b29, .cells #[v27] 67 (0, 0))], [(b30, .cells #[.I s38] 3 (0, 0))]]) (fun (p45 : Int) cd τ46 gs => cd = .ret ∧ τ33.Le τ46 ∧ gs = [[(b1, .cells #[.I a1] 3 (0, 0))], [(b2, .cells #[.bool false] 4 (0, 0))], [(b11, .cells #[.I r5.1.1, .I r5.1.2.1, .int .u32 r5.1.2.2] 56 (0, 0))], [(b12, .cells #[.int .u32 r5.2.1.1, .I r5.2.1.2] 58 (0, 0))], [(b29, .cells #[v27] 67 (0, 0))], [(b30, .cells #[.I p45] 3 (0, 0))]]) (fun _ _ _ _ hl ⟨hb, hg⟩ => ⟨hb.trans hl, hg⟩) (fun _ _ _ _ _ hl ⟨hc, hb, hg⟩ => ⟨hc, hb.trans hl, hg⟩) ⟨LR, rfl⟩ ?_ ?_ ?_
    ·rintro x38 s38 o38 τ38 gs38 vx38 hl38 h rfl ⟨hb38, rfl⟩ l38 rc38 caller38 cs38 fs38
     refine Z 7 ?_
     refine st_begin (Z 3 ?_)
     refine cutS τ38 (fun (s39 : Bool) => law27_ScriptReads_j4 s38 s39 o38) (fun s39 => [(0, .string (a0.extract 0 (min (a0.size : Int) 900).toNat)), (3, .Pb b1), (4, .Pb b2), (5, .Pb b11), (6, .Pb b12), (7, v9), (9, .I r5.t4), (16, .Pb b29), (17, .Pb b30), (94, .I x38.1), (95, .string x38.2), (19, .I x38.1), (20, .string x38.2), (113, .bool s39)]) (fun s39 => [[(b1, .cells #[.I a1] 3 (0, 0))], [(b2, .cells #[.bool false] 4 (0, 0))], [(b11, .cells #[.I r5.1.1, .I r5.1.2.1, .int .u32 r5.1.2.2] 56 (0, 0))], [(b12, .cells #[.int .u32 r5.2.1.1, .I r5.2.1.2] 58 (0, 0))], [(b29, .cells #[v27] 67 (0, 0))], [(b30, .cells #[.I s38] 3 (0, 0))]]) (fun s39 τ39 h hl39 => ?_) (fun hk39 => ?_)
     ·refine I2 h (fun h => ?_) (fun h => ?_)
      ·refine ZZ 4 [1] ?_
       exact st_rret (List.Sublist.refl _) hl39 ⟨_, h, rfl, (hl38.trans hl39), rfl⟩
      ·refine ZZ 7 [5, 5] ?_
       exact st_rend (List.Sublist.refl _) hl39 ⟨_, h, (hl38.trans hl39), rfl⟩
     refine ZZ 4 [5] ?_
     refine M2 h (fun h => ?_) (fun h => ?_)
     ·refine Z 15 ?_
      exact hk39 _ _ _ ⟨true, h, LR, rfl, rfl⟩
     ·refine ZZ 2 [5, 4] ?_
      refine o_lenI rfl rfl rfl z_slT67 rfl (hs28.up (hl34.trans hl38)) (Z 3 ?_)
      refine M2 h (fun h => ?_) (fun h => ?_)
      ·refine Z 8 ?_
       exact hk39 _ _ _ ⟨true, h, LR, rfl, rfl⟩
      ·refine ZZ 3 [4, 5] ?_
       obtain ⟨q40, hf41, h⟩ := h
       refine o_index rfl rfl rfl z_slT67 rfl rfl (hs28.up (hl34.trans hl38)) rfl hf41 (fun b42 of43 vs hc44 hrep => ?_)
       obtain rfl := hrep
       refine o_loadI (v := .string q40) rfl rfl rfl z_sc9 rfl (hc44 0 _ rfl) (Z 3 ?_)
       exact hk39 _ _ _ ⟨(!(decide (x38.2 = q40))), h, LR, rfl, rfl⟩
    ·rintro p48 τ49 gs38 f38 ht hl50 ⟨hb, rfl⟩ rfl
     subst ht
     replace h := hA38
     refine st_ord [1, 1, 1, 1, 1, 1] _ rfl (Z 3 ?_)
     refine o_alloc rfl rfl rfl z_zero3 (fun b51 => ZZ 5 [0] ?_)
     obtain ⟨r52, hr53, h⟩ := h
     refine SC z_en21 (script_Lines_ok hr53 τ49) ?_
     rintro _ τ54 _ hl55 ⟨f56, q57, rfl, rfl, hit58⟩
     refine Z 11 ?_
     refine cutS τ54 (fun (s59 : Int) => law27_ScriptReads_j5 a0 a1 r5 r23 p48 s59 r) (fun s59 => [(0, .string (a0.extract 0 (min (a0.size : Int) 900).toNat)), (3, .Pb b1), (4, .Pb b2), (5, .Pb b11), (6, .Pb b12), (7, v9), (9, .I r5.t4), (16, .Pb b29), (17, .Pb b30), (21, .Pb b51)]) (fun s59 => [[(b1, .cells #[.I a1] 3 (0, 0))], [(b2, .cells #[.bool false] 4 (0, 0))], [(b11, .cells #[.I r5.1.1, .I r5.1.2.1, .int .u32 r5.1.2.2] 56 (0, 0))], [(b12, .cells #[.int .u32 r5.2.1.1, .I r5.2.1.2] 58 (0, 0))], [(b29, .cells #[v27] 67 (0, 0))], [(b30, .cells #[.I p48] 3 (0, 0))], [(b51, .cells #[.I s59] 3 (0, 0))]]) (fun s59 τ59 h hl59 => (Z 2 ?_)) (fun hk59 => ?_)
     ·refine st_cut (fun ρ τ60 gs => ∃ (s60 : Bool), law27_ScriptReads_j6 a0 r5 s60 r ∧ τ59.Le τ60 ∧ ESub ρ [(0, .string (a0.extract 0 (min (a0.size : Int) 900).toNat)), (4, .Pb b2), (5, .Pb b11), (6, .Pb b12), (7, v9), (9, .I r5.t4), (142, .bool s60)] ∧ gs = [[(b2, .cells #[.bool false] 4 (0, 0))], [(b11, .cells #[.I r5.1.1, .I r5.1.2.1, .int .u32 r5.1.2.2] 56 (0, 0))], [(b12, .cells #[.int .u32 r5.2.1.1, .I r5.2.1.2] 58 (0, 0))]]) ?_ (fun hk60 => ?_)
      ·rintro ρ60 τ60 gs60 ⟨s60, h, hl60, hρ, rfl⟩
       refine st_es hρ ?_
       refine I2 h (fun h => ?_) (fun h => ?_)
       ·refine ZZ 4 [0] ?_
        obtain rfl := h.symm
        exact RC [.bool false] func5 ⟨c1 0 z_sc4, trivial⟩ (((((((((hl8.trans hl16).trans hl21).trans hl22).trans hl26).trans hl34).trans hl50).trans hl55).trans hl59).trans hl60) ⟨rfl, rfl⟩
       ·refine Z 7 ?_
        refine I2 h (fun h => ?_) (fun h => ?_)
        ·refine Z 2 ?_
         obtain ⟨r61, hr62, h⟩ := h
         refine st_call (foot := []) rfl rfl rfl rfl rfl rfl (callV_fn z_en9 (law27_known_ok hr62 τ60 (hT.up (((((((((hl8.trans hl16).trans hl21).trans hl22).trans hl26).trans hl34).trans hl50).trans hl55).trans hl59).trans hl60)))) ?_
         rintro _ τ63 _ hl64 ⟨rfl, rfl⟩
         refine ZZ 2 [0] ?_
         obtain rfl := h.symm
         exact RC [.bool r61] func5 ⟨c1 0 z_sc4, trivial⟩ ((((((((((hl8.trans hl16).trans hl21).trans hl22).trans hl26).trans hl34).trans hl50).trans hl55).trans hl59).trans hl60).trans hl64) ⟨rfl, rfl⟩
        ·refine ZZ 6 [1, 2] ?_
         obtain ⟨r65, hr66, h⟩ := h
         refine st_call (foot := []) rfl rfl rfl rfl rfl rfl (callV_fn z_en22 (script_Print_ok hr66 τ60 (hs10.up ((((((((hl16.trans hl21).trans hl22).trans hl26).trans hl34).trans hl50).trans hl55).trans hl59).trans hl60)) (hT.up (((((((((hl8.trans hl16).trans hl21).trans hl22).trans hl26).trans hl34).trans hl50).trans hl55).trans hl59).trans hl60)))) ?_
         rintro _ τ67 _ hl68 ⟨rfl, rfl⟩
         refine Z 7 ?_
         refine cutS τ67 (fun (s69 : Bool) => law27_ScriptReads_j7 s69 r) (fun s69 => [(4, .Pb b2)]) (fun s69 => [[(b2, .cells #[.bool s69] 4 (0, 0))]]) (fun s69 τ69 h hl69 => ?_) (fun hk69 => ?_)
         ·obtain rfl := h.symm
          exact RC [.bool s69] func5 ⟨c1 0 z_sc4, trivial⟩ (((((((((((hl8.trans hl16).trans hl21).trans hl22).trans hl26).trans hl34).trans hl50).trans hl55).trans hl59).trans hl60).trans hl68).trans hl69) ⟨rfl, rfl⟩
         refine st_region ?_
         obtain ⟨r70, hr71, h⟩ := h
         refine st_call (foot := []) rfl rfl rfl rfl rfl rfl (callV_fn z_en9 (law27_known_ok hr71 τ67 (hT.up ((((((((((hl8.trans hl16).trans hl21).trans hl22).trans hl26).trans hl34).trans hl50).trans hl55).trans hl59).trans hl60).trans hl68)))) ?_
         rintro _ τ72 _ hl73 ⟨rfl, rfl⟩
         refine M2 h (fun h => ?_) (fun h => ?_)
         ·refine Z 3 ?_
          refine M2 h (fun h => ?_) (fun h => ?_)
          ·refine ZZ 6 [0] ?_
           refine st_ord [0] _ rfl ?_
           exact hk69 _ _ _ ⟨(decide (r65.1 = (a0.extract 0 (min (a0.size : Int) 900).toNat))), h, hl73, rfl, rfl⟩
          ·refine ZZ 6 [0] ?_
           refine st_ord [0] _ rfl ?_
           exact hk69 _ _ _ ⟨false, h, hl73, rfl, rfl⟩
         ·refine ZZ 10 [0] ?_
          refine st_ord [0] _ rfl ?_
          exact hk69 _ _ _ ⟨false, h, hl73, rfl, rfl⟩
      refine ZZ 3 [5, 4] ?_
      refine o_lenI rfl rfl rfl z_slT67 rfl (hs28.up (((hl34.trans hl50).trans hl55).trans hl59)) (Z 2 ?_)
      refine M2 h (fun h => ?_) (fun h => ?_)
      ·refine Z 10 ?_
       refine st_ord [1, 1, 1] _ rfl ?_
       exact hk60 _ _ _ ⟨true, h, LR, rfl, rfl⟩
      ·refine ZZ 3 [6, 5] ?_
       refine M2 h (fun h => ?_) (fun h => ?_)
       ·refine ZZ 6 [6, 0] ?_
        refine st_ord [1, 1, 1] _ rfl ?_
        exact hk60 _ _ _ ⟨(!(decide (s59 = a1))), h, LR, rfl, rfl⟩
       ·refine Z 6 ?_
        refine st_ord [1, 1, 1] _ rfl ?_
        exact hk60 _ _ _ ⟨false, h, LR, rfl, rfl⟩
     refine Z 5 ?_
     obtain ⟨t74, w74, hR74, hA74⟩ := h
     refine st_env (ρ' := [(0, .string (a0.extract 0 (min (a0.size : Int) 900).toNat)), (3, .Pb b1), (4, .Pb b2), (5, .Pb b11), (6, .Pb b12), (7, v9), (9, .I r5.t4), (16, .Pb b29), (17, .Pb b30), (21, .Pb b51), (120, .func (.func f56) #[] q57)]) ⟨rfl, rfl, rfl, rfl, rfl, rfl, rfl, rfl, rfl, rfl, rfl, trivial⟩ ?_
     refine st_ord [1, 1, 1, 1, 1, 1, 0] _ rfl ?_
     refine st_addNil ?_
     refine st_range (B := law27_ScriptReads_l8 a1) (s0 := 0) ranges_fctx rfl hit58 LR hR74 rfl (fun _ _ _ h => by cases h; rfl) (fun (s74 : Int) τ74 gs => τ54.Le τ74 ∧ gs = [[(b1, .cells #[.I a1] 3 (0, 0))], [(b2, .cells #[.bool false] 4 (0, 0))], [(b11, .cells #[.I r5.1.1, .I r5.1.2.1, .int .u32 r5.1.2.2] 56 (0, 0))], [(b12, .cells #[.int .u32 r5.2.1.1, .I r5.2.1.2] 58 (0, 0))], [(b29, .cells #[v27] 67 (0, 0))], [(b30, .cells #[.I p48] 3 (0, 0))], [(b51, .cells #[.I s74] 3 (0, 0))]]) (fun (p75 : Int) cd τ76 gs => cd = .exit 4 ∧ τ54.Le τ76 ∧ gs = [[(b1, .cells #[.I a1] 3 (0, 0))], [(b2, .cells #[.bool false] 4 (0, 0))], [(b11, .cells #[.I r5.1.1, .I r5.1.2.1, .int .u32 r5.1.2.2] 56 (0, 0))], [(b12, .cells #[.int .u32 r5.2.1.1, .I r5.2.1.2] 58 (0, 0))], [(b29, .cells #[v27] 67 (0, 0))], [(b30, .cells #[.I p48] 3 (0, 0))], [(b51, .cells #[.I p75] 3 (0, 0))]]) (fun _ _ _ _ hl ⟨hb, hg⟩ => ⟨hb.trans hl, hg⟩) (fun _ _ _ _ _ hl ⟨hc, hb, hg⟩ => ⟨hc, hb.trans hl, hg⟩) ⟨LR, rfl⟩ ?_ ?_ ?_
     ·rintro x74 s74 o74 τ74 gs74 vx74 hl74 h rfl ⟨hb74, rfl⟩ l74 rc74 caller74 cs74 fs74
      refine st_skip ?_
      refine st_begin (ZZ 8 [6, 0] ?_)
      refine I2 h (fun h => ?_) (fun h => ?_)
      ·exact st_rexit rfl (List.Sublist.refl _) LR ⟨_, h, rfl, hl74, rfl⟩
      ·refine ZZ 7 [6, 6] ?_
       exact st_rend (List.Sublist.refl _) LR ⟨_, h, hl74, rfl⟩
     ·rintro p78 τ79 gs74 f74 ht hl80 ⟨hb, rfl⟩ rfl
      subst ht
      replace h := hA74
      refine st_ord [1, 1, 1, 1, 1, 1, 1] _ rfl ?_
      refine st_inBlock ?_
      exact hk59 _ _ _ ⟨p78, h, hl80, rfl, rfl⟩
     ·rintro p75 cd74 τ76 gs74 f74 ht hl77 ⟨rfl, hb, rfl⟩ rfl
      subst ht
      replace h := hA74
      refine st_ord [1, 1, 1, 1, 1, 1, 1] _ rfl ?_
      refine st_exit rfl ?_
      exact hk59 _ _ _ ⟨p75, h, hl77, rfl, rfl⟩
    ·rintro p45 cd38 τ46 gs38 f38 ht hl47 ⟨rfl, hb, rfl⟩ rfl
     subst ht
     replace h := hA38
     refine st_ord [1, 1, 1, 1, 1, 1] _ rfl ?_
     obtain rfl := h.symm
     exact RC [.bool false] func5 ⟨c1 1 z_sc4, trivial⟩ ((((((hl8.trans hl16).trans hl21).trans hl22).trans hl26).trans hl34).trans hl47) ⟨rfl, rfl⟩
   refine Z 4 ?_
   obtain ⟨e81, hL81, hA81⟩ := h
   refine st_loop hL81 (fun (s81 : Int) ρ τ81 gs => τ21.Le τ81 ∧ ESub ρ [(0, .string (a0.extract 0 (min (a0.size : Int) 900).toNat)), (3, .Pb b1), (4, .Pb b2), (5, .Pb b11), (6, .Pb b12), (7, v9), (9, .I r5.t4), (12, v17), (15, .I s81)] ∧ gs = [[(b1, .cells #[.I a1] 3 (0, 0))], [(b2, .cells #[.bool false] 4 (0, 0))], [(b11, .cells #[.I r5.1.1, .I r5.1.2.1, .int .u32 r5.1.2.2] 56 (0, 0))], [(b12, .cells #[.int .u32 r5.2.1.1, .I r5.2.1.2] 58 (0, 0))]]) ⟨LR, rfl, rfl⟩ ?_
   rintro s81 o81 h he81 ρ81 τ81 gs81 ⟨hl81, hρ, rfl⟩ hn81
   refine st_es hρ (Z 5 ?_)
   refine o_lenI rfl rfl rfl z_slT59 rfl (hs10.up ((hl16.trans hl21).trans hl81)) (Z 2 ?_)
   refine I2 h (fun h => ?_) (fun h => ?_)
   ·refine Z 4 ?_
    obtain ⟨q82, hf83, q99, hf100, r116, hr117, h⟩ := h
    refine st_draw 10 (dl [.v (v9), .v (.I s81), .t fun τ v => ∃ (b84 of85 : Nat) (vsb84 : K10), (.pointer (some ⟨b84, of85, none⟩) : Value) = v ∧ CelN τ ⟨b84, of85, none⟩ vsb84 ∧ (kP (kI .i64) (kP (kP (kI .i64) (kP (kA .i64 6) (kP (kSl (kP (kI .i64) (kI .i64))) (kP (kSl (kI .i64)) (kP kS kS))))) (kP (kP (kI .i64) (kP (kI .i64) (kP (kI .i64) (kP (kI .i64) (kSl (kI .u8)))))) (kSl (kI .i64))))).rep τ vsb84 q82, .t fun τ v => ∃ (v86 v87 : Value) (v88 v89 : Value), (.agg (lS q82 v86 v87 v88 v89).toArray : Value) = v ∧ Sl (kP (kI .i64) (kI .i64)) τ v86 q82.2.1.2.2.1 ∧ Sl (kI .i64) τ v87 q82.2.1.2.2.2.1 ∧ Sl (kI .u8) τ v88 q82.2.2.1.t4 ∧ Sl (kI .i64) τ v89 q82.2.2.2, .v (v17), .v (.I s81), .t fun τ v => ∃ (b101 of102 : Nat) (vsb101 : K10), (.pointer (some ⟨b101, of102, none⟩) : Value) = v ∧ CelN τ ⟨b101, of102, none⟩ vsb101 ∧ (kP (kI .i64) (kP (kP (kI .i64) (kP (kA .i64 6) (kP (kSl (kA .i64 2)) (kP (kSl (kI .i64)) (kP kS kS))))) (kP (kP (kI .i64) (kP (kI .i64) (kP (kI .i64) (kP (kI .i64) (kSl (kI .u8)))))) (kSl (kI .i64))))).rep τ vsb101 q99, .t fun τ v => ∃ (v103 v104 : Value) (v105 v106 : Value), (.agg (lS q99 v103 v104 v105 v106).toArray : Value) = v ∧ Sl (kA .i64 2) τ v103 q99.2.1.2.2.1 ∧ Sl (kI .i64) τ v104 q99.2.1.2.2.2.1 ∧ Sl (kI .u8) τ v105 q99.2.2.1.t4 ∧ Sl (kI .i64) τ v106 q99.2.2.2, .v (.bool r116), .v (.bool (!r116))]) (fun _ _ => []) z_mix rfl (dl_mono ⟨fun _ _ _ hl ⟨b84, of85, vsb84, hv, hc90, hrepb84⟩ => ⟨b84, of85, vsb84, hv, hc90.up hl, Kd.mono _ hl hrepb84⟩, ⟨fun _ _ _ hl ⟨v86, v87, v88, v89, hv, hs95, hs96, hs97, hs98⟩ => ⟨v86, v87, v88, v89, hv, hs95.up hl, hs96.up hl, hs97.up hl, hs98.up hl⟩, ⟨fun _ _ _ hl ⟨b101, of102, vsb101, hv, hc107, hrepb101⟩ => ⟨b101, of102, vsb101, hv, hc107.up hl, Kd.mono _ hl hrepb101⟩, ⟨fun _ _ _ hl ⟨v103, v104, v105, v106, hv, hs112, hs113, hs114, hs115⟩ => ⟨v103, v104, v105, v106, hv, hs112.up hl, hs113.up hl, hs114.up hl, hs115.up hl⟩, trivial⟩⟩⟩⟩) (allB_cons (allB_cons (allB_cons (allB_cons (allB_cons (allB_cons (allB_cons (allB_cons (allB_cons (allB_cons allB_nil (p1 dA)) (p1 dA)) ?_) ?_) (p1 dA)) (p1 dA)) ?_) ?_) ?_) (p1 dA)) ?_
    ·intro ρ' τ pq rs hl hd hq hk
     obtain ⟨_, e0, rfl⟩ := hd 0 rfl
     obtain ⟨_, e1, rfl⟩ := hd 1 rfl
     refine o_index rfl rfl rfl z_slT59 rfl e0 (hs10.up (((hl16.trans hl21).trans hl81).trans hl)) e1 hf83 (fun b84 of85 vsb84 hc90 hrepb84 => ?_)
     exact st_addNil (hk _ _ LR ⟨b84, of85, _, rfl, hc90, hrepb84⟩)
    ·intro ρ' τ pq rs hl hd hq hk
     obtain ⟨_, e2, b84, of85, vsb84, rfl, hc90, hrepb84⟩ := hd 2 rfl
     have hrepb84 := hrepb84
     obtain ⟨_, _, rfl, rfl, ⟨_, _, rfl, ⟨_, _, rfl, rfl, ⟨_, _, rfl, rfl, ⟨_, _, rfl, ⟨v86, rfl, hs95⟩, ⟨_, _, rfl, ⟨v87, rfl, hs96⟩, ⟨_, _, rfl, rfl, rfl⟩⟩⟩⟩⟩, ⟨_, _, rfl, ⟨_, _, rfl, rfl, ⟨_, _, rfl, rfl, ⟨_, _, rfl, rfl, ⟨_, _, rfl, rfl, ⟨v88, rfl, hs97⟩⟩⟩⟩⟩, ⟨v89, rfl, hs98⟩⟩⟩⟩ := hrepb84
     refine o_loadIN (vs := (lS q82 v86 v87 v88 v89)) rfl rfl rfl z_agg31 e2 rfl (celn_part 0 rfl hc90) ?_
     exact st_addNil (hk _ _ LR ⟨v86, v87, v88, v89, rfl, hs95, hs96, hs97, hs98⟩)
    ·intro ρ' τ pq rs hl hd hq hk
     obtain ⟨_, e4, rfl⟩ := hd 4 rfl
     obtain ⟨_, e5, rfl⟩ := hd 5 rfl
     refine o_index rfl rfl rfl z_slT64 rfl e4 (hs18.up ((hl21.trans hl81).trans hl)) e5 hf100 (fun b101 of102 vsb101 hc107 hrepb101 => ?_)
     exact st_addNil (hk _ _ LR ⟨b101, of102, _, rfl, hc107, hrepb101⟩)
    ·intro ρ' τ pq rs hl hd hq hk
     obtain ⟨_, e6, b101, of102, vsb101, rfl, hc107, hrepb101⟩ := hd 6 rfl
     have hrepb101 := hrepb101
     obtain ⟨_, _, rfl, rfl, ⟨_, _, rfl, ⟨_, _, rfl, rfl, ⟨_, _, rfl, rfl, ⟨_, _, rfl, ⟨v103, rfl, hs112⟩, ⟨_, _, rfl, ⟨v104, rfl, hs113⟩, ⟨_, _, rfl, rfl, rfl⟩⟩⟩⟩⟩, ⟨_, _, rfl, ⟨_, _, rfl, rfl, ⟨_, _, rfl, rfl, ⟨_, _, rfl, rfl, ⟨_, _, rfl, rfl, ⟨v105, rfl, hs114⟩⟩⟩⟩⟩, ⟨v106, rfl, hs115⟩⟩⟩⟩ := hrepb101
     refine o_loadIN (vs := (lS q99 v103 v104 v105 v106)) rfl rfl rfl z_agg40 e6 rfl (celn_part 0 rfl hc107) ?_
     exact st_addNil (hk _ _ LR ⟨v103, v104, v105, v106, rfl, hs112, hs113, hs114, hs115⟩)
    ·intro ρ' τ pq rs hl hd hq hk
     obtain ⟨_, e3, v86, v87, v88, v89, rfl, hs95, hs96, hs97, hs98⟩ := hd 3 rfl
     obtain ⟨_, e7, v103, v104, v105, v106, rfl, hs112, hs113, hs114, hs115⟩ := hd 7 rfl
     refine st_call (foot := []) rfl rfl rfl rfl (evs_cons e3 (evs_cons e7 rfl)) rfl (callV_fn z_en10 (law27_same_ok hr117 τ hs95 hs96 hs97 hs98 hs112 hs113 hs114 hs115)) ?_
     rintro _ τ118 _ hl119 ⟨rfl, rfl⟩
     exact st_addNil (hk _ _ hl119 rfl)
    intro ρ' τ120 vals hl120 hv hq
    refine st_ord [0, 0, 0, 0] _ rfl ?_
    refine st_env (ρ' := [(86, .bool (!r116)), (0, .string (a0.extract 0 (min (a0.size : Int) 900).toNat)), (3, .Pb b1), (4, .Pb b2), (5, .Pb b11), (6, .Pb b12), (7, v9), (9, .I r5.t4), (12, v17), (15, .I s81)]) ⟨(lv1 hv 9 rfl rfl), oT hq 0, oT hq 3, oT hq 4, oT hq 5, oT hq 6, oT hq 7, oT hq 9, oT hq 12, oT hq 15, trivial⟩ ?_
    refine st_end ?_
    refine I2 h (fun h => ?_) (fun h => ?_)
    ·refine ZZ 4 [1] ?_
     obtain rfl := he81 _ h
     replace h := hA81
     obtain rfl := h.symm
     exact RC [.bool false] func5 ⟨c1 1 z_sc4, trivial⟩ ((((hl8.trans hl16).trans hl21).trans hl81).trans hl120) ⟨rfl, rfl⟩
    ·refine Z 7 ?_
     exact hn81 _ _ _ _ h ⟨(hl81.trans hl120), rfl, rfl⟩
   ·refine st_exit rfl ?_
    obtain rfl := he81 _ h
    replace h := hA81
    exact hk22 _ _ _ ⟨(), h, hl81, rfl, rfl⟩
 refine Z 4 ?_
 refine M2 h (fun h => ?_) (fun h => ?_)
 ·refine Z 22 ?_
  refine st_ord [5, 4, 3, 2] _ rfl ?_
  exact hk21 _ _ _ ⟨true, h, LR, rfl, rfl⟩
 ·refine Z 4 ?_
  refine M2 h (fun h => ?_) (fun h => ?_)
  ·refine Z 17 ?_
   refine st_ord [5, 4, 3, 2] _ rfl ?_
   exact hk21 _ _ _ ⟨true, h, LR, rfl, rfl⟩
  ·refine ZZ 2 [3, 1] ?_
   refine o_aggEq (b := ((decide (r5.1.1 = r13.1.1)) && ((decide (r5.1.2.1 = r13.1.2.1)) && ((decide (r5.1.2.2 = r13.1.2.2)) && true)))) (e := (!((decide (r5.1.1 = r13.1.1)) && ((decide (r5.1.2.1 = r13.1.2.1)) && ((decide (r5.1.2.2 = r13.1.2.2)) && true))))) rfl rfl rfl z_eqg62 rfl rfl (fun w => by refine eq_struct underlying62 z_held62 ?_; refine eqf_cons (r := (decide (r5.1.1 = r13.1.1))) (r' := ((decide (r5.1.2.1 = r13.1.2.1)) && ((decide (r5.1.2.2 = r13.1.2.2)) && true))) rfl (part_one z_sc3 rfl) (part_one z_sc3 rfl) (by exact eq_int underlying3 _ _) ?_; refine eqf_cons (r := (decide (r5.1.2.1 = r13.1.2.1))) (r' := ((decide (r5.1.2.2 = r13.1.2.2)) && true)) rfl (part_one z_sc3 rfl) (part_one z_sc3 rfl) (by exact eq_int underlying3 _ _) ?_; refine eqf_cons (r := (decide (r5.1.2.2 = r13.1.2.2))) (r' := true) rfl (part_one z_sc54 rfl) (part_one z_sc54 rfl) (by exact eq_int underlying54 _ _) ?_; exact eqf_nil _ _ _ _) rfl ?_
   refine o_pick rfl rfl rfl rfl rfl ?_
   refine M2 h (fun h => ?_) (fun h => ?_)
   ·refine Z 12 ?_
    refine st_ord [5, 4, 3, 2] _ rfl ?_
    exact hk21 _ _ _ ⟨true, h, LR, rfl, rfl⟩
   ·refine ZZ 2 [2, 0] ?_
    refine o_aggEq (b := ((decide (r5.2.1.1 = r13.2.1.1)) && ((decide (r5.2.1.2 = r13.2.1.2)) && true))) (e := (!((decide (r5.2.1.1 = r13.2.1.1)) && ((decide (r5.2.1.2 = r13.2.1.2)) && true)))) rfl rfl rfl z_eqg63 rfl rfl (fun w => by refine eq_struct underlying63 z_held63 ?_; refine eqf_cons (r := (decide (r5.2.1.1 = r13.2.1.1))) (r' := ((decide (r5.2.1.2 = r13.2.1.2)) && true)) rfl (part_one z_sc54 rfl) (part_one z_sc54 rfl) (by exact eq_int underlying54 _ _) ?_; refine eqf_cons (r := (decide (r5.2.1.2 = r13.2.1.2))) (r' := true) rfl (part_one z_sc3 rfl) (part_one z_sc3 rfl) (by exact eq_int underlying3 _ _) ?_; exact eqf_nil _ _ _ _) rfl ?_
    refine o_pick rfl rfl rfl rfl rfl ?_
    refine M2 h (fun h => ?_) (fun h => ?_)
    ·refine Z 7 ?_
     refine st_ord [5, 4, 3, 2] _ rfl ?_
     exact hk21 _ _ _ ⟨true, h, LR, rfl, rfl⟩
    ·refine o_move rfl rfl rfl rfl ?_
     refine o_lenI rfl rfl rfl z_slT59 rfl (hs10.up hl16) ?_
     refine o_move rfl rfl rfl rfl ?_
     refine o_lenI rfl rfl rfl z_slT64 rfl hs18 (Z 3 ?_)
     refine st_ord [5, 4, 3, 2] _ rfl ?_
     exact hk21 _ _ _ ⟨(!(decide ((r5.2.2.1.length : Int) = (r13.2.2.1.length : Int)))), h, LR, rfl, rfl⟩
end Go.Rel
