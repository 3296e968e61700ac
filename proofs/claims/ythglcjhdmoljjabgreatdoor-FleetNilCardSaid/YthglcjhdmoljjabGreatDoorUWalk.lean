import Derived.Test.YthglcjhdmoljjabGreatDoorURel
import Derived.Test.YthglcjhdmoljjabGreatDoorUFacts
import Derived.Test.YthglcjhdmoljjabGreatDoorUWalk0
/-! The walks. -/
set_option linter.unusedVariables false
set_option linter.unusedSimpArgs false
set_option maxRecDepth 4000
set_option maxHeartbeats 4000000
namespace Go.Rel
open Go Go.Eng Go.Proofs
theorem fleet_Fleet_Release_nil_ok {a1 : Int} {a2 : Int} {r : Bool} (h : fleet_Fleet_Release_nil a1 a2 r) (σ : Sto)  :
    Does Tryz.prog 13 [.pointer none, .int .i64 a1, .int .i64 a2] σ [] (fun v τ gs => gs = [] ∧ .bool r = v) := by
 refine call_of Tryz.func13 Tryz.ntmps13 rfl rfl (fun cs fs => ?_)
 refine ZZ 9 [] rfl rfl ?_
 refine o_alloc rfl rfl rfl z_zero71 (fun b1 => ?_)
 refine ZZ 4 [0] rfl rfl ?_
 refine st_draw 12 (dl [.v (.pointer none), .v (.bool true), .v (.bool true), .t fun _ _ => True, .t fun _ _ => True, .t fun _ _ => True, .t fun _ _ => True, .t fun _ _ => True, .t fun _ _ => True, .t fun _ _ => True, .t fun _ _ => True, .v (.bool true)]) (fun _ _ => []) z_mix rfl (dl_mono ⟨fun _ _ _ _ _ => trivial, ⟨fun _ _ _ _ _ => trivial, ⟨fun _ _ _ _ _ => trivial, ⟨fun _ _ _ _ _ => trivial, ⟨fun _ _ _ _ _ => trivial, ⟨fun _ _ _ _ _ => trivial, ⟨fun _ _ _ _ _ => trivial, ⟨fun _ _ _ _ _ => trivial, trivial⟩⟩⟩⟩⟩⟩⟩⟩) (allB_cons (allB_cons (allB_cons (allB_cons (allB_cons (allB_cons (allB_cons (allB_cons (allB_cons (allB_cons (allB_cons (allB_cons allB_nil (p1 dA)) (p1 dA)) (p1 dA)) ?_) ?_) ?_) ?_) ?_) ?_) ?_) ?_) ?_) ?_
 ·intro ρ' τ pool rs hl hd hout hk
  obtain ⟨_, e2, rfl⟩ := hd 2 rfl
  refine st_pass rfl rfl rfl e2 rfl rfl ?_
  exact st_addNil (hk _ _ (Sto.Le.refl _) trivial)
 ·intro ρ' τ pool rs hl hd hout hk
  obtain ⟨_, e2, rfl⟩ := hd 2 rfl
  refine st_pass rfl rfl rfl e2 rfl rfl ?_
  exact st_addNil (hk _ _ (Sto.Le.refl _) trivial)
 ·intro ρ' τ pool rs hl hd hout hk
  obtain ⟨_, e2, rfl⟩ := hd 2 rfl
  refine st_pass rfl rfl rfl e2 rfl rfl ?_
  exact st_addNil (hk _ _ (Sto.Le.refl _) trivial)
 ·intro ρ' τ pool rs hl hd hout hk
  obtain ⟨_, e2, rfl⟩ := hd 2 rfl
  refine st_pass rfl rfl rfl e2 rfl rfl ?_
  exact st_addNil (hk _ _ (Sto.Le.refl _) trivial)
 ·intro ρ' τ pool rs hl hd hout hk
  obtain ⟨_, e2, rfl⟩ := hd 2 rfl
  refine st_pass rfl rfl rfl e2 rfl rfl ?_
  exact st_addNil (hk _ _ (Sto.Le.refl _) trivial)
 ·intro ρ' τ pool rs hl hd hout hk
  obtain ⟨_, e2, rfl⟩ := hd 2 rfl
  refine st_pass rfl rfl rfl e2 rfl rfl ?_
  exact st_addNil (hk _ _ (Sto.Le.refl _) trivial)
 ·intro ρ' τ pool rs hl hd hout hk
  obtain ⟨_, e2, rfl⟩ := hd 2 rfl
  refine st_pass rfl rfl rfl e2 rfl rfl ?_
  exact st_addNil (hk _ _ (Sto.Le.refl _) trivial)
 ·intro ρ' τ pool rs hl hd hout hk
  obtain ⟨_, e2, rfl⟩ := hd 2 rfl
  refine st_pass rfl rfl rfl e2 rfl rfl ?_
  exact st_addNil (hk _ _ (Sto.Le.refl _) trivial)
 ·intro ρ' τ pool rs hl hd hout hk
  obtain ⟨_, e2, rfl⟩ := hd 2 rfl
  refine o_pick rfl rfl rfl e2 rfl ?_
  exact st_addNil (hk _ _ (Sto.Le.refl _) rfl)
 intro ρ' τ2 vals hl2 hv hout
 refine st_ord [0] _ rfl ?_
 refine st_env (ρ' := [(22, .bool true), (0, .pointer none), (6, .bool false), (7, .pointer (some ⟨b1, 0, none⟩))]) ⟨(lv1 hv 11 rfl rfl), (hout 0 rfl).trans rfl, (hout 6 rfl).trans rfl, (hout 7 rfl).trans rfl, trivial⟩ ?_
 refine Z 6 rfl ?_
 refine st_ord [] _ rfl ?_
 obtain rfl := Eq.symm h
 exact st_ret (gs' := []) Tryz.func13 rfl (List.Sublist.refl _) hl2 ⟨rfl, rfl⟩
theorem strconv_Itoa_ok {a0 : Int} {r : ByteArray} (h : strconv_Itoa a0 r) (σ : Sto) (hT : Tab Tryz.prog σ) :
    Does Tryz.prog 70 [.int .i64 a0] σ [] (fun v τ gs => gs = [] ∧ .string r = v) := by
 obtain ⟨hk, rfl⟩ := h
 rw [itoa_lib]
 exact does_grow fun w hw => Tryz.strconv_Itoa a0 (i64_lo hk) (i64_hi hk) w (hT w hw)
theorem say_Number_ok {a0 : Int} {r : ByteArray} (h : say_Number a0 r) (σ : Sto) (hT : Tab Tryz.prog σ) :
    Does Tryz.prog 49 [.int .i64 a0] σ [] (fun v τ gs => gs = [] ∧ .string r = v) := by
 refine call_of Tryz.func49 Tryz.ntmps49 rfl rfl (fun cs fs => ?_)
 refine Z 2 rfl ?_
 refine o_assign rfl rfl rfl (ev_str z_str19) ?_
 refine Z 4 rfl ?_
 obtain ⟨r1, hr2, h⟩ := h
 refine st_call (foot := []) rfl rfl rfl rfl rfl rfl (callV_fn z_en70 (strconv_Itoa_ok hr2 σ hT)) ?_
 rintro vτ3 τ3 gsτ3 hl4 ⟨rfl, rfl⟩
 refine Z 2 rfl ?_
 obtain rfl := Eq.symm h
 exact st_ret (gs' := []) Tryz.func49 rfl (List.Sublist.refl _) hl4 ⟨rfl, rfl⟩
theorem fleet_line_ok {a0 : ByteArray} {a1 : List Int} {v1 : Value} {r : ByteArray} (h : fleet_line a0 a1 r) (σ : Sto) (hs2 : Sl (kI .i64) σ v1 a1) (hT : Tab Tryz.prog σ) :
    Does Tryz.prog 28 [.string a0, v1] σ [] (fun v τ gs => gs = [] ∧ .string r = v) := by
 refine call_of Tryz.func28 Tryz.ntmps28 rfl rfl (fun cs fs => ?_)
 refine Z 2 rfl ?_
 refine o_assign rfl rfl rfl (ev_str z_str19) ?_
 refine Z 2 rfl ?_
 refine st_cut (fun ρ τ3 gs => ∃ (s3 : ByteArray), fleet_line_j1 s3 r ∧ σ.Le τ3 ∧ ESub ρ [(0, .string s3), (4, .string (bstr []))] ∧ gs = []) ?_ (fun hk3 => ?_)
 ·rintro ρ3 τ3 gs3 ⟨s3, h, hl3, hρ, rfl⟩
  refine st_es hρ ?_
  refine Z 5 rfl ?_
  obtain rfl := Eq.symm h
  exact st_ret (gs' := []) Tryz.func28 rfl (List.Sublist.refl _) hl3 ⟨rfl, rfl⟩
 refine Z 3 rfl ?_
 refine o_lenI rfl rfl rfl z_slT24 rfl hs2 ?_
 refine Z 2 rfl ?_
 obtain ⟨e4, hL4, hA4⟩ := h
 refine st_loop hL4 (fun (s4 : ByteArray × Int) ρ τ4 gs => σ.Le τ4 ∧ ESub ρ [(0, .string s4.1), (4, .string (bstr [])), (7, v1), (8, .int .i64 (a1.length : Int)), (9, .int .i64 s4.2)] ∧ gs = []) ⟨Sto.Le.refl _, rfl, rfl⟩ ?_
 rintro s4 o4 h he4 ρ4 τ4 gs4 ⟨hl4, hρ, rfl⟩ hn4
 refine st_es hρ ?_
 refine Z 5 rfl ?_
 refine st_if rfl h (fun h => ?_) (fun h => ?_)
 ·refine Z 5 rfl ?_
  obtain ⟨q5, hf6, h⟩ := h
  refine o_index rfl rfl rfl z_slT24 rfl rfl (hs2.up hl4) rfl hf6 (fun b7 of8 vs hc9 hrep => ?_)
  obtain rfl := hrep
  refine o_loadI (v := .int .i64 q5) rfl rfl rfl z_sc3 rfl (hc9 0 _ rfl) ?_
  refine Z 5 rfl ?_
  obtain ⟨r10, hr11, h⟩ := h
  refine st_call (foot := []) rfl rfl rfl rfl rfl rfl (callV_fn z_en49 (say_Number_ok hr11 τ4 (hT.up hl4))) ?_
  rintro vτ12 τ12 gsτ12 hl13 ⟨rfl, rfl⟩
  obtain ⟨hf14, h⟩ := h
  refine o_sadd rfl rfl rfl (ev_str z_str22) rfl hf14 ?_
  obtain ⟨hf15, h⟩ := h
  refine o_sadd rfl rfl rfl rfl rfl hf15 ?_
  refine Z 7 rfl ?_
  exact hn4 _ _ _ _ h ⟨(hl4.trans hl13), rfl, rfl⟩
 ·refine st_exit rfl ?_
  obtain rfl := he4 _ h
  replace h := hA4
  exact hk3 _ _ _ ⟨s4.1, h, hl4, rfl, rfl⟩
theorem fleet_Fleet_Lines_nil_ok  {r : List ByteArray} (h : fleet_Fleet_Lines_nil r) (σ : Sto) (hT : Tab Tryz.prog σ) :
    Does Tryz.prog 14 [.pointer none] σ [] (fun v τ gs => ∃ (v69 : Value), gs = [] ∧ v69 = v ∧ Sl kS τ v69 r) := by
 refine call_of Tryz.func14 Tryz.ntmps14 rfl rfl (fun cs fs => ?_)
 refine Z 2 rfl ?_
 refine o_boxC rfl rfl rfl rfl rfl rfl (fun b1 => ?_)
 refine Z 4 rfl ?_
 refine o_alloc rfl rfl rfl z_zero49 (fun b2 => ?_)
 refine ZZ 5 [1] rfl rfl ?_
 obtain ⟨r3, hr4, h⟩ := h
 refine st_call (foot := []) rfl rfl rfl rfl rfl rfl (callV_fn z_en5 (fleet_Fleet_Robots_nil_ok hr4 σ)) ?_
 rintro vτ5 τ5 gsτ5 hl6 ⟨f7, q8, rfl, rfl, hit9⟩
 refine Z 2 rfl ?_
 obtain ⟨t10, w10, hR10, hA10⟩ := h
 refine st_env (ρ' := [(1, .pointer (some ⟨b1, 0, none⟩)), (2, .slice none 0 0), (3, .pointer (some ⟨b2, 0, none⟩)), (12, .func (.func f7) #[] q8)]) ⟨rfl, rfl, rfl, rfl, trivial⟩ ?_
 refine st_ord [1, 0] _ rfl ?_
 refine st_addNil ?_
 refine st_range (B := fleet_Fleet_Lines_nil_l1) (s0 := ()) ranges_fctx rfl hit9 (Sto.Le.refl _) hR10 rfl (fun _ _ _ h => by cases h; rfl) (fun (s10 : Unit) τ10 gs => τ5.Le τ10 ∧ gs = [[(b1, .cells #[.pointer none] 27 (0, 0))], [(b2, .cells #[.slice none 0 0] 49 (0, 0))]]) (fun _ _ _ _ => False) (fun _ _ _ _ hl ⟨hb, hg⟩ => ⟨hb.trans hl, hg⟩) (fun _ _ _ _ _ _ h => h.elim) ⟨Sto.Le.refl _, rfl⟩ ?_ ?_ ?_
 ·rintro x10 s10 o10 τ10 gs10 vx10 hl10 h rfl ⟨hb10, rfl⟩ l10 rc10 caller10 cs10 fs10
  refine Z 3 rfl ?_
  refine st_begin ?_
  refine ZZ 4 [0] rfl rfl ?_
  exact h.elim
 ·rintro p11 τ12 gs10 f10 ht hl13 ⟨hb, rfl⟩ rfl
  subst ht
  replace h := hA10
  refine st_ord [1, 1] _ rfl ?_
  refine Z 2 rfl ?_
  refine st_cut (fun ρ τ14 gs => ∃ (s14 : List ByteArray) (v15 : Value) (g16 : Grp), fleet_Fleet_Lines_nil_j2 s14 r ∧ τ12.Le τ14 ∧ ESub ρ [(2, .slice none 0 0), (3, .pointer (some ⟨b2, 0, none⟩))] ∧ gs = [[(b2, .cells #[v15] 49 (0, 0))], g16] ∧ Ow kS 9 τ14 v15 s14 g16) ?_ (fun hk14 => ?_)
  ·rintro ρ14 τ14 gs14 ⟨s14, v15, g16, h, hl14, hρ, rfl, ho17⟩
   refine st_es hρ ?_
   refine ZZ 5 [0] rfl rfl ?_
   refine st_ord [1, 0] _ rfl ?_
   refine st_freeze (fun τ18 hl19 hg20 => ?_)
   have hs21 := ho17.freeze hl19 hg20
   refine st_ord [] _ rfl ?_
   obtain rfl := Eq.symm h
   exact st_ret (gs' := []) Tryz.func14 rfl (List.Sublist.refl _) (((hl6.trans hl13).trans hl14).trans hl19) ⟨_, rfl, rfl, hs21⟩
  refine ZZ 3 [0] rfl rfl ?_
  obtain ⟨r24, hr25, h⟩ := h
  refine st_call (foot := []) rfl rfl rfl rfl rfl rfl (callV_fn z_en12 (fleet_Fleet_Contested_nil_ok hr25 τ12)) ?_
  rintro vτ26 τ26 gsτ26 hl27 ⟨v28, rfl, rfl, hs29, hF30⟩
  refine o_lenI rfl rfl rfl z_slT46 rfl hs29 ?_
  refine Z 2 rfl ?_
  obtain ⟨e31, hL31, hA31⟩ := h
  refine st_addNil ?_
  refine st_ord [2, 0] _ rfl ?_
  refine st_loop hL31 (fun (s31 : Int × List ByteArray) ρ τ31 gs => τ26.Le τ31 ∧ ∃ (v32 : Value) (g33 : Grp), ESub ρ [(2, .slice none 0 0), (3, .pointer (some ⟨b2, 0, none⟩)), (88, v28), (89, .int .i64 (r24.length : Int)), (90, .int .i64 s31.1)] ∧ gs = [[(b2, .cells #[v32] 49 (0, 0))], g33] ∧ Ow kS 9 τ31 v32 s31.2 g33) ⟨Sto.Le.refl _, _, _, rfl, rfl, Ow.nil⟩ ?_
  rintro s31 o31 h he31 ρ31 τ31 gs31 ⟨hl31, v32, g33, hρ, rfl, ho34⟩ hn31
  refine st_es hρ ?_
  refine Z 5 rfl ?_
  refine st_if rfl h (fun h => ?_) (fun h => ?_)
  ·refine Z 5 rfl ?_
   obtain ⟨q35, hf36, h⟩ := h
   refine o_index rfl rfl rfl z_slT46 rfl rfl (hs29.up hl31) rfl hf36 (fun b37 of38 vs hc39 hrep => ?_)
   obtain ⟨_, _, rfl, rfl, rfl⟩ := hrep
   refine o_loadIN (vs := [.int .i64 q35.1, .int .i64 q35.2]) rfl rfl rfl z_agg45 rfl rfl (celn_part 0 rfl hc39) ?_
   refine o_alloc rfl rfl rfl z_zero45 (fun b40 => ?_)
   refine ZZ 2 [0] rfl rfl ?_
   obtain ⟨r48, hr49, hf62, hf63, h⟩ := h
   refine st_d41 [[(b40, .cells #[.int .i64 q35.1, .int .i64 q35.2] 45 (0, 0))]] [[(b2, .cells #[v32] 49 (0, 0))], g33] 9 2 [some (0, 0), none, none, none, none, none, none, none, some (0, 1)] [none, none, none, none, none, none, none, none, none] [[none, some 94, some 102]] [.v (v32), .v (.pointer (some ⟨b40, 0, none⟩)), .v (.int .i64 q35.1), .v (.pointer (some ⟨b40, 1, none⟩)), .v (.int .i64 q35.2), .t fun τ v => ∃ (v41 : Value), (v41 : Value) = v ∧ Sl (kI .i64) τ v41 [q35.1, q35.2], .v (.string r48), .t fun τ v => ∃ (v52 : Value), (v52 : Value) = v ∧ Sl kS τ v52 [r48], .t fun _ _ => True] [[fun τ u F => F = [[(b2, .cells #[v32] 49 (0, 0))], g33], fun τ u F => F = [[(b2, .cells #[v32] 49 (0, 0))], g33], fun τ u F => ∃ (v64 : Value) (g65 : Grp), F = [g65, [(b2, .cells #[v32] 49 (0, 0))]] ∧ v64 = u ∧ Ow kS 9 τ v64 (s31.2 ++ [r48]) g65]] rfl z_mix rfl ⟨fun _ _ _ hl ⟨v41, hv, hs47⟩ => ⟨v41, hv, hs47.up hl⟩, ⟨fun _ _ _ hl ⟨v52, hv, hs58⟩ => ⟨v52, hv, hs58.up hl⟩, ⟨fun _ _ _ _ _ => trivial, trivial⟩⟩⟩ ⟨⟨fun _ _ _ _ hl h => h, ⟨fun _ _ _ _ hl h => h, ⟨fun _ _ _ _ hl h => (let ⟨v64, g65, hF, hU, ho66⟩ := h; ⟨v64, g65, hF, hU, ho66.up hl⟩), trivial⟩⟩⟩, trivial⟩ rfl rfl ?_ (allB_cons (allB_cons (allB_cons (allB_cons (allB_cons (allB_cons (allB_cons (allB_cons (allB_cons allB_nil ?_) (p4 dA)) ?_) (p4 dA)) ?_) ?_) ?_) ?_) ?_) ?_
   ·exact rfl
   ·intro ρ' τ u Fv pool rs hl hI hu hd hout hw hk
    have hI0 := hI
    obtain rfl := hI
    refine st_gs [[(b40, .cells #[.int .i64 q35.1, .int .i64 q35.2] 45 (0, 0))], [(b2, .cells #[v32] 49 (0, 0))], g33, pool] rfl ?_
    refine o_load (j := 1) (v := v32) rfl rfl rfl z_sc49 ((hout 3 rfl).trans rfl) rfl rfl ?_
    exact hk _ _ [[(b2, .cells #[v32] 49 (0, 0))], g33] (Sto.Le.refl _) rfl (by exact hI0)
   ·intro ρ' τ pool rs hl hd hout hw hk
    obtain ⟨_, e1, rfl⟩ := hd 1 rfl _ rfl
    refine o_load (j := 0) (v := .int .i64 q35.1) rfl rfl rfl z_sc3 e1 rfl rfl ?_
    exact hk _ _ (Sto.Le.refl _) rfl
   ·intro ρ' τ pool rs hl hd hout hw hk
    obtain ⟨_, e3, rfl⟩ := hd 3 rfl _ rfl
    refine o_load (j := 0) (v := .int .i64 q35.2) rfl rfl rfl z_sc3 e3 rfl rfl ?_
    exact hk _ _ (Sto.Le.refl _) rfl
   ·intro ρ' τ pool rs hl hd hout hw hk
    obtain ⟨_, e2, rfl⟩ := hd 2 rfl _ rfl
    obtain ⟨_, e4, rfl⟩ := hd 4 rfl _ rfl
    refine o_litE (eI .i64) [q35.1, q35.2] rfl rfl rfl z_slT24 z_zero3 ⟨rfl, ⟨_, e2, rfl⟩, ⟨rfl, ⟨_, e4, rfl⟩, trivial⟩⟩ rfl rfl rfl rfl (fun v41 g42 ho43 => ?_)
    refine st_freeze (fun τ44 hl45 hg46 => ?_)
    have hs47 := ho43.freeze hl45 hg46
    exact hk _ _ hl45 ⟨v41, rfl, hs47⟩
   ·intro ρ' τ pool rs hl hd hout hw hk
    obtain ⟨_, e5, v41, rfl, hs47⟩ := hd 5 rfl _ rfl
    refine st_call (foot := []) rfl rfl rfl rfl (evs_cons (ev_str z_str21) (evs_cons e5 rfl)) rfl (callV_fn z_en28 (fleet_line_ok hr49 τ hs47 (hT.up ((((hl6.trans hl13).trans hl27).trans hl31).trans hl)))) ?_
    rintro vτ50 τ50 gsτ50 hl51 ⟨rfl, rfl⟩
    exact hk _ _ hl51 rfl
   ·intro ρ' τ pool rs hl hd hout hw hk
    obtain ⟨_, e6, rfl⟩ := hd 6 rfl _ rfl
    refine o_litE eS [r48] rfl rfl rfl z_slT49 z_zero9 ⟨rfl, ⟨_, e6, rfl⟩, trivial⟩ rfl rfl rfl rfl (fun v52 g53 ho54 => ?_)
    refine st_freeze (fun τ55 hl56 hg57 => ?_)
    have hs58 := ho54.freeze hl56 hg57
    exact hk _ _ hl56 ⟨v52, rfl, hs58⟩
   ·intro ρ' τ u Fv pool rs hl hI hu hd hout hw hk
    obtain ⟨_, e0, rfl⟩ := hd 0 rfl _ rfl
    obtain ⟨_, e7, v52, rfl, hs58⟩ := hd 7 rfl _ rfl
    have hI0 := hI
    obtain rfl := hI
    refine st_gs [[(b40, .cells #[.int .i64 q35.1, .int .i64 q35.2] 45 (0, 0))], [(b2, .cells #[v32] 49 (0, 0))], g33, pool] rfl ?_
    refine st_ord [2, 0, 0, 0] _ rfl ?_
    refine o_append (dk := kS) (xs := s31.2) (ys := [r48]) rfl rfl rfl rfl z_slT49 e0 (ho34.up hl) e7 (Sl.src hs58) hf62 hf63 (fun v59 g60 ho61 => ?_)
    refine st_ord [1, 0, 0, 0] _ rfl ?_
    exact hk _ _ [g60, [(b2, .cells #[v32] 49 (0, 0))]] (Sto.Le.refl _) trivial (by exact ⟨v59, g60, rfl, rfl, ho61⟩)
   intro ρ' τ67 vals u Fv hl67 hI hu hv hout
   obtain ⟨v64, g65, rfl, rfl, ho66⟩ := hI
   refine st_gs [[(b40, .cells #[.int .i64 q35.1, .int .i64 q35.2] 45 (0, 0))], g65, [(b2, .cells #[v32] 49 (0, 0))]] rfl ?_
   refine st_env (ρ' := [(2, .slice none 0 0), (3, .pointer (some ⟨b2, 0, none⟩)), (88, v28), (89, .int .i64 (r24.length : Int)), (90, .int .i64 s31.1), (102, v64)]) ⟨(hout 2 rfl).trans rfl, (hout 3 rfl).trans rfl, (hout 88 rfl).trans rfl, (hout 89 rfl).trans rfl, (hout 90 rfl).trans rfl, (by exact hu _ rfl), trivial⟩ ?_
   refine o_store (j := 2) (vs := [v64]) (cs' := [v64]) rfl rfl rfl z_size49 rfl rfl (oneL_ow ho66) (ones_cons ho66.one' ones_nil) rfl rfl rfl ?_
   refine st_gs [[(b40, .cells #[.int .i64 q35.1, .int .i64 q35.2] 45 (0, 0))], g65, [(b2, .cells #[v64] 49 (0, 0))]] rfl ?_
   refine Z 6 rfl ?_
   refine st_ord [2, 1] _ rfl ?_
   exact hn31 _ _ _ _ h ⟨(hl31.trans hl67), _, _, rfl, rfl, ho66⟩
  ·refine st_exit rfl ?_
   obtain rfl := he31 _ h
   replace h := hA31
   exact hk14 _ _ _ ⟨s31.2, _, _, h, (hl27.trans hl31), rfl, rfl, ho34⟩
 ·exact fun _ _ _ _ _ _ _ h => h.elim
theorem fleet_Fleet_Copy_nil_ok  {r : Unit} (h : fleet_Fleet_Copy_nil r) (σ : Sto)  :
    Does Tryz.prog 15 [.pointer none] σ [] (fun v τ gs => gs = [] ∧ .pointer none = v) := by
 refine call_of Tryz.func15 Tryz.ntmps15 rfl rfl (fun cs fs => ?_)
 refine Z 15 rfl ?_
 obtain rfl := Eq.symm h
 exact st_ret (gs' := []) Tryz.func15 rfl (List.Sublist.refl _) (Sto.Le.refl _) ⟨rfl, rfl⟩
theorem fleet_same_ok {a0 : Int × Int × Int × Int × Int × Bool × Bool × Int × Int × List (Int × Int) × Int × Int} {a1 : Int × Int × Int × Int × Int × Bool × Bool × Int × Int × List (Int × Int) × Int × Int} {v1 : Value} {v3 : Value} {r : Bool} (h : fleet_same a0 a1 r) (σ : Sto) (hs2 : Sl (kP (kI .i64) (kI .i64)) σ v1 a0.2.2.2.2.2.2.2.2.2.1) (hs4 : Sl (kP (kI .i64) (kI .i64)) σ v3 a1.2.2.2.2.2.2.2.2.2.1) :
    Does Tryz.prog 33 [.agg [.int .i64 a0.1, .int .i64 a0.2.1, .int .i64 a0.2.2.1, .int .i64 a0.2.2.2.1, .int .i64 a0.2.2.2.2.1, .bool a0.2.2.2.2.2.1, .bool a0.2.2.2.2.2.2.1, .int .i64 a0.2.2.2.2.2.2.2.1, .int .i64 a0.2.2.2.2.2.2.2.2.1, v1, .int .i64 a0.2.2.2.2.2.2.2.2.2.2.1, .int .i64 a0.2.2.2.2.2.2.2.2.2.2.2].toArray, .agg [.int .i64 a1.1, .int .i64 a1.2.1, .int .i64 a1.2.2.1, .int .i64 a1.2.2.2.1, .int .i64 a1.2.2.2.2.1, .bool a1.2.2.2.2.2.1, .bool a1.2.2.2.2.2.2.1, .int .i64 a1.2.2.2.2.2.2.2.1, .int .i64 a1.2.2.2.2.2.2.2.2.1, v3, .int .i64 a1.2.2.2.2.2.2.2.2.2.2.1, .int .i64 a1.2.2.2.2.2.2.2.2.2.2.2].toArray] σ [] (fun v τ gs => gs = [] ∧ .bool r = v) := by
 refine call_of Tryz.func33 Tryz.ntmps33 rfl rfl (fun cs fs => ?_)
 refine Z 2 rfl ?_
 refine o_box (cs := [.int .i64 a0.1, .int .i64 a0.2.1, .int .i64 a0.2.2.1, .int .i64 a0.2.2.2.1, .int .i64 a0.2.2.2.2.1, .bool a0.2.2.2.2.2.1, .bool a0.2.2.2.2.2.2.1, .int .i64 a0.2.2.2.2.2.2.2.1, .int .i64 a0.2.2.2.2.2.2.2.2.1, v1, .int .i64 a0.2.2.2.2.2.2.2.2.2.2.1, .int .i64 a0.2.2.2.2.2.2.2.2.2.2.2]) rfl rfl rfl rfl rfl (fun b5 => ?_)
 refine o_box (cs := [.int .i64 a1.1, .int .i64 a1.2.1, .int .i64 a1.2.2.1, .int .i64 a1.2.2.2.1, .int .i64 a1.2.2.2.2.1, .bool a1.2.2.2.2.2.1, .bool a1.2.2.2.2.2.2.1, .int .i64 a1.2.2.2.2.2.2.2.1, .int .i64 a1.2.2.2.2.2.2.2.2.1, v3, .int .i64 a1.2.2.2.2.2.2.2.2.2.2.1, .int .i64 a1.2.2.2.2.2.2.2.2.2.2.2]) rfl rfl rfl rfl rfl (fun b6 => ?_)
 refine ZZ 9 [1, 0] rfl rfl ?_
 obtain ⟨r7, hr8, h⟩ := h
 refine st_call (foot := []) rfl rfl rfl rfl rfl rfl (callV_fn z_en51 (slices_Equal_msg_Point_msg_Point_ok hr8 σ hs2 hs4)) ?_
 rintro vτ9 τ9 gsτ9 hl10 ⟨rfl, rfl⟩
 refine Z 2 rfl ?_
 refine st_if rfl h (fun h => ?_) (fun h => ?_)
 ·refine Z 4 rfl ?_
  refine st_ord [] _ rfl ?_
  obtain rfl := Eq.symm h
  exact st_ret (gs' := []) Tryz.func33 rfl (List.Sublist.refl _) hl10 ⟨rfl, rfl⟩
 ·refine ZZ 9 [1, 0] rfl rfl ?_
  refine st_cut (fun ρ τ11 gs => ∃ (s11 : Bool), fleet_same_j1 s11 r ∧ τ9.Le τ11 ∧ ESub ρ [(4, .bool s11)] ∧ gs = []) ?_ (fun hk11 => ?_)
  ·rintro ρ11 τ11 gs11 ⟨s11, h, hl11, hρ, rfl⟩
   refine st_es hρ ?_
   obtain rfl := Eq.symm h
   exact st_ret (gs' := []) Tryz.func33 rfl (List.Sublist.refl _) (hl10.trans hl11) ⟨rfl, rfl⟩
  refine ZZ 6 [1, 0] rfl rfl ?_
  refine o_mif rfl rfl rfl rfl h (fun h => ?_) (fun h => ?_)
  ·refine ZZ 6 [1, 0] rfl rfl ?_
   refine o_mif rfl rfl rfl rfl h (fun h => ?_) (fun h => ?_)
   ·refine ZZ 6 [1, 0] rfl rfl ?_
    refine o_mif rfl rfl rfl rfl h (fun h => ?_) (fun h => ?_)
    ·refine ZZ 6 [1, 0] rfl rfl ?_
     refine o_mif rfl rfl rfl rfl h (fun h => ?_) (fun h => ?_)
     ·refine ZZ 6 [1, 0] rfl rfl ?_
      refine o_mif rfl rfl rfl rfl h (fun h => ?_) (fun h => ?_)
      ·refine ZZ 6 [1, 0] rfl rfl ?_
       refine o_mif rfl rfl rfl rfl h (fun h => ?_) (fun h => ?_)
       ·refine ZZ 6 [1, 0] rfl rfl ?_
        refine o_mif rfl rfl rfl rfl h (fun h => ?_) (fun h => ?_)
        ·refine ZZ 6 [1, 0] rfl rfl ?_
         refine o_mif rfl rfl rfl rfl h (fun h => ?_) (fun h => ?_)
         ·refine ZZ 6 [1, 0] rfl rfl ?_
          refine o_mif rfl rfl rfl rfl h (fun h => ?_) (fun h => ?_)
          ·refine ZZ 6 [1, 0] rfl rfl ?_
           refine o_mif rfl rfl rfl rfl h (fun h => ?_) (fun h => ?_)
           ·refine ZZ 8 [1, 0] rfl rfl ?_
            refine st_ord [] _ rfl ?_
            exact hk11 _ _ _ ⟨(decide (a0.2.2.2.2.2.2.2.2.2.2.2 = a1.2.2.2.2.2.2.2.2.2.2.2)), h, (Sto.Le.refl _), rfl, rfl⟩
           ·refine Z 8 rfl ?_
            refine st_ord [] _ rfl ?_
            exact hk11 _ _ _ ⟨false, h, (Sto.Le.refl _), rfl, rfl⟩
          ·refine Z 15 rfl ?_
           refine st_ord [] _ rfl ?_
           exact hk11 _ _ _ ⟨false, h, (Sto.Le.refl _), rfl, rfl⟩
         ·refine Z 22 rfl ?_
          refine st_ord [] _ rfl ?_
          exact hk11 _ _ _ ⟨false, h, (Sto.Le.refl _), rfl, rfl⟩
        ·refine Z 29 rfl ?_
         refine st_ord [] _ rfl ?_
         exact hk11 _ _ _ ⟨false, h, (Sto.Le.refl _), rfl, rfl⟩
       ·refine Z 36 rfl ?_
        refine st_ord [] _ rfl ?_
        exact hk11 _ _ _ ⟨false, h, (Sto.Le.refl _), rfl, rfl⟩
      ·refine Z 43 rfl ?_
       refine st_ord [] _ rfl ?_
       exact hk11 _ _ _ ⟨false, h, (Sto.Le.refl _), rfl, rfl⟩
     ·refine Z 50 rfl ?_
      refine st_ord [] _ rfl ?_
      exact hk11 _ _ _ ⟨false, h, (Sto.Le.refl _), rfl, rfl⟩
    ·refine Z 57 rfl ?_
     refine st_ord [] _ rfl ?_
     exact hk11 _ _ _ ⟨false, h, (Sto.Le.refl _), rfl, rfl⟩
   ·refine Z 64 rfl ?_
    refine st_ord [] _ rfl ?_
    exact hk11 _ _ _ ⟨false, h, (Sto.Le.refl _), rfl, rfl⟩
  ·refine Z 71 rfl ?_
   refine st_ord [] _ rfl ?_
   exact hk11 _ _ _ ⟨false, h, (Sto.Le.refl _), rfl, rfl⟩
theorem maps_EqualFunc_map_int_fleet_Robot_map_int_fleet_Robot_int_fleet_Robot_fleet_Robot__fleet_same_ok {a0 : List (Int × (Int × Int × Int × Int × Int × Bool × Bool × Int × Int × List (Int × Int) × Int × Int))} {a1 : List (Int × (Int × Int × Int × Int × Int × Bool × Bool × Int × Int × List (Int × Int) × Int × Int))} {va0 : Value} {ga0 : Grp} {va1 : Value} {ga1 : Grp} {r : Bool} (h : maps_EqualFunc_map_int_fleet_Robot_map_int_fleet_Robot_int_fleet_Robot_fleet_Robot__fleet_same a0 a1 r) (σ : Sto) (ho1 : Mp (Value.int .i64) (rK (kP (kI .i64) (kP (kI .i64) (kP (kI .i64) (kP (kI .i64) (kP (kI .i64) (kP kB (kP kB (kP (kI .i64) (kP (kI .i64) (kP (kSl (kP (kI .i64) (kI .i64))) (kP (kI .i64) (kI .i64))))))))))))) σ va0 a0 ga0) (ho2 : Mp (Value.int .i64) (rK (kP (kI .i64) (kP (kI .i64) (kP (kI .i64) (kP (kI .i64) (kP (kI .i64) (kP kB (kP kB (kP (kI .i64) (kP (kI .i64) (kP (kSl (kP (kI .i64) (kI .i64))) (kP (kI .i64) (kI .i64))))))))))))) σ va1 a1 ga1) :
    Does Tryz.prog 32 [va0, va1, .func (.func 33) #[] [].toArray] σ [ga0, ga1] (fun v τ gs => gs = [ga0, ga1] ∧ .bool r = v) := by
 refine call_of Tryz.func32 Tryz.ntmps32 rfl rfl (fun cs fs => ?_)
 refine Z 8 rfl ?_
 refine o_lenM (j := 0) rfl rfl rfl z_map54 rfl ho1 rfl ?_
 refine o_move rfl rfl rfl rfl ?_
 refine o_lenM (j := 1) rfl rfl rfl z_map54 rfl ho2 rfl ?_
 refine Z 2 rfl ?_
 refine st_cond rfl (fun hc => ?_) (fun hc => ?_)
 ·replace h := (if_pos hc).mp h
  refine Z 4 rfl ?_
  obtain rfl := Eq.symm h
  exact st_ret (gs' := [ga0, ga1]) Tryz.func32 rfl (List.Sublist.refl _) (Sto.Le.refl _) ⟨rfl, rfl⟩
 ·replace h := (if_neg (ne_t hc)).mp h
  refine Z 2 rfl ?_
  refine st_cut (fun ρ τ3 gs => ∃ (s3 : Unit), maps_EqualFunc_map_int_fleet_Robot_map_int_fleet_Robot_int_fleet_Robot_fleet_Robot__fleet_same_j1 s3 r ∧ σ.Le τ3 ∧ ESub ρ [(6, .bool false)] ∧ gs = [ga0, ga1]) ?_ (fun hk3 => ?_)
  ·rintro ρ3 τ3 gs3 ⟨s3, h, hl3, hρ, rfl⟩
   refine st_es hρ ?_
   refine Z 4 rfl ?_
   obtain rfl := Eq.symm h
   exact st_ret (gs' := [ga0, ga1]) Tryz.func32 rfl (List.Sublist.refl _) hl3 ⟨rfl, rfl⟩
  refine Z 3 rfl ?_
  refine o_range (jm := 0) rfl rfl rfl z_map54 rfl ho1 rfl (fun v4 g5 hm6 => ?_)
  refine st_end ?_
  have hL7 := h
  refine st_ord [2, 1, 0] _ rfl ?_
  refine st_loopD hL7 (fun (s7 : (List (Int × (Int × Int × Int × Int × Int × Bool × Bool × Int × Int × List (Int × Int) × Int × Int)))) ρ τ7 gs => σ.Le τ7 ∧ ∃ (g8 : Grp), ESub ρ [(1, va1), (2, .func (.func 33) #[] #[]), (6, .bool false), (17, v4)] ∧ gs = [ga1, ga0, g8] ∧ MIt (Value.int .i64) (rK (kP (kI .i64) (kP (kI .i64) (kP (kI .i64) (kP (kI .i64) (kP (kI .i64) (kP kB (kP kB (kP (kI .i64) (kP (kI .i64) (kP (kSl (kP (kI .i64) (kI .i64))) (kP (kI .i64) (kI .i64))))))))))))) τ7 v4 va0 s7 g8 ga0) ⟨Sto.Le.refl _, _, rfl, rfl, hm6⟩ ?_
  rintro s7 hD7 ρ7 τ7 gs7 ⟨hl7, g8, hρ, rfl, hm9⟩
  refine st_es hρ ?_
  refine Z 2 rfl ?_
  refine o_next (j := 2) (jm := 1) rfl rfl rfl (fun a b h => by cases h; rfl) rfl hm9 rfl rfl (fun hc => ?_) (fun p10 g11 v12 hp13 hv14 hm15 he16 => ?_)
  ·obtain ⟨o7, h, he7, hn7⟩ := hD7 none hc
   replace h := h.1 rfl
   refine Z 5 rfl ?_
   replace h := he7 _ h
   refine st_ord [1, 0] _ rfl ?_
   exact hk3 _ _ _ ⟨(), h, hl7, rfl, rfl⟩
  ·obtain ⟨o7, h, he7, hn7⟩ := hD7 (some p10) hp13
   replace h := h.2 _ rfl
   obtain ⟨_, ⟨_, _, rfl, rfl, ⟨_, _, rfl, rfl, ⟨_, _, rfl, rfl, ⟨_, _, rfl, rfl, ⟨_, _, rfl, rfl, ⟨_, _, rfl, rfl, ⟨_, _, rfl, rfl, ⟨_, _, rfl, rfl, ⟨_, _, rfl, rfl, ⟨_, _, rfl, ⟨v17, rfl, hs18⟩, ⟨_, _, rfl, rfl, rfl⟩⟩⟩⟩⟩⟩⟩⟩⟩⟩⟩, rfl⟩ := hv14
   refine st_gs [ga1, ga0, g11] rfl ?_
   refine Z 8 rfl ?_
   refine o_entry (j := 2) (jm := 1) (p := p10) rfl rfl rfl rfl he16 rfl rfl (fun v19 hv20 => ?_)
   obtain ⟨_, ⟨_, _, rfl, rfl, ⟨_, _, rfl, rfl, ⟨_, _, rfl, rfl, ⟨_, _, rfl, rfl, ⟨_, _, rfl, rfl, ⟨_, _, rfl, rfl, ⟨_, _, rfl, rfl, ⟨_, _, rfl, rfl, ⟨_, _, rfl, rfl, ⟨_, _, rfl, ⟨v21, rfl, hs22⟩, ⟨_, _, rfl, rfl, rfl⟩⟩⟩⟩⟩⟩⟩⟩⟩⟩⟩, rfl⟩ := hv20
   refine Z 2 rfl ?_
   refine o_alloc rfl rfl rfl z_zero29 (fun b23 => ?_)
   refine o_assign rfl rfl rfl rfl ?_
   refine o_store (j := 0) (vs := [.int .i64 p10.2.1, .int .i64 p10.2.2.1, .int .i64 p10.2.2.2.1, .int .i64 p10.2.2.2.2.1, .int .i64 p10.2.2.2.2.2.1, .bool p10.2.2.2.2.2.2.1, .bool p10.2.2.2.2.2.2.2.1, .int .i64 p10.2.2.2.2.2.2.2.2.1, .int .i64 p10.2.2.2.2.2.2.2.2.2.1, v21, .int .i64 p10.2.2.2.2.2.2.2.2.2.2.2.1, .int .i64 p10.2.2.2.2.2.2.2.2.2.2.2.2]) (cs' := [.int .i64 p10.2.1, .int .i64 p10.2.2.1, .int .i64 p10.2.2.2.1, .int .i64 p10.2.2.2.2.1, .int .i64 p10.2.2.2.2.2.1, .bool p10.2.2.2.2.2.2.1, .bool p10.2.2.2.2.2.2.2.1, .int .i64 p10.2.2.2.2.2.2.2.2.1, .int .i64 p10.2.2.2.2.2.2.2.2.2.1, v21, .int .i64 p10.2.2.2.2.2.2.2.2.2.2.2.1, .int .i64 p10.2.2.2.2.2.2.2.2.2.2.2.2]) rfl rfl rfl z_size29 rfl rfl rfl (ones_cons rfl (ones_cons rfl (ones_cons rfl (ones_cons rfl (ones_cons rfl (ones_cons rfl (ones_cons rfl (ones_cons rfl (ones_cons rfl (ones_cons hs22.one' (ones_cons rfl (ones_cons rfl ones_nil)))))))))))) rfl rfl rfl ?_
   refine st_gs [[(b23, .cells #[.int .i64 p10.2.1, .int .i64 p10.2.2.1, .int .i64 p10.2.2.2.1, .int .i64 p10.2.2.2.2.1, .int .i64 p10.2.2.2.2.2.1, .bool p10.2.2.2.2.2.2.1, .bool p10.2.2.2.2.2.2.2.1, .int .i64 p10.2.2.2.2.2.2.2.2.1, .int .i64 p10.2.2.2.2.2.2.2.2.2.1, v21, .int .i64 p10.2.2.2.2.2.2.2.2.2.2.2.1, .int .i64 p10.2.2.2.2.2.2.2.2.2.2.2.2] 29 (0, 0))], ga1, ga0, g11] rfl ?_
   refine Z 5 rfl ?_
   refine o_lookR2 (rv := (rK (kP (kI .i64) (kP (kI .i64) (kP (kI .i64) (kP (kI .i64) (kP (kI .i64) (kP kB (kP kB (kP (kI .i64) (kP (kI .i64) (kP (kSl (kP (kI .i64) (kI .i64))) (kP (kI .i64) (kI .i64)))))))))))))) (q0 := (0, 0, 0, 0, 0, false, false, 0, 0, [], 0, 0)) (j := 1) (a := p10.1) rfl rfl rfl z_map54 (keyI Tryz.underlying3) z_zeroV29 ⟨[.int .i64 0, .int .i64 0, .int .i64 0, .int .i64 0, .int .i64 0, .bool false, .bool false, .int .i64 0, .int .i64 0, .slice none 0 0, .int .i64 0, .int .i64 0], ⟨[.int .i64 0], _, rfl, rfl, ⟨[.int .i64 0], _, rfl, rfl, ⟨[.int .i64 0], _, rfl, rfl, ⟨[.int .i64 0], _, rfl, rfl, ⟨[.int .i64 0], _, rfl, rfl, ⟨[.bool false], _, rfl, rfl, ⟨[.bool false], _, rfl, rfl, ⟨[.int .i64 0], _, rfl, rfl, ⟨[.int .i64 0], _, rfl, rfl, ⟨[.slice none 0 0], _, rfl, ⟨_, rfl, Sl.nil⟩, ⟨[.int .i64 0], _, rfl, rfl, rfl⟩⟩⟩⟩⟩⟩⟩⟩⟩⟩⟩, rfl⟩ rfl (ho2.up hl7) rfl rfl (fun v24 hv25 => ?_)
   obtain ⟨_, ⟨_, _, rfl, rfl, ⟨_, _, rfl, rfl, ⟨_, _, rfl, rfl, ⟨_, _, rfl, rfl, ⟨_, _, rfl, rfl, ⟨_, _, rfl, rfl, ⟨_, _, rfl, rfl, ⟨_, _, rfl, rfl, ⟨_, _, rfl, rfl, ⟨_, _, rfl, ⟨v26, rfl, hs27⟩, ⟨_, _, rfl, rfl, rfl⟩⟩⟩⟩⟩⟩⟩⟩⟩⟩⟩, rfl⟩ := hv25
   refine Z 3 rfl ?_
   refine o_alloc rfl rfl rfl z_zero29 (fun b28 => ?_)
   refine o_store (j := 0) (vs := [.int .i64 (((mget a1 p10.1).getD (0, 0, 0, 0, 0, false, false, 0, 0, [], 0, 0)).1), .int .i64 (((mget a1 p10.1).getD (0, 0, 0, 0, 0, false, false, 0, 0, [], 0, 0)).2.1), .int .i64 (((mget a1 p10.1).getD (0, 0, 0, 0, 0, false, false, 0, 0, [], 0, 0)).2.2.1), .int .i64 (((mget a1 p10.1).getD (0, 0, 0, 0, 0, false, false, 0, 0, [], 0, 0)).2.2.2.1), .int .i64 (((mget a1 p10.1).getD (0, 0, 0, 0, 0, false, false, 0, 0, [], 0, 0)).2.2.2.2.1), .bool (((mget a1 p10.1).getD (0, 0, 0, 0, 0, false, false, 0, 0, [], 0, 0)).2.2.2.2.2.1), .bool (((mget a1 p10.1).getD (0, 0, 0, 0, 0, false, false, 0, 0, [], 0, 0)).2.2.2.2.2.2.1), .int .i64 (((mget a1 p10.1).getD (0, 0, 0, 0, 0, false, false, 0, 0, [], 0, 0)).2.2.2.2.2.2.2.1), .int .i64 (((mget a1 p10.1).getD (0, 0, 0, 0, 0, false, false, 0, 0, [], 0, 0)).2.2.2.2.2.2.2.2.1), v26, .int .i64 (((mget a1 p10.1).getD (0, 0, 0, 0, 0, false, false, 0, 0, [], 0, 0)).2.2.2.2.2.2.2.2.2.2.1), .int .i64 (((mget a1 p10.1).getD (0, 0, 0, 0, 0, false, false, 0, 0, [], 0, 0)).2.2.2.2.2.2.2.2.2.2.2)]) (cs' := [.int .i64 (((mget a1 p10.1).getD (0, 0, 0, 0, 0, false, false, 0, 0, [], 0, 0)).1), .int .i64 (((mget a1 p10.1).getD (0, 0, 0, 0, 0, false, false, 0, 0, [], 0, 0)).2.1), .int .i64 (((mget a1 p10.1).getD (0, 0, 0, 0, 0, false, false, 0, 0, [], 0, 0)).2.2.1), .int .i64 (((mget a1 p10.1).getD (0, 0, 0, 0, 0, false, false, 0, 0, [], 0, 0)).2.2.2.1), .int .i64 (((mget a1 p10.1).getD (0, 0, 0, 0, 0, false, false, 0, 0, [], 0, 0)).2.2.2.2.1), .bool (((mget a1 p10.1).getD (0, 0, 0, 0, 0, false, false, 0, 0, [], 0, 0)).2.2.2.2.2.1), .bool (((mget a1 p10.1).getD (0, 0, 0, 0, 0, false, false, 0, 0, [], 0, 0)).2.2.2.2.2.2.1), .int .i64 (((mget a1 p10.1).getD (0, 0, 0, 0, 0, false, false, 0, 0, [], 0, 0)).2.2.2.2.2.2.2.1), .int .i64 (((mget a1 p10.1).getD (0, 0, 0, 0, 0, false, false, 0, 0, [], 0, 0)).2.2.2.2.2.2.2.2.1), v26, .int .i64 (((mget a1 p10.1).getD (0, 0, 0, 0, 0, false, false, 0, 0, [], 0, 0)).2.2.2.2.2.2.2.2.2.2.1), .int .i64 (((mget a1 p10.1).getD (0, 0, 0, 0, 0, false, false, 0, 0, [], 0, 0)).2.2.2.2.2.2.2.2.2.2.2)]) rfl rfl rfl z_size29 rfl rfl rfl (ones_cons rfl (ones_cons rfl (ones_cons rfl (ones_cons rfl (ones_cons rfl (ones_cons rfl (ones_cons rfl (ones_cons rfl (ones_cons rfl (ones_cons hs27.one' (ones_cons rfl (ones_cons rfl ones_nil)))))))))))) rfl rfl rfl ?_
   refine st_gs [[(b28, .cells #[.int .i64 (((mget a1 p10.1).getD (0, 0, 0, 0, 0, false, false, 0, 0, [], 0, 0)).1), .int .i64 (((mget a1 p10.1).getD (0, 0, 0, 0, 0, false, false, 0, 0, [], 0, 0)).2.1), .int .i64 (((mget a1 p10.1).getD (0, 0, 0, 0, 0, false, false, 0, 0, [], 0, 0)).2.2.1), .int .i64 (((mget a1 p10.1).getD (0, 0, 0, 0, 0, false, false, 0, 0, [], 0, 0)).2.2.2.1), .int .i64 (((mget a1 p10.1).getD (0, 0, 0, 0, 0, false, false, 0, 0, [], 0, 0)).2.2.2.2.1), .bool (((mget a1 p10.1).getD (0, 0, 0, 0, 0, false, false, 0, 0, [], 0, 0)).2.2.2.2.2.1), .bool (((mget a1 p10.1).getD (0, 0, 0, 0, 0, false, false, 0, 0, [], 0, 0)).2.2.2.2.2.2.1), .int .i64 (((mget a1 p10.1).getD (0, 0, 0, 0, 0, false, false, 0, 0, [], 0, 0)).2.2.2.2.2.2.2.1), .int .i64 (((mget a1 p10.1).getD (0, 0, 0, 0, 0, false, false, 0, 0, [], 0, 0)).2.2.2.2.2.2.2.2.1), v26, .int .i64 (((mget a1 p10.1).getD (0, 0, 0, 0, 0, false, false, 0, 0, [], 0, 0)).2.2.2.2.2.2.2.2.2.2.1), .int .i64 (((mget a1 p10.1).getD (0, 0, 0, 0, 0, false, false, 0, 0, [], 0, 0)).2.2.2.2.2.2.2.2.2.2.2)] 29 (0, 0))], [(b23, .cells #[.int .i64 p10.2.1, .int .i64 p10.2.2.1, .int .i64 p10.2.2.2.1, .int .i64 p10.2.2.2.2.1, .int .i64 p10.2.2.2.2.2.1, .bool p10.2.2.2.2.2.2.1, .bool p10.2.2.2.2.2.2.2.1, .int .i64 p10.2.2.2.2.2.2.2.2.1, .int .i64 p10.2.2.2.2.2.2.2.2.2.1, v21, .int .i64 p10.2.2.2.2.2.2.2.2.2.2.2.1, .int .i64 p10.2.2.2.2.2.2.2.2.2.2.2.2] 29 (0, 0))], ga1, ga0, g11] rfl ?_
   refine Z 3 rfl ?_
   refine st_cut (fun ρ τ29 gs => ∃ (s29 : Bool), maps_EqualFunc_map_int_fleet_Robot_map_int_fleet_Robot_int_fleet_Robot_fleet_Robot__fleet_same_j3 s7 p10 s29 o7 ∧ τ7.Le τ29 ∧ ESub ρ [(1, va1), (2, .func (.func 33) #[] #[]), (6, .bool false), (17, v4), (37, .bool s29)] ∧ gs = [ga1, g11, ga0]) ?_ (fun hk29 => ?_)
   ·rintro ρ29 τ29 gs29 ⟨s29, h, hl29, hρ, rfl⟩
    refine st_es hρ ?_
    refine st_if rfl h (fun h => ?_) (fun h => ?_)
    ·refine Z 4 rfl ?_
     refine st_ord [2, 0] _ rfl ?_
     replace h := he7 _ h
     obtain rfl := Eq.symm h
     exact st_ret (gs' := [ga0, ga1]) Tryz.func32 rfl (List.Sublist.refl _) (hl7.trans hl29) ⟨rfl, rfl⟩
    ·refine Z 2 rfl ?_
     refine st_ord [0, 1, 0] _ rfl ?_
     exact hn7 _ _ _ _ h ⟨(hl7.trans hl29), _, rfl, rfl, (hm15.up hl29)⟩
   refine Z 3 rfl ?_
   refine o_mif rfl rfl rfl rfl h (fun h => ?_) (fun h => ?_)
   ·refine Z 7 rfl ?_
    refine st_ord [2, 3, 2] _ rfl ?_
    exact hk29 _ _ _ ⟨true, h, (Sto.Le.refl _), rfl, rfl⟩
   ·refine ZZ 3 [1, 0] rfl rfl ?_
    obtain ⟨r30, hr31, h⟩ := h
    refine st_call (foot := []) rfl rfl rfl rfl rfl rfl (callV_fn z_en33 (fleet_same_ok hr31 τ7 hs22 hs27)) ?_
    rintro vτ32 τ32 gsτ32 hl33 ⟨rfl, rfl⟩
    refine Z 3 rfl ?_
    refine st_ord [2, 3, 2] _ rfl ?_
    exact hk29 _ _ _ ⟨(!r30), h, hl33, rfl, rfl⟩
theorem maps_EqualFunc_map_fleet_lot_int_map_fleet_lot_int_fleet_lot_int_int__slices_Equal_int_int_ok {a0 : List ((Int × Int) × List Int)} {a1 : List ((Int × Int) × List Int)} {va0 : Value} {ga0 : Grp} {va1 : Value} {ga1 : Grp} {r : Bool} (h : maps_EqualFunc_map_fleet_lot_int_map_fleet_lot_int_fleet_lot_int_int__slices_Equal_int_int a0 a1 r) (σ : Sto) (ho1 : Mp kPr (rSl (kI .i64)) σ va0 a0 ga0) (ho2 : Mp kPr (rSl (kI .i64)) σ va1 a1 ga1) :
    Does Tryz.prog 34 [va0, va1, .func (.func 35) #[] [].toArray] σ [ga0, ga1] (fun v τ gs => gs = [ga0, ga1] ∧ .bool r = v) := by
 refine call_of Tryz.func34 Tryz.ntmps34 rfl rfl (fun cs fs => ?_)
 refine Z 8 rfl ?_
 refine o_lenM (j := 0) rfl rfl rfl z_map55 rfl ho1 rfl ?_
 refine o_move rfl rfl rfl rfl ?_
 refine o_lenM (j := 1) rfl rfl rfl z_map55 rfl ho2 rfl ?_
 refine Z 2 rfl ?_
 refine st_cond rfl (fun hc => ?_) (fun hc => ?_)
 ·replace h := (if_pos hc).mp h
  refine Z 4 rfl ?_
  obtain rfl := Eq.symm h
  exact st_ret (gs' := [ga0, ga1]) Tryz.func34 rfl (List.Sublist.refl _) (Sto.Le.refl _) ⟨rfl, rfl⟩
 ·replace h := (if_neg (ne_t hc)).mp h
  refine Z 2 rfl ?_
  refine st_cut (fun ρ τ3 gs => ∃ (s3 : Unit), maps_EqualFunc_map_fleet_lot_int_map_fleet_lot_int_fleet_lot_int_int__slices_Equal_int_int_j1 s3 r ∧ σ.Le τ3 ∧ ESub ρ [(6, .bool false)] ∧ gs = [ga0, ga1]) ?_ (fun hk3 => ?_)
  ·rintro ρ3 τ3 gs3 ⟨s3, h, hl3, hρ, rfl⟩
   refine st_es hρ ?_
   refine Z 4 rfl ?_
   obtain rfl := Eq.symm h
   exact st_ret (gs' := [ga0, ga1]) Tryz.func34 rfl (List.Sublist.refl _) hl3 ⟨rfl, rfl⟩
  refine Z 3 rfl ?_
  refine o_range (jm := 0) rfl rfl rfl z_map55 rfl ho1 rfl (fun v4 g5 hm6 => ?_)
  refine st_end ?_
  have hL7 := h
  refine st_ord [2, 1, 0] _ rfl ?_
  refine st_loopD hL7 (fun (s7 : (List ((Int × Int) × List Int))) ρ τ7 gs => σ.Le τ7 ∧ ∃ (g8 : Grp), ESub ρ [(1, va1), (2, .func (.func 35) #[] #[]), (6, .bool false), (17, v4)] ∧ gs = [ga1, ga0, g8] ∧ MIt kPr (rSl (kI .i64)) τ7 v4 va0 s7 g8 ga0) ⟨Sto.Le.refl _, _, rfl, rfl, hm6⟩ ?_
  rintro s7 hD7 ρ7 τ7 gs7 ⟨hl7, g8, hρ, rfl, hm9⟩
  refine st_es hρ ?_
  refine Z 2 rfl ?_
  refine o_next (j := 2) (jm := 1) rfl rfl rfl kPr_inj rfl hm9 rfl rfl (fun hc => ?_) (fun p10 g11 v12 hp13 hv14 hm15 he16 => ?_)
  ·obtain ⟨o7, h, he7, hn7⟩ := hD7 none hc
   replace h := h.1 rfl
   refine Z 5 rfl ?_
   replace h := he7 _ h
   refine st_ord [1, 0] _ rfl ?_
   exact hk3 _ _ _ ⟨(), h, hl7, rfl, rfl⟩
  ·obtain ⟨o7, h, he7, hn7⟩ := hD7 (some p10) hp13
   replace h := h.2 _ rfl
   refine st_gs [ga1, ga0, g11] rfl ?_
   refine Z 8 rfl ?_
   refine o_entry (j := 2) (jm := 1) (p := p10) rfl rfl rfl rfl he16 rfl rfl (fun v17 hv18 => ?_)
   refine Z 2 rfl ?_
   refine o_alloc rfl rfl rfl z_zero71 (fun b19 => ?_)
   refine ZZ 7 [0, 0] rfl rfl ?_
   refine o_lookR2 (rv := (rSl (kI .i64))) (q0 := []) (j := 1) (a := p10.1) rfl rfl rfl z_map55 z_keyP71 z_zeroV24 Sl.nil rfl (ho2.up hl7) rfl rfl (fun v20 hv21 => ?_)
   refine Z 7 rfl ?_
   refine st_cut (fun ρ τ22 gs => ∃ (s22 : Bool), maps_EqualFunc_map_fleet_lot_int_map_fleet_lot_int_fleet_lot_int_int__slices_Equal_int_int_j3 s7 p10 s22 o7 ∧ τ7.Le τ22 ∧ ESub ρ [(1, va1), (2, .func (.func 35) #[] #[]), (6, .bool false), (17, v4), (37, .bool s22)] ∧ gs = [ga1, g11, ga0]) ?_ (fun hk22 => ?_)
   ·rintro ρ22 τ22 gs22 ⟨s22, h, hl22, hρ, rfl⟩
    refine st_es hρ ?_
    refine st_if rfl h (fun h => ?_) (fun h => ?_)
    ·refine Z 4 rfl ?_
     refine st_ord [2, 0] _ rfl ?_
     replace h := he7 _ h
     obtain rfl := Eq.symm h
     exact st_ret (gs' := [ga0, ga1]) Tryz.func34 rfl (List.Sublist.refl _) (hl7.trans hl22) ⟨rfl, rfl⟩
    ·refine Z 2 rfl ?_
     refine st_ord [0, 1, 0] _ rfl ?_
     exact hn7 _ _ _ _ h ⟨(hl7.trans hl22), _, rfl, rfl, (hm15.up hl22)⟩
   refine Z 3 rfl ?_
   refine o_mif rfl rfl rfl rfl h (fun h => ?_) (fun h => ?_)
   ·refine Z 7 rfl ?_
    refine st_ord [1, 2, 1] _ rfl ?_
    exact hk22 _ _ _ ⟨true, h, (Sto.Le.refl _), rfl, rfl⟩
   ·refine Z 3 rfl ?_
    obtain ⟨r23, hr24, h⟩ := h
    refine st_call (foot := []) rfl rfl rfl rfl rfl rfl (callV_fn z_en35 (slices_Equal_int_int_ok hr24 τ7 hv18 hv21)) ?_
    rintro vτ25 τ25 gsτ25 hl26 ⟨rfl, rfl⟩
    refine Z 3 rfl ?_
    refine st_ord [1, 2, 1] _ rfl ?_
    exact hk22 _ _ _ ⟨(!r23), h, hl26, rfl, rfl⟩
theorem fleet_Same_nil_ok {a1 : List (Int × (Int × Int × Int × Int × Int × Bool × Bool × Int × Int × List (Int × Int) × Int × Int)) × List ((Int × Int) × List Int)} {ba1 : Nat} {v1 : Value} {g2 : Grp} {v3 : Value} {g4 : Grp} {r : Bool} (h : fleet_Same_nil a1 r) (σ : Sto) (ho5 : Mp (Value.int .i64) (rK (kP (kI .i64) (kP (kI .i64) (kP (kI .i64) (kP (kI .i64) (kP (kI .i64) (kP kB (kP kB (kP (kI .i64) (kP (kI .i64) (kP (kSl (kP (kI .i64) (kI .i64))) (kP (kI .i64) (kI .i64))))))))))))) σ v1 a1.1 g2) (ho6 : Mp kPr (rSl (kI .i64)) σ v3 a1.2 g4) :
    Does Tryz.prog 16 [.pointer none, .pointer (some ⟨ba1, 0, none⟩)] σ [[(ba1, .cells [v1, v3].toArray 57 (0, 0))], g2, g4] (fun v τ gs => gs = [[(ba1, .cells [v1, v3].toArray 57 (0, 0))], g2, g4] ∧ .bool r = v) := by
 refine call_of Tryz.func16 Tryz.ntmps16 rfl rfl (fun cs fs => ?_)
 refine Z 12 rfl ?_
 obtain ⟨r7, hr8, h⟩ := h
 refine st_call (foot := []) rfl rfl rfl rfl rfl rfl (callV_fn z_en17 (fleet_New_ok hr8 σ)) ?_
 rintro vτ9 τ9 gsτ9 hl10 ⟨b11, v12, g13, v14, g15, rfl, rfl, ho16, ho17⟩
 refine Z 11 rfl ?_
 obtain ⟨r18, hr19, r23, hr24, h⟩ := h
 let cc22 : Prop := r18 = true
 refine st_draw 20 (dl [.v (.pointer (some ⟨b11, 0, none⟩)), .v (.pointer (some ⟨b11, 0, none⟩)), .v (.pointer (some ⟨b11, 0, none⟩)), .v (v12), .v (.pointer (some ⟨ba1, 0, none⟩)), .v (.pointer (some ⟨ba1, 0, none⟩)), .v (.pointer (some ⟨ba1, 0, none⟩)), .v (v1), .v (.bool r18), .v (.bool r18), .g cc22 (.pointer (some ⟨b11, 0, none⟩)), .g cc22 (.pointer (some ⟨b11, 0, none⟩)), .g cc22 (.pointer (some ⟨b11, 1, none⟩)), .g cc22 (v14), .g cc22 (.pointer (some ⟨ba1, 0, none⟩)), .g cc22 (.pointer (some ⟨ba1, 0, none⟩)), .g cc22 (.pointer (some ⟨ba1, 1, none⟩)), .g cc22 (v3), .g cc22 (.bool r23), .v (.bool (r18 && r23))]) (fun _ _ => []) z_mix rfl (dl_mono trivial) (allB_cons (allB_cons (allB_cons (allB_cons (allB_cons (allB_cons (allB_cons (allB_cons (allB_cons (allB_cons (allB_cons (allB_cons (allB_cons (allB_cons (allB_cons (allB_cons (allB_cons (allB_cons (allB_cons (allB_cons allB_nil (p1 dA)) (p1 dA)) (p1 dA)) ?_) (p1 dA)) (p1 dA)) (p1 dA)) ?_) ?_) (p1 dA)) (p1 (dG []))) (p1 (dG [10]))) (p1 (dG [11]))) ?_) (p1 (dG []))) (p1 (dG [14]))) (p1 (dG [15]))) ?_) ?_) (p1 dK)) ?_
 ·intro ρ' τ pool rs hl hd hout hk
  obtain ⟨_, e2, rfl⟩ := hd 2 rfl
  refine o_load (j := 0) (v := v12) rfl rfl rfl z_sc54 e2 rfl rfl ?_
  exact st_addNil (hk _ _ (Sto.Le.refl _) rfl)
 ·intro ρ' τ pool rs hl hd hout hk
  obtain ⟨_, e6, rfl⟩ := hd 6 rfl
  refine o_load (j := 3) (v := v1) rfl rfl rfl z_sc54 e6 rfl rfl ?_
  exact st_addNil (hk _ _ (Sto.Le.refl _) rfl)
 ·intro ρ' τ pool rs hl hd hout hk
  obtain ⟨_, e3, rfl⟩ := hd 3 rfl
  obtain ⟨_, e7, rfl⟩ := hd 7 rfl
  refine st_ord [1, 3, 0, 0, 0, 0, 0] _ rfl ?_
  refine st_call (foot := [g13, g2]) rfl rfl rfl rfl (evs_cons e3 (evs_cons e7 (evs_cons rfl rfl))) rfl (callV_fn z_en32 (maps_EqualFunc_map_int_fleet_Robot_map_int_fleet_Robot_int_fleet_Robot_fleet_Robot__fleet_same_ok hr19 τ (ho16.up hl) (ho5.up (hl10.trans hl)))) ?_
  rintro vτ20 τ20 gsτ20 hl21 ⟨rfl, rfl⟩
  refine st_ord [2, 0, 1, 1, 0, 0, 0] _ rfl ?_
  exact st_addNil (hk _ _ hl21 rfl)
 ·intro ρ' τ pool rs hl hd hout hk
  obtain ⟨_, e9, rfl⟩ := hd 9 rfl
  obtain ⟨w12, e12, t12⟩ := hd 12 rfl
  by_cases hG : r18 = true
  ·have hC := hG
   obtain ⟨rfl⟩ := t12.1 hC
   refine o_load (j := 0) (v := v14) rfl (wants_of rfl e9 hG) rfl z_sc55 e12 rfl rfl ?_
   exact st_addNil (hk _ _ (Sto.Le.refl _) ⟨fun _ => rfl, fun hn => absurd hC hn⟩)
  ·refine st_pass rfl rfl rfl e9 (beq_off hG) rfl ?_
   exact st_addNil (hk _ _ (Sto.Le.refl _) ⟨fun h => absurd h hG, fun _ => rfl⟩)
 ·intro ρ' τ pool rs hl hd hout hk
  obtain ⟨_, e9, rfl⟩ := hd 9 rfl
  obtain ⟨w16, e16, t16⟩ := hd 16 rfl
  by_cases hG : r18 = true
  ·have hC := hG
   obtain ⟨rfl⟩ := t16.1 hC
   refine o_load (j := 3) (v := v3) rfl (wants_of rfl e9 hG) rfl z_sc55 e16 rfl rfl ?_
   exact st_addNil (hk _ _ (Sto.Le.refl _) ⟨fun _ => rfl, fun hn => absurd hC hn⟩)
  ·refine st_pass rfl rfl rfl e9 (beq_off hG) rfl ?_
   exact st_addNil (hk _ _ (Sto.Le.refl _) ⟨fun h => absurd h hG, fun _ => rfl⟩)
 ·intro ρ' τ pool rs hl hd hout hk
  obtain ⟨_, e9, rfl⟩ := hd 9 rfl
  obtain ⟨w13, e13, t13⟩ := hd 13 rfl
  obtain ⟨w17, e17, t17⟩ := hd 17 rfl
  by_cases hG : r18 = true
  ·have hC := hG
   replace hr24 := hr24 hC
   obtain ⟨rfl⟩ := t13.1 hC
   obtain ⟨rfl⟩ := t17.1 hC
   refine st_ord [2, 4, 0, 0, 0, 0, 0] _ rfl ?_
   refine st_call (foot := [g15, g4]) rfl (wants_of rfl e9 hG) rfl rfl (evs_cons e13 (evs_cons e17 (evs_cons rfl rfl))) rfl (callV_fn z_en34 (maps_EqualFunc_map_fleet_lot_int_map_fleet_lot_int_fleet_lot_int_int__slices_Equal_int_int_ok hr24 τ (ho17.up hl) (ho6.up (hl10.trans hl)))) ?_
   rintro vτ25 τ25 gsτ25 hl26 ⟨rfl, rfl⟩
   refine st_ord [2, 2, 0, 1, 1, 0, 0] _ rfl ?_
   exact st_addNil (hk _ _ hl26 ⟨fun _ => rfl, fun hn => absurd hC hn⟩)
  ·refine st_pass rfl rfl rfl e9 (beq_off hG) rfl ?_
   exact st_addNil (hk _ _ (Sto.Le.refl _) ⟨fun h => absurd h hG, fun _ => rfl⟩)
 intro ρ' τ27 vals hl27 hv hout
 refine st_ord [0, 0, 0, 0, 0, 0] _ rfl ?_
 refine st_env (ρ' := [(30, .bool (r18 && r23)), (4, .bool false)]) ⟨(lv1 hv 19 rfl rfl), (hout 4 rfl).trans rfl, trivial⟩ ?_
 refine Z 2 rfl ?_
 refine st_ord [3, 3, 3] _ rfl ?_
 obtain rfl := Eq.symm h
 exact st_ret (gs' := [[(ba1, .cells #[v1, v3] 57 (0, 0))], g2, g4]) Tryz.func16 rfl (List.Sublist.refl _) (hl10.trans hl27) ⟨rfl, rfl⟩
theorem law30_FleetNil_ok {a0 : Int × List Int × List (Int × Int) × List Int × ByteArray × ByteArray} {a1 : Int} {v1 : Value} {v2 : Value} {r : Bool} (h : law30_FleetNil a0 a1 r) (σ : Sto) (hs3 : Sl (kP (kI .i64) (kI .i64)) σ v1 a0.2.2.1) (hs4 : Sl (kI .i64) σ v2 a0.2.2.2.1) (hT : Tab Tryz.prog σ) :
    Does Tryz.prog 3 [.agg [.int .i64 a0.1, .int .i64 (a0.2.1.getD 0 0), .int .i64 (a0.2.1.getD 1 0), .int .i64 (a0.2.1.getD 2 0), .int .i64 (a0.2.1.getD 3 0), .int .i64 (a0.2.1.getD 4 0), .int .i64 (a0.2.1.getD 5 0), v1, v2, .string a0.2.2.2.2.1, .string a0.2.2.2.2.2].toArray, .int .i64 a1] σ [] (fun v τ gs => gs = [] ∧ .bool r = v) := by
 refine call_of Tryz.func3 Tryz.ntmps3 rfl rfl (fun cs fs => ?_)
 refine Z 2 rfl ?_
 refine o_box (cs := [.int .i64 a0.1, .int .i64 (a0.2.1.getD 0 0), .int .i64 (a0.2.1.getD 1 0), .int .i64 (a0.2.1.getD 2 0), .int .i64 (a0.2.1.getD 3 0), .int .i64 (a0.2.1.getD 4 0), .int .i64 (a0.2.1.getD 5 0), v1, v2, .string a0.2.2.2.2.1, .string a0.2.2.2.2.2]) rfl rfl rfl rfl rfl (fun b5 => ?_)
 refine Z 10 rfl ?_
 obtain ⟨r6, hr7, h⟩ := h
 refine st_call (foot := []) rfl rfl rfl rfl rfl rfl (callV_fn z_en4 (fleet_Fleet_Robot_nil_ok hr7 σ)) ?_
 rintro vτ8 τ8 gsτ8 hl9 ⟨v10, rfl, rfl, hs11⟩
 refine Z 3 rfl ?_
 refine o_alloc rfl rfl rfl z_zero29 (fun b12 => ?_)
 refine o_store (j := 0) (vs := [.int .i64 r6.1.1, .int .i64 r6.1.2.1, .int .i64 r6.1.2.2.1, .int .i64 r6.1.2.2.2.1, .int .i64 r6.1.2.2.2.2.1, .bool r6.1.2.2.2.2.2.1, .bool r6.1.2.2.2.2.2.2.1, .int .i64 r6.1.2.2.2.2.2.2.2.1, .int .i64 r6.1.2.2.2.2.2.2.2.2.1, v10, .int .i64 r6.1.2.2.2.2.2.2.2.2.2.2.1, .int .i64 r6.1.2.2.2.2.2.2.2.2.2.2.2]) (cs' := [.int .i64 r6.1.1, .int .i64 r6.1.2.1, .int .i64 r6.1.2.2.1, .int .i64 r6.1.2.2.2.1, .int .i64 r6.1.2.2.2.2.1, .bool r6.1.2.2.2.2.2.1, .bool r6.1.2.2.2.2.2.2.1, .int .i64 r6.1.2.2.2.2.2.2.2.1, .int .i64 r6.1.2.2.2.2.2.2.2.2.1, v10, .int .i64 r6.1.2.2.2.2.2.2.2.2.2.2.1, .int .i64 r6.1.2.2.2.2.2.2.2.2.2.2.2]) rfl rfl rfl z_size29 rfl rfl rfl (ones_cons rfl (ones_cons rfl (ones_cons rfl (ones_cons rfl (ones_cons rfl (ones_cons rfl (ones_cons rfl (ones_cons rfl (ones_cons rfl (ones_cons hs11.one' (ones_cons rfl (ones_cons rfl ones_nil)))))))))))) rfl rfl rfl ?_
 refine st_gs [[(b12, .cells #[.int .i64 r6.1.1, .int .i64 r6.1.2.1, .int .i64 r6.1.2.2.1, .int .i64 r6.1.2.2.2.1, .int .i64 r6.1.2.2.2.2.1, .bool r6.1.2.2.2.2.2.1, .bool r6.1.2.2.2.2.2.2.1, .int .i64 r6.1.2.2.2.2.2.2.2.1, .int .i64 r6.1.2.2.2.2.2.2.2.2.1, v10, .int .i64 r6.1.2.2.2.2.2.2.2.2.2.2.1, .int .i64 r6.1.2.2.2.2.2.2.2.2.2.2.2] 29 (0, 0))], [(b5, .cells #[.int .i64 a0.1, .int .i64 (a0.2.1.getD 0 0), .int .i64 (a0.2.1.getD 1 0), .int .i64 (a0.2.1.getD 2 0), .int .i64 (a0.2.1.getD 3 0), .int .i64 (a0.2.1.getD 4 0), .int .i64 (a0.2.1.getD 5 0), v1, v2, .string a0.2.2.2.2.1, .string a0.2.2.2.2.2] 26 (0, 0))]] rfl ?_
 refine Z 4 rfl ?_
 refine o_alloc rfl rfl rfl z_zero3 (fun b13 => ?_)
 refine ZZ 5 [0] rfl rfl ?_
 obtain ⟨r14, hr15, h⟩ := h
 refine st_call (foot := []) rfl rfl rfl rfl rfl rfl (callV_fn z_en5 (fleet_Fleet_Robots_nil_ok hr15 τ8)) ?_
 rintro vτ16 τ16 gsτ16 hl17 ⟨f18, q19, rfl, rfl, hit20⟩
 refine Z 16 rfl ?_
 obtain ⟨t21, w21, hR21, hA21⟩ := h
 refine st_env (ρ' := [(1, .int .i64 a1), (2, .pointer (some ⟨b5, 0, none⟩)), (4, .bool false), (5, .pointer none), (6, .pointer (some ⟨b12, 0, none⟩)), (7, .bool r6.2), (8, .pointer (some ⟨b13, 0, none⟩)), (20, .func (.func f18) #[] q19)]) ⟨rfl, rfl, rfl, rfl, rfl, rfl, rfl, rfl, trivial⟩ ?_
 refine st_ord [2, 1, 0] _ rfl ?_
 refine st_addNil ?_
 refine st_range (B := law30_FleetNil_l1) (s0 := 0) ranges_fctx rfl hit20 (Sto.Le.refl _) hR21 rfl (fun _ _ _ h => by cases h; rfl) (fun (s21 : Int) τ21 gs => τ16.Le τ21 ∧ gs = [[(b5, .cells #[.int .i64 a0.1, .int .i64 (a0.2.1.getD 0 0), .int .i64 (a0.2.1.getD 1 0), .int .i64 (a0.2.1.getD 2 0), .int .i64 (a0.2.1.getD 3 0), .int .i64 (a0.2.1.getD 4 0), .int .i64 (a0.2.1.getD 5 0), v1, v2, .string a0.2.2.2.2.1, .string a0.2.2.2.2.2] 26 (0, 0))], [(b12, .cells #[.int .i64 r6.1.1, .int .i64 r6.1.2.1, .int .i64 r6.1.2.2.1, .int .i64 r6.1.2.2.2.1, .int .i64 r6.1.2.2.2.2.1, .bool r6.1.2.2.2.2.2.1, .bool r6.1.2.2.2.2.2.2.1, .int .i64 r6.1.2.2.2.2.2.2.2.1, .int .i64 r6.1.2.2.2.2.2.2.2.2.1, v10, .int .i64 r6.1.2.2.2.2.2.2.2.2.2.2.1, .int .i64 r6.1.2.2.2.2.2.2.2.2.2.2.2] 29 (0, 0))], [(b13, .cells #[.int .i64 s21] 3 (0, 0))]]) (fun _ _ _ _ => False) (fun _ _ _ _ hl ⟨hb, hg⟩ => ⟨hb.trans hl, hg⟩) (fun _ _ _ _ _ _ h => h.elim) ⟨Sto.Le.refl _, rfl⟩ ?_ ?_ ?_
 ·rintro x21 s21 o21 τ21 gs21 vx21 hl21 h rfl ⟨hb21, rfl⟩ l21 rc21 caller21 cs21 fs21
  refine st_skip ?_
  refine st_begin ?_
  refine ZZ 7 [2, 2] rfl rfl ?_
  exact st_rend (List.Sublist.refl _) (Sto.Le.refl _) ⟨_, h, hl21, rfl⟩
 ·rintro p22 τ23 gs21 f21 ht hl24 ⟨hb, rfl⟩ rfl
  subst ht
  replace h := hA21
  refine st_ord [1, 1, 1] _ rfl ?_
  refine Z 2 rfl ?_
  refine st_cut (fun ρ τ25 gs => ∃ (s25 : Bool), law30_FleetNil_j2 s25 r ∧ τ23.Le τ25 ∧ ESub ρ [(4, .bool s25)] ∧ gs = []) ?_ (fun hk25 => ?_)
  ·rintro ρ25 τ25 gs25 ⟨s25, h, hl25, hρ, rfl⟩
   refine st_es hρ ?_
   obtain rfl := Eq.symm h
   exact st_ret (gs' := []) Tryz.func3 rfl (List.Sublist.refl _) (((hl9.trans hl17).trans hl24).trans hl25) ⟨rfl, rfl⟩
  refine st_region ?_
  obtain ⟨r26, hr27, h⟩ := h
  refine st_call (foot := []) rfl rfl rfl rfl rfl rfl (callV_fn z_en6 (law30_known_ok hr27 τ23)) ?_
  rintro vτ28 τ28 gsτ28 hl29 ⟨rfl, rfl⟩
  refine o_mif rfl rfl rfl rfl h (fun h => ?_) (fun h => ?_)
  ·refine ZZ 2 [0] rfl rfl ?_
   obtain ⟨r30, hr31, h⟩ := h
   refine st_call (foot := []) rfl rfl rfl rfl rfl rfl (callV_fn z_en8 (law17_Cut_ok hr31 τ28 (hs3.up (((hl9.trans hl17).trans hl24).trans hl29)) (hs4.up (((hl9.trans hl17).trans hl24).trans hl29)))) ?_
   rintro vτ32 τ32 gsτ32 hl33 ⟨v34, v35, rfl, rfl, hs36, hs37⟩
   refine o_lit (dk := (kP (kI .i64) (kP (kA .i64 6) (kP (kSl (kP (kI .i64) (kI .i64))) (kP (kSl (kI .i64)) (kP kS kS)))))) (xs := [r30]) (ps := [(0, [.int .i64 r30.1, .int .i64 (r30.2.1.getD 0 0), .int .i64 (r30.2.1.getD 1 0), .int .i64 (r30.2.1.getD 2 0), .int .i64 (r30.2.1.getD 3 0), .int .i64 (r30.2.1.getD 4 0), .int .i64 (r30.2.1.getD 5 0), v34, v35, .string r30.2.2.2.2.1, .string r30.2.2.2.2.2])]) (cs := [.int .i64 r30.1, .int .i64 (r30.2.1.getD 0 0), .int .i64 (r30.2.1.getD 1 0), .int .i64 (r30.2.1.getD 2 0), .int .i64 (r30.2.1.getD 3 0), .int .i64 (r30.2.1.getD 4 0), .int .i64 (r30.2.1.getD 5 0), v34, v35, .string r30.2.2.2.2.1, .string r30.2.2.2.2.2]) rfl rfl rfl z_slT64 z_zero26 ⟨rfl, ⟨_, rfl, rfl⟩, trivial⟩ rfl rfl rfl rfl (Kd.Many.cons (d := (kP (kI .i64) (kP (kA .i64 6) (kP (kSl (kP (kI .i64) (kI .i64))) (kP (kSl (kI .i64)) (kP kS kS)))))) (x := r30) (a := [.int .i64 r30.1, .int .i64 (r30.2.1.getD 0 0), .int .i64 (r30.2.1.getD 1 0), .int .i64 (r30.2.1.getD 2 0), .int .i64 (r30.2.1.getD 3 0), .int .i64 (r30.2.1.getD 4 0), .int .i64 (r30.2.1.getD 5 0), v34, v35, .string r30.2.2.2.2.1, .string r30.2.2.2.2.2]) ⟨[.int .i64 r30.1], _, rfl, rfl, ⟨[.int .i64 (r30.2.1.getD 0 0), .int .i64 (r30.2.1.getD 1 0), .int .i64 (r30.2.1.getD 2 0), .int .i64 (r30.2.1.getD 3 0), .int .i64 (r30.2.1.getD 4 0), .int .i64 (r30.2.1.getD 5 0)], _, rfl, rfl, ⟨[v34], _, rfl, ⟨_, rfl, hs36⟩, ⟨[v35], _, rfl, ⟨_, rfl, hs37⟩, ⟨[.string r30.2.2.2.2.1], _, rfl, rfl, rfl⟩⟩⟩⟩⟩ Kd.Many.nil) (fun v38 g39 ho40 => ?_)
   obtain ⟨r45, hr46, h⟩ := h
   refine st_freeze (fun τ41 hl42 hg43 => ?_)
   have hs44 := ho40.freeze hl42 hg43
   refine st_call (foot := []) rfl rfl rfl rfl rfl rfl (callV_fn z_en7 (fleet_Fleet_Apply_nil_ok hr46 τ41 hs44)) ?_
   rintro vτ47 τ47 gsτ47 hl48 ⟨rfl, rfl⟩
   refine Z 2 rfl ?_
   refine o_mif rfl rfl rfl rfl h (fun h => ?_) (fun h => ?_)
   ·refine ZZ 2 [1] rfl rfl ?_
    obtain ⟨r49, hr50, h⟩ := h
    refine st_call (foot := []) rfl rfl rfl rfl rfl rfl (callV_fn z_en9 (law30_robot_ok hr50 τ47 (hs11.up (((((hl17.trans hl24).trans hl29).trans hl33).trans hl42).trans hl48)) Sl.nil)) ?_
    rintro vτ51 τ51 gsτ51 hl52 ⟨rfl, rfl⟩
    refine o_pick rfl rfl rfl rfl rfl ?_
    refine o_mif rfl rfl rfl rfl h (fun h => ?_) (fun h => ?_)
    ·refine Z 3 rfl ?_
     refine o_mif rfl rfl rfl rfl h (fun h => ?_) (fun h => ?_)
     ·refine ZZ 3 [2] rfl rfl ?_
      refine o_mif rfl rfl rfl rfl h (fun h => ?_) (fun h => ?_)
      ·refine Z 3 rfl ?_
       obtain ⟨r53, hr54, h⟩ := h
       refine st_call (foot := []) rfl rfl rfl rfl rfl rfl (callV_fn z_en10 (fleet_Fleet_Cells_nil_ok hr54 τ51)) ?_
       rintro vτ55 τ55 gsτ55 hl56 ⟨v57, rfl, rfl, hs58, hF59⟩
       refine o_lenI rfl rfl rfl z_slT24 rfl hs58 ?_
       refine Z 2 rfl ?_
       refine o_mif rfl rfl rfl rfl h (fun h => ?_) (fun h => ?_)
       ·refine ZZ 2 [] rfl rfl ?_
        obtain ⟨r60, hr61, h⟩ := h
        refine st_call (foot := []) rfl rfl rfl rfl rfl rfl (callV_fn z_en11 (fleet_Fleet_Owners_nil_ok hr61 τ55)) ?_
        rintro vτ62 τ62 gsτ62 hl63 ⟨v64, rfl, rfl, hs65, hF66⟩
        refine o_lenI rfl rfl rfl z_slT24 rfl hs65 ?_
        refine Z 2 rfl ?_
        refine o_mif rfl rfl rfl rfl h (fun h => ?_) (fun h => ?_)
        ·refine o_move rfl rfl rfl rfl ?_
         obtain ⟨r67, hr68, h⟩ := h
         refine st_call (foot := []) rfl rfl rfl rfl rfl rfl (callV_fn z_en12 (fleet_Fleet_Contested_nil_ok hr68 τ62)) ?_
         rintro vτ69 τ69 gsτ69 hl70 ⟨v71, rfl, rfl, hs72, hF73⟩
         refine o_lenI rfl rfl rfl z_slT46 rfl hs72 ?_
         refine Z 2 rfl ?_
         refine o_mif rfl rfl rfl rfl h (fun h => ?_) (fun h => ?_)
         ·refine Z 3 rfl ?_
          obtain ⟨r74, hr75, h⟩ := h
          refine st_call (foot := []) rfl rfl rfl rfl rfl rfl (callV_fn z_en13 (fleet_Fleet_Release_nil_ok hr75 τ69)) ?_
          rintro vτ76 τ76 gsτ76 hl77 ⟨rfl, rfl⟩
          refine Z 2 rfl ?_
          refine o_mif rfl rfl rfl rfl h (fun h => ?_) (fun h => ?_)
          ·refine o_move rfl rfl rfl rfl ?_
           obtain ⟨r78, hr79, h⟩ := h
           refine st_call (foot := []) rfl rfl rfl rfl rfl rfl (callV_fn z_en14 (fleet_Fleet_Lines_nil_ok hr79 τ76 (hT.up (((((((((((hl9.trans hl17).trans hl24).trans hl29).trans hl33).trans hl42).trans hl48).trans hl52).trans hl56).trans hl63).trans hl70).trans hl77)))) ?_
           rintro vτ80 τ80 gsτ80 hl81 ⟨v82, rfl, rfl, hs83⟩
           refine o_lenI rfl rfl rfl z_slT49 rfl hs83 ?_
           refine Z 2 rfl ?_
           refine o_mif rfl rfl rfl rfl h (fun h => ?_) (fun h => ?_)
           ·refine o_move rfl rfl rfl rfl ?_
            obtain ⟨r84, hr85, h⟩ := h
            refine st_call (foot := []) rfl rfl rfl rfl rfl rfl (callV_fn z_en15 (fleet_Fleet_Copy_nil_ok hr85 τ80)) ?_
            rintro vτ86 τ86 gsτ86 hl87 ⟨rfl, rfl⟩
            refine Z 3 rfl ?_
            obtain ⟨r88, hr89, h⟩ := h
            refine st_call (foot := []) rfl rfl rfl rfl rfl rfl (callV_fn z_en17 (fleet_New_ok hr89 τ86)) ?_
            rintro vτ90 τ90 gsτ90 hl91 ⟨b92, v93, g94, v95, g96, rfl, rfl, ho97, ho98⟩
            obtain ⟨r99, hr100, h⟩ := h
            refine st_call (foot := [[(b92, .cells #[v93, v95] 57 (0, 0))], g94, g96]) rfl rfl rfl rfl rfl rfl (callV_fn z_en16 (fleet_Same_nil_ok hr100 τ90 ho97 ho98)) ?_
            rintro vτ101 τ101 gsτ101 hl102 ⟨rfl, rfl⟩
            refine Z 3 rfl ?_
            refine st_ord [] _ rfl ?_
            exact hk25 _ _ _ ⟨r99, h, ((((((((((((hl29.trans hl33).trans hl42).trans hl48).trans hl52).trans hl56).trans hl63).trans hl70).trans hl77).trans hl81).trans hl87).trans hl91).trans hl102), rfl, rfl⟩
           ·refine Z 10 rfl ?_
            refine st_ord [] _ rfl ?_
            exact hk25 _ _ _ ⟨false, h, (((((((((hl29.trans hl33).trans hl42).trans hl48).trans hl52).trans hl56).trans hl63).trans hl70).trans hl77).trans hl81), rfl, rfl⟩
          ·refine Z 16 rfl ?_
           refine st_ord [] _ rfl ?_
           exact hk25 _ _ _ ⟨false, h, ((((((((hl29.trans hl33).trans hl42).trans hl48).trans hl52).trans hl56).trans hl63).trans hl70).trans hl77), rfl, rfl⟩
         ·refine Z 23 rfl ?_
          refine st_ord [] _ rfl ?_
          exact hk25 _ _ _ ⟨false, h, (((((((hl29.trans hl33).trans hl42).trans hl48).trans hl52).trans hl56).trans hl63).trans hl70), rfl, rfl⟩
        ·refine Z 29 rfl ?_
         refine st_ord [] _ rfl ?_
         exact hk25 _ _ _ ⟨false, h, ((((((hl29.trans hl33).trans hl42).trans hl48).trans hl52).trans hl56).trans hl63), rfl, rfl⟩
       ·refine Z 36 rfl ?_
        refine st_ord [] _ rfl ?_
        exact hk25 _ _ _ ⟨false, h, (((((hl29.trans hl33).trans hl42).trans hl48).trans hl52).trans hl56), rfl, rfl⟩
      ·refine Z 44 rfl ?_
       refine st_ord [] _ rfl ?_
       exact hk25 _ _ _ ⟨false, h, ((((hl29.trans hl33).trans hl42).trans hl48).trans hl52), rfl, rfl⟩
     ·refine Z 48 rfl ?_
      refine st_ord [] _ rfl ?_
      exact hk25 _ _ _ ⟨false, h, ((((hl29.trans hl33).trans hl42).trans hl48).trans hl52), rfl, rfl⟩
    ·refine Z 52 rfl ?_
     refine st_ord [] _ rfl ?_
     exact hk25 _ _ _ ⟨false, h, ((((hl29.trans hl33).trans hl42).trans hl48).trans hl52), rfl, rfl⟩
   ·refine Z 57 rfl ?_
    refine st_ord [] _ rfl ?_
    exact hk25 _ _ _ ⟨false, h, (((hl29.trans hl33).trans hl42).trans hl48), rfl, rfl⟩
  ·refine Z 65 rfl ?_
   refine st_ord [] _ rfl ?_
   exact hk25 _ _ _ ⟨false, h, hl29, rfl, rfl⟩
 ·exact fun _ _ _ _ _ _ _ h => h.elim
end Go.Rel
