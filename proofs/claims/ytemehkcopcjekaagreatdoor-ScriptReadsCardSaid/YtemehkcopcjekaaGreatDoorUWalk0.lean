import Derived.Test.YtemehkcopcjekaaGreatDoorURel
import Derived.Test.YtemehkcopcjekaaGreatDoorUFacts
import Derived.Test.YtemehkcopcjekaaGreatDoorEngO
/-! The walks. -/
set_option linter.unusedVariables false
set_option linter.unusedSimpArgs false
set_option maxRecDepth 4000
set_option maxHeartbeats 4000000
namespace Go.Rel
open Go Go.Eng Go.Proofs Go.Proofs.Tryz
open Go.IntKind (i64 u8 u16 u32 u64)
theorem unicode_utf8_DecodeRuneInString_ok {a0 : ByteArray} {r : Int × Int} (h : unicode_utf8_DecodeRuneInString a0 r) (σ : Sto) :
    Does prog 139 [.string a0] σ [] (fun v τ gs => gs = [] ∧ .tuple [.int .i32 r.1, .I r.2].toArray = v) := by
 obtain ⟨hf, _⟩ := h
 exact hf.elim
theorem strings_Index_ok {a0 a1 : ByteArray} {r : Int} (h : strings_Index a0 a1 r) (σ : Sto) :
    Does prog 140 [.string a0, .string a1] σ [] (fun v τ gs => gs = [] ∧ .I r = v) := by
 obtain ⟨c, hc, rfl⟩ := h
 exact index_does Tryz.strings_Index_one hc
theorem strings_splitSeq_1_ok {c0 : ByteArray} {c2 : Int} {c1 : ByteArray} {bc0 bc1 bc2 : Nat} {σ0 : Sto} (hc0_0 : Cel σ0 ⟨bc0, 0, none⟩ (.string c0)) (hc2_0 : Cel σ0 ⟨bc2, 0, none⟩ (.I c2)) :
    IterV prog (fun _ x vx => vx = [.string x]) (.func (.func 138) #[] [.Pb bc0, .Pb bc1, .Pb bc2].toArray) σ0 [(bc1, .cells [.string c1].toArray 9 (0, 0))] (fun (oo : ByteArray) υ f => f = [(bc1, .cells [.string oo].toArray 9 (0, 0))]) (strings_splitSeq_1 c0 c2 c1) := by
 intro S Y I y hyc hyo hIm hY s s' o hR σ g hle hIg
 obtain ⟨r, hr0⟩ : ∃ r, r = (s', o) := ⟨_, rfl⟩
 rw [← hr0] at hR
 have h := hR
 refine callV_of (caps := [.Pb bc0, .Pb bc1, .Pb bc2]) z_en138 ?_
 refine CO func138 ntmps138 rfl (fun cs fs => ?_)
 refine st_perm (gs' := [g, [(bc1, .cells #[.string c1] 9 (0, 0))]]) (by simp) (Z 3 ?_)
 refine o_loadI (v := .string c0) rfl rfl rfl z_sc9 rfl (Cel.up hc0_0 hle) (Z 3 ?_)
 refine I2 h (fun h => ?_) (fun h => ?_)
 ·refine st_seq ?_
  refine st_cut (fun ρ τ1 gs => ∃ (s1 : S × ByteArray) (g2 : Grp), strings_splitSeq_1_j1 S Y s1 r ∧ σ.Le τ1 ∧ ESub ρ [(0, y), (1, .Pb bc0), (2, .Pb bc1), (3, .Pb bc2)] ∧ gs = [[(bc1, .cells #[.string s1.2] 9 (0, 0))], g2] ∧ I s1.1 τ1 g2) ?_ (fun hk1 => ?_)
  ·rintro ρ1 τ1 gs1 ⟨s1, g2, h, hl1, hρ, rfl, hI3⟩
   refine st_es hρ ?_
   refine st_ord [1, 0] _ rfl ?_
   obtain rfl := Eq.symm h
   cases hr0
   exact st_ret (gs' := [g2, [(bc1, .cells #[.string s1.2] 9 (0, 0))]]) func138 rfl (by simp) hl1 ⟨g2, _, rfl, hI3, rfl⟩
  obtain ⟨e4, hL4, hA4⟩ := h
  refine st_ord [1, 0] _ rfl ?_
  refine st_loop hL4 (fun (s4 : S × ByteArray) ρ τ4 gs => σ.Le τ4 ∧ ∃ (g5 : Grp), ESub ρ [(0, y), (1, .Pb bc0), (2, .Pb bc1), (3, .Pb bc2)] ∧ gs = [[(bc1, .cells #[.string s4.2] 9 (0, 0))], g5] ∧ I s4.1 τ4 g5) ⟨LR, g, rfl, rfl, hIg⟩ ?_
  rintro s4 o4 h he4 ρ4 τ4 gs4 ⟨hl4, g5, hρ, rfl, hI6⟩ hn4
  refine st_es hρ (ZZ 7 [0] ?_)
  refine I2 h (fun h => ?_) (fun h => ?_)
  ·refine ZZ 5 [0] ?_
   obtain ⟨r7, hr8, h⟩ := h
   refine SC z_en139 (unicode_utf8_DecodeRuneInString_ok hr8 τ4) ?_
   rintro _ τ9 _ hl10 ⟨rfl, rfl⟩
   refine ZZ 12 [0] ?_
   obtain ⟨hf11, hf12, h⟩ := h
   refine o_sliceSh rfl rfl rfl underlying9 rfl rfl hf11 hf12 ?_
   obtain ⟨y13, u14, hy15, h⟩ := h
   refine st_ord [1, 0] _ rfl ?_
   refine st_call (foot := [g5]) rfl rfl rfl rfl rfl rfl (hY (s4.2.extract 0 r7.2.toNat) s4.1 _ _ _ _ _ (hle.trans (hl4.trans hl10)) hy15 rfl (hIm _ _ _ _ hl10 hI6)) ?_
   rintro _ τ16 _ hl17 ⟨rfl, g18, rfl, hI19⟩
   refine Z 2 ?_
   refine I2 h (fun h => ?_) (fun h => ?_)
   ·obtain rfl := he4 _ h
    replace h := hA4
    obtain rfl := Eq.symm h
    cases hr0
    exact st_ret (gs' := [g18, [(bc1, .cells #[.string s4.2] 9 (0, 0))]]) func138 rfl (by simp) ((hl4.trans hl10).trans hl17) ⟨g18, _, rfl, hI19, rfl⟩
   ·refine ZZ 4 [1] ?_
    obtain ⟨hf20, hf21, h⟩ := h
    refine o_sliceSl rfl rfl rfl underlying9 rfl rfl hf20 hf21 (ZZ 3 [1] ?_)
    refine st_ord [1, 0] _ rfl ?_
    exact hn4 _ _ _ _ h ⟨((hl4.trans hl10).trans hl17), g18, rfl, rfl, hI19⟩
  ·refine st_exit rfl ?_
   obtain rfl := he4 _ h
   replace h := hA4
   exact hk1 _ _ _ ⟨(s4.1, s4.2), g5, h, hl4, rfl, rfl, hI6⟩
 ·refine Z 2 ?_
  refine st_cut (fun ρ τ24 gs => ∃ (s24 : S × ByteArray) (g25 : Grp), strings_splitSeq_1_j3 S Y s24 r ∧ σ.Le τ24 ∧ ESub ρ [(0, y), (2, .Pb bc1)] ∧ gs = [[(bc1, .cells #[.string s24.2] 9 (0, 0))], g25] ∧ I s24.1 τ24 g25) ?_ (fun hk24 => ?_)
  ·rintro ρ24 τ24 gs24 ⟨s24, g25, h, hl24, hρ, rfl, hI26⟩
   refine st_es hρ (ZZ 3 [0] ?_)
   obtain ⟨y27, u28, hy29, h⟩ := h
   refine st_ord [1, 0] _ rfl ?_
   refine st_call (foot := [g25]) rfl rfl rfl rfl rfl rfl (hY s24.2 s24.1 _ _ _ _ _ (hle.trans hl24) hy29 rfl hI26) ?_
   rintro _ τ30 _ hl31 ⟨rfl, g32, rfl, hI33⟩
   refine st_end ?_
   obtain rfl := Eq.symm h
   cases hr0
   exact st_fin (gs' := [g32, [(bc1, .cells #[.string s24.2] 9 (0, 0))]]) func138 rfl (by simp) (hl24.trans hl31) ⟨g32, _, rfl, hI33, rfl⟩
  obtain ⟨e34, hL34, hA34⟩ := h
  refine st_ord [1, 0] _ rfl ?_
  refine st_loop hL34 (fun (s34 : S × ByteArray) ρ τ34 gs => σ.Le τ34 ∧ ∃ (g35 : Grp), ESub ρ [(0, y), (1, .Pb bc0), (2, .Pb bc1), (3, .Pb bc2)] ∧ gs = [[(bc1, .cells #[.string s34.2] 9 (0, 0))], g35] ∧ I s34.1 τ34 g35) ⟨LR, g, rfl, rfl, hIg⟩ ?_
  rintro s34 o34 h he34 ρ34 τ34 gs34 ⟨hl34, g35, hρ, rfl, hI36⟩ hn34
  refine st_es hρ (ZZ 4 [0] ?_)
  refine o_loadI (v := .string c0) rfl rfl rfl z_sc9 rfl (Cel.up hc0_0 (hle.trans hl34)) ?_
  obtain ⟨r37, hr38, h⟩ := h
  refine SC z_en140 (strings_Index_ok hr38 τ34) ?_
  rintro _ τ39 _ hl40 ⟨rfl, rfl⟩
  refine Z 8 ?_
  refine I2 h (fun h => ?_) (fun h => ?_)
  ·refine st_exit rfl ?_
   obtain rfl := he34 _ h
   replace h := hA34
   exact hk24 _ _ _ ⟨(s34.1, s34.2), g35, h, (hl34.trans hl40), rfl, rfl, (hIm _ _ _ _ hl40 hI36)⟩
  ·refine ZZ 5 [0] ?_
   refine o_loadI (v := .I c2) rfl rfl rfl z_sc3 rfl (Cel.up hc2_0 ((hle.trans hl34).trans hl40)) ?_
   refine o_ibin (v := .I (i64.wrap (r37 + c2))) rfl rfl rfl rfl rfl rfl ?_
   obtain ⟨hf41, hf42, h⟩ := h
   refine o_sliceSh rfl rfl rfl underlying9 rfl rfl hf41 hf42 (Z 7 ?_)
   obtain ⟨y43, u44, hy45, h⟩ := h
   refine st_ord [1, 0] _ rfl ?_
   refine st_call (foot := [g35]) rfl rfl rfl rfl rfl rfl (hY (s34.2.extract 0 (i64.wrap (r37 + c2)).toNat) s34.1 _ _ _ _ _ (hle.trans (hl34.trans hl40)) hy45 rfl (hIm _ _ _ _ hl40 hI36)) ?_
   rintro _ τ46 _ hl47 ⟨rfl, g48, rfl, hI49⟩
   refine Z 2 ?_
   refine I2 h (fun h => ?_) (fun h => ?_)
   ·obtain rfl := he34 _ h
    replace h := hA34
    obtain rfl := Eq.symm h
    cases hr0
    exact st_ret (gs' := [g48, [(bc1, .cells #[.string s34.2] 9 (0, 0))]]) func138 rfl (by simp) ((hl34.trans hl40).trans hl47) ⟨g48, _, rfl, hI49, rfl⟩
   ·refine ZZ 4 [1] ?_
    refine o_loadI (v := .string c0) rfl rfl rfl z_sc9 rfl (Cel.up hc0_0 (((hle.trans hl34).trans hl40).trans hl47)) (Z 2 ?_)
    obtain ⟨hf50, hf51, h⟩ := h
    refine o_sliceSl rfl rfl rfl underlying9 rfl rfl hf50 hf51 (ZZ 3 [1] ?_)
    refine st_ord [1, 0] _ rfl ?_
    exact hn34 _ _ _ _ h ⟨((hl34.trans hl40).trans hl47), g48, rfl, rfl, hI49⟩
theorem strings_splitSeq_ok {a0 a1 : ByteArray} {a2 : Int} {r : ((ByteArray → (S : Type) → (ByteArray → S → Bool × S → Prop) → S → S × ByteArray → Prop)) × ByteArray} (h : strings_splitSeq a0 a1 a2 r) (σ : Sto)  :
    Does prog 116 [.string a0, .string a1, .I a2] σ [] (fun v τ gs => ∃ (f11 : Nat) (q12 : Array Value) (b14 : Nat), gs = [[(b14, .cells [.string r.2].toArray 9 (0, 0))]] ∧ .func (.func f11) #[] q12 = v ∧ ∀ (x16 : ByteArray) (σ15 : Sto), τ.Le σ15 → IterV prog (fun _ x vx => vx = [.string x]) (.func (.func f11) #[] q12) σ15 [(b14, .cells [.string x16].toArray 9 (0, 0))] (fun (o17 : ByteArray) υ f => f = [(b14, .cells [.string o17].toArray 9 (0, 0))]) (r.1 x16)) := by
 refine CO func116 ntmps116 rfl (fun cs fs => Z 2 ?_)
 refine o_boxC rfl rfl rfl rfl rfl rfl (fun b1 => ?_)
 refine o_boxC rfl rfl rfl rfl rfl rfl (fun b2 => ?_)
 refine o_boxC rfl rfl rfl rfl rfl rfl (fun b3 => Z 4 ?_)
 refine st_ord [1, 0, 0] _ rfl ?_
 refine st_freeze (fun τ4 hl5 hg6 => ?_)
 refine st_freeze (fun τ7 hl8 hg9 => Z 3 ?_)
 obtain rfl := Eq.symm h
 exact st_ret (gs' := [[(b1, .cells #[.string a0] 9 (0, 0))]]) func116 rfl (List.Sublist.refl _) (hl5.trans hl8) ⟨_, _, _, rfl, rfl, (fun _ _ hl  => strings_splitSeq_1_ok ((Cel.up (cel_of hg6 rfl) hl8).up hl) ((cel_of hg9 rfl).up hl))⟩
theorem strings_SplitSeq_ok {a0 a1 : ByteArray} {r : ((ByteArray → (S : Type) → (ByteArray → S → Bool × S → Prop) → S → S × ByteArray → Prop)) × ByteArray} (h : strings_SplitSeq a0 a1 r) (σ : Sto)  :
    Does prog 94 [.string a0, .string a1] σ [] (fun v τ gs => ∃ (f13 : Nat) (q14 : Array Value) (b16 : Nat), gs = [[(b16, .cells [.string r.2].toArray 9 (0, 0))]] ∧ .func (.func f13) #[] q14 = v ∧ ∀ (x18 : ByteArray) (σ17 : Sto), τ.Le σ17 → IterV prog (fun _ x vx => vx = [.string x]) (.func (.func f13) #[] q14) σ17 [(b16, .cells [.string x18].toArray 9 (0, 0))] (fun (o19 : ByteArray) υ f => f = [(b16, .cells [.string o19].toArray 9 (0, 0))]) (r.1 x18)) := by
 refine CO func94 ntmps94 rfl (fun cs fs => Z 8 ?_)
 obtain ⟨r1, hr2, h⟩ := h
 refine SC z_en116 (strings_splitSeq_ok hr2 σ) ?_
 rintro _ τ3 _ hl4 ⟨f5, q6, b8, rfl, rfl, hit7⟩
 refine Z 2 ?_
 obtain rfl := Eq.symm h
 exact st_ret (gs' := [[(b8, .cells #[.string r1.2] 9 (0, 0))]]) func94 rfl (List.Sublist.refl _) hl4 ⟨_, _, _, rfl, rfl, (fun x0_ σ9 hl9 => hit7 x0_ σ9 (LR.trans hl9))⟩
theorem say_Words_1_ok {c0 : ByteArray} {bc0 : Nat} {σ0 : Sto} (hc0_0 : Cel σ0 ⟨bc0, 0, none⟩ (.string c0)) :
    IterV prog (fun _ x vx => vx = [.I x.1, .string x.2]) (.func (.func 93) #[] [.Pb bc0].toArray) σ0 [] (fun (_ : Unit) _ f => f = []) (say_Words_1 c0) := by
 intro S Y I y hyc hyo hIm hY s s' o hR σ g hle hIg
 obtain ⟨r, hr0⟩ : ∃ r, r = (s', o) := ⟨_, rfl⟩
 rw [← hr0] at hR
 have h := hR
 refine callV_of (caps := [.Pb bc0]) z_en93 ?_
 refine CO func93 ntmps93 rfl (fun cs fs => ?_)
 refine st_ord [0] _ rfl (Z 2 ?_)
 refine o_box (cs := [y]) rfl rfl rfl rfl hyc (fun b1 => Z 3 ?_)
 refine o_alloc rfl rfl rfl z_zero3 (fun b2 => ZZ 4 [0] ?_)
 refine o_loadI (v := .string c0) rfl rfl rfl z_sc9 rfl (Cel.up hc0_0 hle) ?_
 obtain ⟨r3, hr4, h⟩ := h
 refine st_call (foot := []) rfl rfl rfl rfl (evs_cons rfl (evs_cons (ev_str z_str0) rfl)) rfl (callV_fn z_en94 (strings_SplitSeq_ok hr4 σ)) ?_
 rintro _ τ5 _ hl6 ⟨f7, q8, b10, rfl, rfl, hit9⟩
 refine Z 2 ?_
 obtain ⟨t14, w14, hR14, hA14⟩ := h
 refine st_env (ρ' := [(2, .Pb b1), (3, .Pb b2), (6, .func (.func f7) #[] q8)]) ⟨rfl, rfl, rfl, trivial⟩ ?_
 refine st_ord [0, 1, 0, 0] _ rfl ?_
 refine st_range (B := say_Words_1_l1 S Y) (s0 := (s, 0)) ranges_fctx rfl (hit9 r3.2 τ5 LR) LR hR14 rfl (fun _ _ _ h => by cases h; rfl) (fun (s14 : S × Int) τ14 gs => τ5.Le τ14 ∧ ∃ (g15 : Grp), gs = [[(b1, .cells #[y] 107 (0, 0))], [(b2, .cells #[.I s14.2] 3 (0, 0))], g15] ∧ I s14.1 τ14 g15) (fun (p24 : S × Int) cd τ25 gs => cd = .ret ∧ τ5.Le τ25 ∧ ∃ (g27 : Grp), gs = [[(b1, .cells #[y] 107 (0, 0))], [(b2, .cells #[.I p24.2] 3 (0, 0))], g27] ∧ I p24.1 τ25 g27) (fun _ _ _ _ hl ⟨hb, g15, hg, hI16⟩ => ⟨hb.trans hl, g15, hg, hIm _ _ _ _ hl hI16⟩) (fun _ _ _ _ _ hl ⟨hc, hb, g27, hg, hI28⟩ => ⟨hc, hb.trans hl, g27, hg, hIm _ _ _ _ hl hI28⟩) ⟨LR, g, rfl, (hIm _ _ _ _ hl6 hIg)⟩ ?_ ?_ ?_
 ·rintro x14 s14 o14 τ14 gs14 vx14 hl14 h rfl ⟨hb14, g15, rfl, hI16⟩ l14 rc14 caller14 cs14 fs14
  refine Z 3 ?_
  refine st_begin (ZZ 7 [0, 1] ?_)
  obtain ⟨y17, u18, hy19, h⟩ := h
  refine st_ord [2, 0, 0] _ rfl ?_
  refine st_call (foot := [g15]) rfl rfl rfl rfl rfl rfl (hY (s14.2, x14) s14.1 _ _ _ _ _ (hle.trans (hl6.trans hl14)) hy19 rfl hI16) ?_
  rintro _ τ20 _ hl21 ⟨rfl, g22, rfl, hI23⟩
  refine Z 2 ?_
  refine I2 h (fun h => ?_) (fun h => ?_)
  ·refine st_ord [1, 1, 0] _ rfl ?_
   exact st_rret (List.Sublist.refl _) hl21 ⟨_, h, rfl, (hl14.trans hl21), g22, rfl, hI23⟩
  ·refine ZZ 10 [2, 2] ?_
   refine st_ord [1, 1, 0] _ rfl ?_
   exact st_rend (List.Sublist.refl _) hl21 ⟨_, h, (hl14.trans hl21), g22, rfl, hI23⟩
 ·rintro p30 τ31 gs14 f14 ht hl32 ⟨hb, g33, rfl, hI34⟩ rfl
  subst ht
  replace h := hA14
  refine st_inBlock ?_
  refine st_ord [3] _ rfl ?_
  obtain rfl := Eq.symm h
  cases hr0
  exact st_fin (gs' := [g33, []]) func93 rfl (by simp) (hl6.trans hl32) ⟨g33, _, rfl, hI34, rfl⟩
 ·rintro p24 cd14 τ25 gs14 f14 ht hl26 ⟨rfl, hb, g27, rfl, hI28⟩ rfl
  subst ht
  replace h := hA14
  refine st_ord [3] _ rfl ?_
  obtain rfl := Eq.symm h
  cases hr0
  exact st_ret (gs' := [g27, []]) func93 rfl (by simp) (hl6.trans hl26) ⟨g27, _, rfl, hI28, rfl⟩
theorem say_Words_ok {a0 : ByteArray} {r : (((S : Type) → ((Int × ByteArray) → S → Bool × S → Prop) → S → S × Unit → Prop))} (h : say_Words a0 r) (σ : Sto)  :
    Does prog 61 [.string a0] σ [] (fun v τ gs => ∃ (f5 : Nat) (q6 : Array Value), gs = [] ∧ .func (.func f5) #[] q6 = v ∧ IterV prog (fun _ x vx => vx = [.I x.1, .string x.2]) (.func (.func f5) #[] q6) τ [] (fun (_ : Unit) _ f => f = []) r) := by
 refine CO func61 ntmps61 rfl (fun cs fs => Z 2 ?_)
 refine o_boxC rfl rfl rfl rfl rfl rfl (fun b1 => Z 4 ?_)
 refine st_freeze (fun τ2 hl3 hg4 => Z 3 ?_)
 obtain rfl := h.symm
 exact RT func61 rfl hl3 ⟨_, _, rfl, rfl, (say_Words_1_ok (cel_of hg4 rfl))⟩
theorem script_word_ok {a0 : Int} {r : ByteArray} (h : script_word a0 r) (σ : Sto)  :
    Does prog 35 [.I a0] σ [] (fun v τ gs => gs = [] ∧ .string r = v) := by
 refine CO func35 ntmps35 rfl (fun cs fs => Z 2 ?_)
 refine o_assign rfl rfl rfl (ev_str z_str1) (Z 12 ?_)
 refine I2 h (fun h => ?_) (fun h => ?_)
 ·refine Z 2 ?_
  refine o_assign rfl rfl rfl (ev_str z_str2) ?_
  refine st_end ?_
  obtain rfl := h.symm
  exact RT func35 rfl LR ⟨rfl, rfl⟩
 ·refine Z 5 ?_
  refine I2 h (fun h => ?_) (fun h => ?_)
  ·refine Z 2 ?_
   refine o_assign rfl rfl rfl (ev_str z_str3) ?_
   refine st_end ?_
   obtain rfl := h.symm
   exact RT func35 rfl LR ⟨rfl, rfl⟩
  ·refine Z 5 ?_
   refine I2 h (fun h => ?_) (fun h => ?_)
   ·refine Z 2 ?_
    refine o_assign rfl rfl rfl (ev_str z_str4) ?_
    refine st_end ?_
    obtain rfl := h.symm
    exact RT func35 rfl LR ⟨rfl, rfl⟩
   ·refine Z 5 ?_
    refine I2 h (fun h => ?_) (fun h => ?_)
    ·refine Z 2 ?_
     refine o_assign rfl rfl rfl (ev_str z_str5) ?_
     refine st_end ?_
     obtain rfl := h.symm
     exact RT func35 rfl LR ⟨rfl, rfl⟩
    ·refine Z 5 ?_
     refine I2 h (fun h => ?_) (fun h => ?_)
     ·refine Z 2 ?_
      refine o_assign rfl rfl rfl (ev_str z_str6) ?_
      refine st_end ?_
      obtain rfl := h.symm
      exact RT func35 rfl LR ⟨rfl, rfl⟩
     ·refine Z 4 ?_
      refine o_assign rfl rfl rfl (ev_str z_str1) ?_
      refine st_end ?_
      obtain rfl := h.symm
      exact RT func35 rfl LR ⟨rfl, rfl⟩
theorem internal_stringslite_Index_ok {a0 a1 : ByteArray} {r : Int} (h : internal_stringslite_Index a0 a1 r) (σ : Sto) :
    Does prog 117 [.string a0, .string a1] σ [] (fun v τ gs => gs = [] ∧ .I r = v) := by
 obtain ⟨c, hc, rfl⟩ := h
 exact index_does Tryz.stringslite_Index_one hc
theorem internal_stringslite_Cut_ok {a0 a1 : ByteArray} {r : ByteArray × ByteArray × Bool} (h : internal_stringslite_Cut a0 a1 r) (σ : Sto)  :
    Does prog 95 [.string a0, .string a1] σ [] (fun v τ gs => gs = [] ∧ .tuple [.string r.1, .string r.2.1, .bool r.2.2].toArray = v) := by
 refine CO func95 ntmps95 rfl (fun cs fs => Z 2 ?_)
 refine o_assign rfl rfl rfl (ev_str z_str1) ?_
 refine o_assign rfl rfl rfl (ev_str z_str1) (Z 7 ?_)
 obtain ⟨r1, hr2, h⟩ := h
 refine SC z_en117 (internal_stringslite_Index_ok hr2 σ) ?_
 rintro _ τ3 _ hl4 ⟨rfl, rfl⟩
 refine Z 7 ?_
 refine I2 h (fun h => ?_) (fun h => ?_)
 ·refine st_seq ?_
  obtain ⟨hf5, hf6, hf7, hf8, h⟩ := h
  refine st_draw 10 (dl [.v (.string a0), .v (.I r1), .v (.string (a0.extract 0 r1.toNat)), .v (.string a0), .v (.I r1), .v (.string a1), .v (.I (a1.size : Int)), .v (.I (i64.wrap (r1 + (a1.size : Int)))), .v (.string (a0.extract (i64.wrap (r1 + (a1.size : Int))).toNat a0.size)), .v (.string (a0.extract 0 r1.toNat))]) (fun _ _ => []) z_mix rfl (dl_mono trivial) (allB_cons (allB_cons (allB_cons (allB_cons (allB_cons (allB_cons (allB_cons (allB_cons (allB_cons (allB_cons allB_nil (p1 dA)) (p1 dA)) ?_) (p1 dA)) (p1 dA)) (p1 dA)) (p1 dA)) (p1 dA)) ?_) (p1 dA)) ?_
  ·intro ρ' τ pq rs hl hd hq hk
   obtain ⟨_, e0, rfl⟩ := hd 0 rfl
   obtain ⟨_, e1, rfl⟩ := hd 1 rfl
   refine o_sliceSh rfl rfl rfl underlying9 e0 e1 hf5 hf6 ?_
   exact st_addNil (hk _ _ LR rfl)
  ·intro ρ' τ pq rs hl hd hq hk
   obtain ⟨_, e3, rfl⟩ := hd 3 rfl
   obtain ⟨_, e7, rfl⟩ := hd 7 rfl
   refine o_sliceSl rfl rfl rfl underlying9 e3 e7 hf7 hf8 ?_
   exact st_addNil (hk _ _ LR rfl)
  intro ρ' τ9 vals hl9 hv hq
  refine st_ord [] _ rfl ?_
  refine st_env (ρ' := [(21, .string (a0.extract (i64.wrap (r1 + (a1.size : Int))).toNat a0.size)), (4, .string (a0.extract 0 r1.toNat)), (0, .string a0), (5, .E0), (6, .bool false)]) ⟨(lv1 hv 8 rfl rfl), (lv1 hv 9 rfl rfl), oT hq 0, oT hq 5, oT hq 6, trivial⟩ (Z 3 ?_)
  obtain rfl := h.symm
  exact RT func95 rfl (hl4.trans hl9) ⟨rfl, rfl⟩
 ·refine Z 5 ?_
  refine o_assign rfl rfl rfl (ev_str z_str1) (Z 2 ?_)
  obtain rfl := h.symm
  exact RT func95 rfl hl4 ⟨rfl, rfl⟩
theorem strings_Cut_ok {a0 a1 : ByteArray} {r : ByteArray × ByteArray × Bool} (h : strings_Cut a0 a1 r) (σ : Sto)  :
    Does prog 62 [.string a0, .string a1] σ [] (fun v τ gs => gs = [] ∧ .tuple [.string r.1, .string r.2.1, .bool r.2.2].toArray = v) := by
 refine CO func62 ntmps62 rfl (fun cs fs => Z 2 ?_)
 refine o_assign rfl rfl rfl (ev_str z_str1) ?_
 refine o_assign rfl rfl rfl (ev_str z_str1) (Z 6 ?_)
 obtain ⟨r1, hr2, h⟩ := h
 refine SC z_en95 (internal_stringslite_Cut_ok hr2 σ) ?_
 rintro _ τ3 _ hl4 ⟨rfl, rfl⟩
 refine Z 7 ?_
 obtain rfl := h.symm
 exact RT func62 rfl hl4 ⟨rfl, rfl⟩
theorem say_Parse_1_ok {c0 : List ByteArray} {bc0 : Nat} {v1 : Value} {r : ByteArray × Bool × List ByteArray} (h : say_Parse_1 c0 r) (σ : Sto) (hs2 : Sl kS σ v1 c0) :
    Does prog 96 [.Pb bc0] σ [[(bc0, .cells [v1].toArray 67 (0, 0))]] (fun v τ gs => ∃ (v12 : Value), gs = [[(bc0, .cells [v12].toArray 67 (0, 0))]] ∧ .tuple [.string r.1, .bool r.2.1].toArray = v ∧ Sl kS τ v12 r.2.2) := by
 refine CO func96 ntmps96 rfl (fun cs fs => Z 2 ?_)
 refine o_assign rfl rfl rfl (ev_str z_str1) (ZZ 6 [0] ?_)
 refine o_lenI rfl rfl rfl z_slT67 rfl hs2 (Z 2 ?_)
 refine I2 h (fun h => ?_) (fun h => ?_)
 ·refine Z 2 ?_
  refine o_assign rfl rfl rfl (ev_str z_str1) (Z 2 ?_)
  obtain rfl := Eq.symm h
  exact st_ret (gs' := [[(bc0, .cells #[v1] 67 (0, 0))]]) func96 rfl (List.Sublist.refl _) LR ⟨_, rfl, rfl, hs2⟩
 ·refine ZZ 4 [0] ?_
  obtain ⟨q3, hf4, h⟩ := h
  refine o_index rfl rfl rfl z_slT67 rfl rfl hs2 rfl hf4 (fun b5 of6 vs hc7 hrep => ?_)
  obtain rfl := hrep
  refine o_loadI (v := .string q3) rfl rfl rfl z_sc9 rfl (hc7 0 _ rfl) (ZZ 5 [0] ?_)
  obtain ⟨hf8, hf9, h⟩ := h
  refine o_slice (L := 1) (H := (c0.length : Int)) rfl rfl rfl z_slT67 rfl rfl hs2 ⟨_, rfl⟩ rfl (by decide) hf8 hf9 trivial (by simp) (fun v10 hs11 => ?_)
  refine o_store (j := 0) (vs := [v10]) (cs' := [v10]) rfl rfl rfl z_size67 rfl rfl (oneL_sl hs11) (ones_cons hs11.one' ones_nil) rfl rfl rfl (Z 7 ?_)
  obtain rfl := Eq.symm h
  exact st_ret (gs' := [[(bc0, .cells #[v10] 67 (0, 0))]]) func96 rfl (List.Sublist.refl _) LR ⟨_, rfl, rfl, hs11⟩
theorem field_Word_ok {a0 : Int} {r : ByteArray} (h : field_Word a0 r) (σ : Sto)  :
    Does prog 71 [.I a0] σ [] (fun v τ gs => gs = [] ∧ .string r = v) := by
 refine CO func71 ntmps71 rfl (fun cs fs => Z 2 ?_)
 refine o_assign rfl rfl rfl (ev_str z_str1) (Z 12 ?_)
 refine I2 h (fun h => ?_) (fun h => ?_)
 ·refine Z 2 ?_
  refine o_assign rfl rfl rfl (ev_str z_str7) ?_
  refine st_end ?_
  obtain rfl := h.symm
  exact RT func71 rfl LR ⟨rfl, rfl⟩
 ·refine Z 5 ?_
  refine I2 h (fun h => ?_) (fun h => ?_)
  ·refine Z 2 ?_
   refine o_assign rfl rfl rfl (ev_str z_str8) ?_
   refine st_end ?_
   obtain rfl := h.symm
   exact RT func71 rfl LR ⟨rfl, rfl⟩
  ·refine Z 5 ?_
   refine I2 h (fun h => ?_) (fun h => ?_)
   ·refine Z 2 ?_
    refine o_assign rfl rfl rfl (ev_str z_str9) ?_
    refine st_end ?_
    obtain rfl := h.symm
    exact RT func71 rfl LR ⟨rfl, rfl⟩
   ·refine Z 5 ?_
    refine I2 h (fun h => ?_) (fun h => ?_)
    ·refine Z 2 ?_
     refine o_assign rfl rfl rfl (ev_str z_str10) ?_
     refine st_end ?_
     obtain rfl := h.symm
     exact RT func71 rfl LR ⟨rfl, rfl⟩
    ·refine Z 5 ?_
     refine I2 h (fun h => ?_) (fun h => ?_)
     ·refine Z 2 ?_
      refine o_assign rfl rfl rfl (ev_str z_str11) ?_
      refine st_end ?_
      obtain rfl := h.symm
      exact RT func71 rfl LR ⟨rfl, rfl⟩
     ·refine Z 4 ?_
      refine o_assign rfl rfl rfl (ev_str z_str1) ?_
      refine st_end ?_
      obtain rfl := h.symm
      exact RT func71 rfl LR ⟨rfl, rfl⟩
theorem field_Kinds_1_ok  {σ0 : Sto}  :
    IterV prog (fun _ x vx => vx = [.I x.1, .string x.2]) (.func (.func 144) #[] [].toArray) σ0 [] (fun (_ : Unit) _ f => f = []) (field_Kinds_1) := by
 intro S Y I y hyc hyo hIm hY s s' o hR σ g hle hIg
 obtain ⟨r, hr0⟩ : ∃ r, r = (s', o) := ⟨_, rfl⟩
 rw [← hr0] at hR
 have h := hR
 refine callV_of (caps := []) z_en144 ?_
 refine CO func144 ntmps144 rfl (fun cs fs => ?_)
 refine st_ord [0] _ rfl (Z 4 ?_)
 obtain ⟨e1, hL1, hA1⟩ := h
 refine st_loop hL1 (fun (s1 : S × Int) ρ τ1 gs => σ.Le τ1 ∧ ∃ (g2 : Grp), ESub ρ [(0, y), (2, .I s1.2)] ∧ gs = [g2] ∧ I s1.1 τ1 g2) ⟨LR, g, rfl, rfl, hIg⟩ ?_
 rintro s1 o1 h he1 ρ1 τ1 gs1 ⟨hl1, g2, hρ, rfl, hI3⟩ hn1
 refine st_es hρ (Z 6 ?_)
 refine I2 h (fun h => ?_) (fun h => ?_)
 ·refine Z 8 ?_
  obtain ⟨r4, hr5, h⟩ := h
  refine SC z_en71 (field_Word_ok hr5 τ1) ?_
  rintro _ τ6 _ hl7 ⟨rfl, rfl⟩
  obtain ⟨y8, u9, hy10, h⟩ := h
  refine st_call (foot := [g2]) rfl rfl rfl rfl rfl rfl (hY (s1.2, r4) s1.1 _ _ _ _ _ (hle.trans (hl1.trans hl7)) hy10 rfl (hIm _ _ _ _ hl7 hI3)) ?_
  rintro _ τ11 _ hl12 ⟨rfl, g13, rfl, hI14⟩
  refine Z 2 ?_
  refine I2 h (fun h => ?_) (fun h => ?_)
  ·obtain rfl := he1 _ h
   replace h := hA1
   obtain rfl := Eq.symm h
   cases hr0
   exact st_ret (gs' := [g13, []]) func144 rfl (by simp) ((hl1.trans hl7).trans hl12) ⟨g13, _, rfl, hI14, rfl⟩
  ·refine Z 7 ?_
   exact hn1 _ _ _ _ h ⟨((hl1.trans hl7).trans hl12), g13, rfl, rfl, hI14⟩
 ·refine st_exit rfl ?_
  obtain rfl := he1 _ h
  replace h := hA1
  obtain rfl := Eq.symm h
  cases hr0
  exact st_fin (gs' := [g2, []]) func144 rfl (by simp) hl1 ⟨g2, _, rfl, hI3, rfl⟩
theorem field_Kinds_ok  {r : (((S : Type) → ((Int × ByteArray) → S → Bool × S → Prop) → S → S × Unit → Prop))} (h : field_Kinds r) (σ : Sto)  :
    Does prog 118 [] σ [] (fun v τ gs => ∃ (f1 : Nat) (q2 : Array Value), gs = [] ∧ .func (.func f1) #[] q2 = v ∧ IterV prog (fun _ x vx => vx = [.I x.1, .string x.2]) (.func (.func f1) #[] q2) τ [] (fun (_ : Unit) _ f => f = []) r) := by
 refine CO func118 ntmps118 rfl (fun cs fs => Z 8 ?_)
 obtain rfl := h.symm
 exact RT func118 rfl LR ⟨_, _, rfl, rfl, (field_Kinds_1_ok )⟩
theorem field_Kind_ok {a0 : ByteArray} {r : Int} (h : field_Kind a0 r) (σ : Sto)  :
    Does prog 97 [.string a0] σ [] (fun v τ gs => gs = [] ∧ .I r = v) := by
 refine CO func97 ntmps97 rfl (fun cs fs => Z 2 ?_)
 refine o_boxC rfl rfl rfl rfl rfl rfl (fun b1 => ?_)
 refine o_alloc rfl rfl rfl z_zero3 (fun b2 => Z 4 ?_)
 obtain ⟨r3, hr4, h⟩ := h
 refine SC z_en118 (field_Kinds_ok hr4 σ) ?_
 rintro _ τ5 _ hl6 ⟨f7, q8, rfl, rfl, hit9⟩
 refine Z 2 ?_
 obtain ⟨t10, w10, hR10, hA10⟩ := h
 refine st_env (ρ' := [(1, .Pb b1), (2, .Pb b2), (5, .func (.func f7) #[] q8)]) ⟨rfl, rfl, rfl, trivial⟩ ?_
 refine st_ord [1, 0] _ rfl ?_
 refine st_addNil ?_
 refine st_range (B := field_Kind_l1 a0) (s0 := ()) ranges_fctx rfl hit9 LR hR10 rfl (fun _ _ _ h => by cases h; rfl) (fun (s10 : Unit) τ10 gs => τ5.Le τ10 ∧ gs = [[(b1, .cells #[.string a0] 9 (0, 0))], [(b2, .cells #[.I 0] 3 (0, 0))]]) (fun (p11 : Int) cd τ12 gs => cd = .ret ∧ τ5.Le τ12 ∧ gs = [[(b1, .cells #[.string a0] 9 (0, 0))], [(b2, .cells #[.I p11] 3 (0, 0))]]) (fun _ _ _ _ hl ⟨hb, hg⟩ => ⟨hb.trans hl, hg⟩) (fun _ _ _ _ _ hl ⟨hc, hb, hg⟩ => ⟨hc, hb.trans hl, hg⟩) ⟨LR, rfl⟩ ?_ ?_ ?_
 ·rintro x10 s10 o10 τ10 gs10 vx10 hl10 h rfl ⟨hb10, rfl⟩ l10 rc10 caller10 cs10 fs10
  refine Z 7 ?_
  refine st_begin (ZZ 7 [0] ?_)
  refine I2 h (fun h => ?_) (fun h => ?_)
  ·refine ZZ 5 [1] ?_
   exact st_rret (List.Sublist.refl _) LR ⟨_, h, rfl, hl10, rfl⟩
  ·refine Z 2 ?_
   exact st_rend (List.Sublist.refl _) LR ⟨_, h, hl10, rfl⟩
 ·rintro p14 τ15 gs10 f10 ht hl16 ⟨hb, rfl⟩ rfl
  subst ht
  replace h := hA10
  refine st_ord [1, 1] _ rfl (ZZ 5 [1] ?_)
  obtain rfl := h.symm
  exact RC [.I 0] func97 ⟨c1 1 z_sc3, trivial⟩ (hl6.trans hl16) ⟨rfl, rfl⟩
 ·rintro p11 cd10 τ12 gs10 f10 ht hl13 ⟨rfl, hb, rfl⟩ rfl
  subst ht
  replace h := hA10
  refine st_ord [1, 1] _ rfl ?_
  obtain rfl := h.symm
  exact RC [.I p11] func97 ⟨c1 1 z_sc3, trivial⟩ (hl6.trans hl13) ⟨rfl, rfl⟩
theorem field_robot_ok  {r : (TyA)} (h : field_robot r) (σ : Sto)  :
    Does prog 107 [] σ [] (fun v τ gs => gs = [] ∧ .agg (lA r).toArray = v) := by
 refine CO func107 ntmps107 rfl (fun cs fs => Z 2 ?_)
 refine o_alloc rfl rfl rfl z_zero139 (fun b1 => Z 3 ?_)
 refine o_build (ps := [(0, [.string (bstr [114, 111, 98, 111, 116])]), (1, [.I 1]), (2, [.I 0]), (3, [.I 0]), (4, [.I 65535]), (5, [.I 1]), (6, [.I 0])]) rfl rfl rfl z_struct139 ⟨rfl, ⟨_, (ev_str z_str12), rfl⟩, ⟨rfl, ⟨_, rfl, rfl⟩, ⟨rfl, ⟨_, rfl, rfl⟩, ⟨rfl, ⟨_, rfl, rfl⟩, ⟨rfl, ⟨_, rfl, rfl⟩, ⟨rfl, ⟨_, rfl, rfl⟩, ⟨rfl, ⟨_, rfl, rfl⟩, trivial⟩⟩⟩⟩⟩⟩⟩ rfl (ZZ 2 [0] ?_)
 obtain rfl := h.symm
 exact RC [.agg #[.string (bstr [114, 111, 98, 111, 116]), .I 1, .I 0, .I 0, .I 65535, .I 1, .I 0]] func107 ⟨cN 0 z_agg139, trivial⟩ LR ⟨rfl, rfl⟩
theorem field_Of_ok {a0 : Int} {r : (List (TyA))} (h : field_Of a0 r) (σ : Sto)  :
    Does prog 80 [.I a0] σ [] (fun v τ gs => ∃ (v61 : Value), gs = [] ∧ v61 = v ∧ Sl (kP kS (kP (kI .i64) (kP (kI .i64) (kP (kI .i64) (kP (kI .i64) (kP (kI .i64) (kI .i64))))))) τ v61 r) := by
 refine CO func80 ntmps80 rfl (fun cs fs => Z 15 ?_)
 refine I2 h (fun h => ?_) (fun h => ?_)
 ·refine Z 2 ?_
  obtain ⟨r1, hr2, h⟩ := h
  refine SC z_en107 (field_robot_ok hr2 σ) ?_
  rintro _ τ3 _ hl4 ⟨rfl, rfl⟩
  refine o_build (ps := [(0, [.string (bstr [115, 112, 101, 101, 100])]), (1, [.I 1]), (2, [.I 1]), (3, [.I 1]), (4, [.I 5000]), (5, [.I 1]), (6, [.I 0])]) rfl rfl rfl z_struct139 ⟨rfl, ⟨_, (ev_str z_str13), rfl⟩, ⟨rfl, ⟨_, rfl, rfl⟩, ⟨rfl, ⟨_, rfl, rfl⟩, ⟨rfl, ⟨_, rfl, rfl⟩, ⟨rfl, ⟨_, rfl, rfl⟩, ⟨rfl, ⟨_, rfl, rfl⟩, ⟨rfl, ⟨_, rfl, rfl⟩, trivial⟩⟩⟩⟩⟩⟩⟩ rfl ?_
  refine o_build (ps := [(0, [.string (bstr [97, 99, 99, 101, 108])]), (1, [.I 1]), (2, [.I 2]), (3, [.I 1]), (4, [.I 10000]), (5, [.I 2]), (6, [.I 500])]) rfl rfl rfl z_struct139 ⟨rfl, ⟨_, (ev_str z_str14), rfl⟩, ⟨rfl, ⟨_, rfl, rfl⟩, ⟨rfl, ⟨_, rfl, rfl⟩, ⟨rfl, ⟨_, rfl, rfl⟩, ⟨rfl, ⟨_, rfl, rfl⟩, ⟨rfl, ⟨_, rfl, rfl⟩, ⟨rfl, ⟨_, rfl, rfl⟩, trivial⟩⟩⟩⟩⟩⟩⟩ rfl ?_
  refine o_build (ps := [(0, [.string (bstr [112, 97, 116, 104])]), (1, [.I 3]), (2, [.I (-1)]), (3, [.I 1]), (4, [.I 16]), (5, [.I 1]), (6, [.I 0])]) rfl rfl rfl z_struct139 ⟨rfl, ⟨_, (ev_str z_str15), rfl⟩, ⟨rfl, ⟨_, rfl, rfl⟩, ⟨rfl, ⟨_, rfl, rfl⟩, ⟨rfl, ⟨_, rfl, rfl⟩, ⟨rfl, ⟨_, rfl, rfl⟩, ⟨rfl, ⟨_, rfl, rfl⟩, ⟨rfl, ⟨_, rfl, rfl⟩, trivial⟩⟩⟩⟩⟩⟩⟩ rfl ?_
  refine o_build (ps := [(0, [.string (bstr [116, 97, 103])]), (1, [.I 6]), (2, [.I (-1)]), (3, [.I 0]), (4, [.I 16]), (5, [.I 2]), (6, [.I 0])]) rfl rfl rfl z_struct139 ⟨rfl, ⟨_, (ev_str z_str16), rfl⟩, ⟨rfl, ⟨_, rfl, rfl⟩, ⟨rfl, ⟨_, rfl, rfl⟩, ⟨rfl, ⟨_, rfl, rfl⟩, ⟨rfl, ⟨_, rfl, rfl⟩, ⟨rfl, ⟨_, rfl, rfl⟩, ⟨rfl, ⟨_, rfl, rfl⟩, trivial⟩⟩⟩⟩⟩⟩⟩ rfl ?_
  refine o_litE (eP eS (eP (eI .i64) (eP (eI .i64) (eP (eI .i64) (eP (eI .i64) (eP (eI .i64) (eI .i64))))))) [r1, ((bstr [115, 112, 101, 101, 100]), 1, 1, 1, 5000, 1, 0), ((bstr [97, 99, 99, 101, 108]), 1, 2, 1, 10000, 2, 500), ((bstr [112, 97, 116, 104]), 3, (-1), 1, 16, 1, 0), ((bstr [116, 97, 103]), 6, (-1), 0, 16, 2, 0)] rfl rfl rfl z_slT150 z_zero139 ⟨rfl, ⟨_, rfl, rfl⟩, ⟨rfl, ⟨_, rfl, rfl⟩, ⟨rfl, ⟨_, rfl, rfl⟩, ⟨rfl, ⟨_, rfl, rfl⟩, ⟨rfl, ⟨_, rfl, rfl⟩, trivial⟩⟩⟩⟩⟩ rfl rfl rfl rfl (fun v5 g6 ho7 => Z 2 ?_)
  refine st_freeze (fun τ8 hl9 hg10 => ?_)
  have hs11 := ho7.freeze hl9 hg10
  obtain rfl := h.symm
  exact RT func80 rfl (hl4.trans hl9) ⟨_, rfl, rfl, hs11⟩
 ·refine Z 5 ?_
  refine I2 h (fun h => ?_) (fun h => ?_)
  ·refine Z 2 ?_
   obtain ⟨r13, hr14, h⟩ := h
   refine SC z_en107 (field_robot_ok hr14 σ) ?_
   rintro _ τ15 _ hl16 ⟨rfl, rfl⟩
   refine o_build (ps := [(0, [.string (bstr [114, 101, 97, 115, 111, 110])]), (1, [.I 1]), (2, [.I 1]), (3, [.I 0]), (4, [.I 15]), (5, [.I 1]), (6, [.I 0])]) rfl rfl rfl z_struct139 ⟨rfl, ⟨_, (ev_str z_str17), rfl⟩, ⟨rfl, ⟨_, rfl, rfl⟩, ⟨rfl, ⟨_, rfl, rfl⟩, ⟨rfl, ⟨_, rfl, rfl⟩, ⟨rfl, ⟨_, rfl, rfl⟩, ⟨rfl, ⟨_, rfl, rfl⟩, ⟨rfl, ⟨_, rfl, rfl⟩, trivial⟩⟩⟩⟩⟩⟩⟩ rfl ?_
   refine o_build (ps := [(0, [.string (bstr [122, 111, 110, 101])]), (1, [.I 1]), (2, [.I 2]), (3, [.I 0]), (4, [.I 4095]), (5, [.I 2]), (6, [.I 0])]) rfl rfl rfl z_struct139 ⟨rfl, ⟨_, (ev_str z_str18), rfl⟩, ⟨rfl, ⟨_, rfl, rfl⟩, ⟨rfl, ⟨_, rfl, rfl⟩, ⟨rfl, ⟨_, rfl, rfl⟩, ⟨rfl, ⟨_, rfl, rfl⟩, ⟨rfl, ⟨_, rfl, rfl⟩, ⟨rfl, ⟨_, rfl, rfl⟩, trivial⟩⟩⟩⟩⟩⟩⟩ rfl ?_
   refine o_litE (eP eS (eP (eI .i64) (eP (eI .i64) (eP (eI .i64) (eP (eI .i64) (eP (eI .i64) (eI .i64))))))) [r13, ((bstr [114, 101, 97, 115, 111, 110]), 1, 1, 0, 15, 1, 0), ((bstr [122, 111, 110, 101]), 1, 2, 0, 4095, 2, 0)] rfl rfl rfl z_slT150 z_zero139 ⟨rfl, ⟨_, rfl, rfl⟩, ⟨rfl, ⟨_, rfl, rfl⟩, ⟨rfl, ⟨_, rfl, rfl⟩, trivial⟩⟩⟩ rfl rfl rfl rfl (fun v17 g18 ho19 => Z 2 ?_)
   refine st_freeze (fun τ20 hl21 hg22 => ?_)
   have hs23 := ho19.freeze hl21 hg22
   obtain rfl := h.symm
   exact RT func80 rfl (hl16.trans hl21) ⟨_, rfl, rfl, hs23⟩
  ·refine Z 5 ?_
   refine I2 h (fun h => ?_) (fun h => ?_)
   ·refine Z 2 ?_
    obtain ⟨r25, hr26, h⟩ := h
    refine SC z_en107 (field_robot_ok hr26 σ) ?_
    rintro _ τ27 _ hl28 ⟨rfl, rfl⟩
    refine o_build (ps := [(0, [.string (bstr [122, 111, 110, 101])]), (1, [.I 1]), (2, [.I 1]), (3, [.I 0]), (4, [.I 4095]), (5, [.I 1]), (6, [.I 0])]) rfl rfl rfl z_struct139 ⟨rfl, ⟨_, (ev_str z_str18), rfl⟩, ⟨rfl, ⟨_, rfl, rfl⟩, ⟨rfl, ⟨_, rfl, rfl⟩, ⟨rfl, ⟨_, rfl, rfl⟩, ⟨rfl, ⟨_, rfl, rfl⟩, ⟨rfl, ⟨_, rfl, rfl⟩, ⟨rfl, ⟨_, rfl, rfl⟩, trivial⟩⟩⟩⟩⟩⟩⟩ rfl ?_
    refine o_build (ps := [(0, [.string (bstr [108, 101, 97, 115, 101])]), (1, [.I 1]), (2, [.I 2]), (3, [.I 1]), (4, [.I 255]), (5, [.I 2]), (6, [.I 1])]) rfl rfl rfl z_struct139 ⟨rfl, ⟨_, (ev_str z_str19), rfl⟩, ⟨rfl, ⟨_, rfl, rfl⟩, ⟨rfl, ⟨_, rfl, rfl⟩, ⟨rfl, ⟨_, rfl, rfl⟩, ⟨rfl, ⟨_, rfl, rfl⟩, ⟨rfl, ⟨_, rfl, rfl⟩, ⟨rfl, ⟨_, rfl, rfl⟩, trivial⟩⟩⟩⟩⟩⟩⟩ rfl ?_
    refine o_build (ps := [(0, [.string (bstr [99, 101, 108, 108, 115])]), (1, [.I 4]), (2, [.I (-1)]), (3, [.I 1]), (4, [.I 32]), (5, [.I 1]), (6, [.I 0])]) rfl rfl rfl z_struct139 ⟨rfl, ⟨_, (ev_str z_str20), rfl⟩, ⟨rfl, ⟨_, rfl, rfl⟩, ⟨rfl, ⟨_, rfl, rfl⟩, ⟨rfl, ⟨_, rfl, rfl⟩, ⟨rfl, ⟨_, rfl, rfl⟩, ⟨rfl, ⟨_, rfl, rfl⟩, ⟨rfl, ⟨_, rfl, rfl⟩, trivial⟩⟩⟩⟩⟩⟩⟩ rfl ?_
    refine o_litE (eP eS (eP (eI .i64) (eP (eI .i64) (eP (eI .i64) (eP (eI .i64) (eP (eI .i64) (eI .i64))))))) [r25, ((bstr [122, 111, 110, 101]), 1, 1, 0, 4095, 1, 0), ((bstr [108, 101, 97, 115, 101]), 1, 2, 1, 255, 2, 1), ((bstr [99, 101, 108, 108, 115]), 4, (-1), 1, 32, 1, 0)] rfl rfl rfl z_slT150 z_zero139 ⟨rfl, ⟨_, rfl, rfl⟩, ⟨rfl, ⟨_, rfl, rfl⟩, ⟨rfl, ⟨_, rfl, rfl⟩, ⟨rfl, ⟨_, rfl, rfl⟩, trivial⟩⟩⟩⟩ rfl rfl rfl rfl (fun v29 g30 ho31 => Z 2 ?_)
    refine st_freeze (fun τ32 hl33 hg34 => ?_)
    have hs35 := ho31.freeze hl33 hg34
    obtain rfl := h.symm
    exact RT func80 rfl (hl28.trans hl33) ⟨_, rfl, rfl, hs35⟩
   ·refine Z 5 ?_
    refine I2 h (fun h => ?_) (fun h => ?_)
    ·refine Z 2 ?_
     obtain ⟨r37, hr38, h⟩ := h
     refine SC z_en107 (field_robot_ok hr38 σ) ?_
     rintro _ τ39 _ hl40 ⟨rfl, rfl⟩
     refine o_build (ps := [(0, [.string (bstr [120])]), (1, [.I 2]), (2, [.I 1]), (3, [.I (-1000000)]), (4, [.I 1000000]), (5, [.I 1]), (6, [.I 0])]) rfl rfl rfl z_struct139 ⟨rfl, ⟨_, (ev_str z_str21), rfl⟩, ⟨rfl, ⟨_, rfl, rfl⟩, ⟨rfl, ⟨_, rfl, rfl⟩, ⟨rfl, ⟨_, rfl, rfl⟩, ⟨rfl, ⟨_, rfl, rfl⟩, ⟨rfl, ⟨_, rfl, rfl⟩, ⟨rfl, ⟨_, rfl, rfl⟩, trivial⟩⟩⟩⟩⟩⟩⟩ rfl ?_
     refine o_build (ps := [(0, [.string (bstr [121])]), (1, [.I 2]), (2, [.I 2]), (3, [.I (-1000000)]), (4, [.I 1000000]), (5, [.I 1]), (6, [.I 0])]) rfl rfl rfl z_struct139 ⟨rfl, ⟨_, (ev_str z_str22), rfl⟩, ⟨rfl, ⟨_, rfl, rfl⟩, ⟨rfl, ⟨_, rfl, rfl⟩, ⟨rfl, ⟨_, rfl, rfl⟩, ⟨rfl, ⟨_, rfl, rfl⟩, ⟨rfl, ⟨_, rfl, rfl⟩, ⟨rfl, ⟨_, rfl, rfl⟩, trivial⟩⟩⟩⟩⟩⟩⟩ rfl ?_
     refine o_build (ps := [(0, [.string (bstr [104, 101, 97, 100, 105, 110, 103])]), (1, [.I 1]), (2, [.I 3]), (3, [.I 0]), (4, [.I 35999]), (5, [.I 1]), (6, [.I 0])]) rfl rfl rfl z_struct139 ⟨rfl, ⟨_, (ev_str z_str23), rfl⟩, ⟨rfl, ⟨_, rfl, rfl⟩, ⟨rfl, ⟨_, rfl, rfl⟩, ⟨rfl, ⟨_, rfl, rfl⟩, ⟨rfl, ⟨_, rfl, rfl⟩, ⟨rfl, ⟨_, rfl, rfl⟩, ⟨rfl, ⟨_, rfl, rfl⟩, trivial⟩⟩⟩⟩⟩⟩⟩ rfl ?_
     refine o_build (ps := [(0, [.string (bstr [98, 97, 116, 116, 101, 114, 121])]), (1, [.I 1]), (2, [.I 4]), (3, [.I 0]), (4, [.I 1000]), (5, [.I 1]), (6, [.I 0])]) rfl rfl rfl z_struct139 ⟨rfl, ⟨_, (ev_str z_str24), rfl⟩, ⟨rfl, ⟨_, rfl, rfl⟩, ⟨rfl, ⟨_, rfl, rfl⟩, ⟨rfl, ⟨_, rfl, rfl⟩, ⟨rfl, ⟨_, rfl, rfl⟩, ⟨rfl, ⟨_, rfl, rfl⟩, ⟨rfl, ⟨_, rfl, rfl⟩, trivial⟩⟩⟩⟩⟩⟩⟩ rfl ?_
     refine o_build (ps := [(0, [.string (bstr [115, 117, 114, 101])]), (1, [.I 1]), (2, [.I 5]), (3, [.I 0]), (4, [.I 100]), (5, [.I 2]), (6, [.I 100])]) rfl rfl rfl z_struct139 ⟨rfl, ⟨_, (ev_str z_str25), rfl⟩, ⟨rfl, ⟨_, rfl, rfl⟩, ⟨rfl, ⟨_, rfl, rfl⟩, ⟨rfl, ⟨_, rfl, rfl⟩, ⟨rfl, ⟨_, rfl, rfl⟩, ⟨rfl, ⟨_, rfl, rfl⟩, ⟨rfl, ⟨_, rfl, rfl⟩, trivial⟩⟩⟩⟩⟩⟩⟩ rfl ?_
     refine o_litE (eP eS (eP (eI .i64) (eP (eI .i64) (eP (eI .i64) (eP (eI .i64) (eP (eI .i64) (eI .i64))))))) [r37, ((bstr [120]), 2, 1, (-1000000), 1000000, 1, 0), ((bstr [121]), 2, 2, (-1000000), 1000000, 1, 0), ((bstr [104, 101, 97, 100, 105, 110, 103]), 1, 3, 0, 35999, 1, 0), ((bstr [98, 97, 116, 116, 101, 114, 121]), 1, 4, 0, 1000, 1, 0), ((bstr [115, 117, 114, 101]), 1, 5, 0, 100, 2, 100)] rfl rfl rfl z_slT150 z_zero139 ⟨rfl, ⟨_, rfl, rfl⟩, ⟨rfl, ⟨_, rfl, rfl⟩, ⟨rfl, ⟨_, rfl, rfl⟩, ⟨rfl, ⟨_, rfl, rfl⟩, ⟨rfl, ⟨_, rfl, rfl⟩, ⟨rfl, ⟨_, rfl, rfl⟩, trivial⟩⟩⟩⟩⟩⟩ rfl rfl rfl rfl (fun v41 g42 ho43 => Z 2 ?_)
     refine st_freeze (fun τ44 hl45 hg46 => ?_)
     have hs47 := ho43.freeze hl45 hg46
     obtain rfl := h.symm
     exact RT func80 rfl (hl40.trans hl45) ⟨_, rfl, rfl, hs47⟩
    ·refine Z 5 ?_
     refine I2 h (fun h => ?_) (fun h => ?_)
     ·refine Z 2 ?_
      obtain ⟨r49, hr50, h⟩ := h
      refine SC z_en107 (field_robot_ok hr50 σ) ?_
      rintro _ τ51 _ hl52 ⟨rfl, rfl⟩
      refine o_build (ps := [(0, [.string (bstr [99, 111, 100, 101])]), (1, [.I 1]), (2, [.I 1]), (3, [.I 1]), (4, [.I 9999]), (5, [.I 1]), (6, [.I 0])]) rfl rfl rfl z_struct139 ⟨rfl, ⟨_, (ev_str z_str26), rfl⟩, ⟨rfl, ⟨_, rfl, rfl⟩, ⟨rfl, ⟨_, rfl, rfl⟩, ⟨rfl, ⟨_, rfl, rfl⟩, ⟨rfl, ⟨_, rfl, rfl⟩, ⟨rfl, ⟨_, rfl, rfl⟩, ⟨rfl, ⟨_, rfl, rfl⟩, trivial⟩⟩⟩⟩⟩⟩⟩ rfl ?_
      refine o_build (ps := [(0, [.string (bstr [115, 101, 118, 101, 114, 105, 116, 121])]), (1, [.I 1]), (2, [.I 2]), (3, [.I 0]), (4, [.I 4]), (5, [.I 1]), (6, [.I 0])]) rfl rfl rfl z_struct139 ⟨rfl, ⟨_, (ev_str z_str27), rfl⟩, ⟨rfl, ⟨_, rfl, rfl⟩, ⟨rfl, ⟨_, rfl, rfl⟩, ⟨rfl, ⟨_, rfl, rfl⟩, ⟨rfl, ⟨_, rfl, rfl⟩, ⟨rfl, ⟨_, rfl, rfl⟩, ⟨rfl, ⟨_, rfl, rfl⟩, trivial⟩⟩⟩⟩⟩⟩⟩ rfl ?_
      refine o_build (ps := [(0, [.string (bstr [112, 97, 114, 116])]), (1, [.I 1]), (2, [.I 3]), (3, [.I 0]), (4, [.I 255]), (5, [.I 2]), (6, [.I 0])]) rfl rfl rfl z_struct139 ⟨rfl, ⟨_, (ev_str z_str28), rfl⟩, ⟨rfl, ⟨_, rfl, rfl⟩, ⟨rfl, ⟨_, rfl, rfl⟩, ⟨rfl, ⟨_, rfl, rfl⟩, ⟨rfl, ⟨_, rfl, rfl⟩, ⟨rfl, ⟨_, rfl, rfl⟩, ⟨rfl, ⟨_, rfl, rfl⟩, trivial⟩⟩⟩⟩⟩⟩⟩ rfl ?_
      refine o_build (ps := [(0, [.string (bstr [116, 105, 109, 101, 115])]), (1, [.I 1]), (2, [.I 4]), (3, [.I 1]), (4, [.I 1000000]), (5, [.I 2]), (6, [.I 1])]) rfl rfl rfl z_struct139 ⟨rfl, ⟨_, (ev_str z_str29), rfl⟩, ⟨rfl, ⟨_, rfl, rfl⟩, ⟨rfl, ⟨_, rfl, rfl⟩, ⟨rfl, ⟨_, rfl, rfl⟩, ⟨rfl, ⟨_, rfl, rfl⟩, ⟨rfl, ⟨_, rfl, rfl⟩, ⟨rfl, ⟨_, rfl, rfl⟩, trivial⟩⟩⟩⟩⟩⟩⟩ rfl ?_
      refine o_build (ps := [(0, [.string (bstr [116, 101, 120, 116])]), (1, [.I 5]), (2, [.I (-1)]), (3, [.I 0]), (4, [.I 64]), (5, [.I 1]), (6, [.I 0])]) rfl rfl rfl z_struct139 ⟨rfl, ⟨_, (ev_str z_str30), rfl⟩, ⟨rfl, ⟨_, rfl, rfl⟩, ⟨rfl, ⟨_, rfl, rfl⟩, ⟨rfl, ⟨_, rfl, rfl⟩, ⟨rfl, ⟨_, rfl, rfl⟩, ⟨rfl, ⟨_, rfl, rfl⟩, ⟨rfl, ⟨_, rfl, rfl⟩, trivial⟩⟩⟩⟩⟩⟩⟩ rfl ?_
      refine o_litE (eP eS (eP (eI .i64) (eP (eI .i64) (eP (eI .i64) (eP (eI .i64) (eP (eI .i64) (eI .i64))))))) [r49, ((bstr [99, 111, 100, 101]), 1, 1, 1, 9999, 1, 0), ((bstr [115, 101, 118, 101, 114, 105, 116, 121]), 1, 2, 0, 4, 1, 0), ((bstr [112, 97, 114, 116]), 1, 3, 0, 255, 2, 0), ((bstr [116, 105, 109, 101, 115]), 1, 4, 1, 1000000, 2, 1), ((bstr [116, 101, 120, 116]), 5, (-1), 0, 64, 1, 0)] rfl rfl rfl z_slT150 z_zero139 ⟨rfl, ⟨_, rfl, rfl⟩, ⟨rfl, ⟨_, rfl, rfl⟩, ⟨rfl, ⟨_, rfl, rfl⟩, ⟨rfl, ⟨_, rfl, rfl⟩, ⟨rfl, ⟨_, rfl, rfl⟩, ⟨rfl, ⟨_, rfl, rfl⟩, trivial⟩⟩⟩⟩⟩⟩ rfl rfl rfl rfl (fun v53 g54 ho55 => Z 2 ?_)
      refine st_freeze (fun τ56 hl57 hg58 => ?_)
      have hs59 := ho55.freeze hl57 hg58
      obtain rfl := h.symm
      exact RT func80 rfl (hl52.trans hl57) ⟨_, rfl, rfl, hs59⟩
     ·refine Z 6 ?_
      obtain rfl := h.symm
      exact RT func80 rfl LR ⟨_, rfl, rfl, Sl.nil⟩
theorem field_All_1_ok {c0 c1 : Int} {bc0 bc1 : Nat} {σ0 : Sto} (hc0_0 : Cel σ0 ⟨bc0, 0, none⟩ (.I c0)) (hc1_0 : Cel σ0 ⟨bc1, 0, none⟩ (.I c1)) :
    IterV prog (fun _ x vx => vx = [.agg (lA x).toArray]) (.func (.func 103) #[] [.Pb bc0, .Pb bc1].toArray) σ0 [] (fun (_ : Unit) _ f => f = []) (field_All_1 c0 c1) := by
 intro S Y I y hyc hyo hIm hY s s' o hR σ g hle hIg
 obtain ⟨r, hr0⟩ : ∃ r, r = (s', o) := ⟨_, rfl⟩
 rw [← hr0] at hR
 have h := hR
 refine callV_of (caps := [.Pb bc0, .Pb bc1]) z_en103 ?_
 refine CO func103 ntmps103 rfl (fun cs fs => ?_)
 refine st_ord [0] _ rfl (Z 5 ?_)
 refine o_loadI (v := .I c0) rfl rfl rfl z_sc3 rfl (Cel.up hc0_0 hle) ?_
 obtain ⟨r1, hr2, h⟩ := h
 refine SC z_en80 (field_Of_ok hr2 σ) ?_
 rintro _ τ3 _ hl4 ⟨v5, rfl, rfl, hs6⟩
 refine o_lenI rfl rfl rfl z_slT150 rfl hs6 (Z 2 ?_)
 obtain ⟨e7, hL7, hA7⟩ := h
 refine st_loop hL7 (fun (s7 : S × Int) ρ τ7 gs => τ3.Le τ7 ∧ ∃ (g8 : Grp), ESub ρ [(0, y), (2, .Pb bc1), (7, v5), (8, .I (r1.length : Int)), (9, .I s7.2)] ∧ gs = [g8] ∧ I s7.1 τ7 g8) ⟨LR, g, rfl, rfl, (hIm _ _ _ _ hl4 hIg)⟩ ?_
 rintro s7 o7 h he7 ρ7 τ7 gs7 ⟨hl7, g8, hρ, rfl, hI9⟩ hn7
 refine st_es hρ (Z 5 ?_)
 refine I2 h (fun h => ?_) (fun h => ?_)
 ·refine Z 2 ?_
  refine st_cut (fun ρ τ10 gs => ∃ (s10 : S) (g11 : Grp), field_All_1_j2 S Y s7 s10 o7 ∧ τ7.Le τ10 ∧ ESub ρ [(0, y), (2, .Pb bc1), (7, v5), (8, .I (r1.length : Int)), (9, .I s7.2)] ∧ gs = [g11] ∧ I s10 τ10 g11) ?_ (fun hk10 => ?_)
  ·rintro ρ10 τ10 gs10 ⟨s10, g11, h, hl10, hρ, rfl, hI12⟩
   refine st_es hρ (Z 4 ?_)
   exact hn7 _ _ _ _ h ⟨(hl7.trans hl10), g11, rfl, rfl, hI12⟩
  refine Z 3 ?_
  obtain ⟨q13, hf14, h⟩ := h
  refine o_index rfl rfl rfl z_slT150 rfl rfl (hs6.up hl7) rfl hf14 (fun b15 of16 vs hc17 hrep => ?_)
  obtain ⟨_, _, rfl, rfl, ⟨_, _, rfl, rfl, ⟨_, _, rfl, rfl, ⟨_, _, rfl, rfl, ⟨_, _, rfl, rfl, ⟨_, _, rfl, rfl, rfl⟩⟩⟩⟩⟩⟩ := hrep
  refine o_loadIN (vs := (lA q13)) rfl rfl rfl z_agg139 rfl rfl (celn_part 0 rfl hc17) ?_
  refine o_alloc rfl rfl rfl z_zero139 (fun b18 => ZZ 7 [0, 0] ?_)
  refine o_loadI (v := .I c1) rfl rfl rfl z_sc3 rfl (Cel.up hc1_0 ((hle.trans hl4).trans hl7)) (Z 2 ?_)
  refine I2 h (fun h => ?_) (fun h => ?_)
  ·refine st_exit rfl ?_
   refine st_ord [1] _ rfl ?_
   exact hk10 _ _ _ ⟨s7.1, g8, h, LR, rfl, rfl, hI9⟩
  ·refine ZZ 5 [0] ?_
   obtain ⟨y19, u20, hy21, h⟩ := h
   refine st_ord [1, 0] _ rfl ?_
   refine st_call (foot := [g8]) rfl rfl rfl rfl rfl rfl (hY q13 s7.1 _ _ _ _ _ (hle.trans (hl4.trans hl7)) hy21 rfl hI9) ?_
   rintro _ τ22 _ hl23 ⟨rfl, g24, rfl, hI25⟩
   refine Z 2 ?_
   refine I2 h (fun h => ?_) (fun h => ?_)
   ·refine Z 2 ?_
    refine st_ord [0] _ rfl ?_
    obtain rfl := he7 _ h
    replace h := hA7
    obtain rfl := Eq.symm h
    cases hr0
    exact st_fin (gs' := [g24, []]) func103 rfl (by simp) ((hl4.trans hl7).trans hl23) ⟨g24, _, rfl, hI25, rfl⟩
   ·refine Z 2 ?_
    refine st_ord [0] _ rfl ?_
    exact hk10 _ _ _ ⟨u20, g24, h, hl23, rfl, rfl, hI25⟩
 ·refine Z 2 ?_
  obtain rfl := he7 _ h
  replace h := hA7
  obtain rfl := Eq.symm h
  cases hr0
  exact st_fin (gs' := [g8, []]) func103 rfl (by simp) (hl4.trans hl7) ⟨g8, _, rfl, hI9, rfl⟩
theorem field_All_ok {a0 a1 : Int} {r : (((S : Type) → ((TyA) → S → Bool × S → Prop) → S → S × Unit → Prop))} (h : field_All a0 a1 r) (σ : Sto)  :
    Does prog 72 [.I a0, .I a1] σ [] (fun v τ gs => ∃ (f9 : Nat) (q10 : Array Value), gs = [] ∧ .func (.func f9) #[] q10 = v ∧ IterV prog (fun _ x vx => vx = [.agg (lA x).toArray]) (.func (.func f9) #[] q10) τ [] (fun (_ : Unit) _ f => f = []) r) := by
 refine CO func72 ntmps72 rfl (fun cs fs => Z 2 ?_)
 refine o_boxC rfl rfl rfl rfl rfl rfl (fun b1 => ?_)
 refine o_boxC rfl rfl rfl rfl rfl rfl (fun b2 => Z 4 ?_)
 refine st_ord [1, 0] _ rfl ?_
 refine st_freeze (fun τ3 hl4 hg5 => ?_)
 refine st_freeze (fun τ6 hl7 hg8 => Z 3 ?_)
 obtain rfl := h.symm
 exact RT func72 rfl (hl4.trans hl7) ⟨_, _, rfl, rfl, (field_All_1_ok (Cel.up (cel_of hg5 rfl) hl7) (cel_of hg8 rfl))⟩
theorem strings_Contains_ok {a0 a1 : ByteArray} {r : Bool} (h : strings_Contains a0 a1 r) (σ : Sto)  :
    Does prog 145 [.string a0, .string a1] σ [] (fun v τ gs => gs = [] ∧ .bool r = v) := by
 refine CO func145 ntmps145 rfl (fun cs fs => Z 8 ?_)
 obtain ⟨r1, hr2, h⟩ := h
 refine SC z_en140 (strings_Index_ok hr2 σ) ?_
 rintro _ τ3 _ hl4 ⟨rfl, rfl⟩
 refine Z 3 ?_
 obtain rfl := h.symm
 exact RT func145 rfl hl4 ⟨rfl, rfl⟩
theorem strconv_ParseInt_ok {a0 : ByteArray} {a1 a2 : Int} {r : Int × Bool} (h : strconv_ParseInt a0 a1 a2 r) (σ : Sto) (hE : Errs prog σ) :
    Does prog 112 [.string a0, .I a1, .I a2] σ [] (fun v τ gs => ∃ (v1 : Value), gs = [] ∧ .tuple [.I r.1, v1].toArray = v ∧ IfB v1 r.2) := by
 obtain ⟨rfl, rfl, hs, rfl⟩ := h
 exact parse_does Tryz.strconv_ParseInt_10_at64_ok Tryz.strconv_ParseInt_10_at64_syntax_var Tryz.strconv_ParseInt_10_at64_range_var hE hs
theorem internal_stringslite_HasPrefix_ok {a0 a1 : ByteArray} {r : Bool} (h : internal_stringslite_HasPrefix a0 a1 r) (σ : Sto)  :
    Does prog 157 [.string a0, .string a1] σ [] (fun v τ gs => gs = [] ∧ .bool r = v) := by
 refine CO func157 ntmps157 rfl (fun cs fs => Z 5 ?_)
 refine cutS σ (fun (s1 : Bool) => internal_stringslite_HasPrefix_j1 s1 r) (fun s1 => [(4, .bool s1)]) (fun s1 => []) (fun s1 τ1 h hl1 => ?_) (fun hk1 => ?_)
 ·obtain rfl := h.symm
  exact RT func157 rfl hl1 ⟨rfl, rfl⟩
 refine Z 6 ?_
 refine M2 h (fun h => ?_) (fun h => ?_)
 ·refine Z 3 ?_
  obtain ⟨hf2, hf3, h⟩ := h
  refine o_sliceSh rfl rfl rfl underlying9 rfl rfl hf2 hf3 (Z 5 ?_)
  exact hk1 _ _ _ ⟨(decide ((a0.extract 0 (a1.size : Int).toNat) = a1)), h, LR, rfl, rfl⟩
 ·refine Z 9 ?_
  exact hk1 _ _ _ ⟨false, h, LR, rfl, rfl⟩
theorem internal_stringslite_TrimPrefix_ok {a0 a1 r : ByteArray} (h : internal_stringslite_TrimPrefix a0 a1 r) (σ : Sto)  :
    Does prog 129 [.string a0, .string a1] σ [] (fun v τ gs => gs = [] ∧ .string r = v) := by
 refine CO func129 ntmps129 rfl (fun cs fs => Z 2 ?_)
 refine o_assign rfl rfl rfl (ev_str z_str1) (Z 6 ?_)
 obtain ⟨r1, hr2, h⟩ := h
 refine SC z_en157 (internal_stringslite_HasPrefix_ok hr2 σ) ?_
 rintro _ τ3 _ hl4 ⟨rfl, rfl⟩
 refine st_end ?_
 refine I2 h (fun h => ?_) (fun h => ?_)
 ·refine Z 5 ?_
  obtain ⟨hf5, hf6, h⟩ := h
  refine o_sliceSl rfl rfl rfl underlying9 rfl rfl hf5 hf6 (Z 2 ?_)
  obtain rfl := h.symm
  exact RT func129 rfl hl4 ⟨rfl, rfl⟩
 ·refine Z 6 ?_
  obtain rfl := h.symm
  exact RT func129 rfl hl4 ⟨rfl, rfl⟩
theorem strings_TrimPrefix_ok {a0 a1 r : ByteArray} (h : strings_TrimPrefix a0 a1 r) (σ : Sto)  :
    Does prog 113 [.string a0, .string a1] σ [] (fun v τ gs => gs = [] ∧ .string r = v) := by
 refine CO func113 ntmps113 rfl (fun cs fs => Z 2 ?_)
 refine o_assign rfl rfl rfl (ev_str z_str1) (Z 5 ?_)
 obtain ⟨r1, hr2, h⟩ := h
 refine SC z_en129 (internal_stringslite_TrimPrefix_ok hr2 σ) ?_
 rintro _ τ3 _ hl4 ⟨rfl, rfl⟩
 refine Z 2 ?_
 obtain rfl := h.symm
 exact RT func113 rfl hl4 ⟨rfl, rfl⟩
theorem strings_trimRightByte_ok {a0 : ByteArray} {a1 : Int} {r : ByteArray} (h : strings_trimRightByte a0 a1 r) (σ : Sto)  :
    Does prog 131 [.string a0, .int .u8 a1] σ [] (fun v τ gs => gs = [] ∧ .string r = v) := by
 refine CO func131 ntmps131 rfl (fun cs fs => Z 2 ?_)
 refine o_assign rfl rfl rfl (ev_str z_str1) (Z 2 ?_)
 refine cutS σ (fun (s1 : ByteArray) => strings_trimRightByte_j1 s1 r) (fun s1 => [(0, .string s1), (4, .E0)]) (fun s1 => []) (fun s1 τ1 h hl1 => (Z 5 ?_)) (fun hk1 => ?_)
 ·obtain rfl := h.symm
  exact RT func131 rfl hl1 ⟨rfl, rfl⟩
 obtain ⟨e2, hL2, hA2⟩ := h
 refine st_loop hL2 (fun (s2 : ByteArray) ρ τ2 gs => σ.Le τ2 ∧ ESub ρ [(0, .string s2), (1, .int .u8 a1), (4, .E0)] ∧ gs = []) ⟨LR, rfl, rfl⟩ ?_
 rintro s2 o2 h he2 ρ2 τ2 gs2 ⟨hl2, hρ, rfl⟩ hn2
 refine st_es hρ (Z 2 ?_)
 refine cutS τ2 (fun (s3 : Bool) => strings_trimRightByte_j3 s2 s3 o2) (fun s3 => [(0, .string s2), (1, .int .u8 a1), (4, .E0), (16, .bool s3)]) (fun s3 => []) (fun s3 τ3 h hl3 => ?_) (fun hk3 => ?_)
 ·refine I2 h (fun h => ?_) (fun h => ?_)
  ·refine Z 7 ?_
   obtain ⟨hf4, hf5, h⟩ := h
   refine o_sliceSh rfl rfl rfl underlying9 rfl rfl hf4 hf5 (Z 3 ?_)
   exact hn2 _ _ _ _ h ⟨(hl2.trans hl3), rfl, rfl⟩
  ·refine st_exit rfl ?_
   obtain rfl := he2 _ h
   replace h := hA2
   exact hk1 _ _ _ ⟨s2, h, (hl2.trans hl3), rfl, rfl⟩
 refine Z 4 ?_
 refine M2 h (fun h => ?_) (fun h => ?_)
 ·refine Z 4 ?_
  obtain ⟨q6, hf7, h⟩ := h
  refine o_indexS rfl rfl rfl underlying9 rfl rfl hf7 (Z 4 ?_)
  exact hk3 _ _ _ ⟨(decide (q6 = a1)), h, LR, rfl, rfl⟩
 ·refine Z 9 ?_
  exact hk3 _ _ _ ⟨false, h, LR, rfl, rfl⟩
theorem strings_trimLeftByte_ok {a0 : ByteArray} {a1 : Int} {r : ByteArray} (h : strings_trimLeftByte a0 a1 r) (σ : Sto)  :
    Does prog 130 [.string a0, .int .u8 a1] σ [] (fun v τ gs => gs = [] ∧ .string r = v) := by
 refine CO func130 ntmps130 rfl (fun cs fs => Z 2 ?_)
 refine o_assign rfl rfl rfl (ev_str z_str1) (Z 2 ?_)
 refine cutS σ (fun (s1 : ByteArray) => strings_trimLeftByte_j1 s1 r) (fun s1 => [(0, .string s1), (4, .E0)]) (fun s1 => []) (fun s1 τ1 h hl1 => (Z 5 ?_)) (fun hk1 => ?_)
 ·obtain rfl := h.symm
  exact RT func130 rfl hl1 ⟨rfl, rfl⟩
 obtain ⟨e2, hL2, hA2⟩ := h
 refine st_loop hL2 (fun (s2 : ByteArray) ρ τ2 gs => σ.Le τ2 ∧ ESub ρ [(0, .string s2), (1, .int .u8 a1), (4, .E0)] ∧ gs = []) ⟨LR, rfl, rfl⟩ ?_
 rintro s2 o2 h he2 ρ2 τ2 gs2 ⟨hl2, hρ, rfl⟩ hn2
 refine st_es hρ (Z 2 ?_)
 refine cutS τ2 (fun (s3 : Bool) => strings_trimLeftByte_j3 s2 s3 o2) (fun s3 => [(0, .string s2), (1, .int .u8 a1), (4, .E0), (13, .bool s3)]) (fun s3 => []) (fun s3 τ3 h hl3 => ?_) (fun hk3 => ?_)
 ·refine I2 h (fun h => ?_) (fun h => ?_)
  ·refine Z 4 ?_
   obtain ⟨hf4, h⟩ := h
   refine o_sliceSl rfl rfl rfl underlying9 rfl rfl (by decide) hf4 (Z 3 ?_)
   exact hn2 _ _ _ _ h ⟨(hl2.trans hl3), rfl, rfl⟩
  ·refine st_exit rfl ?_
   obtain rfl := he2 _ h
   replace h := hA2
   exact hk1 _ _ _ ⟨s2, h, (hl2.trans hl3), rfl, rfl⟩
 refine Z 4 ?_
 refine M2 h (fun h => ?_) (fun h => ?_)
 ·refine o_move rfl rfl rfl rfl ?_
  obtain ⟨q5, hf6, h⟩ := h
  refine o_indexS rfl rfl rfl underlying9 rfl rfl hf6 (Z 4 ?_)
  exact hk3 _ _ _ ⟨(decide (q5 = a1)), h, LR, rfl, rfl⟩
 ·refine Z 6 ?_
  exact hk3 _ _ _ ⟨false, h, LR, rfl, rfl⟩
theorem strings_makeASCIISet_ok {a0 : ByteArray} {r : List Bool × Bool} (h : strings_makeASCIISet a0 r) (σ : Sto)  :
    Does prog 132 [.string a0] σ [] (fun v τ gs => gs = [] ∧ .tuple [.agg (cellsN Value.bool false 256 r.1).toArray, .bool r.2].toArray = v) := by
 refine CO func132 ntmps132 rfl (fun cs fs => Z 2 ?_)
 refine o_alloc rfl rfl rfl z_zero208 (fun b1 => Z 3 ?_)
 refine cutS σ (fun (s2 : List Bool) => strings_makeASCIISet_j1 s2 r) (fun s2 => [(2, .Pb b1), (3, .bool false)]) (fun s2 => [[(b1, .cells (cellsN Value.bool false 256 s2).toArray 208 (0, 0))]]) (fun s2 τ2 h hl2 => (Z 2 ?_)) (fun hk2 => ?_)
 ·refine o_loadN (j := 0) (vs := (cellsN Value.bool false 256 s2)) rfl rfl rfl z_agg208 rfl rfl rfl ?_
  refine o_store (j := 0) (vs := (cellsN Value.bool false 256 s2)) (cs' := (cellsN Value.bool false 256 s2)) rfl rfl rfl z_size208 rfl rfl rfl ones_cellsNB rfl rfl rfl (Z 2 ?_)
  obtain rfl := h.symm
  exact RC [.agg (cellsN Value.bool false 256 s2).toArray, .bool true] func132 ⟨cN 0 z_agg208, rfl, trivial⟩ hl2 ⟨rfl, rfl⟩
 refine Z 4 ?_
 obtain ⟨e3, hL3, hA3⟩ := h
 refine st_loop hL3 (fun (s3 : Int × List Bool) ρ τ3 gs => σ.Le τ3 ∧ ESub ρ [(0, .string a0), (2, .Pb b1), (3, .bool false), (4, .I s3.1)] ∧ gs = [[(b1, .cells (cellsN Value.bool false 256 s3.2).toArray 208 (0, 0))]]) ⟨LR, rfl, rfl⟩ ?_
 rintro s3 o3 h he3 ρ3 τ3 gs3 ⟨hl3, hρ, rfl⟩ hn3
 refine st_es hρ (Z 8 ?_)
 refine I2 h (fun h => ?_) (fun h => ?_)
 ·refine Z 7 ?_
  obtain ⟨q4, hf5, h⟩ := h
  refine o_indexS rfl rfl rfl underlying9 rfl rfl hf5 (Z 8 ?_)
  refine I2 h (fun h => ?_) (fun h => ?_)
  ·refine Z 2 ?_
   refine o_loadN (j := 0) (vs := (cellsN Value.bool false 256 s3.2)) rfl rfl rfl z_agg208 rfl rfl rfl ?_
   refine o_store (j := 0) (vs := (cellsN Value.bool false 256 s3.2)) (cs' := (cellsN Value.bool false 256 s3.2)) rfl rfl rfl z_size208 rfl rfl rfl ones_cellsNB rfl rfl rfl (Z 2 ?_)
   obtain rfl := he3 _ h
   replace h := hA3
   obtain rfl := h.symm
   exact RC [.agg (cellsN Value.bool false 256 s3.2).toArray, .bool false] func132 ⟨cN 0 z_agg208, rfl, trivial⟩ hl3 ⟨rfl, rfl⟩
  ·refine Z 3 ?_
   obtain ⟨hf6, hf7, h⟩ := h
   refine o_indexA rfl rfl rfl z_arr208 rfl rfl hf6 hf7 ?_
   refine o_storeB (j := 0) (q := q4.toNat) (f := Value.bool) (zz := false) (a := true) (l := 256) (xs := s3.2) rfl rfl rfl z_size4 rfl rfl rfl rfl rfl (by omega) (by omega) (Z 7 ?_)
   exact hn3 _ _ _ _ h ⟨hl3, rfl, rfl⟩
 ·refine st_exit rfl ?_
  obtain rfl := he3 _ h
  replace h := hA3
  exact hk2 _ _ _ ⟨s3.2, h, hl3, rfl, rfl⟩
theorem strings_asciiSet_contains_ok {a0 : List Bool} {a1 : Int} {ba0 : Nat} {r : Bool} (h : strings_asciiSet_contains a0 a1 r) (σ : Sto)  :
    Does prog 158 [.Pb ba0, .int .u8 a1] σ [[(ba0, .cells (cellsN Value.bool false 256 a0).toArray 208 (0, 0))]] (fun v τ gs => gs = [[(ba0, .cells (cellsN Value.bool false 256 a0).toArray 208 (0, 0))]] ∧ .bool r = v) := by
 refine CO func158 ntmps158 rfl (fun cs fs => Z 9 ?_)
 obtain ⟨hf1, hf2, h⟩ := h
 refine o_indexA rfl rfl rfl z_arr208 rfl rfl hf1 hf2 ?_
 refine o_loadB (j := 0) (q := a1.toNat) (f := Value.bool) (zz := false) (l := 256) (xs := a0) rfl rfl rfl z_sc4 rfl rfl (by omega) (by omega) (Z 2 ?_)
 obtain rfl := Eq.symm h
 exact st_ret (gs' := [[(ba0, .cells (cellsN Value.bool false 256 a0).toArray 208 (0, 0))]]) func158 rfl (List.Sublist.refl _) LR ⟨rfl, rfl⟩
theorem strings_trimRightASCII_ok {a0 : ByteArray} {a1 : List Bool} {ba1 : Nat} {r : ByteArray} (h : strings_trimRightASCII a0 a1 r) (σ : Sto)  :
    Does prog 134 [.string a0, .Pb ba1] σ [[(ba1, .cells (cellsN Value.bool false 256 a1).toArray 208 (0, 0))]] (fun v τ gs => gs = [[(ba1, .cells (cellsN Value.bool false 256 a1).toArray 208 (0, 0))]] ∧ .string r = v) := by
 refine CO func134 ntmps134 rfl (fun cs fs => Z 2 ?_)
 refine o_assign rfl rfl rfl (ev_str z_str1) (Z 2 ?_)
 refine cutS σ (fun (s1 : ByteArray) => strings_trimRightASCII_j1 s1 r) (fun s1 => [(0, .string s1), (4, .E0)]) (fun s1 => [[(ba1, .cells (cellsN Value.bool false 256 a1).toArray 208 (0, 0))]]) (fun s1 τ1 h hl1 => (Z 5 ?_)) (fun hk1 => ?_)
 ·obtain rfl := Eq.symm h
  exact st_ret (gs' := [[(ba1, .cells (cellsN Value.bool false 256 a1).toArray 208 (0, 0))]]) func134 rfl (List.Sublist.refl _) hl1 ⟨rfl, rfl⟩
 obtain ⟨e2, hL2, hA2⟩ := h
 refine st_loop hL2 (fun (s2 : ByteArray) ρ τ2 gs => σ.Le τ2 ∧ ESub ρ [(0, .string s2), (1, .Pb ba1), (4, .E0)] ∧ gs = [[(ba1, .cells (cellsN Value.bool false 256 a1).toArray 208 (0, 0))]]) ⟨LR, rfl, rfl⟩ ?_
 rintro s2 o2 h he2 ρ2 τ2 gs2 ⟨hl2, hρ, rfl⟩ hn2
 refine st_es hρ (Z 7 ?_)
 refine I2 h (fun h => ?_) (fun h => ?_)
 ·refine Z 10 ?_
  obtain ⟨q3, hf4, h⟩ := h
  refine o_indexS rfl rfl rfl underlying9 rfl rfl hf4 ?_
  obtain ⟨r5, hr6, h⟩ := h
  refine st_call (foot := [[(ba1, .cells (cellsN Value.bool false 256 a1).toArray 208 (0, 0))]]) rfl rfl rfl rfl rfl rfl (callV_fn z_en158 (strings_asciiSet_contains_ok hr6 τ2)) ?_
  rintro _ τ7 _ hl8 ⟨rfl, rfl⟩
  refine Z 2 ?_
  refine I2 h (fun h => ?_) (fun h => ?_)
  ·refine st_exit rfl ?_
   obtain rfl := he2 _ h
   replace h := hA2
   exact hk1 _ _ _ ⟨s2, h, (hl2.trans hl8), rfl, rfl⟩
  ·refine Z 6 ?_
   obtain ⟨hf9, hf10, h⟩ := h
   refine o_sliceSh rfl rfl rfl underlying9 rfl rfl hf9 hf10 (Z 3 ?_)
   exact hn2 _ _ _ _ h ⟨(hl2.trans hl8), rfl, rfl⟩
 ·refine st_exit rfl ?_
  obtain rfl := he2 _ h
  replace h := hA2
  exact hk1 _ _ _ ⟨s2, h, hl2, rfl, rfl⟩
theorem strings_trimLeftASCII_ok {a0 : ByteArray} {a1 : List Bool} {ba1 : Nat} {r : ByteArray} (h : strings_trimLeftASCII a0 a1 r) (σ : Sto)  :
    Does prog 133 [.string a0, .Pb ba1] σ [[(ba1, .cells (cellsN Value.bool false 256 a1).toArray 208 (0, 0))]] (fun v τ gs => gs = [[(ba1, .cells (cellsN Value.bool false 256 a1).toArray 208 (0, 0))]] ∧ .string r = v) := by
 refine CO func133 ntmps133 rfl (fun cs fs => Z 2 ?_)
 refine o_assign rfl rfl rfl (ev_str z_str1) (Z 2 ?_)
 refine cutS σ (fun (s1 : ByteArray) => strings_trimLeftASCII_j1 s1 r) (fun s1 => [(0, .string s1), (4, .E0)]) (fun s1 => [[(ba1, .cells (cellsN Value.bool false 256 a1).toArray 208 (0, 0))]]) (fun s1 τ1 h hl1 => (Z 5 ?_)) (fun hk1 => ?_)
 ·obtain rfl := Eq.symm h
  exact st_ret (gs' := [[(ba1, .cells (cellsN Value.bool false 256 a1).toArray 208 (0, 0))]]) func133 rfl (List.Sublist.refl _) hl1 ⟨rfl, rfl⟩
 obtain ⟨e2, hL2, hA2⟩ := h
 refine st_loop hL2 (fun (s2 : ByteArray) ρ τ2 gs => σ.Le τ2 ∧ ESub ρ [(0, .string s2), (1, .Pb ba1), (4, .E0)] ∧ gs = [[(ba1, .cells (cellsN Value.bool false 256 a1).toArray 208 (0, 0))]]) ⟨LR, rfl, rfl⟩ ?_
 rintro s2 o2 h he2 ρ2 τ2 gs2 ⟨hl2, hρ, rfl⟩ hn2
 refine st_es hρ (Z 7 ?_)
 refine I2 h (fun h => ?_) (fun h => ?_)
 ·refine Z 7 ?_
  obtain ⟨q3, hf4, h⟩ := h
  refine o_indexS rfl rfl rfl underlying9 rfl rfl hf4 ?_
  obtain ⟨r5, hr6, h⟩ := h
  refine st_call (foot := [[(ba1, .cells (cellsN Value.bool false 256 a1).toArray 208 (0, 0))]]) rfl rfl rfl rfl rfl rfl (callV_fn z_en158 (strings_asciiSet_contains_ok hr6 τ2)) ?_
  rintro _ τ7 _ hl8 ⟨rfl, rfl⟩
  refine Z 2 ?_
  refine I2 h (fun h => ?_) (fun h => ?_)
  ·refine st_exit rfl ?_
   obtain rfl := he2 _ h
   replace h := hA2
   exact hk1 _ _ _ ⟨s2, h, (hl2.trans hl8), rfl, rfl⟩
  ·refine Z 3 ?_
   obtain ⟨hf9, h⟩ := h
   refine o_sliceSl rfl rfl rfl underlying9 rfl rfl (by decide) hf9 (Z 3 ?_)
   exact hn2 _ _ _ _ h ⟨(hl2.trans hl8), rfl, rfl⟩
 ·refine st_exit rfl ?_
  obtain rfl := he2 _ h
  replace h := hA2
  exact hk1 _ _ _ ⟨s2, h, hl2, rfl, rfl⟩
theorem unicode_utf8_RuneStart_ok {a0 : Int} {r : Bool} (h : unicode_utf8_RuneStart a0 r) (σ : Sto)  :
    Does prog 175 [.int .u8 a0] σ [] (fun v τ gs => gs = [] ∧ .bool r = v) := by
 refine CO func175 ntmps175 rfl (fun cs fs => Z 11 ?_)
 obtain rfl := h.symm
 exact RT func175 rfl LR ⟨rfl, rfl⟩
theorem unicode_utf8_DecodeLastRuneInString_ok {a0 : ByteArray} {r : Int × Int} (h : unicode_utf8_DecodeLastRuneInString a0 r) (σ : Sto)  :
    Does prog 160 [.string a0] σ [] (fun v τ gs => gs = [] ∧ .tuple [.int .i32 r.1, .I r.2].toArray = v) := by
 refine CO func160 ntmps160 rfl (fun cs fs => Z 17 ?_)
 refine I2 h (fun h => ?_) (fun h => ?_)
 ·refine Z 5 ?_
  obtain rfl := h.symm
  exact RT func160 rfl LR ⟨rfl, rfl⟩
 ·refine Z 11 ?_
  obtain ⟨q1, hf2, h⟩ := h
  refine o_indexS rfl rfl rfl underlying9 rfl rfl hf2 (Z 9 ?_)
  refine I2 h (fun h => ?_) (fun h => ?_)
  ·refine Z 6 ?_
   obtain rfl := h.symm
   exact RT func160 rfl LR ⟨rfl, rfl⟩
  ·refine Z 9 ?_
   refine cutS σ (fun (s3 : Int) => unicode_utf8_DecodeLastRuneInString_j1 a0 s3 r) (fun s3 => [(0, .string a0), (2, .int .i32 (IntKind.i32.wrap q1)), (3, .I 0), (4, .I (a0.size : Int)), (5, .I s3)]) (fun s3 => []) (fun s3 τ3 h hl3 => ?_) (fun hk3 => ?_)
   ·refine st_seq ?_
    refine cutS τ3 (fun (s4 : Int) => unicode_utf8_DecodeLastRuneInString_j2 a0 s4 r) (fun s4 => [(0, .string a0), (2, .int .i32 (IntKind.i32.wrap q1)), (3, .I 0), (4, .I (a0.size : Int)), (5, .I s4)]) (fun s4 => []) (fun s4 τ4 h hl4 => (Z 5 ?_)) (fun hk4 => ?_)
    ·obtain ⟨hf5, hf6, hf7, h⟩ := h
     refine o_sliceS rfl rfl rfl underlying9 rfl rfl rfl hf5 hf6 hf7 ?_
     obtain ⟨r8, hr9, h⟩ := h
     refine SC z_en139 (unicode_utf8_DecodeRuneInString_ok hr9 τ4) ?_
     rintro _ τ10 _ hl11 ⟨rfl, rfl⟩
     refine Z 15 ?_
     refine I2 h (fun h => ?_) (fun h => ?_)
     ·refine Z 5 ?_
      obtain rfl := h.symm
      exact RT func160 rfl ((hl3.trans hl4).trans hl11) ⟨rfl, rfl⟩
     ·refine Z 8 ?_
      obtain rfl := h.symm
      exact RT func160 rfl ((hl3.trans hl4).trans hl11) ⟨rfl, rfl⟩
    refine Z 5 ?_
    refine I2 h (fun h => ?_) (fun h => ?_)
    ·refine Z 3 ?_
     exact hk4 _ _ _ ⟨0, h, LR, rfl, rfl⟩
    ·refine st_skip ?_
     exact hk4 _ _ _ ⟨s3, h, LR, rfl, rfl⟩
   refine Z 6 ?_
   obtain ⟨e12, hL12, hA12⟩ := h
   refine st_loop hL12 (fun (s12 : Int) ρ τ12 gs => σ.Le τ12 ∧ ESub ρ [(0, .string a0), (2, .int .i32 (IntKind.i32.wrap q1)), (3, .I 0), (4, .I (a0.size : Int)), (5, .I s12), (6, .I (max (i64.wrap ((a0.size : Int) - 4)) 0))] ∧ gs = []) ⟨LR, rfl, rfl⟩ ?_
   rintro s12 o12 h he12 ρ12 τ12 gs12 ⟨hl12, hρ, rfl⟩ hn12
   refine st_es hρ (Z 7 ?_)
   refine I2 h (fun h => ?_) (fun h => ?_)
   ·refine Z 7 ?_
    obtain ⟨q13, hf14, h⟩ := h
    refine o_indexS rfl rfl rfl underlying9 rfl rfl hf14 ?_
    obtain ⟨r15, hr16, h⟩ := h
    refine SC z_en175 (unicode_utf8_RuneStart_ok hr16 τ12) ?_
    rintro _ τ17 _ hl18 ⟨rfl, rfl⟩
    refine st_end ?_
    refine I2 h (fun h => ?_) (fun h => ?_)
    ·refine st_exit rfl ?_
     obtain rfl := he12 _ h
     replace h := hA12
     exact hk3 _ _ _ ⟨s12, h, (hl12.trans hl18), rfl, rfl⟩
    ·refine Z 7 ?_
     exact hn12 _ _ _ _ h ⟨(hl12.trans hl18), rfl, rfl⟩
   ·refine st_exit rfl ?_
    obtain rfl := he12 _ h
    replace h := hA12
    exact hk3 _ _ _ ⟨s12, h, hl12, rfl, rfl⟩
theorem strings_IndexByte_ok {a0 : ByteArray} {a1 r : Int} (h : strings_IndexByte a0 a1 r) (σ : Sto) :
    Does prog 91 [.string a0, .int .u8 a1] σ [] (fun v τ gs => gs = [] ∧ .I r = v) := by
 obtain ⟨hc, rfl⟩ := h
 exact indexByte_does Tryz.strings_IndexByte hc
theorem unicode_utf8_ValidRune_ok {a0 : Int} {r : Bool} (h : unicode_utf8_ValidRune a0 r) (σ : Sto)  :
    Does prog 178 [.int .i32 a0] σ [] (fun v τ gs => gs = [] ∧ .bool r = v) := by
 refine CO func178 ntmps178 rfl (fun cs fs => Z 7 ?_)
 refine cutS σ (fun (s1 : Bool) => unicode_utf8_ValidRune_j1 a0 s1 r) (fun s1 => [(0, .int .i32 a0), (2, .bool false), (3, .bool s1)]) (fun s1 => []) (fun s1 τ1 h hl1 => ?_) (fun hk1 => ?_)
 ·refine I2 h (fun h => ?_) (fun h => ?_)
  ·refine Z 4 ?_
   obtain rfl := h.symm
   exact RT func178 rfl hl1 ⟨rfl, rfl⟩
  ·refine st_seq ?_
   refine cutS τ1 (fun (s2 : Bool) => unicode_utf8_ValidRune_j2 s2 r) (fun s2 => [(2, .bool false), (10, .bool s2)]) (fun s2 => []) (fun s2 τ2 h hl2 => ?_) (fun hk2 => ?_)
   ·refine I2 h (fun h => ?_) (fun h => ?_)
    ·refine Z 4 ?_
     obtain rfl := h.symm
     exact RT func178 rfl (hl1.trans hl2) ⟨rfl, rfl⟩
    ·refine Z 6 ?_
     obtain rfl := h.symm
     exact RT func178 rfl (hl1.trans hl2) ⟨rfl, rfl⟩
   refine Z 3 ?_
   refine M2 h (fun h => ?_) (fun h => ?_)
   ·refine Z 5 ?_
    exact hk2 _ _ _ ⟨(decide (a0 ≤ 1114111)), h, LR, rfl, rfl⟩
   ·refine Z 5 ?_
    exact hk2 _ _ _ ⟨false, h, LR, rfl, rfl⟩
 refine Z 3 ?_
 refine M2 h (fun h => ?_) (fun h => ?_)
 ·refine Z 5 ?_
  exact hk1 _ _ _ ⟨(decide (a0 < 55296)), h, LR, rfl, rfl⟩
 ·refine Z 5 ?_
  exact hk1 _ _ _ ⟨false, h, LR, rfl, rfl⟩
theorem strings_IndexRune_ok {a0 : ByteArray} {a1 r : Int} (h : strings_IndexRune a0 a1 r) (σ : Sto)  :
    Does prog 174 [.string a0, .int .i32 a1] σ [] (fun v τ gs => gs = [] ∧ .I r = v) := by
 refine CO func174 ntmps174 rfl (fun cs fs => Z 6 ?_)
 refine cutS σ (fun (s1 : Bool) => strings_IndexRune_j1 a0 a1 s1 r) (fun s1 => [(0, .string a0), (1, .int .i32 a1), (4, .I 0), (160, .bool s1)]) (fun s1 => []) (fun s1 τ1 h hl1 => ?_) (fun hk1 => ?_)
 ·refine I2 h (fun h => ?_) (fun h => ?_)
  ·refine Z 5 ?_
   obtain ⟨r2, hr3, h⟩ := h
   refine SC z_en91 (strings_IndexByte_ok hr3 τ1) ?_
   rintro _ τ4 _ hl5 ⟨rfl, rfl⟩
   refine Z 2 ?_
   obtain rfl := h.symm
   exact RT func174 rfl (hl1.trans hl5) ⟨rfl, rfl⟩
  ·refine Z 6 ?_
   refine I2 h (fun h => ?_) (fun h => ?_)
   ·refine Z 4 ?_
    exact h.elim
   ·refine Z 3 ?_
    obtain ⟨r6, hr7, h⟩ := h
    refine SC z_en178 (unicode_utf8_ValidRune_ok hr7 τ1) ?_
    rintro _ τ8 _ hl9 ⟨rfl, rfl⟩
    refine Z 3 ?_
    refine I2 h (fun h => ?_) (fun h => ?_)
    ·refine Z 4 ?_
     obtain rfl := h.symm
     exact RT func174 rfl (hl1.trans hl9) ⟨rfl, rfl⟩
    ·refine Z 4 ?_
     exact h.elim
 refine Z 3 ?_
 refine M2 h (fun h => ?_) (fun h => ?_)
 ·refine Z 5 ?_
  exact hk1 _ _ _ ⟨(decide (a1 < 128)), h, LR, rfl, rfl⟩
 ·refine Z 5 ?_
  exact hk1 _ _ _ ⟨false, h, LR, rfl, rfl⟩
theorem strings_ContainsRune_ok {a0 : ByteArray} {a1 : Int} {r : Bool} (h : strings_ContainsRune a0 a1 r) (σ : Sto)  :
    Does prog 159 [.string a0, .int .i32 a1] σ [] (fun v τ gs => gs = [] ∧ .bool r = v) := by
 refine CO func159 ntmps159 rfl (fun cs fs => Z 8 ?_)
 obtain ⟨r1, hr2, h⟩ := h
 refine SC z_en174 (strings_IndexRune_ok hr2 σ) ?_
 rintro _ τ3 _ hl4 ⟨rfl, rfl⟩
 refine Z 3 ?_
 obtain rfl := h.symm
 exact RT func159 rfl hl4 ⟨rfl, rfl⟩
theorem strings_trimRightUnicode_ok {a0 a1 r : ByteArray} (h : strings_trimRightUnicode a0 a1 r) (σ : Sto)  :
    Does prog 136 [.string a0, .string a1] σ [] (fun v τ gs => gs = [] ∧ .string r = v) := by
 refine CO func136 ntmps136 rfl (fun cs fs => Z 2 ?_)
 refine o_assign rfl rfl rfl (ev_str z_str1) (Z 2 ?_)
 refine cutS σ (fun (s1 : ByteArray) => strings_trimRightUnicode_j1 s1 r) (fun s1 => [(0, .string s1), (4, .E0)]) (fun s1 => []) (fun s1 τ1 h hl1 => (Z 5 ?_)) (fun hk1 => ?_)
 ·obtain rfl := h.symm
  exact RT func136 rfl hl1 ⟨rfl, rfl⟩
 obtain ⟨e2, hL2, hA2⟩ := h
 refine st_loop hL2 (fun (s2 : ByteArray) ρ τ2 gs => σ.Le τ2 ∧ ESub ρ [(0, .string s2), (1, .string a1), (4, .E0)] ∧ gs = []) ⟨LR, rfl, rfl⟩ ?_
 rintro s2 o2 h he2 ρ2 τ2 gs2 ⟨hl2, hρ, rfl⟩ hn2
 refine st_es hρ (Z 7 ?_)
 refine I2 h (fun h => ?_) (fun h => ?_)
 ·refine Z 8 ?_
  obtain ⟨q3, hf4, h⟩ := h
  refine o_indexS rfl rfl rfl underlying9 rfl rfl hf4 (Z 5 ?_)
  refine cutS τ2 (fun (s5 : Int × Int) => strings_trimRightUnicode_j3 a1 s2 s5 o2) (fun s5 => [(0, .string s2), (1, .string a1), (4, .E0), (5, .int .i32 s5.1), (6, .I s5.2)]) (fun s5 => []) (fun s5 τ5 h hl5 => (Z 5 ?_)) (fun hk5 => ?_)
  ·obtain ⟨r6, hr7, h⟩ := h
   refine SC z_en159 (strings_ContainsRune_ok hr7 τ5) ?_
   rintro _ τ8 _ hl9 ⟨rfl, rfl⟩
   refine Z 2 ?_
   refine I2 h (fun h => ?_) (fun h => ?_)
   ·refine st_exit rfl ?_
    obtain rfl := he2 _ h
    replace h := hA2
    exact hk1 _ _ _ ⟨s2, h, ((hl2.trans hl5).trans hl9), rfl, rfl⟩
   ·refine Z 7 ?_
    obtain ⟨hf10, hf11, h⟩ := h
    refine o_sliceSh rfl rfl rfl underlying9 rfl rfl hf10 hf11 (Z 3 ?_)
    exact hn2 _ _ _ _ h ⟨((hl2.trans hl5).trans hl9), rfl, rfl⟩
  refine Z 5 ?_
  refine I2 h (fun h => ?_) (fun h => ?_)
  ·refine Z 2 ?_
   obtain ⟨r12, hr13, h⟩ := h
   refine SC z_en160 (unicode_utf8_DecodeLastRuneInString_ok hr13 τ2) ?_
   rintro _ τ14 _ hl15 ⟨rfl, rfl⟩
   refine Z 6 ?_
   exact hk5 _ _ _ ⟨(r12.1, r12.2), h, hl15, rfl, rfl⟩
  ·refine st_skip ?_
   exact hk5 _ _ _ ⟨((IntKind.i32.wrap q3), 1), h, LR, rfl, rfl⟩
 ·refine st_exit rfl ?_
  obtain rfl := he2 _ h
  replace h := hA2
  exact hk1 _ _ _ ⟨s2, h, hl2, rfl, rfl⟩
theorem strings_trimLeftUnicode_ok {a0 a1 r : ByteArray} (h : strings_trimLeftUnicode a0 a1 r) (σ : Sto)  :
    Does prog 135 [.string a0, .string a1] σ [] (fun v τ gs => gs = [] ∧ .string r = v) := by
 refine CO func135 ntmps135 rfl (fun cs fs => Z 2 ?_)
 refine o_assign rfl rfl rfl (ev_str z_str1) (Z 2 ?_)
 refine cutS σ (fun (s1 : ByteArray) => strings_trimLeftUnicode_j1 s1 r) (fun s1 => [(0, .string s1), (4, .E0)]) (fun s1 => []) (fun s1 τ1 h hl1 => (Z 5 ?_)) (fun hk1 => ?_)
 ·obtain rfl := h.symm
  exact RT func135 rfl hl1 ⟨rfl, rfl⟩
 obtain ⟨e2, hL2, hA2⟩ := h
 refine st_loop hL2 (fun (s2 : ByteArray) ρ τ2 gs => σ.Le τ2 ∧ ESub ρ [(0, .string s2), (1, .string a1), (4, .E0)] ∧ gs = []) ⟨LR, rfl, rfl⟩ ?_
 rintro s2 o2 h he2 ρ2 τ2 gs2 ⟨hl2, hρ, rfl⟩ hn2
 refine st_es hρ (Z 7 ?_)
 refine I2 h (fun h => ?_) (fun h => ?_)
 ·refine Z 5 ?_
  obtain ⟨r3, hr4, h⟩ := h
  refine SC z_en139 (unicode_utf8_DecodeRuneInString_ok hr4 τ2) ?_
  rintro _ τ5 _ hl6 ⟨rfl, rfl⟩
  refine Z 11 ?_
  obtain ⟨r7, hr8, h⟩ := h
  refine SC z_en159 (strings_ContainsRune_ok hr8 τ5) ?_
  rintro _ τ9 _ hl10 ⟨rfl, rfl⟩
  refine Z 2 ?_
  refine I2 h (fun h => ?_) (fun h => ?_)
  ·refine st_exit rfl ?_
   obtain rfl := he2 _ h
   replace h := hA2
   exact hk1 _ _ _ ⟨s2, h, ((hl2.trans hl6).trans hl10), rfl, rfl⟩
  ·refine Z 4 ?_
   obtain ⟨hf11, hf12, h⟩ := h
   refine o_sliceSl rfl rfl rfl underlying9 rfl rfl hf11 hf12 (Z 3 ?_)
   exact hn2 _ _ _ _ h ⟨((hl2.trans hl6).trans hl10), rfl, rfl⟩
 ·refine st_exit rfl ?_
  obtain rfl := he2 _ h
  replace h := hA2
  exact hk1 _ _ _ ⟨s2, h, hl2, rfl, rfl⟩
theorem strings_Trim_ok {a0 a1 r : ByteArray} (h : strings_Trim a0 a1 r) (σ : Sto)  :
    Does prog 114 [.string a0, .string a1] σ [] (fun v τ gs => gs = [] ∧ .string r = v) := by
 refine CO func114 ntmps114 rfl (fun cs fs => Z 2 ?_)
 refine o_assign rfl rfl rfl (ev_str z_str1) (Z 3 ?_)
 refine cutS σ (fun (s1 : Bool) => strings_Trim_j1 a0 a1 s1 r) (fun s1 => [(0, .string a0), (1, .string a1), (4, .E0), (12, .bool s1)]) (fun s1 => []) (fun s1 τ1 h hl1 => ?_) (fun hk1 => ?_)
 ·refine I2 h (fun h => ?_) (fun h => ?_)
  ·refine Z 5 ?_
   obtain rfl := h.symm
   exact RT func114 rfl hl1 ⟨rfl, rfl⟩
  ·refine Z 3 ?_
   refine cutS τ1 (fun (s2 : Bool) => strings_Trim_j2 a0 a1 s2 r) (fun s2 => [(0, .string a0), (1, .string a1), (4, .E0), (21, .bool s2)]) (fun s2 => []) (fun s2 τ2 h hl2 => ?_) (fun hk2 => ?_)
   ·refine I2 h (fun h => ?_) (fun h => ?_)
    ·refine st_seq ?_
     obtain ⟨q3, hf4, r5, hr6, q9, hf10, r11, hr12, h⟩ := h
     refine st_draw 7 (dl [.v (.string a0), .v (.string a1), .v (.int .u8 q3), .v (.string r5), .v (.string a1), .v (.int .u8 q9), .v (.string r11)]) (fun _ _ => []) z_mix rfl (dl_mono trivial) (allB_cons (allB_cons (allB_cons (allB_cons (allB_cons (allB_cons (allB_cons allB_nil (p1 dA)) (p1 dA)) ?_) ?_) (p1 dA)) ?_) ?_) ?_
     ·intro ρ' τ pq rs hl hd hq hk
      obtain ⟨_, e1, rfl⟩ := hd 1 rfl
      refine o_indexS rfl rfl rfl underlying9 e1 rfl hf4 ?_
      exact st_addNil (hk _ _ LR rfl)
     ·intro ρ' τ pq rs hl hd hq hk
      obtain ⟨_, e0, rfl⟩ := hd 0 rfl
      obtain ⟨_, e2, rfl⟩ := hd 2 rfl
      refine st_call (foot := []) rfl rfl rfl rfl (evs_cons e0 (evs_cons e2 rfl)) rfl (callV_fn z_en131 (strings_trimRightByte_ok hr6 τ)) ?_
      rintro _ τ7 _ hl8 ⟨rfl, rfl⟩
      exact st_addNil (hk _ _ hl8 rfl)
     ·intro ρ' τ pq rs hl hd hq hk
      obtain ⟨_, e4, rfl⟩ := hd 4 rfl
      refine o_indexS rfl rfl rfl underlying9 e4 rfl hf10 ?_
      exact st_addNil (hk _ _ LR rfl)
     ·intro ρ' τ pq rs hl hd hq hk
      obtain ⟨_, e3, rfl⟩ := hd 3 rfl
      obtain ⟨_, e5, rfl⟩ := hd 5 rfl
      refine st_call (foot := []) rfl rfl rfl rfl (evs_cons e3 (evs_cons e5 rfl)) rfl (callV_fn z_en130 (strings_trimLeftByte_ok hr12 τ)) ?_
      rintro _ τ13 _ hl14 ⟨rfl, rfl⟩
      exact st_addNil (hk _ _ hl14 rfl)
     intro ρ' τ15 vals hl15 hv hq
     refine st_ord [] _ rfl ?_
     refine st_env (ρ' := [(28, .string r11), (0, .string a0), (1, .string a1), (4, .E0)]) ⟨(lv1 hv 6 rfl rfl), oT hq 0, oT hq 1, oT hq 4, trivial⟩ (Z 2 ?_)
     obtain rfl := h.symm
     exact RT func114 rfl ((hl1.trans hl2).trans hl15) ⟨rfl, rfl⟩
    ·refine Z 5 ?_
     obtain ⟨r16, hr17, h⟩ := h
     refine SC z_en132 (strings_makeASCIISet_ok hr17 τ2) ?_
     rintro _ τ18 _ hl19 ⟨rfl, rfl⟩
     refine Z 3 ?_
     refine o_alloc rfl rfl rfl z_zero208 (fun b20 => ?_)
     refine o_store (j := 0) (vs := (cellsN Value.bool false 256 r16.1)) (cs' := (cellsN Value.bool false 256 r16.1)) rfl rfl rfl z_size208 rfl rfl rfl ones_cellsNB rfl rfl rfl (Z 6 ?_)
     refine I2 h (fun h => ?_) (fun h => ?_)
     ·refine Z 3 ?_
      obtain ⟨r21, hr22, h⟩ := h
      refine st_call (foot := [[(b20, .cells (cellsN Value.bool false 256 r16.1).toArray 208 (0, 0))]]) rfl rfl rfl rfl rfl rfl (callV_fn z_en134 (strings_trimRightASCII_ok hr22 τ18)) ?_
      rintro _ τ23 _ hl24 ⟨rfl, rfl⟩
      obtain ⟨r25, hr26, h⟩ := h
      refine st_call (foot := [[(b20, .cells (cellsN Value.bool false 256 r16.1).toArray 208 (0, 0))]]) rfl rfl rfl rfl rfl rfl (callV_fn z_en133 (strings_trimLeftASCII_ok hr26 τ23)) ?_
      rintro _ τ27 _ hl28 ⟨rfl, rfl⟩
      refine Z 2 ?_
      obtain rfl := h.symm
      exact RT func114 rfl ((((hl1.trans hl2).trans hl19).trans hl24).trans hl28) ⟨rfl, rfl⟩
     ·refine Z 5 ?_
      obtain ⟨r29, hr30, h⟩ := h
      refine SC z_en136 (strings_trimRightUnicode_ok hr30 τ18) ?_
      rintro _ τ31 _ hl32 ⟨rfl, rfl⟩
      refine o_move rfl rfl rfl rfl ?_
      obtain ⟨r33, hr34, h⟩ := h
      refine SC z_en135 (strings_trimLeftUnicode_ok hr34 τ31) ?_
      rintro _ τ35 _ hl36 ⟨rfl, rfl⟩
      refine Z 2 ?_
      obtain rfl := h.symm
      exact RT func114 rfl ((((hl1.trans hl2).trans hl19).trans hl32).trans hl36) ⟨rfl, rfl⟩
   refine Z 4 ?_
   refine M2 h (fun h => ?_) (fun h => ?_)
   ·refine o_move rfl rfl rfl rfl ?_
    obtain ⟨q37, hf38, h⟩ := h
    refine o_indexS rfl rfl rfl underlying9 rfl rfl hf38 (Z 3 ?_)
    exact hk2 _ _ _ ⟨(decide (q37 < 128)), h, LR, rfl, rfl⟩
   ·refine Z 5 ?_
    exact hk2 _ _ _ ⟨false, h, LR, rfl, rfl⟩
 refine Z 2 ?_
 refine o_sbin (v := .bool (decide (a0 = (bstr [])))) rfl rfl rfl rfl (ev_str z_str1) rfl ?_
 refine M2 h (fun h => ?_) (fun h => ?_)
 ·refine Z 4 ?_
  exact hk1 _ _ _ ⟨true, h, LR, rfl, rfl⟩
 ·refine o_move rfl rfl rfl rfl ?_
  refine o_sbin (v := .bool (decide (a1 = (bstr [])))) rfl rfl rfl rfl (ev_str z_str1) rfl (Z 2 ?_)
  exact hk1 _ _ _ ⟨(decide (a1 = (bstr []))), h, LR, rfl, rfl⟩
theorem say_Read_ok {a0 : ByteArray} {r : Int × Int} (h : say_Read a0 r) (σ : Sto) (hE : Errs prog σ) :
    Does prog 87 [.string a0] σ [] (fun v τ gs => gs = [] ∧ .tuple [.I r.1, .I r.2].toArray = v) := by
 refine CO func87 ntmps87 rfl (fun cs fs => Z 8 ?_)
 obtain ⟨r1, hr2, h⟩ := h
 refine SC z_en112 (strconv_ParseInt_ok hr2 σ hE) ?_
 rintro _ τ3 _ hl4 ⟨v5, rfl, rfl, hi6⟩
 refine Z 9 ?_
 obtain ⟨r7, hr8, h⟩ := h
 refine st_call (foot := []) rfl rfl rfl rfl (evs_cons rfl (evs_cons (ev_str z_str33) rfl)) rfl (callV_fn z_en113 (strings_TrimPrefix_ok hr8 τ3)) ?_
 rintro _ τ9 _ hl10 ⟨rfl, rfl⟩
 refine Z 5 ?_
 refine cutS τ9 (fun (s11 : Bool) => say_Read_j1 r1 s11 r) (fun s11 => [(2, .I 0), (3, .I 0), (4, .I r1.1), (5, v5), (14, .bool s11)]) (fun s11 => []) (fun s11 τ11 h hl11 => ?_) (fun hk11 => ?_)
 ·refine I2 h (fun h => ?_) (fun h => ?_)
  ·refine Z 5 ?_
   obtain rfl := h.symm
   exact RT func87 rfl ((hl4.trans hl10).trans hl11) ⟨rfl, rfl⟩
  ·refine Z 3 ?_
   refine o_ifNil rfl rfl rfl underlying184 rfl (hi6.up (hl10.trans hl11)) rfl (Z 2 ?_)
   refine I2 h (fun h => ?_) (fun h => ?_)
   ·refine Z 5 ?_
    obtain rfl := h.symm
    exact RT func87 rfl ((hl4.trans hl10).trans hl11) ⟨rfl, rfl⟩
   ·refine Z 8 ?_
    obtain rfl := h.symm
    exact RT func87 rfl ((hl4.trans hl10).trans hl11) ⟨rfl, rfl⟩
 refine Z 2 ?_
 refine o_sbin (v := .bool (decide (r7 = (bstr [])))) rfl rfl rfl rfl (ev_str z_str1) rfl ?_
 refine M2 h (fun h => ?_) (fun h => ?_)
 ·refine Z 15 ?_
  exact hk11 _ _ _ ⟨true, h, LR, rfl, rfl⟩
 ·refine o_move rfl rfl rfl rfl ?_
  obtain ⟨r12, hr13, h⟩ := h
  refine st_call (foot := []) rfl rfl rfl rfl (evs_cons rfl (evs_cons (ev_str z_str34) rfl)) rfl (callV_fn z_en114 (strings_Trim_ok hr13 τ9)) ?_
  rintro _ τ14 _ hl15 ⟨rfl, rfl⟩
  refine o_sbin (v := .bool (!(decide (r12 = (bstr []))))) rfl rfl rfl rfl (ev_str z_str1) rfl ?_
  refine o_pick rfl rfl rfl rfl rfl ?_
  refine M2 h (fun h => ?_) (fun h => ?_)
  ·refine Z 10 ?_
   exact hk11 _ _ _ ⟨true, h, hl15, rfl, rfl⟩
  ·refine o_move rfl rfl rfl rfl ?_
   obtain ⟨q16, hf17, h⟩ := h
   refine o_indexS rfl rfl rfl underlying9 rfl rfl hf17 ?_
   refine o_ibin (v := .bool (decide (q16 = 48))) rfl rfl rfl rfl rfl rfl ?_
   refine M2 h (fun h => ?_) (fun h => ?_)
   ·refine o_move rfl rfl rfl rfl ?_
    refine o_sbin (v := .bool (!(decide (a0 = (bstr [48]))))) rfl rfl rfl rfl (ev_str z_str35) rfl (Z 4 ?_)
    exact hk11 _ _ _ ⟨(!(decide (a0 = (bstr [48])))), h, hl15, rfl, rfl⟩
   ·refine Z 6 ?_
    exact hk11 _ _ _ ⟨false, h, hl15, rfl, rfl⟩
theorem say_points_ok {a0 : ByteArray} {r : (List (Int × Int)) × Int} (h : say_points a0 r) (σ : Sto) (hE : Errs prog σ) :
    Does prog 119 [.string a0] σ [] (fun v τ gs => ∃ (v63 : Value), gs = [] ∧ .tuple [v63, .I r.2].toArray = v ∧ Sl (kP (kI .i64) (kI .i64)) τ v63 r.1) := by
 refine CO func119 ntmps119 rfl (fun cs fs => Z 2 ?_)
 refine o_alloc rfl rfl rfl z_zero23 (fun b1 => ?_)
 refine o_alloc rfl rfl rfl z_zero32 (fun b2 => Z 3 ?_)
 refine o_alloc rfl rfl rfl z_zero23 (fun b3 => Z 5 ?_)
 obtain ⟨r4, hr5, h⟩ := h
 refine st_call (foot := []) rfl rfl rfl rfl (evs_cons rfl (evs_cons (ev_str z_str31) rfl)) rfl (callV_fn z_en94 (strings_SplitSeq_ok hr5 σ)) ?_
 rintro _ τ6 _ hl7 ⟨f8, q9, b11, rfl, rfl, hit10⟩
 refine Z 2 ?_
 obtain ⟨t15, w15, hR15, hA15⟩ := h
 refine st_env (ρ' := [(2, .Pb b1), (3, .Pb b2), (4, .Pb b3), (13, .func (.func f8) #[] q9)]) ⟨rfl, rfl, rfl, rfl, trivial⟩ ?_
 refine st_addNil ?_
 refine st_ord [1, 3, 2, 1, 0] _ rfl ?_
 refine st_range (B := say_points_l1) (s0 := []) ranges_fctx rfl (hit10 r4.2 τ6 LR) LR hR15 rfl (fun _ _ _ h => by cases h; rfl) (fun (s15 : (List (Int × Int))) τ15 gs => τ6.Le τ15 ∧ ∃ (v16 : Value) (g17 : Grp), gs = [[(b1, .cells #[.N0] 23 (0, 0))], [(b2, .cells #[.I 0] 32 (0, 0))], [(b3, .cells #[v16] 23 (0, 0))], g17] ∧ Ow (kP (kI .i64) (kI .i64)) 149 τ15 v16 s15 g17) (fun (p44 : Int × (List (Int × Int))) cd τ45 gs => cd = .ret ∧ τ6.Le τ45 ∧ ∃ (v47 : Value) (g48 : Grp), gs = [[(b1, .cells #[.N0] 23 (0, 0))], [(b2, .cells #[.I p44.1] 32 (0, 0))], [(b3, .cells #[v47] 23 (0, 0))], g48] ∧ Ow (kP (kI .i64) (kI .i64)) 149 τ45 v47 p44.2 g48) (fun _ _ _ _ hl ⟨hb, v16, g17, hg, ho18⟩ => ⟨hb.trans hl, v16, g17, hg, ho18.up hl⟩) (fun _ _ _ _ _ hl ⟨hc, hb, v47, g48, hg, ho49⟩ => ⟨hc, hb.trans hl, v47, g48, hg, ho49.up hl⟩) ⟨LR, _, _, rfl, Ow.nil⟩ ?_ ?_ ?_
 ·rintro x15 s15 o15 τ15 gs15 vx15 hl15 h rfl ⟨hb15, v16, g17, rfl, ho18⟩ l15 rc15 caller15 cs15 fs15
  refine Z 3 ?_
  refine st_begin (Z 4 ?_)
  obtain ⟨r19, hr20, h⟩ := h
  refine st_call (foot := []) rfl rfl rfl rfl (evs_cons rfl (evs_cons (ev_str z_str32) rfl)) rfl (callV_fn z_en62 (strings_Cut_ok hr20 τ15)) ?_
  rintro _ τ21 _ hl22 ⟨rfl, rfl⟩
  refine Z 10 ?_
  refine cutS τ21 (fun (s23 : Bool) => say_points_j2 s15 r19 s23 o15) (fun s23 => [(2, .Pb b1), (3, .Pb b2), (4, .Pb b3), (14, .string x15), (5, .string x15), (6, .string r19.1), (7, .string r19.2.1), (26, .bool s23)]) (fun s23 => [[(b1, .cells #[.N0] 23 (0, 0))], [(b2, .cells #[.I 0] 32 (0, 0))], [(b3, .cells #[v16] 23 (0, 0))], g17]) (fun s23 τ23 h hl23 => ?_) (fun hk23 => ?_)
  ·refine I2 h (fun h => ?_) (fun h => ?_)
   ·refine ZZ 5 [0, 1] ?_
    exact st_rret (List.Sublist.refl _) (hl22.trans hl23) ⟨_, h, rfl, ((hl15.trans hl22).trans hl23), _, _, rfl, (ho18.up (hl22.trans hl23))⟩
   ·refine Z 4 ?_
    obtain ⟨r24, hr25, h⟩ := h
    refine st_call (foot := []) rfl rfl rfl rfl rfl rfl (callV_fn z_en87 (say_Read_ok hr25 τ23 (hE.up (((hl7.trans hl15).trans hl22).trans hl23)))) ?_
    rintro _ τ26 _ hl27 ⟨rfl, rfl⟩
    refine Z 12 ?_
    refine I2 h (fun h => ?_) (fun h => ?_)
    ·refine ZZ 6 [0, 1] ?_
     exact st_rret (List.Sublist.refl _) ((hl22.trans hl23).trans hl27) ⟨_, h, rfl, (((hl15.trans hl22).trans hl23).trans hl27), _, _, rfl, (ho18.up ((hl22.trans hl23).trans hl27))⟩
    ·refine Z 4 ?_
     obtain ⟨r28, hr29, h⟩ := h
     refine st_call (foot := []) rfl rfl rfl rfl rfl rfl (callV_fn z_en87 (say_Read_ok hr29 τ26 (hE.up ((((hl7.trans hl15).trans hl22).trans hl23).trans hl27)))) ?_
     rintro _ τ30 _ hl31 ⟨rfl, rfl⟩
     refine Z 12 ?_
     refine I2 h (fun h => ?_) (fun h => ?_)
     ·refine ZZ 6 [0, 1] ?_
      exact st_rret (List.Sublist.refl _) (((hl22.trans hl23).trans hl27).trans hl31) ⟨_, h, rfl, ((((hl15.trans hl22).trans hl23).trans hl27).trans hl31), _, _, rfl, (ho18.up (((hl22.trans hl23).trans hl27).trans hl31))⟩
     ·refine ZZ 6 [2] ?_
      refine o_litE (eP (eI .i64) (eI .i64)) [(r24.1, r28.1)] rfl rfl rfl z_slT23 z_zero149 ⟨rfl, ⟨_, rfl, rfl⟩, trivial⟩ rfl rfl rfl rfl (fun v32 g33 ho34 => ?_)
      obtain ⟨hf38, hf39, h⟩ := h
      refine st_ord [4, 0, 0, 0, 0] _ rfl ?_
      refine o_append (dk := (kP (kI .i64) (kI .i64))) (xs := s15) (ys := [(r24.1, r28.1)]) rfl rfl rfl rfl z_slT23 rfl (ho18.up (((hl22.trans hl23).trans hl27).trans hl31)) rfl (Ow.src (j := 1) ho34 rfl) hf38 hf39 (fun v35 g36 ho37 => ?_)
      refine o_store (j := 4) (vs := [v35]) (cs' := [v35]) rfl rfl rfl z_size23 rfl rfl (oneL_ow ho37) (ones_cons ho37.one' ones_nil) rfl rfl rfl (Z 2 ?_)
      refine st_ord [2, 2, 2, 0] _ rfl ?_
      exact st_rend (List.Sublist.refl _) (((hl22.trans hl23).trans hl27).trans hl31) ⟨_, h, ((((hl15.trans hl22).trans hl23).trans hl27).trans hl31), _, _, rfl, ho37⟩
  refine Z 3 ?_
  refine M2 h (fun h => ?_) (fun h => ?_)
  ·refine Z 4 ?_
   exact hk23 _ _ _ ⟨true, h, LR, rfl, rfl⟩
  ·refine o_move rfl rfl rfl rfl ?_
   obtain ⟨r40, hr41, h⟩ := h
   refine st_call (foot := []) rfl rfl rfl rfl (evs_cons rfl (evs_cons (ev_str z_str32) rfl)) rfl (callV_fn z_en145 (strings_Contains_ok hr41 τ21)) ?_
   rintro _ τ42 _ hl43 ⟨rfl, rfl⟩
   refine Z 2 ?_
   exact hk23 _ _ _ ⟨r40, h, hl43, rfl, rfl⟩
 ·rintro p51 τ52 gs15 f15 ht hl53 ⟨hb, v54, g55, rfl, ho56⟩ rfl
  subst ht
  replace h := hA15
  refine ZZ 4 [3] ?_
  refine o_store (j := 1) (vs := [v54]) (cs' := [v54]) rfl rfl rfl z_size23 rfl rfl (oneL_ow ho56) (ones_cons ho56.one' ones_nil) rfl rfl rfl (ZZ 2 [2] ?_)
  refine st_ord [4, 0, 0, 0, 0] _ rfl ?_
  refine st_freeze (fun τ57 hl58 hg59 => ?_)
  have hs60 := ho56.freeze hl58 hg59
  obtain rfl := h.symm
  exact RC [v54, .I 0] func119 ⟨c1 1 z_sc23, c1 2 z_sc32, trivial⟩ ((hl7.trans hl53).trans hl58) ⟨_, rfl, rfl, hs60⟩
 ·rintro p44 cd15 τ45 gs15 f15 ht hl46 ⟨rfl, hb, v47, g48, rfl, ho49⟩ rfl
  subst ht
  replace h := hA15
  obtain rfl := h.symm
  exact RC [.N0, .I p44.1] func119 ⟨c1 1 z_sc23, c1 2 z_sc32, trivial⟩ (hl7.trans hl46) ⟨_, rfl, rfl, Sl.nil⟩
theorem say_cells_ok {a0 : ByteArray} {r : List Int × Int} (h : say_cells a0 r) (σ : Sto) (hE : Errs prog σ) :
    Does prog 120 [.string a0] σ [] (fun v τ gs => ∃ (v50 : Value), gs = [] ∧ .tuple [v50, .I r.2].toArray = v ∧ Sl (kI .i64) τ v50 r.1) := by
 refine CO func120 ntmps120 rfl (fun cs fs => Z 2 ?_)
 refine o_alloc rfl rfl rfl z_zero24 (fun b1 => ?_)
 refine o_alloc rfl rfl rfl z_zero32 (fun b2 => Z 3 ?_)
 refine o_alloc rfl rfl rfl z_zero24 (fun b3 => Z 5 ?_)
 obtain ⟨r4, hr5, h⟩ := h
 refine st_call (foot := []) rfl rfl rfl rfl (evs_cons rfl (evs_cons (ev_str z_str32) rfl)) rfl (callV_fn z_en94 (strings_SplitSeq_ok hr5 σ)) ?_
 rintro _ τ6 _ hl7 ⟨f8, q9, b11, rfl, rfl, hit10⟩
 refine Z 2 ?_
 obtain ⟨t15, w15, hR15, hA15⟩ := h
 refine st_env (ρ' := [(2, .Pb b1), (3, .Pb b2), (4, .Pb b3), (9, .func (.func f8) #[] q9)]) ⟨rfl, rfl, rfl, rfl, trivial⟩ ?_
 refine st_addNil ?_
 refine st_ord [1, 3, 2, 1, 0] _ rfl ?_
 refine st_range (B := say_cells_l1) (s0 := []) ranges_fctx rfl (hit10 r4.2 τ6 LR) LR hR15 rfl (fun _ _ _ h => by cases h; rfl) (fun (s15 : List Int) τ15 gs => τ6.Le τ15 ∧ ∃ (v16 : Value) (g17 : Grp), gs = [[(b1, .cells #[.N0] 24 (0, 0))], [(b2, .cells #[.I 0] 32 (0, 0))], [(b3, .cells #[v16] 24 (0, 0))], g17] ∧ Ow (kI .i64) 3 τ15 v16 s15 g17) (fun (p31 : K41) cd τ32 gs => cd = .ret ∧ τ6.Le τ32 ∧ ∃ (v34 : Value) (g35 : Grp), gs = [[(b1, .cells #[.N0] 24 (0, 0))], [(b2, .cells #[.I p31.1] 32 (0, 0))], [(b3, .cells #[v34] 24 (0, 0))], g35] ∧ Ow (kI .i64) 3 τ32 v34 p31.2 g35) (fun _ _ _ _ hl ⟨hb, v16, g17, hg, ho18⟩ => ⟨hb.trans hl, v16, g17, hg, ho18.up hl⟩) (fun _ _ _ _ _ hl ⟨hc, hb, v34, g35, hg, ho36⟩ => ⟨hc, hb.trans hl, v34, g35, hg, ho36.up hl⟩) ⟨LR, _, _, rfl, Ow.nil⟩ ?_ ?_ ?_
 ·rintro x15 s15 o15 τ15 gs15 vx15 hl15 h rfl ⟨hb15, v16, g17, rfl, ho18⟩ l15 rc15 caller15 cs15 fs15
  refine Z 3 ?_
  refine st_begin (Z 4 ?_)
  obtain ⟨r19, hr20, h⟩ := h
  refine SC z_en87 (say_Read_ok hr20 τ15 (hE.up (hl7.trans hl15))) ?_
  rintro _ τ21 _ hl22 ⟨rfl, rfl⟩
  refine Z 12 ?_
  refine I2 h (fun h => ?_) (fun h => ?_)
  ·refine ZZ 6 [0, 1] ?_
   exact st_rret (List.Sublist.refl _) hl22 ⟨_, h, rfl, (hl15.trans hl22), _, _, rfl, (ho18.up hl22)⟩
  ·refine ZZ 4 [2] ?_
   refine o_litE (eI .i64) [r19.1] rfl rfl rfl z_slT24 z_zero3 ⟨rfl, ⟨_, rfl, rfl⟩, trivial⟩ rfl rfl rfl rfl (fun v23 g24 ho25 => ?_)
   obtain ⟨hf29, hf30, h⟩ := h
   refine st_ord [4, 0, 0, 0, 0] _ rfl ?_
   refine o_append (dk := (kI .i64)) (xs := s15) (ys := [r19.1]) rfl rfl rfl rfl z_slT24 rfl (ho18.up hl22) rfl (Ow.src (j := 1) ho25 rfl) hf29 hf30 (fun v26 g27 ho28 => ?_)
   refine o_store (j := 4) (vs := [v26]) (cs' := [v26]) rfl rfl rfl z_size24 rfl rfl (oneL_ow ho28) (ones_cons ho28.one' ones_nil) rfl rfl rfl (Z 2 ?_)
   refine st_ord [2, 2, 2, 0] _ rfl ?_
   exact st_rend (List.Sublist.refl _) hl22 ⟨_, h, (hl15.trans hl22), _, _, rfl, ho28⟩
 ·rintro p38 τ39 gs15 f15 ht hl40 ⟨hb, v41, g42, rfl, ho43⟩ rfl
  subst ht
  replace h := hA15
  refine ZZ 4 [3] ?_
  refine o_store (j := 1) (vs := [v41]) (cs' := [v41]) rfl rfl rfl z_size24 rfl rfl (oneL_ow ho43) (ones_cons ho43.one' ones_nil) rfl rfl rfl (ZZ 2 [2] ?_)
  refine st_ord [4, 0, 0, 0, 0] _ rfl ?_
  refine st_freeze (fun τ44 hl45 hg46 => ?_)
  have hs47 := ho43.freeze hl45 hg46
  obtain rfl := h.symm
  exact RC [v41, .I 0] func120 ⟨c1 1 z_sc24, c1 2 z_sc32, trivial⟩ ((hl7.trans hl40).trans hl45) ⟨_, rfl, rfl, hs47⟩
 ·rintro p31 cd15 τ32 gs15 f15 ht hl33 ⟨rfl, hb, v34, g35, rfl, ho36⟩ rfl
  subst ht
  replace h := hA15
  obtain rfl := h.symm
  exact RC [.N0, .I p31.1] func120 ⟨c1 1 z_sc24, c1 2 z_sc32, trivial⟩ (hl7.trans hl33) ⟨_, rfl, rfl, Sl.nil⟩
theorem say_unhex_ok {a0 : ByteArray} {r : ByteArray × Int} (h : say_unhex a0 r) (σ : Sto)  :
    Does prog 121 [.string a0] σ [] (fun v τ gs => gs = [] ∧ .tuple [.string r.1, .I r.2].toArray = v) := by
 refine CO func121 ntmps121 rfl (fun cs fs => Z 2 ?_)
 refine o_assign rfl rfl rfl (ev_str z_str1) (Z 10 ?_)
 refine o_sbin (v := .bool (decide (a0 = (bstr [45])))) rfl rfl rfl rfl (ev_str z_str33) rfl ?_
 refine st_end ?_
 refine I2 h (fun h => ?_) (fun h => ?_)
 ·refine Z 2 ?_
  refine o_assign rfl rfl rfl (ev_str z_str1) (Z 2 ?_)
  obtain rfl := h.symm
  exact RT func121 rfl LR ⟨rfl, rfl⟩
 ·refine Z 3 ?_
  refine cutS σ (fun (s1 : Bool) => say_unhex_j1 a0 s1 r) (fun s1 => [(0, .string a0), (2, .E0), (3, .I 0), (4, .N0), (17, .bool s1)]) (fun s1 => []) (fun s1 τ1 h hl1 => ?_) (fun hk1 => ?_)
  ·refine I2 h (fun h => ?_) (fun h => ?_)
   ·refine Z 2 ?_
    refine o_assign rfl rfl rfl (ev_str z_str1) (Z 2 ?_)
    obtain rfl := h.symm
    exact RT func121 rfl hl1 ⟨rfl, rfl⟩
   ·refine Z 2 ?_
    refine st_cut (fun ρ τ2 gs => ∃ (s2 : List Int) (v3 : Value) (g4 : Grp), say_unhex_j2 s2 r ∧ τ1.Le τ2 ∧ ESub ρ [(2, .E0), (3, .I 0), (4, v3)] ∧ gs = [g4] ∧ Ow (kI .u8) 5 τ2 v3 s2 g4) ?_ (fun hk2 => ?_)
    ·rintro ρ2 τ2 gs2 ⟨s2, v3, g4, h, hl2, hρ, rfl, ho5⟩
     refine st_es hρ (Z 3 ?_)
     refine st_freeze (fun τ6 hl7 hg8 => ?_)
     have hs9 := ho5.freeze hl7 hg8
     refine o_bstr (xs := s2) rfl rfl rfl underlying27 underlying5 underlying9 rfl hs9 (Z 3 ?_)
     obtain rfl := h.symm
     exact RT func121 rfl ((hl1.trans hl2).trans hl7) ⟨rfl, rfl⟩
    refine Z 4 ?_
    obtain ⟨e11, hL11, hA11⟩ := h
    refine st_addNil ?_
    refine st_loop hL11 (fun (s11 : K7) ρ τ11 gs => τ1.Le τ11 ∧ ∃ (v12 : Value) (g13 : Grp), ESub ρ [(0, .string a0), (2, .E0), (3, .I 0), (4, v12), (5, .I s11.2)] ∧ gs = [g13] ∧ Ow (kI .u8) 5 τ11 v12 s11.1 g13) ⟨LR, _, _, rfl, rfl, Ow.nil⟩ ?_
    rintro s11 o11 h he11 ρ11 τ11 gs11 ⟨hl11, v12, g13, hρ, rfl, ho14⟩ hn11
    refine st_es hρ (Z 8 ?_)
    refine I2 h (fun h => ?_) (fun h => ?_)
    ·refine Z 4 ?_
     obtain ⟨q15, hf16, r17, hr18, q21, hf22, r23, hr24, h⟩ := h
     refine st_draw 10 (dl [.v (.string a0), .v (.I s11.2), .v (.int .u8 q15), .v (.I r17), .v (.string a0), .v (.I s11.2), .v (.I (i64.wrap (s11.2 + 1))), .v (.int .u8 q21), .v (.I r23), .v (.I r17)]) (fun _ _ => []) z_mix rfl (dl_mono trivial) (allB_cons (allB_cons (allB_cons (allB_cons (allB_cons (allB_cons (allB_cons (allB_cons (allB_cons (allB_cons allB_nil (p1 dA)) (p1 dA)) ?_) ?_) (p1 dA)) (p1 dA)) (p1 dA)) ?_) ?_) (p1 dA)) ?_
     ·intro ρ' τ pq rs hl hd hq hk
      obtain ⟨_, e0, rfl⟩ := hd 0 rfl
      obtain ⟨_, e1, rfl⟩ := hd 1 rfl
      refine o_indexS rfl rfl rfl underlying9 e0 e1 hf16 ?_
      exact st_addNil (hk _ _ LR rfl)
     ·intro ρ' τ pq rs hl hd hq hk
      obtain ⟨_, e2, rfl⟩ := hd 2 rfl
      refine st_call (foot := []) rfl rfl rfl rfl (evs_cons (ev_str z_str36) (evs_cons e2 rfl)) rfl (callV_fn z_en91 (strings_IndexByte_ok hr18 τ)) ?_
      rintro _ τ19 _ hl20 ⟨rfl, rfl⟩
      exact st_addNil (hk _ _ hl20 rfl)
     ·intro ρ' τ pq rs hl hd hq hk
      obtain ⟨_, e4, rfl⟩ := hd 4 rfl
      obtain ⟨_, e6, rfl⟩ := hd 6 rfl
      refine o_indexS rfl rfl rfl underlying9 e4 e6 hf22 ?_
      exact st_addNil (hk _ _ LR rfl)
     ·intro ρ' τ pq rs hl hd hq hk
      obtain ⟨_, e7, rfl⟩ := hd 7 rfl
      refine st_call (foot := []) rfl rfl rfl rfl (evs_cons (ev_str z_str36) (evs_cons e7 rfl)) rfl (callV_fn z_en91 (strings_IndexByte_ok hr24 τ)) ?_
      rintro _ τ25 _ hl26 ⟨rfl, rfl⟩
      exact st_addNil (hk _ _ hl26 rfl)
     intro ρ' τ27 vals hl27 hv hq
     refine st_ord [0] _ rfl ?_
     refine st_env (ρ' := [(32, .I r23), (6, .I r17), (0, .string a0), (2, .E0), (3, .I 0), (4, v12), (5, .I s11.2)]) ⟨(lv1 hv 8 rfl rfl), (lv1 hv 9 rfl rfl), oT hq 0, oT hq 2, oT hq 3, oT hq 4, oT hq 5, trivial⟩ (Z 4 ?_)
     refine cutS τ27 (fun (s28 : Bool) => say_unhex_j4 s11 r17 r23 s28 o11) (fun s28 => [(6, .I r17), (0, .string a0), (2, .E0), (3, .I 0), (4, v12), (5, .I s11.2), (7, .I r23), (38, .bool s28)]) (fun s28 => [g13]) (fun s28 τ28 h hl28 => ?_) (fun hk28 => ?_)
     ·refine I2 h (fun h => ?_) (fun h => ?_)
      ·refine Z 2 ?_
       refine o_assign rfl rfl rfl (ev_str z_str1) (Z 2 ?_)
       refine st_ord [] _ rfl ?_
       obtain rfl := he11 _ h
       replace h := hA11
       obtain rfl := h.symm
       exact RT func121 rfl (((hl1.trans hl11).trans hl27).trans hl28) ⟨rfl, rfl⟩
      ·refine Z 8 ?_
       refine o_litE (eI .u8) [(u8.wrap (ior .i64 (ishl .i64 r17 4) r23))] rfl rfl rfl z_slT27 z_zero5 ⟨rfl, ⟨_, rfl, rfl⟩, trivial⟩ rfl rfl rfl rfl (fun v29 g30 ho31 => ?_)
       obtain ⟨hf35, hf36, h⟩ := h
       refine st_ord [1, 0] _ rfl ?_
       refine o_append (dk := (kI .u8)) (xs := s11.1) (ys := [(u8.wrap (ior .i64 (ishl .i64 r17 4) r23))]) rfl rfl rfl rfl z_slT27 rfl (ho14.up (hl27.trans hl28)) rfl (Ow.src (j := 1) ho31 rfl) hf35 hf36 (fun v32 g33 ho34 => Z 8 ?_)
       refine st_ord [0] _ rfl ?_
       exact hn11 _ _ _ _ h ⟨((hl11.trans hl27).trans hl28), _, _, rfl, rfl, ho34⟩
     refine Z 3 ?_
     refine M2 h (fun h => ?_) (fun h => ?_)
     ·refine Z 4 ?_
      exact hk28 _ _ _ ⟨true, h, LR, rfl, rfl⟩
     ·refine Z 4 ?_
      exact hk28 _ _ _ ⟨(decide (r23 < 0)), h, LR, rfl, rfl⟩
    ·refine st_exit rfl ?_
     obtain rfl := he11 _ h
     replace h := hA11
     exact hk2 _ _ _ ⟨s11.1, _, _, h, hl11, rfl, rfl, ho14⟩
  refine Z 2 ?_
  refine o_sbin (v := .bool (decide (a0 = (bstr [])))) rfl rfl rfl rfl (ev_str z_str1) rfl ?_
  refine M2 h (fun h => ?_) (fun h => ?_)
  ·refine Z 6 ?_
   exact hk1 _ _ _ ⟨true, h, LR, rfl, rfl⟩
  ·refine Z 6 ?_
   exact hk1 _ _ _ ⟨(!(decide (((a0.size : Int).tmod 2) = 0))), h, LR, rfl, rfl⟩
theorem say_read_ok {a0 : TyM} {a1 : TyA} {a2 : ByteArray} {ba0 : Nat} {v1 v2 : Value} {r : Int × (TyM)} (h : say_read a0 a1 a2 r) (σ : Sto) (hs3 : Sl (kP (kI .i64) (kI .i64)) σ v1 a0.2.2.1) (hs4 : Sl (kI .i64) σ v2 a0.2.2.2.1) (hE : Errs prog σ) :
    Does prog 98 [.Pb ba0, .agg (lA a1).toArray, .string a2] σ [[(ba0, .cells (lM a0 v1 v2).toArray 26 (0, 0))]] (fun v τ gs => ∃ (v38 v39 : Value), gs = [[(ba0, .cells (lM r.2 v38 v39).toArray 26 (0, 0))]] ∧ .I r.1 = v ∧ Sl (kP (kI .i64) (kI .i64)) τ v38 r.2.2.2.1 ∧ Sl (kI .i64) τ v39 r.t4.1) := by
 refine CO func98 ntmps98 rfl (fun cs fs => Z 2 ?_)
 refine o_boxC rfl rfl rfl rfl rfl rfl (fun b5 => Z 3 ?_)
 refine st_cut (fun ρ τ6 gs => ∃ (s6 : K27) (v7 v9 : Value), say_read_j1 a0 s6 r ∧ σ.Le τ6 ∧ ESub ρ [(6, .I s6.1)] ∧ gs = [[(ba0, .cells #[.I a0.1, .I s6.2.1, .I s6.2.2.1, .I s6.2.2.2.1, .I s6.t4.1, .I s6.t4.2.1, .I s6.t4.2.2.1, v7, v9, .string s6.t4.t4.2.1, .string s6.t4.t4.2.2] 26 (0, 0))]] ∧ Sl (kP (kI .i64) (kI .i64)) τ6 v7 s6.t4.2.2.2.1 ∧ Sl (kI .i64) τ6 v9 s6.t4.t4.1) ?_ (fun hk6 => ?_)
 ·rintro ρ6 τ6 gs6 ⟨s6, v7, v9, h, hl6, hρ, rfl, hs8, hs10⟩
  refine st_es hρ (Z 5 ?_)
  obtain rfl := Eq.symm h
  exact st_ret (gs' := [[(ba0, .cells #[.I a0.1, .I s6.2.1, .I s6.2.2.1, .I s6.2.2.2.1, .I s6.t4.1, .I s6.t4.2.1, .I s6.t4.2.2.1, v7, v9, .string s6.t4.t4.2.1, .string s6.t4.t4.2.2] 26 (0, 0))]]) func98 rfl (List.Sublist.refl _) hl6 ⟨_, _, rfl, rfl, hs8, hs10⟩
 refine ZZ 11 [0] ?_
 refine I2 h (fun h => ?_) (fun h => ?_)
 ·refine Z 3 ?_
  obtain ⟨r11, hr12, h⟩ := h
  refine SC z_en119 (say_points_ok hr12 σ hE) ?_
  rintro _ τ13 _ hl14 ⟨v15, rfl, rfl, hs16⟩
  refine Z 5 ?_
  refine o_store (j := 1) (vs := [v15]) (cs' := (lM a0 v15 v2)) rfl rfl rfl z_size23 rfl rfl (oneL_sl hs16) (ones_cons hs16.one' ones_nil) rfl rfl rfl (Z 3 ?_)
  refine st_ord [1] _ rfl ?_
  exact hk6 _ _ _ ⟨(r11.2, (a0.2.1.getD 0 0), (a0.2.1.getD 1 0), (a0.2.1.getD 2 0), (a0.2.1.getD 3 0), (a0.2.1.getD 4 0), (a0.2.1.getD 5 0), r11.1, a0.2.2.2.1, a0.t4.1, a0.t4.2), _, _, h, hl14, rfl, rfl, hs16, (hs4.up hl14)⟩
 ·refine Z 5 ?_
  refine I2 h (fun h => ?_) (fun h => ?_)
  ·refine Z 3 ?_
   obtain ⟨r17, hr18, h⟩ := h
   refine SC z_en120 (say_cells_ok hr18 σ hE) ?_
   rintro _ τ19 _ hl20 ⟨v21, rfl, rfl, hs22⟩
   refine Z 5 ?_
   refine o_store (j := 1) (vs := [v21]) (cs' := (lM a0 v1 v21)) rfl rfl rfl z_size24 rfl rfl (oneL_sl hs22) (ones_cons hs22.one' ones_nil) rfl rfl rfl (Z 3 ?_)
   refine st_ord [1] _ rfl ?_
   exact hk6 _ _ _ ⟨(r17.2, (a0.2.1.getD 0 0), (a0.2.1.getD 1 0), (a0.2.1.getD 2 0), (a0.2.1.getD 3 0), (a0.2.1.getD 4 0), (a0.2.1.getD 5 0), a0.2.2.1, r17.1, a0.t4.1, a0.t4.2), _, _, h, hl20, rfl, rfl, (hs3.up hl20), hs22⟩
  ·refine Z 5 ?_
   refine I2 h (fun h => ?_) (fun h => ?_)
   ·refine Z 3 ?_
    obtain ⟨r23, hr24, h⟩ := h
    refine SC z_en121 (say_unhex_ok hr24 σ) ?_
    rintro _ τ25 _ hl26 ⟨rfl, rfl⟩
    refine ZZ 9 [1] ?_
    refine st_ord [1] _ rfl ?_
    exact hk6 _ _ _ ⟨(r23.2, (a0.2.1.getD 0 0), (a0.2.1.getD 1 0), (a0.2.1.getD 2 0), (a0.2.1.getD 3 0), (a0.2.1.getD 4 0), (a0.2.1.getD 5 0), a0.2.2.1, a0.2.2.2.1, r23.1, a0.t4.2), _, _, h, hl26, rfl, rfl, (hs3.up hl26), (hs4.up hl26)⟩
   ·refine Z 5 ?_
    refine I2 h (fun h => ?_) (fun h => ?_)
    ·refine Z 3 ?_
     obtain ⟨r27, hr28, h⟩ := h
     refine SC z_en121 (say_unhex_ok hr28 σ) ?_
     rintro _ τ29 _ hl30 ⟨rfl, rfl⟩
     refine ZZ 9 [1] ?_
     refine st_ord [1] _ rfl ?_
     exact hk6 _ _ _ ⟨(r27.2, (a0.2.1.getD 0 0), (a0.2.1.getD 1 0), (a0.2.1.getD 2 0), (a0.2.1.getD 3 0), (a0.2.1.getD 4 0), (a0.2.1.getD 5 0), a0.2.2.1, a0.2.2.2.1, a0.t4.1, r27.1), _, _, h, hl30, rfl, rfl, (hs3.up hl30), (hs4.up hl30)⟩
    ·obtain ⟨r31, hr32, hf35, hf36, h⟩ := h
     refine st_d41 [[(b5, .cells (lA a1).toArray 139 (0, 0))]] [[(ba0, .cells (lM a0 v1 v2).toArray 26 (0, 0))]] 12 1 [none, none, none, none, none, none, none, none, none, none, none, some (0, 0)] [none, none, none, none, none, none, none, none, none, none, none, none] [[none, none]] [.v (.Pb ba0), .v (.pointer (some ⟨b5, 2, none⟩)), .v (.I a1.2.2.1), .v (.string a2), .v (.tuple #[.I r31.1, .I r31.2]), .v (.tuple #[.I r31.1, .I r31.2]), .v (.I r31.1), .v (.I r31.2), .v (.Pb ba0), .v (.pointer (some ⟨ba0, 1, none⟩)), .v (.pointer (some ⟨ba0, 1 + a1.2.2.1.toNat * 1, none⟩)), .t fun _ _ => True] [[fun τ u F => F = [[(ba0, .cells (lM a0 v1 v2).toArray 26 (0, 0))]], fun τ u F => F = [[(ba0, .cells #[.I a0.1, .I ((putN 6 0 a0.2.1 a1.2.2.1.toNat r31.1).getD 0 0), .I ((putN 6 0 a0.2.1 a1.2.2.1.toNat r31.1).getD 1 0), .I ((putN 6 0 a0.2.1 a1.2.2.1.toNat r31.1).getD 2 0), .I ((putN 6 0 a0.2.1 a1.2.2.1.toNat r31.1).getD 3 0), .I ((putN 6 0 a0.2.1 a1.2.2.1.toNat r31.1).getD 4 0), .I ((putN 6 0 a0.2.1 a1.2.2.1.toNat r31.1).getD 5 0), v1, v2, .string a0.t4.1, .string a0.t4.2] 26 (0, 0))]]]] rfl z_mix rfl ⟨fun _ _ _ _ _ => trivial, trivial⟩ ⟨⟨fun _ _ _ _ hl h => h, ⟨fun _ _ _ _ hl h => h, trivial⟩⟩, trivial⟩ rfl rfl ?_ (allB_cons (allB_cons (allB_cons (allB_cons (allB_cons (allB_cons (allB_cons (allB_cons (allB_cons (allB_cons (allB_cons (allB_cons allB_nil (p4 dA)) (p4 dA)) ?_) (p4 dA)) ?_) ?_) (p4 dA)) (p4 dA)) (p4 dA)) (p4 dA)) ?_) ?_) ?_
     ·exact rfl
     ·intro ρ' τ pq rs hl hd hq hw hk
      obtain ⟨_, e1, rfl⟩ := hd 1 rfl _ rfl
      refine o_load (j := 0) (v := .I a1.2.2.1) rfl rfl rfl z_sc3 e1 rfl rfl ?_
      exact hk _ _ LR rfl
     ·intro ρ' τ pq rs hl hd hq hw hk
      obtain ⟨_, e3, rfl⟩ := hd 3 rfl _ rfl
      refine st_call (foot := []) rfl rfl rfl rfl (evs_cons e3 rfl) rfl (callV_fn z_en87 (say_Read_ok hr32 τ (hE.up hl))) ?_
      rintro _ τ33 _ hl34 ⟨rfl, rfl⟩
      exact hk _ _ hl34 rfl
     ·intro ρ' τ pq rs hl hd hq hw hk
      obtain ⟨_, e4, rfl⟩ := hd 4 rfl _ rfl
      refine o_move rfl rfl rfl e4 ?_
      exact hk _ _ LR rfl
     ·intro ρ' τ pq rs hl hd hq hw hk
      obtain ⟨_, e2, rfl⟩ := hd 2 rfl _ rfl
      obtain ⟨_, e9, rfl⟩ := hd 9 rfl _ rfl
      refine o_indexA rfl rfl rfl z_arr22 e9 e2 hf35 hf36 ?_
      exact hk _ _ LR rfl
     ·intro ρ' τ u Fv pq rs hl hI hu hd hq hw hk
      obtain ⟨_, e6, rfl⟩ := hd 6 rfl _ rfl
      obtain ⟨_, e10, rfl⟩ := hd 10 rfl _ rfl
      have hI0 := hI
      obtain rfl := hI
      refine o_storeV (j := 1) (a1.2.2.1.toNat) (f := (Value.int .i64)) (zz := 0) (a := r31.1) (l := 6) (xs := a0.2.1) [.I a0.1] [v1, v2, .string a0.t4.1, .string a0.t4.2] rfl rfl rfl z_size3 e10 e6 rfl rfl rfl (by simp only [List.length_cons, List.length_nil] <;> omega) (by omega) ?_
      exact hk _ _ [[(ba0, .cells #[.I a0.1, .I ((putN 6 0 a0.2.1 a1.2.2.1.toNat r31.1).getD 0 0), .I ((putN 6 0 a0.2.1 a1.2.2.1.toNat r31.1).getD 1 0), .I ((putN 6 0 a0.2.1 a1.2.2.1.toNat r31.1).getD 2 0), .I ((putN 6 0 a0.2.1 a1.2.2.1.toNat r31.1).getD 3 0), .I ((putN 6 0 a0.2.1 a1.2.2.1.toNat r31.1).getD 4 0), .I ((putN 6 0 a0.2.1 a1.2.2.1.toNat r31.1).getD 5 0), v1, v2, .string a0.t4.1, .string a0.t4.2] 26 (0, 0))]] LR trivial (by exact rfl)
     intro ρ' τ37 vals u Fv hl37 hI hu hv hq
     obtain rfl := hI
     refine st_env (ρ' := [(16, .I r31.2), (6, .I 0)]) ⟨(lv4 hv 7 rfl rfl rfl), oT hq 6, trivial⟩ (Z 3 ?_)
     refine st_ord [1] _ rfl ?_
     exact hk6 _ _ _ ⟨(r31.2, ((putN 6 0 a0.2.1 a1.2.2.1.toNat r31.1).getD 0 0), ((putN 6 0 a0.2.1 a1.2.2.1.toNat r31.1).getD 1 0), ((putN 6 0 a0.2.1 a1.2.2.1.toNat r31.1).getD 2 0), ((putN 6 0 a0.2.1 a1.2.2.1.toNat r31.1).getD 3 0), ((putN 6 0 a0.2.1 a1.2.2.1.toNat r31.1).getD 4 0), ((putN 6 0 a0.2.1 a1.2.2.1.toNat r31.1).getD 5 0), a0.2.2.1, a0.2.2.2.1, a0.t4.1, a0.t4.2), _, _, h, hl37, rfl, rfl, (hs3.up hl37), (hs4.up hl37)⟩
theorem msg_many_ok {a0 : Int} {a1 : TyA} {r : Int} (h : msg_many a0 a1 r) (σ : Sto)  :
    Does prog 126 [.I a0, .agg (lA a1).toArray] σ [] (fun v τ gs => gs = [] ∧ .I r = v) := by
 refine CO func126 ntmps126 rfl (fun cs fs => Z 2 ?_)
 refine o_boxC rfl rfl rfl rfl rfl rfl (fun b1 => ZZ 12 [0] ?_)
 refine I2 h (fun h => ?_) (fun h => ?_)
 ·refine Z 4 ?_
  obtain rfl := h.symm
  exact RT func126 rfl LR ⟨rfl, rfl⟩
 ·refine ZZ 8 [0] ?_
  refine I2 h (fun h => ?_) (fun h => ?_)
  ·refine Z 4 ?_
   obtain rfl := h.symm
   exact RT func126 rfl LR ⟨rfl, rfl⟩
  ·refine Z 6 ?_
   obtain rfl := h.symm
   exact RT func126 rfl LR ⟨rfl, rfl⟩
theorem msg_path_ok {a0 : List (Int × Int)} {a1 : TyA} {v1 : Value} {r : Int} (h : msg_path a0 a1 r) (σ : Sto) (hs2 : Sl (kP (kI .i64) (kI .i64)) σ v1 a0) :
    Does prog 108 [v1, .agg (lA a1).toArray] σ [] (fun v τ gs => gs = [] ∧ .I r = v) := by
 refine CO func108 ntmps108 rfl (fun cs fs => Z 2 ?_)
 refine o_boxC rfl rfl rfl rfl rfl rfl (fun b3 => Z 6 ?_)
 refine o_lenI rfl rfl rfl z_slT23 rfl hs2 (ZZ 1 [0] ?_)
 obtain ⟨r4, hr5, h⟩ := h
 refine SC z_en126 (msg_many_ok hr5 σ) ?_
 rintro _ τ6 _ hl7 ⟨rfl, rfl⟩
 refine Z 7 ?_
 refine I2 h (fun h => ?_) (fun h => ?_)
 ·refine Z 5 ?_
  obtain rfl := h.symm
  exact RT func108 rfl hl7 ⟨rfl, rfl⟩
 ·refine Z 2 ?_
  refine cutS τ6 (fun (s8 : Unit) => msg_path_j1 s8 r) (fun s8 => [(4, .I 0)]) (fun s8 => []) (fun s8 τ8 h hl8 => (Z 4 ?_)) (fun hk8 => ?_)
  ·obtain rfl := h.symm
   exact RT func108 rfl (hl7.trans hl8) ⟨rfl, rfl⟩
  refine Z 3 ?_
  refine o_lenI rfl rfl rfl z_slT23 rfl (hs2.up hl7) (Z 2 ?_)
  obtain ⟨e9, hL9, hA9⟩ := h
  refine st_ord [] _ rfl ?_
  refine st_loop hL9 (fun (s9 : Int) ρ τ9 gs => τ6.Le τ9 ∧ ESub ρ [(4, .I 0), (15, v1), (16, .I (a0.length : Int)), (17, .I s9)] ∧ gs = []) ⟨LR, rfl, rfl⟩ ?_
  rintro s9 o9 h he9 ρ9 τ9 gs9 ⟨hl9, hρ, rfl⟩ hn9
  refine st_es hρ (Z 5 ?_)
  refine I2 h (fun h => ?_) (fun h => ?_)
  ·refine Z 5 ?_
   obtain ⟨q10, hf11, h⟩ := h
   refine o_index rfl rfl rfl z_slT23 rfl rfl (hs2.up (hl7.trans hl9)) rfl hf11 (fun b12 of13 vs hc14 hrep => ?_)
   obtain ⟨_, _, rfl, rfl, rfl⟩ := hrep
   refine o_loadIN (vs := [.I q10.1, .I q10.2]) rfl rfl rfl z_agg149 rfl rfl (celn_part 0 rfl hc14) ?_
   refine o_alloc rfl rfl rfl z_zero149 (fun b15 => ZZ 3 [0] ?_)
   refine cutS τ9 (fun (s16 : Bool) => msg_path_j3 s9 s16 o9) (fun s16 => [(4, .I 0), (15, v1), (16, .I (a0.length : Int)), (17, .I s9), (34, .bool s16)]) (fun s16 => []) (fun s16 τ16 h hl16 => ?_) (fun hk16 => ?_)
   ·refine I2 h (fun h => ?_) (fun h => ?_)
    ·refine Z 4 ?_
     obtain rfl := he9 _ h
     replace h := hA9
     obtain rfl := h.symm
     exact RT func108 rfl ((hl7.trans hl9).trans hl16) ⟨rfl, rfl⟩
    ·refine Z 6 ?_
     exact hn9 _ _ _ _ h ⟨(hl9.trans hl16), rfl, rfl⟩
   refine ZZ 7 [0, 0] ?_
   refine M2 h (fun h => ?_) (fun h => ?_)
   ·refine Z 8 ?_
    refine st_ord [] _ rfl ?_
    exact hk16 _ _ _ ⟨true, h, LR, rfl, rfl⟩
   ·refine ZZ 8 [0, 0] ?_
    refine st_ord [] _ rfl ?_
    exact hk16 _ _ _ ⟨(decide ((min q10.1 q10.2) < (-1000000))), h, LR, rfl, rfl⟩
  ·refine st_exit rfl ?_
   obtain rfl := he9 _ h
   replace h := hA9
   exact hk8 _ _ _ ⟨(), h, hl9, rfl, rfl⟩
theorem msg_cells_ok {a0 : List Int} {a1 : TyA} {v1 : Value} {r : Int} (h : msg_cells a0 a1 r) (σ : Sto) (hs2 : Sl (kI .i64) σ v1 a0) :
    Does prog 109 [v1, .agg (lA a1).toArray] σ [] (fun v τ gs => gs = [] ∧ .I r = v) := by
 refine CO func109 ntmps109 rfl (fun cs fs => Z 2 ?_)
 refine o_boxC rfl rfl rfl rfl rfl rfl (fun b3 => Z 6 ?_)
 refine o_lenI rfl rfl rfl z_slT24 rfl hs2 (ZZ 1 [0] ?_)
 obtain ⟨r4, hr5, h⟩ := h
 refine SC z_en126 (msg_many_ok hr5 σ) ?_
 rintro _ τ6 _ hl7 ⟨rfl, rfl⟩
 refine Z 7 ?_
 refine I2 h (fun h => ?_) (fun h => ?_)
 ·refine Z 5 ?_
  obtain rfl := h.symm
  exact RT func109 rfl hl7 ⟨rfl, rfl⟩
 ·refine Z 6 ?_
  refine cutS τ6 (fun (s8 : Unit) => msg_cells_j1 s8 r) (fun s8 => [(4, .I 0)]) (fun s8 => []) (fun s8 τ8 h hl8 => (Z 4 ?_)) (fun hk8 => ?_)
  ·obtain rfl := h.symm
   exact RT func109 rfl (hl7.trans hl8) ⟨rfl, rfl⟩
  refine Z 3 ?_
  refine o_lenI rfl rfl rfl z_slT24 rfl (hs2.up hl7) (Z 2 ?_)
  obtain ⟨e9, hL9, hA9⟩ := h
  refine st_ord [] _ rfl ?_
  refine st_loop hL9 (fun (s9 : Int × Int) ρ τ9 gs => τ6.Le τ9 ∧ ESub ρ [(4, .I 0), (6, .I s9.1), (16, v1), (17, .I (a0.length : Int)), (18, .I s9.2)] ∧ gs = []) ⟨LR, rfl, rfl⟩ ?_
  rintro s9 o9 h he9 ρ9 τ9 gs9 ⟨hl9, hρ, rfl⟩ hn9
  refine st_es hρ (Z 5 ?_)
  refine I2 h (fun h => ?_) (fun h => ?_)
  ·refine Z 5 ?_
   obtain ⟨q10, hf11, h⟩ := h
   refine o_index rfl rfl rfl z_slT24 rfl rfl (hs2.up (hl7.trans hl9)) rfl hf11 (fun b12 of13 vs hc14 hrep => ?_)
   obtain rfl := hrep
   refine o_loadI (v := .I q10) rfl rfl rfl z_sc3 rfl (hc14 0 _ rfl) (Z 5 ?_)
   refine cutS τ9 (fun (s15 : Bool) => msg_cells_j3 s9 q10 s15 o9) (fun s15 => [(4, .I 0), (6, .I s9.1), (16, v1), (17, .I (a0.length : Int)), (18, .I s9.2), (8, .I q10), (22, .bool s15)]) (fun s15 => []) (fun s15 τ15 h hl15 => ?_) (fun hk15 => ?_)
   ·refine I2 h (fun h => ?_) (fun h => ?_)
    ·refine Z 4 ?_
     obtain rfl := he9 _ h
     replace h := hA9
     obtain rfl := h.symm
     exact RT func109 rfl ((hl7.trans hl9).trans hl15) ⟨rfl, rfl⟩
    ·refine Z 7 ?_
     refine I2 h (fun h => ?_) (fun h => ?_)
     ·refine Z 4 ?_
      obtain rfl := he9 _ h
      replace h := hA9
      obtain rfl := h.symm
      exact RT func109 rfl ((hl7.trans hl9).trans hl15) ⟨rfl, rfl⟩
     ·refine Z 11 ?_
      exact hn9 _ _ _ _ h ⟨(hl9.trans hl15), rfl, rfl⟩
   refine Z 3 ?_
   refine M2 h (fun h => ?_) (fun h => ?_)
   ·refine Z 5 ?_
    exact hk15 _ _ _ ⟨true, h, LR, rfl, rfl⟩
   ·refine Z 5 ?_
    exact hk15 _ _ _ ⟨(decide (65535 < q10)), h, LR, rfl, rfl⟩
  ·refine st_exit rfl ?_
   obtain rfl := he9 _ h
   replace h := hA9
   exact hk8 _ _ _ ⟨(), h, hl9, rfl, rfl⟩
theorem msg_text_ok {a0 : ByteArray} {a1 : TyA} {r : Int} (h : msg_text a0 a1 r) (σ : Sto)  :
    Does prog 110 [.string a0, .agg (lA a1).toArray] σ [] (fun v τ gs => gs = [] ∧ .I r = v) := by
 refine CO func110 ntmps110 rfl (fun cs fs => Z 2 ?_)
 refine o_boxC rfl rfl rfl rfl rfl rfl (fun b1 => ZZ 8 [0] ?_)
 obtain ⟨r2, hr3, h⟩ := h
 refine SC z_en126 (msg_many_ok hr3 σ) ?_
 rintro _ τ4 _ hl5 ⟨rfl, rfl⟩
 refine Z 7 ?_
 refine I2 h (fun h => ?_) (fun h => ?_)
 ·refine Z 5 ?_
  obtain rfl := h.symm
  exact RT func110 rfl hl5 ⟨rfl, rfl⟩
 ·refine Z 2 ?_
  refine cutS τ4 (fun (s6 : Unit) => msg_text_j1 s6 r) (fun s6 => [(4, .I 0)]) (fun s6 => []) (fun s6 τ6 h hl6 => (Z 4 ?_)) (fun hk6 => ?_)
  ·obtain rfl := h.symm
   exact RT func110 rfl (hl5.trans hl6) ⟨rfl, rfl⟩
  refine Z 3 ?_
  obtain ⟨hf11, h⟩ := h
  refine o_bytes rfl rfl rfl underlying9 underlying27 underlying5 rfl hf11 (fun v7 τ8 hl9 hs10 => ?_)
  refine o_lenI rfl rfl rfl z_slT27 rfl hs10 (Z 2 ?_)
  obtain ⟨e12, hL12, hA12⟩ := h
  refine st_ord [] _ rfl ?_
  refine st_loop hL12 (fun (s12 : Int) ρ τ12 gs => τ8.Le τ12 ∧ ESub ρ [(4, .I 0), (16, v7), (17, .I ((bints a0).length : Int)), (18, .I s12)] ∧ gs = []) ⟨LR, rfl, rfl⟩ ?_
  rintro s12 o12 h he12 ρ12 τ12 gs12 ⟨hl12, hρ, rfl⟩ hn12
  refine st_es hρ (Z 5 ?_)
  refine I2 h (fun h => ?_) (fun h => ?_)
  ·refine Z 5 ?_
   obtain ⟨q13, hf14, h⟩ := h
   refine o_index rfl rfl rfl z_slT27 rfl rfl (hs10.up hl12) rfl hf14 (fun b15 of16 vs hc17 hrep => ?_)
   obtain rfl := hrep
   refine o_loadI (v := .int .u8 q13) rfl rfl rfl z_sc5 rfl (hc17 0 _ rfl) (Z 3 ?_)
   refine cutS τ12 (fun (s18 : Bool) => msg_text_j3 s12 s18 o12) (fun s18 => [(4, .I 0), (16, v7), (17, .I ((bints a0).length : Int)), (18, .I s12), (27, .bool s18)]) (fun s18 => []) (fun s18 τ18 h hl18 => ?_) (fun hk18 => ?_)
   ·refine I2 h (fun h => ?_) (fun h => ?_)
    ·refine Z 4 ?_
     obtain rfl := he12 _ h
     replace h := hA12
     obtain rfl := h.symm
     exact RT func110 rfl (((hl5.trans hl9).trans hl12).trans hl18) ⟨rfl, rfl⟩
    ·refine Z 6 ?_
     exact hn12 _ _ _ _ h ⟨(hl12.trans hl18), rfl, rfl⟩
   refine Z 3 ?_
   refine M2 h (fun h => ?_) (fun h => ?_)
   ·refine Z 4 ?_
    exact hk18 _ _ _ ⟨true, h, LR, rfl, rfl⟩
   ·refine Z 4 ?_
    exact hk18 _ _ _ ⟨(decide (126 < q13)), h, LR, rfl, rfl⟩
  ·refine st_exit rfl ?_
   obtain rfl := he12 _ h
   replace h := hA12
   exact hk6 _ _ _ ⟨(), h, (hl9.trans hl12), rfl, rfl⟩
theorem msg_wrong_ok {a0 : TyM} {a1 : TyA} {v1 v2 : Value} {r : Int} (h : msg_wrong a0 a1 r) (σ : Sto) (hs3 : Sl (kP (kI .i64) (kI .i64)) σ v1 a0.2.2.1) (hs4 : Sl (kI .i64) σ v2 a0.2.2.2.1) :
    Does prog 81 [.agg (lM a0 v1 v2).toArray, .agg (lA a1).toArray] σ [] (fun v τ gs => gs = [] ∧ .I r = v) := by
 refine CO func81 ntmps81 rfl (fun cs fs => Z 2 ?_)
 refine o_box (cs := (lM a0 v1 v2)) rfl rfl rfl rfl rfl (fun b5 => ?_)
 refine o_boxC rfl rfl rfl rfl rfl rfl (fun b6 => ZZ 14 [0] ?_)
 refine I2 h (fun h => ?_) (fun h => ?_)
 ·refine ZZ 5 [1, 0] ?_
  obtain ⟨r7, hr8, h⟩ := h
  refine SC z_en108 (msg_path_ok hr8 σ hs3) ?_
  rintro _ τ9 _ hl10 ⟨rfl, rfl⟩
  refine Z 2 ?_
  obtain rfl := h.symm
  exact RT func81 rfl hl10 ⟨rfl, rfl⟩
 ·refine Z 5 ?_
  refine I2 h (fun h => ?_) (fun h => ?_)
  ·refine ZZ 5 [1, 0] ?_
   obtain ⟨r11, hr12, h⟩ := h
   refine SC z_en109 (msg_cells_ok hr12 σ hs4) ?_
   rintro _ τ13 _ hl14 ⟨rfl, rfl⟩
   refine Z 2 ?_
   obtain rfl := h.symm
   exact RT func81 rfl hl14 ⟨rfl, rfl⟩
  ·refine Z 5 ?_
   refine I2 h (fun h => ?_) (fun h => ?_)
   ·refine ZZ 5 [1, 0] ?_
    obtain ⟨r15, hr16, h⟩ := h
    refine SC z_en110 (msg_text_ok hr16 σ) ?_
    rintro _ τ17 _ hl18 ⟨rfl, rfl⟩
    refine Z 2 ?_
    obtain rfl := h.symm
    exact RT func81 rfl hl18 ⟨rfl, rfl⟩
   ·refine Z 5 ?_
    refine I2 h (fun h => ?_) (fun h => ?_)
    ·refine ZZ 5 [1, 0] ?_
     obtain ⟨r19, hr20, h⟩ := h
     refine SC z_en110 (msg_text_ok hr20 σ) ?_
     rintro _ τ21 _ hl22 ⟨rfl, rfl⟩
     refine Z 2 ?_
     obtain rfl := h.symm
     exact RT func81 rfl hl22 ⟨rfl, rfl⟩
    ·refine ZZ 8 [0] ?_
     obtain ⟨hf23, hf24, h⟩ := h
     refine o_indexA rfl rfl rfl z_arr22 rfl rfl hf23 hf24 ?_
     refine o_loadV (j := 1) (a1.2.2.1.toNat) (f := (Value.int .i64)) (zz := 0) (l := 6) (xs := a0.2.1) [.I a0.1] [v1, v2, .string a0.t4.1, .string a0.t4.2] rfl rfl rfl z_sc3 rfl rfl (by simp only [List.length_cons, List.length_nil] <;> omega) (by omega) (Z 3 ?_)
     refine cutS σ (fun (s25 : Bool) => msg_wrong_j1 s25 r) (fun s25 => [(4, .I 0), (46, .bool s25)]) (fun s25 => []) (fun s25 τ25 h hl25 => ?_) (fun hk25 => ?_)
     ·refine I2 h (fun h => ?_) (fun h => ?_)
      ·refine Z 4 ?_
       obtain rfl := h.symm
       exact RT func81 rfl hl25 ⟨rfl, rfl⟩
      ·refine Z 5 ?_
       obtain rfl := h.symm
       exact RT func81 rfl hl25 ⟨rfl, rfl⟩
     refine ZZ 5 [0] ?_
     refine M2 h (fun h => ?_) (fun h => ?_)
     ·refine Z 6 ?_
      refine st_ord [] _ rfl ?_
      exact hk25 _ _ _ ⟨true, h, LR, rfl, rfl⟩
     ·refine ZZ 6 [0] ?_
      refine st_ord [] _ rfl ?_
      exact hk25 _ _ _ ⟨(decide (a1.t4.1 < (a0.2.1.getD a1.2.2.1.toNat 0))), h, LR, rfl, rfl⟩
theorem msg_without_ok {a0 : TyM} {a1 : TyA} {v1 v2 : Value} {r : (TyM)} (h : msg_without a0 a1 r) (σ : Sto) (hs3 : Sl (kP (kI .i64) (kI .i64)) σ v1 a0.2.2.1) (hs4 : Sl (kI .i64) σ v2 a0.2.2.2.1) :
    Does prog 82 [.agg (lM a0 v1 v2).toArray, .agg (lA a1).toArray] σ [] (fun v τ gs => ∃ (v15 v16 : Value), gs = [] ∧ .agg (lM r v15 v16).toArray = v ∧ Sl (kP (kI .i64) (kI .i64)) τ v15 r.2.2.1 ∧ Sl (kI .i64) τ v16 r.2.2.2.1) := by
 refine CO func82 ntmps82 rfl (fun cs fs => Z 2 ?_)
 refine o_box (cs := (lM a0 v1 v2)) rfl rfl rfl rfl rfl (fun b5 => ?_)
 refine o_boxC rfl rfl rfl rfl rfl rfl (fun b6 => ?_)
 refine o_alloc rfl rfl rfl z_zero26 (fun b7 => Z 2 ?_)
 refine st_cut (fun ρ τ8 gs => ∃ (s8 : K30) (v9 v11 : Value), msg_without_j1 a0 s8 r ∧ σ.Le τ8 ∧ ESub ρ [(2, .Pb b5), (4, .Pb b7)] ∧ gs = [[(b5, .cells #[.I a0.1, .I s8.1, .I s8.2.1, .I s8.2.2.1, .I s8.2.2.2.1, .I s8.t4.1, .I s8.t4.2.1, v9, v11, .string s8.t4.t4.1, .string s8.t4.t4.2] 26 (0, 0))], [(b7, .cells lY.toArray 26 (0, 0))]] ∧ Sl (kP (kI .i64) (kI .i64)) τ8 v9 s8.t4.2.2.1 ∧ Sl (kI .i64) τ8 v11 s8.t4.2.2.2.1) ?_ (fun hk8 => ?_)
 ·rintro ρ8 τ8 gs8 ⟨s8, v9, v11, h, hl8, hρ, rfl, hs10, hs12⟩
  refine st_es hρ (ZZ 3 [0] ?_)
  refine o_store (j := 1) (vs := [.I a0.1, .I s8.1, .I s8.2.1, .I s8.2.2.1, .I s8.2.2.2.1, .I s8.t4.1, .I s8.t4.2.1, v9, v11, .string s8.t4.t4.1, .string s8.t4.t4.2]) (cs' := [.I a0.1, .I s8.1, .I s8.2.1, .I s8.2.2.1, .I s8.2.2.2.1, .I s8.t4.1, .I s8.t4.2.1, v9, v11, .string s8.t4.t4.1, .string s8.t4.t4.2]) rfl rfl rfl z_size26 rfl rfl rfl (o4 (ones_cons rfl (ones_cons rfl (ones_cons rfl (ones_cons hs10.one' (ones_cons hs12.one' (ones_cons rfl (ones_cons rfl ones_nil)))))))) rfl rfl rfl ?_
  refine st_end ?_
  obtain rfl := h.symm
  exact RC [.agg #[.I a0.1, .I s8.1, .I s8.2.1, .I s8.2.2.1, .I s8.2.2.2.1, .I s8.t4.1, .I s8.t4.2.1, v9, v11, .string s8.t4.t4.1, .string s8.t4.t4.2]] func82 ⟨cN 1 z_agg26, trivial⟩ hl8 ⟨_, _, rfl, rfl, hs10, hs12⟩
 refine ZZ 11 [1] ?_
 refine I2 h (fun h => ?_) (fun h => ?_)
 ·refine ZZ 5 [2] ?_
  refine st_ord [2, 0] _ rfl ?_
  exact hk8 _ _ _ ⟨((a0.2.1.getD 0 0), (a0.2.1.getD 1 0), (a0.2.1.getD 2 0), (a0.2.1.getD 3 0), (a0.2.1.getD 4 0), (a0.2.1.getD 5 0), [], a0.2.2.2.1, a0.t4.1, a0.t4.2), _, _, h, LR, rfl, rfl, Sl.nil, hs4⟩
 ·refine Z 5 ?_
  refine I2 h (fun h => ?_) (fun h => ?_)
  ·refine ZZ 5 [2] ?_
   refine st_ord [2, 0] _ rfl ?_
   exact hk8 _ _ _ ⟨((a0.2.1.getD 0 0), (a0.2.1.getD 1 0), (a0.2.1.getD 2 0), (a0.2.1.getD 3 0), (a0.2.1.getD 4 0), (a0.2.1.getD 5 0), a0.2.2.1, [], a0.t4.1, a0.t4.2), _, _, h, LR, rfl, rfl, hs3, Sl.nil⟩
  ·refine Z 5 ?_
   refine I2 h (fun h => ?_) (fun h => ?_)
   ·refine Z 2 ?_
    refine o_store (j := 2) (vs := [.E0]) (cs' := [.I a0.1, .I (a0.2.1.getD 0 0), .I (a0.2.1.getD 1 0), .I (a0.2.1.getD 2 0), .I (a0.2.1.getD 3 0), .I (a0.2.1.getD 4 0), .I (a0.2.1.getD 5 0), v1, v2, .E0, .string a0.t4.2]) rfl rfl rfl z_size9 rfl (ev_str z_str1) rfl (ones_cons rfl ones_nil) rfl rfl rfl (Z 2 ?_)
    refine st_ord [2, 0] _ rfl ?_
    exact hk8 _ _ _ ⟨((a0.2.1.getD 0 0), (a0.2.1.getD 1 0), (a0.2.1.getD 2 0), (a0.2.1.getD 3 0), (a0.2.1.getD 4 0), (a0.2.1.getD 5 0), a0.2.2.1, a0.2.2.2.1, (bstr []), a0.t4.2), _, _, h, LR, rfl, rfl, hs3, hs4⟩
   ·refine Z 5 ?_
    refine I2 h (fun h => ?_) (fun h => ?_)
    ·refine Z 2 ?_
     refine o_store (j := 2) (vs := [.E0]) (cs' := [.I a0.1, .I (a0.2.1.getD 0 0), .I (a0.2.1.getD 1 0), .I (a0.2.1.getD 2 0), .I (a0.2.1.getD 3 0), .I (a0.2.1.getD 4 0), .I (a0.2.1.getD 5 0), v1, v2, .string a0.t4.1, .E0]) rfl rfl rfl z_size9 rfl (ev_str z_str1) rfl (ones_cons rfl ones_nil) rfl rfl rfl (Z 2 ?_)
     refine st_ord [2, 0] _ rfl ?_
     exact hk8 _ _ _ ⟨((a0.2.1.getD 0 0), (a0.2.1.getD 1 0), (a0.2.1.getD 2 0), (a0.2.1.getD 3 0), (a0.2.1.getD 4 0), (a0.2.1.getD 5 0), a0.2.2.1, a0.2.2.2.1, a0.t4.1, (bstr [])), _, _, h, LR, rfl, rfl, hs3, hs4⟩
    ·refine ZZ 4 [1] ?_
     obtain ⟨hf13, hf14, h⟩ := h
     refine o_indexA rfl rfl rfl z_arr22 rfl rfl hf13 hf14 ?_
     refine o_storeV (j := 2) (a1.2.2.1.toNat) (f := (Value.int .i64)) (zz := 0) (a := 0) (l := 6) (xs := a0.2.1) [.I a0.1] [v1, v2, .string a0.t4.1, .string a0.t4.2] rfl rfl rfl z_size3 rfl rfl rfl rfl rfl (by simp only [List.length_cons, List.length_nil] <;> omega) (by omega) (Z 2 ?_)
     refine st_ord [2, 0] _ rfl ?_
     exact hk8 _ _ _ ⟨(((putN 6 0 a0.2.1 a1.2.2.1.toNat 0).getD 0 0), ((putN 6 0 a0.2.1 a1.2.2.1.toNat 0).getD 1 0), ((putN 6 0 a0.2.1 a1.2.2.1.toNat 0).getD 2 0), ((putN 6 0 a0.2.1 a1.2.2.1.toNat 0).getD 3 0), ((putN 6 0 a0.2.1 a1.2.2.1.toNat 0).getD 4 0), ((putN 6 0 a0.2.1 a1.2.2.1.toNat 0).getD 5 0), a0.2.2.1, a0.2.2.2.1, a0.t4.1, a0.t4.2), _, _, h, LR, rfl, rfl, hs3, hs4⟩
theorem slices_Equal_msg_Point_msg_Point_ok {a0 : List (Int × Int)} {a1 : List (Int × Int)} {v1 v3 : Value} {r : Bool} (h : slices_Equal_msg_Point_msg_Point a0 a1 r) (σ : Sto) (hs2 : Sl (kP (kI .i64) (kI .i64)) σ v1 a0) (hs4 : Sl (kP (kI .i64) (kI .i64)) σ v3 a1) :
    Does prog 86 [v1, v3] σ [] (fun v τ gs => gs = [] ∧ .bool r = v) := by
 refine CO func86 ntmps86 rfl (fun cs fs => Z 8 ?_)
 refine o_lenI rfl rfl rfl z_slT23 rfl hs2 ?_
 refine o_move rfl rfl rfl rfl ?_
 refine o_lenI rfl rfl rfl z_slT23 rfl hs4 (Z 2 ?_)
 refine I2 h (fun h => ?_) (fun h => ?_)
 ·refine Z 4 ?_
  obtain rfl := h.symm
  exact RT func86 rfl LR ⟨rfl, rfl⟩
 ·refine Z 2 ?_
  refine cutS σ (fun (s5 : Unit) => slices_Equal_msg_Point_msg_Point_j1 s5 r) (fun s5 => [(4, .bool false)]) (fun s5 => []) (fun s5 τ5 h hl5 => (Z 4 ?_)) (fun hk5 => ?_)
  ·obtain rfl := h.symm
   exact RT func86 rfl hl5 ⟨rfl, rfl⟩
  refine Z 3 ?_
  refine o_lenI rfl rfl rfl z_slT23 rfl hs2 (Z 2 ?_)
  obtain ⟨e6, hL6, hA6⟩ := h
  refine st_loop hL6 (fun (s6 : Int) ρ τ6 gs => σ.Le τ6 ∧ ESub ρ [(0, v1), (1, v3), (4, .bool false), (12, .I (a0.length : Int)), (13, .I s6)] ∧ gs = []) ⟨LR, rfl, rfl⟩ ?_
  rintro s6 o6 h he6 ρ6 τ6 gs6 ⟨hl6, hρ, rfl⟩ hn6
  refine st_es hρ (Z 5 ?_)
  refine I2 h (fun h => ?_) (fun h => ?_)
  ·refine Z 9 ?_
   obtain ⟨q7, hf8, q12, hf13, h⟩ := h
   refine st_draw 9 (dl [.v (v1), .v (.I s6), .t fun τ v => ∃ (b9 of10 : Nat) (vsb9 : K10), (.pointer (some ⟨b9, of10, none⟩) : Value) = v ∧ CelN τ ⟨b9, of10, none⟩ vsb9 ∧ (kP (kI .i64) (kI .i64)).rep τ vsb9 q7, .v (.agg #[.I q7.1, .I q7.2]), .v (v3), .v (.I s6), .t fun τ v => ∃ (b14 of15 : Nat) (vsb14 : K10), (.pointer (some ⟨b14, of15, none⟩) : Value) = v ∧ CelN τ ⟨b14, of15, none⟩ vsb14 ∧ (kP (kI .i64) (kI .i64)).rep τ vsb14 q12, .v (.agg #[.I q12.1, .I q12.2]), .v (.bool (!((decide (q7.1 = q12.1)) && ((decide (q7.2 = q12.2)) && true))))]) (fun _ _ => []) z_mix rfl (dl_mono ⟨fun _ _ _ hl ⟨b9, of10, vsb9, hv, hc11, hrepb9⟩ => ⟨b9, of10, vsb9, hv, hc11.up hl, Kd.mono _ hl hrepb9⟩, ⟨fun _ _ _ hl ⟨b14, of15, vsb14, hv, hc16, hrepb14⟩ => ⟨b14, of15, vsb14, hv, hc16.up hl, Kd.mono _ hl hrepb14⟩, trivial⟩⟩) (allB_cons (allB_cons (allB_cons (allB_cons (allB_cons (allB_cons (allB_cons (allB_cons (allB_cons allB_nil (p1 dA)) (p1 dA)) ?_) ?_) (p1 dA)) (p1 dA)) ?_) ?_) ?_) ?_
   ·intro ρ' τ pq rs hl hd hq hk
    obtain ⟨_, e0, rfl⟩ := hd 0 rfl
    obtain ⟨_, e1, rfl⟩ := hd 1 rfl
    refine o_index rfl rfl rfl z_slT23 rfl e0 (hs2.up (hl6.trans hl)) e1 hf8 (fun b9 of10 vsb9 hc11 hrepb9 => ?_)
    exact st_addNil (hk _ _ LR ⟨b9, of10, _, rfl, hc11, hrepb9⟩)
   ·intro ρ' τ pq rs hl hd hq hk
    obtain ⟨_, e2, b9, of10, vsb9, rfl, hc11, hrepb9⟩ := hd 2 rfl
    have hrepb9 := hrepb9
    obtain ⟨_, _, rfl, rfl, rfl⟩ := hrepb9
    refine o_loadIN (vs := [.I q7.1, .I q7.2]) rfl rfl rfl z_agg149 e2 rfl (celn_part 0 rfl hc11) ?_
    exact st_addNil (hk _ _ LR rfl)
   ·intro ρ' τ pq rs hl hd hq hk
    obtain ⟨_, e4, rfl⟩ := hd 4 rfl
    obtain ⟨_, e5, rfl⟩ := hd 5 rfl
    refine o_index rfl rfl rfl z_slT23 rfl e4 (hs4.up (hl6.trans hl)) e5 hf13 (fun b14 of15 vsb14 hc16 hrepb14 => ?_)
    exact st_addNil (hk _ _ LR ⟨b14, of15, _, rfl, hc16, hrepb14⟩)
   ·intro ρ' τ pq rs hl hd hq hk
    obtain ⟨_, e6, b14, of15, vsb14, rfl, hc16, hrepb14⟩ := hd 6 rfl
    have hrepb14 := hrepb14
    obtain ⟨_, _, rfl, rfl, rfl⟩ := hrepb14
    refine o_loadIN (vs := [.I q12.1, .I q12.2]) rfl rfl rfl z_agg149 e6 rfl (celn_part 0 rfl hc16) ?_
    exact st_addNil (hk _ _ LR rfl)
   ·intro ρ' τ pq rs hl hd hq hk
    obtain ⟨_, e3, rfl⟩ := hd 3 rfl
    obtain ⟨_, e7, rfl⟩ := hd 7 rfl
    refine o_aggEq (b := ((decide (q7.1 = q12.1)) && ((decide (q7.2 = q12.2)) && true))) (e := (!((decide (q7.1 = q12.1)) && ((decide (q7.2 = q12.2)) && true)))) rfl rfl rfl z_eqg149 e3 e7 (fun w => by refine eq_struct underlying149 z_held149 ?_; refine eqf_cons (r := (decide (q7.1 = q12.1))) (r' := ((decide (q7.2 = q12.2)) && true)) rfl (part_one z_sc3 rfl) (part_one z_sc3 rfl) (by exact eq_int underlying3 _ _) ?_; refine eqf_cons (r := (decide (q7.2 = q12.2))) (r' := true) rfl (part_one z_sc3 rfl) (part_one z_sc3 rfl) (by exact eq_int underlying3 _ _) ?_; exact eqf_nil _ _ _ _) rfl ?_
    exact st_addNil (hk _ _ LR rfl)
   intro ρ' τ17 vals hl17 hv hq
   refine st_ord [] _ rfl ?_
   refine st_env (ρ' := [(24, .bool (!((decide (q7.1 = q12.1)) && ((decide (q7.2 = q12.2)) && true)))), (0, v1), (1, v3), (4, .bool false), (12, .I (a0.length : Int)), (13, .I s6)]) ⟨(lv1 hv 8 rfl rfl), oT hq 0, oT hq 1, oT hq 4, oT hq 12, oT hq 13, trivial⟩ ?_
   refine st_end ?_
   refine I2 h (fun h => ?_) (fun h => ?_)
   ·refine Z 4 ?_
    obtain rfl := he6 _ h
    replace h := hA6
    obtain rfl := h.symm
    exact RT func86 rfl (hl6.trans hl17) ⟨rfl, rfl⟩
   ·refine Z 6 ?_
    exact hn6 _ _ _ _ h ⟨(hl6.trans hl17), rfl, rfl⟩
  ·refine st_exit rfl ?_
   obtain rfl := he6 _ h
   replace h := hA6
   exact hk5 _ _ _ ⟨(), h, hl6, rfl, rfl⟩
theorem slices_Equal_int_int_ok {a0 : List Int} {a1 : List Int} {v1 v3 : Value} {r : Bool} (h : slices_Equal_int_int a0 a1 r) (σ : Sto) (hs2 : Sl (kI .i64) σ v1 a0) (hs4 : Sl (kI .i64) σ v3 a1) :
    Does prog 48 [v1, v3] σ [] (fun v τ gs => gs = [] ∧ .bool r = v) := by
 refine CO func48 ntmps48 rfl (fun cs fs => Z 8 ?_)
 refine o_lenI rfl rfl rfl z_slT24 rfl hs2 ?_
 refine o_move rfl rfl rfl rfl ?_
 refine o_lenI rfl rfl rfl z_slT24 rfl hs4 (Z 2 ?_)
 refine I2 h (fun h => ?_) (fun h => ?_)
 ·refine Z 4 ?_
  obtain rfl := h.symm
  exact RT func48 rfl LR ⟨rfl, rfl⟩
 ·refine Z 2 ?_
  refine cutS σ (fun (s5 : Unit) => slices_Equal_int_int_j1 s5 r) (fun s5 => [(4, .bool false)]) (fun s5 => []) (fun s5 τ5 h hl5 => (Z 4 ?_)) (fun hk5 => ?_)
  ·obtain rfl := h.symm
   exact RT func48 rfl hl5 ⟨rfl, rfl⟩
  refine Z 3 ?_
  refine o_lenI rfl rfl rfl z_slT24 rfl hs2 (Z 2 ?_)
  obtain ⟨e6, hL6, hA6⟩ := h
  refine st_loop hL6 (fun (s6 : Int) ρ τ6 gs => σ.Le τ6 ∧ ESub ρ [(0, v1), (1, v3), (4, .bool false), (12, .I (a0.length : Int)), (13, .I s6)] ∧ gs = []) ⟨LR, rfl, rfl⟩ ?_
  rintro s6 o6 h he6 ρ6 τ6 gs6 ⟨hl6, hρ, rfl⟩ hn6
  refine st_es hρ (Z 5 ?_)
  refine I2 h (fun h => ?_) (fun h => ?_)
  ·refine Z 9 ?_
   obtain ⟨q7, hf8, q12, hf13, h⟩ := h
   refine st_draw 9 (dl [.v (v1), .v (.I s6), .t fun τ v => ∃ (b9 of10 : Nat) (vsb9 : K10), (.pointer (some ⟨b9, of10, none⟩) : Value) = v ∧ CelN τ ⟨b9, of10, none⟩ vsb9 ∧ (kI .i64).rep τ vsb9 q7, .v (.I q7), .v (v3), .v (.I s6), .t fun τ v => ∃ (b14 of15 : Nat) (vsb14 : K10), (.pointer (some ⟨b14, of15, none⟩) : Value) = v ∧ CelN τ ⟨b14, of15, none⟩ vsb14 ∧ (kI .i64).rep τ vsb14 q12, .v (.I q12), .v (.bool (!(decide (q7 = q12))))]) (fun _ _ => []) z_mix rfl (dl_mono ⟨fun _ _ _ hl ⟨b9, of10, vsb9, hv, hc11, hrepb9⟩ => ⟨b9, of10, vsb9, hv, hc11.up hl, Kd.mono _ hl hrepb9⟩, ⟨fun _ _ _ hl ⟨b14, of15, vsb14, hv, hc16, hrepb14⟩ => ⟨b14, of15, vsb14, hv, hc16.up hl, Kd.mono _ hl hrepb14⟩, trivial⟩⟩) (allB_cons (allB_cons (allB_cons (allB_cons (allB_cons (allB_cons (allB_cons (allB_cons (allB_cons allB_nil (p1 dA)) (p1 dA)) ?_) ?_) (p1 dA)) (p1 dA)) ?_) ?_) (p1 dA)) ?_
   ·intro ρ' τ pq rs hl hd hq hk
    obtain ⟨_, e0, rfl⟩ := hd 0 rfl
    obtain ⟨_, e1, rfl⟩ := hd 1 rfl
    refine o_index rfl rfl rfl z_slT24 rfl e0 (hs2.up (hl6.trans hl)) e1 hf8 (fun b9 of10 vsb9 hc11 hrepb9 => ?_)
    exact st_addNil (hk _ _ LR ⟨b9, of10, _, rfl, hc11, hrepb9⟩)
   ·intro ρ' τ pq rs hl hd hq hk
    obtain ⟨_, e2, b9, of10, vsb9, rfl, hc11, hrepb9⟩ := hd 2 rfl
    have hrepb9 := hrepb9
    obtain rfl := hrepb9
    refine o_loadI (v := .I q7) rfl rfl rfl z_sc3 e2 (hc11 0 _ rfl) ?_
    exact st_addNil (hk _ _ LR rfl)
   ·intro ρ' τ pq rs hl hd hq hk
    obtain ⟨_, e4, rfl⟩ := hd 4 rfl
    obtain ⟨_, e5, rfl⟩ := hd 5 rfl
    refine o_index rfl rfl rfl z_slT24 rfl e4 (hs4.up (hl6.trans hl)) e5 hf13 (fun b14 of15 vsb14 hc16 hrepb14 => ?_)
    exact st_addNil (hk _ _ LR ⟨b14, of15, _, rfl, hc16, hrepb14⟩)
   ·intro ρ' τ pq rs hl hd hq hk
    obtain ⟨_, e6, b14, of15, vsb14, rfl, hc16, hrepb14⟩ := hd 6 rfl
    have hrepb14 := hrepb14
    obtain rfl := hrepb14
    refine o_loadI (v := .I q12) rfl rfl rfl z_sc3 e6 (hc16 0 _ rfl) ?_
    exact st_addNil (hk _ _ LR rfl)
   intro ρ' τ17 vals hl17 hv hq
   refine st_ord [] _ rfl ?_
   refine st_env (ρ' := [(24, .bool (!(decide (q7 = q12)))), (0, v1), (1, v3), (4, .bool false), (12, .I (a0.length : Int)), (13, .I s6)]) ⟨(lv1 hv 8 rfl rfl), oT hq 0, oT hq 1, oT hq 4, oT hq 12, oT hq 13, trivial⟩ ?_
   refine st_end ?_
   refine I2 h (fun h => ?_) (fun h => ?_)
   ·refine Z 4 ?_
    obtain rfl := he6 _ h
    replace h := hA6
    obtain rfl := h.symm
    exact RT func48 rfl (hl6.trans hl17) ⟨rfl, rfl⟩
   ·refine Z 6 ?_
    exact hn6 _ _ _ _ h ⟨(hl6.trans hl17), rfl, rfl⟩
  ·refine st_exit rfl ?_
   obtain rfl := he6 _ h
   replace h := hA6
   exact hk5 _ _ _ ⟨(), h, hl6, rfl, rfl⟩
theorem msg_Same_ok {a0 : TyM} {a1 : TyM} {v1 v2 : Value} {v5 v6 : Value} {r : Bool} (h : msg_Same a0 a1 r) (σ : Sto) (hs3 : Sl (kP (kI .i64) (kI .i64)) σ v1 a0.2.2.1) (hs4 : Sl (kI .i64) σ v2 a0.2.2.2.1) (hs7 : Sl (kP (kI .i64) (kI .i64)) σ v5 a1.2.2.1) (hs8 : Sl (kI .i64) σ v6 a1.2.2.2.1) :
    Does prog 47 [.agg (lM a0 v1 v2).toArray, .agg (lM a1 v5 v6).toArray] σ [] (fun v τ gs => gs = [] ∧ .bool r = v) := by
 refine CO func47 ntmps47 rfl (fun cs fs => Z 2 ?_)
 refine o_box (cs := (lM a0 v1 v2)) rfl rfl rfl rfl rfl (fun b9 => ?_)
 refine o_box (cs := (lM a1 v5 v6)) rfl rfl rfl rfl rfl (fun b10 => Z 3 ?_)
 refine cutS σ (fun (s11 : Bool) => msg_Same_j1 s11 r) (fun s11 => [(4, .bool s11)]) (fun s11 => []) (fun s11 τ11 h hl11 => ?_) (fun hk11 => ?_)
 ·obtain rfl := h.symm
  exact RT func47 rfl hl11 ⟨rfl, rfl⟩
 refine ZZ 6 [1, 0] ?_
 refine M2 h (fun h => ?_) (fun h => ?_)
 ·refine ZZ 4 [1, 0] ?_
  refine o_aggEq (b := (eqN 6 0 a0.2.1 a1.2.1)) (e := (eqN 6 0 a0.2.1 a1.2.1)) rfl rfl rfl z_eqg22 rfl rfl (fun w => by exact eq_arr (xs := a0.2.1) (ys := a1.2.1) underlying22 underlying3 z_info3 z_cell3) rfl ?_
  refine o_pick rfl rfl rfl rfl rfl ?_
  refine M2 h (fun h => ?_) (fun h => ?_)
  ·refine ZZ 4 [1, 0] ?_
   obtain ⟨r12, hr13, h⟩ := h
   refine SC z_en86 (slices_Equal_msg_Point_msg_Point_ok hr13 σ hs3 hs7) ?_
   rintro _ τ14 _ hl15 ⟨rfl, rfl⟩
   refine o_pick rfl rfl rfl rfl rfl ?_
   refine M2 h (fun h => ?_) (fun h => ?_)
   ·refine ZZ 4 [1, 0] ?_
    obtain ⟨r16, hr17, h⟩ := h
    refine SC z_en48 (slices_Equal_int_int_ok hr17 τ14 (hs4.up hl15) (hs8.up hl15)) ?_
    rintro _ τ18 _ hl19 ⟨rfl, rfl⟩
    refine o_pick rfl rfl rfl rfl rfl ?_
    refine M2 h (fun h => ?_) (fun h => ?_)
    ·refine ZZ 6 [1, 0] ?_
     refine M2 h (fun h => ?_) (fun h => ?_)
     ·refine ZZ 8 [1, 0] ?_
      refine st_ord [] _ rfl ?_
      exact hk11 _ _ _ ⟨(decide (a0.t4.2 = a1.t4.2)), h, (hl15.trans hl19), rfl, rfl⟩
     ·refine Z 8 ?_
      refine st_ord [] _ rfl ?_
      exact hk11 _ _ _ ⟨false, h, (hl15.trans hl19), rfl, rfl⟩
    ·refine Z 15 ?_
     refine st_ord [] _ rfl ?_
     exact hk11 _ _ _ ⟨false, h, (hl15.trans hl19), rfl, rfl⟩
   ·refine Z 22 ?_
    refine st_ord [] _ rfl ?_
    exact hk11 _ _ _ ⟨false, h, hl15, rfl, rfl⟩
  ·refine Z 29 ?_
   refine st_ord [] _ rfl ?_
   exact hk11 _ _ _ ⟨false, h, LR, rfl, rfl⟩
 ·refine Z 36 ?_
  refine st_ord [] _ rfl ?_
  exact hk11 _ _ _ ⟨false, h, LR, rfl, rfl⟩
theorem msg_Check_ok {a0 : TyM} {v1 v2 : Value} {r : Int} (h : msg_Check a0 r) (σ : Sto) (hs3 : Sl (kP (kI .i64) (kI .i64)) σ v1 a0.2.2.1) (hs4 : Sl (kI .i64) σ v2 a0.2.2.2.1) :
    Does prog 41 [.agg (lM a0 v1 v2).toArray] σ [] (fun v τ gs => gs = [] ∧ .I r = v) := by
 refine CO func41 ntmps41 rfl (fun cs fs => Z 2 ?_)
 refine o_box (cs := (lM a0 v1 v2)) rfl rfl rfl rfl rfl (fun b5 => Z 4 ?_)
 refine st_draw 3 (dl [.v (.agg (lM a0 v1 v2).toArray), .t fun τ v => ∃ (b6 : Nat), (.Pb b6 : Value) = v, .v (.I 9)]) (oneG 1 (.cells lY.toArray 26 (0, 0))) z_mix rfl (dl_mono ⟨fun _ _ _ hl ⟨b6, hv⟩ => ⟨b6, hv⟩, trivial⟩) (allB_cons (allB_cons (allB_cons allB_nil ?_) ?_) (p1o dA)) ?_
 ·intro ρ' τ pq rs hl hd hq hk
  refine o_loadN (j := 0) (vs := (lM a0 v1 v2)) rfl rfl rfl z_agg26 (oT hq 1) rfl rfl ?_
  exact st_addNil (hk _ _ LR rfl)
 ·intro ρ' τ pq rs hl hd hq hk
  refine o_alloc rfl rfl rfl z_zero26 (fun b6 => ?_)
  exact hk _ _ LR ⟨b6, rfl⟩
 intro ρ' τ7 vals hl7 hv hq
 obtain ⟨l1, b6, t1⟩ := hv 1 (by decide)
 replace l1 : Eng.look ρ' 4 = some (.Pb b6) := l1.trans (congrArg some (Eq.symm t1))
 refine st_gs [[(b5, .cells (lM a0 v1 v2).toArray 26 (0, 0))], [(b6, .cells lY.toArray 26 (0, 0))]] (by rw [oneG_flat (by decide) (Eq.symm t1)]; rfl) ?_
 refine st_env (ρ' := [(7, .agg (lM a0 v1 v2).toArray), (4, .Pb b6), (3, .I 9), (1, .Pb b5), (2, .I 0)]) ⟨(lv1 hv 0 rfl rfl), l1, (lv1 hv 2 rfl rfl), oT hq 1, oT hq 2, trivial⟩ ?_
 refine o_store (j := 1) (vs := (lM a0 v1 v2)) (cs' := (lM a0 v1 v2)) rfl rfl rfl z_size26 rfl rfl rfl (o4 (ones_cons rfl (ones_cons rfl (ones_cons rfl (ones_cons (hs3.up hl7).one' (ones_cons (hs4.up hl7).one' (ones_cons rfl (ones_cons rfl ones_nil)))))))) rfl rfl rfl (Z 4 ?_)
 refine st_cut (fun ρ τ8 gs => ∃ (s8 : K13) (v9 v11 : Value), msg_Check_j1 a0 s8 r ∧ τ7.Le τ8 ∧ ESub ρ [(4, .Pb b6), (3, .I s8.1), (1, .Pb b5), (2, .I 0)] ∧ gs = [[(b5, .cells (lM a0 v1 v2).toArray 26 (0, 0))], [(b6, .cells #[.I s8.2.1, .I s8.2.2.1, .I s8.2.2.2.1, .I s8.t4.1, .I s8.t4.2.1, .I s8.t4.2.2.1, .I s8.t4.2.2.2.1, v9, v11, .string s8.t4.t4.2.2.1, .string s8.t4.t4.2.2.2] 26 (0, 0))]] ∧ Sl (kP (kI .i64) (kI .i64)) τ8 v9 s8.t4.t4.1 ∧ Sl (kI .i64) τ8 v11 s8.t4.t4.2.1) ?_ (fun hk8 => ?_)
 ·rintro ρ8 τ8 gs8 ⟨s8, v9, v11, h, hl8, hρ, rfl, hs10, hs12⟩
  refine st_es hρ (Z 2 ?_)
  refine cutS τ8 (fun (s13 : Bool) => msg_Check_j2 s8 s13 r) (fun s13 => [(3, .I s8.1), (2, .I 0), (34, .bool s13)]) (fun s13 => []) (fun s13 τ13 h hl13 => ?_) (fun hk13 => ?_)
  ·refine I2 h (fun h => ?_) (fun h => ?_)
   ·refine Z 4 ?_
    obtain rfl := h.symm
    exact RT func41 rfl ((hl7.trans hl8).trans hl13) ⟨rfl, rfl⟩
   ·refine Z 6 ?_
    obtain rfl := h.symm
    exact RT func41 rfl ((hl7.trans hl8).trans hl13) ⟨rfl, rfl⟩
  refine Z 3 ?_
  refine M2 h (fun h => ?_) (fun h => ?_)
  ·refine ZZ 4 [1, 0] ?_
   obtain ⟨r14, hr15, h⟩ := h
   refine SC z_en47 (msg_Same_ok hr15 τ8 hs10 hs12 Sl.nil Sl.nil) ?_
   rintro _ τ16 _ hl17 ⟨rfl, rfl⟩
   refine Z 3 ?_
   refine st_ord [] _ rfl ?_
   exact hk13 _ _ _ ⟨(!r14), h, hl17, rfl, rfl⟩
  ·refine Z 8 ?_
   refine st_ord [] _ rfl ?_
   exact hk13 _ _ _ ⟨false, h, LR, rfl, rfl⟩
 refine ZZ 4 [0] ?_
 obtain ⟨r18, hr19, h⟩ := h
 refine SC z_en80 (field_Of_ok hr19 τ7) ?_
 rintro _ τ20 _ hl21 ⟨v22, rfl, rfl, hs23⟩
 refine o_lenI rfl rfl rfl z_slT150 rfl hs23 (Z 2 ?_)
 obtain ⟨e24, hL24, hA24⟩ := h
 refine st_loop hL24 (fun (s24 : K21) ρ τ24 gs => τ20.Le τ24 ∧ ∃ (v25 v27 : Value), ESub ρ [(4, .Pb b6), (3, .I s24.1), (1, .Pb b5), (2, .I 0), (10, v22), (11, .I (r18.length : Int)), (12, .I s24.2.1)] ∧ gs = [[(b5, .cells (lM a0 v1 v2).toArray 26 (0, 0))], [(b6, .cells #[.I s24.2.2.1, .I s24.2.2.2.1, .I s24.t4.1, .I s24.t4.2.1, .I s24.t4.2.2.1, .I s24.t4.2.2.2.1, .I s24.t4.t4.1, v25, v27, .string s24.t4.t4.2.2.2.1, .string s24.t4.t4.t4] 26 (0, 0))]] ∧ Sl (kP (kI .i64) (kI .i64)) τ24 v25 s24.t4.t4.2.1 ∧ Sl (kI .i64) τ24 v27 s24.t4.t4.2.2.1) ⟨LR, _, _, rfl, rfl, (hs3.up (hl7.trans hl21)), (hs4.up (hl7.trans hl21))⟩ ?_
 rintro s24 o24 h he24 ρ24 τ24 gs24 ⟨hl24, v25, v27, hρ, rfl, hs26, hs28⟩ hn24
 refine st_es hρ (Z 5 ?_)
 refine I2 h (fun h => ?_) (fun h => ?_)
 ·refine Z 5 ?_
  obtain ⟨q29, hf30, h⟩ := h
  refine o_index rfl rfl rfl z_slT150 rfl rfl (hs23.up hl24) rfl hf30 (fun b31 of32 vs hc33 hrep => ?_)
  obtain ⟨_, _, rfl, rfl, ⟨_, _, rfl, rfl, ⟨_, _, rfl, rfl, ⟨_, _, rfl, rfl, ⟨_, _, rfl, rfl, ⟨_, _, rfl, rfl, rfl⟩⟩⟩⟩⟩⟩ := hrep
  refine o_loadIN (vs := (lA q29)) rfl rfl rfl z_agg139 rfl rfl (celn_part 0 rfl hc33) ?_
  refine o_alloc rfl rfl rfl z_zero139 (fun b34 => ZZ 7 [0, 1, 0] ?_)
  obtain ⟨r35, hr36, h⟩ := h
  refine SC z_en81 (msg_wrong_ok hr36 τ24 (hs3.up ((hl7.trans hl21).trans hl24)) (hs4.up ((hl7.trans hl21).trans hl24))) ?_
  rintro _ τ37 _ hl38 ⟨rfl, rfl⟩
  refine Z 7 ?_
  refine I2 h (fun h => ?_) (fun h => ?_)
  ·refine st_exit rfl ?_
   obtain rfl := he24 _ h
   replace h := hA24
   refine st_ord [1, 1] _ rfl ?_
   exact hk8 _ _ _ ⟨(r35, s24.2.2.1, s24.2.2.2.1, s24.t4.1, s24.t4.2.1, s24.t4.2.2.1, s24.t4.2.2.2.1, s24.t4.t4.1, s24.t4.t4.2.1, s24.t4.t4.2.2.1, s24.t4.t4.2.2.2.1, s24.t4.t4.t4), _, _, h, ((hl21.trans hl24).trans hl38), rfl, rfl, (hs26.up hl38), (hs28.up hl38)⟩
  ·refine ZZ 4 [2, 0] ?_
   obtain ⟨r39, hr40, h⟩ := h
   refine SC z_en82 (msg_without_ok hr40 τ37 (hs26.up hl38) (hs28.up hl38)) ?_
   rintro _ τ41 _ hl42 ⟨v43, v44, rfl, rfl, hs45, hs46⟩
   refine o_store (j := 2) (vs := (lM r39 v43 v44)) (cs' := (lM r39 v43 v44)) rfl rfl rfl z_size26 rfl rfl rfl (o4 (ones_cons rfl (ones_cons rfl (ones_cons rfl (ones_cons hs45.one' (ones_cons hs46.one' (ones_cons rfl (ones_cons rfl ones_nil)))))))) rfl rfl rfl (Z 6 ?_)
   refine st_ord [1, 1] _ rfl ?_
   exact hn24 _ _ _ _ h ⟨((hl24.trans hl38).trans hl42), _, _, rfl, rfl, hs45, hs46⟩
 ·refine st_exit rfl ?_
  obtain rfl := he24 _ h
  replace h := hA24
  exact hk8 _ _ _ ⟨(s24.1, s24.2.2.1, s24.2.2.2.1, s24.t4.1, s24.t4.2.1, s24.t4.2.2.1, s24.t4.2.2.2.1, s24.t4.t4.1, s24.t4.t4.2.1, s24.t4.t4.2.2.1, s24.t4.t4.2.2.2.1, s24.t4.t4.t4), _, _, h, (hl21.trans hl24), rfl, rfl, hs26, hs28⟩
theorem say_Parse_ok {a0 : ByteArray} {r : (TyM) × Int} (h : say_Parse a0 r) (σ : Sto) (hE : Errs prog σ) :
    Does prog 63 [.string a0] σ [] (fun v τ gs => ∃ (v111 v112 : Value), gs = [] ∧ .tuple [.agg (lM r.1 v111 v112).toArray, .I r.2].toArray = v ∧ Sl (kP (kI .i64) (kI .i64)) τ v111 r.1.2.2.1 ∧ Sl (kI .i64) τ v112 r.1.2.2.2.1) := by
 refine CO func63 ntmps63 rfl (fun cs fs => Z 2 ?_)
 refine o_alloc rfl rfl rfl z_zero26 (fun b1 => Z 5 ?_)
 refine o_alloc rfl rfl rfl z_zero67 (fun b2 => Z 5 ?_)
 obtain ⟨r3, hr4, h⟩ := h
 refine SC z_en61 (say_Words_ok hr4 σ) ?_
 rintro _ τ5 _ hl6 ⟨f7, q8, rfl, rfl, hit9⟩
 refine Z 2 ?_
 obtain ⟨t10, w10, hR10, hA10⟩ := h
 refine st_env (ρ' := [(2, .Pb b1), (3, .I 0), (4, .Pb b2), (18, .func (.func f7) #[] q8)]) ⟨rfl, rfl, rfl, rfl, trivial⟩ ?_
 refine st_addNil ?_
 refine st_ord [2, 1, 0] _ rfl ?_
 refine st_addNil ?_
 refine st_range (B := say_Parse_l1) (s0 := []) ranges_fctx rfl hit9 LR hR10 rfl (fun _ _ _ h => by cases h; rfl) (fun (s10 : K0) τ10 gs => τ5.Le τ10 ∧ ∃ (v11 : Value) (g12 : Grp), gs = [[(b1, .cells lY.toArray 26 (0, 0))], [(b2, .cells #[v11] 67 (0, 0))], g12] ∧ Ow kS 9 τ10 v11 s10 g12) (fun _ _ _ _ => False) (fun _ _ _ _ hl ⟨hb, v11, g12, hg, ho13⟩ => ⟨hb.trans hl, v11, g12, hg, ho13.up hl⟩) (fun _ _ _ _ _ _ h => h.elim) ⟨LR, _, _, rfl, Ow.nil⟩ ?_ ?_ ?_
 ·rintro x10 s10 o10 τ10 gs10 vx10 hl10 h rfl ⟨hb10, v11, g12, rfl, ho13⟩ l10 rc10 caller10 cs10 fs10
  refine Z 3 ?_
  refine st_begin (ZZ 4 [1] ?_)
  refine o_litE eS [x10.2] rfl rfl rfl z_slT67 z_zero9 ⟨rfl, ⟨_, rfl, rfl⟩, trivial⟩ rfl rfl rfl rfl (fun v14 g15 ho16 => ?_)
  obtain ⟨hf20, hf21, h⟩ := h
  refine st_ord [3, 0, 0, 0] _ rfl ?_
  refine o_append (dk := kS) (xs := s10) (ys := [x10.2]) rfl rfl rfl rfl z_slT67 rfl ho13 rfl (Ow.src (j := 1) ho16 rfl) hf20 hf21 (fun v17 g18 ho19 => ?_)
  refine o_store (j := 3) (vs := [v17]) (cs' := [v17]) rfl rfl rfl z_size67 rfl rfl (oneL_ow ho19) (ones_cons ho19.one' ones_nil) rfl rfl rfl (Z 2 ?_)
  refine st_ord [2, 2, 0] _ rfl ?_
  exact st_rend (List.Sublist.refl _) LR ⟨_, h, hl10, _, _, rfl, ho19⟩
 ·rintro p22 τ23 gs10 f10 ht hl24 ⟨hb, v25, g26, rfl, ho27⟩ rfl
  subst ht
  replace h := hA10
  refine st_ord [1, 1, 1] _ rfl (Z 4 ?_)
  refine o_alloc rfl rfl rfl z_zero164 (fun b28 => ZZ 5 [0, 0] ?_)
  obtain ⟨r33, hr34, h⟩ := h
  refine st_ord [3, 0, 0, 0] _ rfl ?_
  refine st_freeze (fun τ29 hl30 hg31 => ?_)
  have hs32 := ho27.freeze hl30 hg31
  refine st_ord [2, 0, 0] _ rfl ?_
  refine st_call (foot := [[(b2, .cells #[v25] 67 (0, 0))]]) rfl rfl rfl rfl rfl rfl (callV_of2 (caps := [.Pb b2]) z_en96 (say_Parse_1_ok hr34 τ29 hs32) rfl) ?_
  rintro _ τ35 _ hl36 ⟨v37, rfl, rfl, hs38⟩
  refine Z 9 ?_
  obtain ⟨r39, hr40, h⟩ := h
  refine SC z_en97 (field_Kind_ok hr40 τ35) ?_
  rintro _ τ41 _ hl42 ⟨rfl, rfl⟩
  refine ZZ 1 [] ?_
  refine o_alloc rfl rfl rfl z_zero26 (fun b43 => ZZ 4 [0] ?_)
  refine o_alloc rfl rfl rfl z_zero32 (fun b44 => ZZ 3 [0] ?_)
  refine cutS τ41 (fun (s45 : Int) => say_Parse_j2 r33 r39 s45 r) (fun s45 => [(2, .Pb b1), (3, .I 0), (4, .Pb b2), (7, .Pb b28), (10, .Pb b43), (11, .Pb b44)]) (fun s45 => [[(b1, .cells lY.toArray 26 (0, 0))], [(b2, .cells #[v37] 67 (0, 0))], [(b28, .cells #[.func (.func 96) #[] #[.Pb b2]] 164 (0, 0))], [(b43, .cells #[.I r39, .I 0, .I 0, .I 0, .I 0, .I 0, .I 0, .N0, .N0, .E0, .E0] 26 (0, 0))], [(b44, .cells #[.I s45] 32 (0, 0))]]) (fun s45 τ45 h hl45 => (Z 3 ?_)) (fun hk45 => ?_)
  ·refine st_cut (fun ρ τ46 gs => ∃ (s46 : K1) (v47 v49 v51 : Value), say_Parse_j3 s46 r ∧ τ45.Le τ46 ∧ ESub ρ [(2, .Pb b1), (3, .I 0), (4, .Pb b2), (10, .Pb b43), (11, .Pb b44)] ∧ gs = [[(b1, .cells lY.toArray 26 (0, 0))], [(b2, .cells #[v47] 67 (0, 0))], [(b43, .cells #[.I s46.2.1, .I s46.2.2.1, .I s46.2.2.2.1, .I s46.t4.1, .I s46.t4.2.1, .I s46.t4.2.2.1, .I s46.t4.2.2.2.1, v49, v51, .string s46.t4.t4.2.2.1, .string s46.t4.t4.2.2.2.1] 26 (0, 0))], [(b44, .cells #[.I s46.t4.t4.t4] 32 (0, 0))]] ∧ Sl kS τ46 v47 s46.1 ∧ Sl (kP (kI .i64) (kI .i64)) τ46 v49 s46.t4.t4.1 ∧ Sl (kI .i64) τ46 v51 s46.t4.t4.2.1) ?_ (fun hk46 => ?_)
   ·rintro ρ46 τ46 gs46 ⟨s46, v47, v49, v51, h, hl46, hρ, rfl, hs48, hs50, hs52⟩
    refine st_es hρ (ZZ 8 [3] ?_)
    refine I2 h (fun h => ?_) (fun h => ?_)
    ·refine st_seq ?_
     refine st_d40 3 [.v (.agg lY.toArray), .v (.I s46.t4.t4.t4), .t fun _ _ => True] z_mix rfl ⟨fun _ _ _ _ _ => trivial, trivial⟩ (allB_cons (allB_cons (allB_cons allB_nil ?_) ?_) ?_) ?_
     ·intro ρ' τ pq rs hl hd hq hw hk
      refine ZZ 1 [] ?_
      exact hk _ _ LR rfl
     ·intro ρ' τ pq rs hl hd hq hw hk
      refine o_load (j := 3) (v := .I s46.t4.t4.t4) rfl rfl rfl z_sc32 (oT hq 11) rfl rfl ?_
      exact hk _ _ LR rfl
     ·intro ρ' τ pq rs hl hd hq hw hk
      obtain ⟨_, e0, rfl⟩ := hd 0 rfl _ rfl
      refine o_store (j := 0) (vs := lY) (cs' := lY) rfl rfl rfl z_size26 (oT hq 2) e0 rfl (o4 (o4 (ones_cons rfl (ones_cons rfl (ones_cons rfl ones_nil))))) rfl rfl rfl ?_
      exact hk _ _ LR trivial
     intro ρ' τ53 vals hl53 hv hq
     refine st_env (ρ' := [(68, .I s46.t4.t4.t4), (2, .Pb b1), (3, .I 0), (10, .Pb b43)]) ⟨(lv4 hv 1 rfl rfl rfl), oT hq 2, oT hq 3, oT hq 10, trivial⟩ (Z 2 ?_)
     obtain rfl := h.symm
     exact RC [.agg lY.toArray, .I s46.t4.t4.t4] func63 ⟨cN 0 z_agg26, rfl, trivial⟩ (((((((hl6.trans hl24).trans hl30).trans hl36).trans hl42).trans hl45).trans hl46).trans hl53) ⟨_, _, rfl, rfl, Sl.nil, Sl.nil⟩
    ·refine ZZ 3 [1] ?_
     refine o_lenI rfl rfl rfl z_slT67 rfl hs48 (Z 3 ?_)
     refine I2 h (fun h => ?_) (fun h => ?_)
     ·refine ZZ 6 [0] ?_
      obtain rfl := h.symm
      exact RC [.agg lY.toArray, .I 6] func63 ⟨cN 0 z_agg26, rfl, trivial⟩ ((((((hl6.trans hl24).trans hl30).trans hl36).trans hl42).trans hl45).trans hl46) ⟨_, _, rfl, rfl, Sl.nil, Sl.nil⟩
     ·refine ZZ 6 [2] ?_
      obtain ⟨r54, hr55, h⟩ := h
      refine SC z_en41 (msg_Check_ok hr55 τ46 hs50 hs52) ?_
      rintro _ τ56 _ hl57 ⟨rfl, rfl⟩
      refine Z 7 ?_
      refine I2 h (fun h => ?_) (fun h => ?_)
      ·refine ZZ 7 [0] ?_
       obtain rfl := h.symm
       exact RC [.agg lY.toArray, .I r54] func63 ⟨cN 0 z_agg26, rfl, trivial⟩ (((((((hl6.trans hl24).trans hl30).trans hl36).trans hl42).trans hl45).trans hl46).trans hl57) ⟨_, _, rfl, rfl, Sl.nil, Sl.nil⟩
      ·refine ZZ 4 [2] ?_
       refine o_store (j := 0) (vs := [.I s46.2.1, .I s46.2.2.1, .I s46.2.2.2.1, .I s46.t4.1, .I s46.t4.2.1, .I s46.t4.2.2.1, .I s46.t4.2.2.2.1, v49, v51, .string s46.t4.t4.2.2.1, .string s46.t4.t4.2.2.2.1]) (cs' := [.I s46.2.1, .I s46.2.2.1, .I s46.2.2.2.1, .I s46.t4.1, .I s46.t4.2.1, .I s46.t4.2.2.1, .I s46.t4.2.2.2.1, v49, v51, .string s46.t4.t4.2.2.1, .string s46.t4.t4.2.2.2.1]) rfl rfl rfl z_size26 rfl rfl rfl (o4 (ones_cons rfl (ones_cons rfl (ones_cons rfl (ones_cons (hs50.up hl57).one' (ones_cons (hs52.up hl57).one' (ones_cons rfl (ones_cons rfl ones_nil)))))))) rfl rfl rfl (Z 2 ?_)
       obtain rfl := h.symm
       exact RC [.agg #[.I s46.2.1, .I s46.2.2.1, .I s46.2.2.2.1, .I s46.t4.1, .I s46.t4.2.1, .I s46.t4.2.2.1, .I s46.t4.2.2.2.1, v49, v51, .string s46.t4.t4.2.2.1, .string s46.t4.t4.2.2.2.1], .I 0] func63 ⟨cN 0 z_agg26, rfl, trivial⟩ (((((((hl6.trans hl24).trans hl30).trans hl36).trans hl42).trans hl45).trans hl46).trans hl57) ⟨_, _, rfl, rfl, (hs50.up hl57), (hs52.up hl57)⟩
   refine ZZ 4 [3] ?_
   obtain ⟨r58, hr59, h⟩ := h
   refine SC z_en72 (field_All_ok hr59 τ45) ?_
   rintro _ τ60 _ hl61 ⟨f62, q63, rfl, rfl, hit64⟩
   refine Z 2 ?_
   obtain ⟨t65, w65, hR65, hA65⟩ := h
   refine st_env (ρ' := [(2, .Pb b1), (3, .I 0), (4, .Pb b2), (7, .Pb b28), (10, .Pb b43), (11, .Pb b44), (39, .func (.func f62) #[] q63)]) ⟨rfl, rfl, rfl, rfl, rfl, rfl, rfl, trivial⟩ ?_
   refine st_addNil ?_
   refine st_range (B := say_Parse_l4) (s0 := (r33.2.2, r39, 0, 0, 0, 0, 0, 0, [], [], (bstr []), (bstr []), s45)) ranges_fctx rfl hit64 LR hR65 rfl (fun _ _ _ h => by cases h; rfl) (fun (s65 : K1) τ65 gs => τ60.Le τ65 ∧ ∃ (v66 v68 v70 : Value), gs = [[(b1, .cells lY.toArray 26 (0, 0))], [(b2, .cells #[v66] 67 (0, 0))], [(b28, .cells #[.func (.func 96) #[] #[.Pb b2]] 164 (0, 0))], [(b43, .cells #[.I s65.2.1, .I s65.2.2.1, .I s65.2.2.2.1, .I s65.t4.1, .I s65.t4.2.1, .I s65.t4.2.2.1, .I s65.t4.2.2.2.1, v68, v70, .string s65.t4.t4.2.2.1, .string s65.t4.t4.2.2.2.1] 26 (0, 0))], [(b44, .cells #[.I s65.t4.t4.t4] 32 (0, 0))]] ∧ Sl kS τ65 v66 s65.1 ∧ Sl (kP (kI .i64) (kI .i64)) τ65 v68 s65.t4.t4.1 ∧ Sl (kI .i64) τ65 v70 s65.t4.t4.2.1) (fun (p93 : K1) cd τ94 gs => cd = .exit 2 ∧ τ60.Le τ94 ∧ ∃ (v96 v98 v100 : Value), gs = [[(b1, .cells lY.toArray 26 (0, 0))], [(b2, .cells #[v96] 67 (0, 0))], [(b28, .cells #[.func (.func 96) #[] #[.Pb b2]] 164 (0, 0))], [(b43, .cells #[.I p93.2.1, .I p93.2.2.1, .I p93.2.2.2.1, .I p93.t4.1, .I p93.t4.2.1, .I p93.t4.2.2.1, .I p93.t4.2.2.2.1, v98, v100, .string p93.t4.t4.2.2.1, .string p93.t4.t4.2.2.2.1] 26 (0, 0))], [(b44, .cells #[.I p93.t4.t4.t4] 32 (0, 0))]] ∧ Sl kS τ94 v96 p93.1 ∧ Sl (kP (kI .i64) (kI .i64)) τ94 v98 p93.t4.t4.1 ∧ Sl (kI .i64) τ94 v100 p93.t4.t4.2.1) (fun _ _ _ _ hl ⟨hb, v66, v68, v70, hg, hs67, hs69, hs71⟩ => ⟨hb.trans hl, v66, v68, v70, hg, hs67.up hl, hs69.up hl, hs71.up hl⟩) (fun _ _ _ _ _ hl ⟨hc, hb, v96, v98, v100, hg, hs97, hs99, hs101⟩ => ⟨hc, hb.trans hl, v96, v98, v100, hg, hs97.up hl, hs99.up hl, hs101.up hl⟩) ⟨LR, _, _, _, rfl, (hs38.up ((hl42.trans hl45).trans hl61)), Sl.nil, Sl.nil⟩ ?_ ?_ ?_
   ·rintro x65 s65 o65 τ65 gs65 vx65 hl65 h rfl ⟨hb65, v66, v68, v70, rfl, hs67, hs69, hs71⟩ l65 rc65 caller65 cs65 fs65
    refine st_region ?_
    refine o_alloc rfl rfl rfl z_zero139 (fun b72 => ZZ 2 [0] ?_)
    refine st_begin (ZZ 4 [3] ?_)
    obtain ⟨r73, hr74, h⟩ := h
    refine st_ord [2, 0, 0, 0, 0, 0] _ rfl ?_
    refine st_call (foot := [[(b2, .cells #[v66] 67 (0, 0))]]) rfl rfl rfl rfl rfl rfl (callV_of2 (caps := [.Pb b2]) z_en96 (say_Parse_1_ok hr74 τ65 hs67) rfl) ?_
    rintro _ τ75 _ hl76 ⟨v77, rfl, rfl, hs78⟩
    refine Z 12 ?_
    refine I2 h (fun h => ?_) (fun h => ?_)
    ·refine ZZ 4 [5] ?_
     refine st_ord [2, 0, 1, 1, 1] _ rfl ?_
     exact st_rexit rfl (List.Sublist.refl _) hl76 ⟨_, h, rfl, (hl65.trans hl76), _, _, _, rfl, hs78, (hs69.up hl76), (hs71.up hl76)⟩
    ·refine ZZ 9 [1] ?_
     refine I2 h (fun h => ?_) (fun h => ?_)
     ·refine ZZ 4 [5] ?_
      refine st_ord [2, 0, 1, 1, 1] _ rfl ?_
      exact st_rexit rfl (List.Sublist.refl _) hl76 ⟨_, h, rfl, (hl65.trans hl76), _, _, _, rfl, hs78, (hs69.up hl76), (hs71.up hl76)⟩
     ·refine ZZ 4 [3] ?_
      obtain ⟨r79, hr80, h⟩ := h
      refine st_call (foot := [[(b2, .cells #[v77] 67 (0, 0))]]) rfl rfl rfl rfl rfl rfl (callV_of2 (caps := [.Pb b2]) z_en96 (say_Parse_1_ok hr80 τ75 hs78) rfl) ?_
      rintro _ τ81 _ hl82 ⟨v83, rfl, rfl, hs84⟩
      refine Z 12 ?_
      refine I2 h (fun h => ?_) (fun h => ?_)
      ·refine ZZ 4 [5] ?_
       refine st_ord [2, 0, 1, 1, 1] _ rfl ?_
       exact st_rexit rfl (List.Sublist.refl _) (hl76.trans hl82) ⟨_, h, rfl, ((hl65.trans hl76).trans hl82), _, _, _, rfl, hs84, (hs69.up (hl76.trans hl82)), (hs71.up (hl76.trans hl82))⟩
      ·refine ZZ 5 [1] ?_
       obtain ⟨r85, hr86, h⟩ := h
       refine st_ord [4, 0, 0, 0, 0, 0] _ rfl ?_
       refine st_call (foot := [[(b43, .cells #[.I s65.2.1, .I s65.2.2.1, .I s65.2.2.2.1, .I s65.t4.1, .I s65.t4.2.1, .I s65.t4.2.2.1, .I s65.t4.2.2.2.1, v68, v70, .string s65.t4.t4.2.2.1, .string s65.t4.t4.2.2.2.1] 26 (0, 0))]]) rfl rfl rfl rfl rfl rfl (callV_fn z_en98 (say_read_ok hr86 τ81 (hs69.up (hl76.trans hl82)) (hs71.up (hl76.trans hl82)) (hE.up (((((((((hl6.trans hl24).trans hl30).trans hl36).trans hl42).trans hl45).trans hl61).trans hl65).trans hl76).trans hl82)))) ?_
       rintro _ τ87 _ hl88 ⟨v89, v90, rfl, rfl, hs91, hs92⟩
       refine ZZ 7 [5, 5] ?_
       refine I2 h (fun h => ?_) (fun h => ?_)
       ·refine st_ord [3, 1, 2, 0, 1] _ rfl ?_
        exact st_rexit rfl (List.Sublist.refl _) ((hl76.trans hl82).trans hl88) ⟨_, h, rfl, (((hl65.trans hl76).trans hl82).trans hl88), _, _, _, rfl, (hs84.up hl88), hs91, hs92⟩
       ·refine Z 2 ?_
        refine st_ord [3, 1, 2, 0, 1] _ rfl ?_
        exact st_rend (List.Sublist.refl _) ((hl76.trans hl82).trans hl88) ⟨_, h, (((hl65.trans hl76).trans hl82).trans hl88), _, _, _, rfl, (hs84.up hl88), hs91, hs92⟩
   ·rintro p102 τ103 gs65 f65 ht hl104 ⟨hb, v105, v107, v109, rfl, hs106, hs108, hs110⟩ rfl
    subst ht
    replace h := hA65
    refine st_ord [1, 1, 1, 1, 1] _ rfl ?_
    refine st_inBlock ?_
    refine st_ord [0, 0, 1, 1] _ rfl ?_
    exact hk46 _ _ _ ⟨(p102.1, p102.2.1, p102.2.2.1, p102.2.2.2.1, p102.t4.1, p102.t4.2.1, p102.t4.2.2.1, p102.t4.2.2.2.1, p102.t4.t4.1, p102.t4.t4.2.1, p102.t4.t4.2.2.1, p102.t4.t4.2.2.2.1, p102.t4.t4.t4), _, _, _, h, (hl61.trans hl104), rfl, rfl, hs106, hs108, hs110⟩
   ·rintro p93 cd65 τ94 gs65 f65 ht hl95 ⟨rfl, hb, v96, v98, v100, rfl, hs97, hs99, hs101⟩ rfl
    subst ht
    replace h := hA65
    refine st_ord [1, 1, 1, 1, 1] _ rfl ?_
    refine st_exit rfl ?_
    refine st_ord [0, 0, 1, 1] _ rfl ?_
    exact hk46 _ _ _ ⟨(p93.1, p93.2.1, p93.2.2.1, p93.2.2.2.1, p93.t4.1, p93.t4.2.1, p93.t4.2.2.1, p93.t4.2.2.2.1, p93.t4.t4.1, p93.t4.t4.2.1, p93.t4.t4.2.2.1, p93.t4.t4.2.2.2.1, p93.t4.t4.t4), _, _, _, h, (hl61.trans hl95), rfl, rfl, hs97, hs99, hs101⟩
  refine ZZ 6 [1] ?_
  refine I2 h (fun h => ?_) (fun h => ?_)
  ·refine ZZ 3 [0] ?_
   refine st_ord [4, 2, 2, 1, 0] _ rfl ?_
   exact hk45 _ _ _ ⟨9, h, LR, rfl, rfl⟩
  ·refine st_skip ?_
   refine st_ord [4, 2, 2, 1, 0] _ rfl ?_
   exact hk45 _ _ _ ⟨0, h, LR, rfl, rfl⟩
 ·exact fun _ _ _ _ _ _ _ h => h.elim
theorem noise_word_ok {a0 : Int} {r : ByteArray × Int} (h : noise_word a0 r) (σ : Sto)  :
    Does prog 74 [.I a0] σ [] (fun v τ gs => gs = [] ∧ .tuple [.string r.1, .I r.2].toArray = v) := by
 refine CO func74 ntmps74 rfl (fun cs fs => Z 2 ?_)
 refine o_assign rfl rfl rfl (ev_str z_str1) (Z 13 ?_)
 refine I2 h (fun h => ?_) (fun h => ?_)
 ·refine Z 2 ?_
  refine o_assign rfl rfl rfl (ev_str z_str37) (Z 2 ?_)
  obtain rfl := h.symm
  exact RT func74 rfl LR ⟨rfl, rfl⟩
 ·refine Z 5 ?_
  refine I2 h (fun h => ?_) (fun h => ?_)
  ·refine Z 2 ?_
   refine o_assign rfl rfl rfl (ev_str z_str38) (Z 2 ?_)
   obtain rfl := h.symm
   exact RT func74 rfl LR ⟨rfl, rfl⟩
  ·refine Z 5 ?_
   refine I2 h (fun h => ?_) (fun h => ?_)
   ·refine Z 2 ?_
    refine o_assign rfl rfl rfl (ev_str z_str39) (Z 2 ?_)
    obtain rfl := h.symm
    exact RT func74 rfl LR ⟨rfl, rfl⟩
   ·refine Z 5 ?_
    refine I2 h (fun h => ?_) (fun h => ?_)
    ·refine Z 2 ?_
     refine o_assign rfl rfl rfl (ev_str z_str40) (Z 2 ?_)
     obtain rfl := h.symm
     exact RT func74 rfl LR ⟨rfl, rfl⟩
    ·refine Z 4 ?_
     refine o_assign rfl rfl rfl (ev_str z_str1) (Z 2 ?_)
     obtain rfl := h.symm
     exact RT func74 rfl LR ⟨rfl, rfl⟩
theorem noise_hex_ok {a0 : List Int} {v1 : Value} {r : ByteArray} (h : noise_hex a0 r) (σ : Sto) (hs2 : Sl (kI .u8) σ v1 a0) :
    Does prog 75 [v1] σ [] (fun v τ gs => gs = [] ∧ .string r = v) := by
 refine CO func75 ntmps75 rfl (fun cs fs => Z 2 ?_)
 refine o_assign rfl rfl rfl (ev_str z_str1) (Z 5 ?_)
 refine o_lenI rfl rfl rfl z_slT27 rfl hs2 (Z 2 ?_)
 refine I2 h (fun h => ?_) (fun h => ?_)
 ·refine Z 2 ?_
  refine o_assign rfl rfl rfl (ev_str z_str33) ?_
  refine st_end ?_
  obtain rfl := h.symm
  exact RT func75 rfl LR ⟨rfl, rfl⟩
 ·refine Z 6 ?_
  refine st_cut (fun ρ τ3 gs => ∃ (s3 : List Int) (v4 : Value) (g5 : Grp), noise_hex_j1 s3 r ∧ σ.Le τ3 ∧ ESub ρ [(2, .E0), (3, v4)] ∧ gs = [g5] ∧ Ow (kI .u8) 5 τ3 v4 s3 g5) ?_ (fun hk3 => ?_)
  ·rintro ρ3 τ3 gs3 ⟨s3, v4, g5, h, hl3, hρ, rfl, ho6⟩
   refine st_es hρ (Z 3 ?_)
   refine st_freeze (fun τ7 hl8 hg9 => ?_)
   have hs10 := ho6.freeze hl8 hg9
   refine o_bstr (xs := s3) rfl rfl rfl underlying27 underlying5 underlying9 rfl hs10 (Z 2 ?_)
   obtain rfl := h.symm
   exact RT func75 rfl (hl3.trans hl8) ⟨rfl, rfl⟩
  refine Z 3 ?_
  refine o_lenI rfl rfl rfl z_slT27 rfl hs2 (Z 2 ?_)
  obtain ⟨e12, hL12, hA12⟩ := h
  refine st_addNil ?_
  refine st_loop hL12 (fun (s12 : K7) ρ τ12 gs => σ.Le τ12 ∧ ∃ (v13 : Value) (g14 : Grp), ESub ρ [(2, .E0), (3, v13), (9, v1), (10, .I (a0.length : Int)), (11, .I s12.2)] ∧ gs = [g14] ∧ Ow (kI .u8) 5 τ12 v13 s12.1 g14) ⟨LR, _, _, rfl, rfl, Ow.nil⟩ ?_
  rintro s12 o12 h he12 ρ12 τ12 gs12 ⟨hl12, v13, g14, hρ, rfl, ho15⟩ hn12
  refine st_es hρ (Z 5 ?_)
  refine I2 h (fun h => ?_) (fun h => ?_)
  ·refine Z 5 ?_
   obtain ⟨q16, hf17, h⟩ := h
   refine o_index rfl rfl rfl z_slT27 rfl rfl (hs2.up hl12) rfl hf17 (fun b18 of19 vs hc20 hrep => ?_)
   obtain rfl := hrep
   refine o_loadI (v := .int .u8 q16) rfl rfl rfl z_sc5 rfl (hc20 0 _ rfl) (Z 2 ?_)
   obtain ⟨q21, hf22, q23, hf24, hf35, hf36, h⟩ := h
   refine st_d41 [] [g14] 9 1 [none, none, none, none, none, none, none, none, some (0, 0)] [none, none, none, none, none, none, none, none, none] [[none, some 23]] [.v (v13), .v (.int .u8 q16), .v (.int .u8 (ishr .u8 q16 4)), .v (.int .u8 q21), .v (.int .u8 q16), .v (.int .u8 (iand .u8 q16 15)), .v (.int .u8 q23), .t fun τ v => ∃ (v25 : Value), (v25 : Value) = v ∧ Sl (kI .u8) τ v25 [q21, q23], .t fun _ _ => True] [[fun τ u F => F = [g14], fun τ u F => ∃ (v37 : Value) (g38 : Grp), F = [g38] ∧ v37 = u ∧ Ow (kI .u8) 5 τ v37 (s12.1 ++ [q21, q23]) g38]] rfl z_mix rfl ⟨fun _ _ _ hl ⟨v25, hv, hs31⟩ => ⟨v25, hv, hs31.up hl⟩, ⟨fun _ _ _ _ _ => trivial, trivial⟩⟩ ⟨⟨fun _ _ _ _ hl h => h, ⟨fun _ _ _ _ hl h => (let ⟨v37, g38, hF, hU, ho39⟩ := h; ⟨v37, g38, hF, hU, ho39.up hl⟩), trivial⟩⟩, trivial⟩ rfl rfl ?_ (allB_cons (allB_cons (allB_cons (allB_cons (allB_cons (allB_cons (allB_cons (allB_cons (allB_cons allB_nil (p4 dA)) (p4 dA)) (p4 dA)) ?_) (p4 dA)) (p4 dA)) ?_) ?_) ?_) ?_
   ·exact rfl
   ·intro ρ' τ pq rs hl hd hq hw hk
    obtain ⟨_, e2, rfl⟩ := hd 2 rfl _ rfl
    refine o_indexS rfl rfl rfl underlying9 (ev_str z_str36) e2 hf22 ?_
    exact hk _ _ LR rfl
   ·intro ρ' τ pq rs hl hd hq hw hk
    obtain ⟨_, e5, rfl⟩ := hd 5 rfl _ rfl
    refine o_indexS rfl rfl rfl underlying9 (ev_str z_str36) e5 hf24 ?_
    exact hk _ _ LR rfl
   ·intro ρ' τ pq rs hl hd hq hw hk
    obtain ⟨_, e3, rfl⟩ := hd 3 rfl _ rfl
    obtain ⟨_, e6, rfl⟩ := hd 6 rfl _ rfl
    refine o_litE (eI .u8) [q21, q23] rfl rfl rfl z_slT27 z_zero5 ⟨rfl, ⟨_, e3, rfl⟩, ⟨rfl, ⟨_, e6, rfl⟩, trivial⟩⟩ rfl rfl rfl rfl (fun v25 g26 ho27 => ?_)
    refine st_freeze (fun τ28 hl29 hg30 => ?_)
    have hs31 := ho27.freeze hl29 hg30
    exact hk _ _ hl29 ⟨v25, rfl, hs31⟩
   ·intro ρ' τ u Fv pq rs hl hI hu hd hq hw hk
    obtain ⟨_, e0, rfl⟩ := hd 0 rfl _ rfl
    obtain ⟨_, e7, v25, rfl, hs31⟩ := hd 7 rfl _ rfl
    have hI0 := hI
    obtain rfl := hI
    refine o_append (dk := (kI .u8)) (xs := s12.1) (ys := [q21, q23]) rfl rfl rfl rfl z_slT27 e0 (ho15.up hl) e7 (Sl.src hs31) hf35 hf36 (fun v32 g33 ho34 => ?_)
    exact hk _ _ [g33] LR trivial (by exact ⟨v32, g33, rfl, rfl, ho34⟩)
   intro ρ' τ40 vals u Fv hl40 hI hu hv hq
   obtain ⟨v37, g38, rfl, rfl, ho39⟩ := hI
   refine st_env (ρ' := [(2, .E0), (9, v1), (10, .I (a0.length : Int)), (11, .I s12.2), (23, v37)]) ⟨oT hq 2, oT hq 9, oT hq 10, oT hq 11, (by exact hu _ rfl), trivial⟩ (Z 7 ?_)
   exact hn12 _ _ _ _ h ⟨(hl12.trans hl40), _, _, rfl, rfl, ho39⟩
  ·refine st_exit rfl ?_
   obtain rfl := he12 _ h
   replace h := hA12
   exact hk3 _ _ _ ⟨s12.1, _, _, h, hl12, rfl, rfl, ho15⟩
theorem strconv_Itoa_ok {a0 : Int} {r : ByteArray} (h : strconv_Itoa a0 r) (σ : Sto) (hT : Tab prog σ) :
    Does prog 76 [.I a0] σ [] (fun v τ gs => gs = [] ∧ .string r = v) := by
 obtain ⟨hk, rfl⟩ := h
 rw [itoa_lib]
 exact does_grow fun w hw => Tryz.strconv_Itoa a0 (i64_lo hk) (i64_hi hk) w (hT w hw)
theorem say_Number_ok {a0 : Int} {r : ByteArray} (h : say_Number a0 r) (σ : Sto) (hT : Tab prog σ) :
    Does prog 34 [.I a0] σ [] (fun v τ gs => gs = [] ∧ .string r = v) := by
 refine CO func34 ntmps34 rfl (fun cs fs => Z 2 ?_)
 refine o_assign rfl rfl rfl (ev_str z_str1) (Z 4 ?_)
 obtain ⟨r1, hr2, h⟩ := h
 refine SC z_en76 (strconv_Itoa_ok hr2 σ hT) ?_
 rintro _ τ3 _ hl4 ⟨rfl, rfl⟩
 refine Z 2 ?_
 obtain rfl := h.symm
 exact RT func34 rfl hl4 ⟨rfl, rfl⟩
theorem noise_Line_ok {a0 : TyI} {v1 : Value} {r : ByteArray} (h : noise_Line a0 r) (σ : Sto) (hs2 : Sl (kI .u8) σ v1 a0.t4) (hT : Tab prog σ) :
    Does prog 33 [.agg (lI a0 v1).toArray] σ [] (fun v τ gs => gs = [] ∧ .string r = v) := by
 refine CO func33 ntmps33 rfl (fun cs fs => Z 2 ?_)
 refine o_box (cs := (lI a0 v1)) rfl rfl rfl rfl rfl (fun b3 => ?_)
 refine o_assign rfl rfl rfl (ev_str z_str1) (ZZ 5 [0] ?_)
 obtain ⟨r4, hr5, h⟩ := h
 refine SC z_en74 (noise_word_ok hr5 σ) ?_
 rintro _ τ6 _ hl7 ⟨rfl, rfl⟩
 refine Z 11 ?_
 refine o_sbin (v := .bool (decide (r4.1 = (bstr [])))) rfl rfl rfl rfl (ev_str z_str1) rfl (Z 2 ?_)
 refine I2 h (fun h => ?_) (fun h => ?_)
 ·refine Z 2 ?_
  refine o_assign rfl rfl rfl (ev_str z_str1) ?_
  refine st_end ?_
  obtain rfl := h.symm
  exact RT func33 rfl hl7 ⟨rfl, rfl⟩
 ·refine Z 6 ?_
  refine I2 h (fun h => ?_) (fun h => ?_)
  ·refine Z 3 ?_
   obtain ⟨hf8, h⟩ := h
   refine o_sadd rfl rfl rfl rfl (ev_str z_str0) hf8 (ZZ 2 [0] ?_)
   obtain ⟨r9, hr10, h⟩ := h
   refine SC z_en75 (noise_hex_ok hr10 τ6 (hs2.up hl7)) ?_
   rintro _ τ11 _ hl12 ⟨rfl, rfl⟩
   obtain ⟨hf13, h⟩ := h
   refine o_sadd rfl rfl rfl rfl rfl hf13 (Z 2 ?_)
   obtain rfl := h.symm
   exact RT func33 rfl (hl7.trans hl12) ⟨rfl, rfl⟩
  ·refine Z 3 ?_
   refine cutS τ6 (fun (s14 : ByteArray) => noise_Line_j1 s14 r) (fun s14 => [(2, .E0), (3, .string s14)]) (fun s14 => []) (fun s14 τ14 h hl14 => (Z 5 ?_)) (fun hk14 => ?_)
   ·obtain rfl := h.symm
    exact RT func33 rfl (hl7.trans hl14) ⟨rfl, rfl⟩
   refine ZZ 8 [0, 0, 0] ?_
   refine o_buildA (ps := [(0, [.I a0.2.1]), (1, [.I a0.2.2.1]), (2, [.I a0.2.2.2.1])]) (cs := [.I a0.2.1, .I a0.2.2.1, .I a0.2.2.2.1]) rfl rfl rfl z_arrz133 ⟨rfl, ⟨_, rfl, rfl⟩, ⟨rfl, ⟨_, rfl, rfl⟩, ⟨rfl, ⟨_, rfl, rfl⟩, trivial⟩⟩⟩ (fill_all [.I a0.2.1, .I a0.2.2.1, .I a0.2.2.2.1] _ rfl) (Z 2 ?_)
   obtain ⟨e15, hL15, hA15⟩ := h
   refine st_ord [] _ rfl ?_
   refine st_loop hL15 (fun (s15 : K15) ρ τ15 gs => τ6.Le τ15 ∧ ESub ρ [(2, .E0), (3, .string s15.1), (4, .I r4.2), (31, .agg #[.I a0.2.1, .I a0.2.2.1, .I a0.2.2.2.1]), (32, .I s15.2)] ∧ gs = []) ⟨LR, rfl, rfl⟩ ?_
   rintro s15 o15 h he15 ρ15 τ15 gs15 ⟨hl15, hρ, rfl⟩ hn15
   refine st_es hρ (Z 5 ?_)
   refine I2 h (fun h => ?_) (fun h => ?_)
   ·refine Z 2 ?_
    refine cutS τ15 (fun (s16 : ByteArray) => noise_Line_j3 s15 s16 o15) (fun s16 => [(2, .E0), (3, .string s16), (4, .I r4.2), (31, .agg #[.I a0.2.1, .I a0.2.2.1, .I a0.2.2.2.1]), (32, .I s15.2)]) (fun s16 => []) (fun s16 τ16 h hl16 => (Z 4 ?_)) (fun hk16 => ?_)
    ·exact hn15 _ _ _ _ h ⟨(hl15.trans hl16), rfl, rfl⟩
    refine Z 4 ?_
    obtain ⟨hf17, hf18, h⟩ := h
    refine o_indexV (f := (Value.int .i64)) (zz := 0) (l := 3) (xs := [a0.2.1, a0.2.2.1, a0.2.2.2.1]) (cs := [.I a0.2.1, .I a0.2.2.1, .I a0.2.2.2.1]) rfl rfl rfl z_arr133 z_sc3 rfl rfl rfl hf17 hf18 (Z 9 ?_)
    refine I2 h (fun h => ?_) (fun h => ?_)
    ·refine Z 3 ?_
     obtain ⟨r19, hr20, h⟩ := h
     refine SC z_en34 (say_Number_ok hr20 τ15 (hT.up (hl7.trans hl15))) ?_
     rintro _ τ21 _ hl22 ⟨rfl, rfl⟩
     obtain ⟨hf23, h⟩ := h
     refine o_sadd rfl rfl rfl (ev_str z_str0) rfl hf23 ?_
     obtain ⟨hf24, h⟩ := h
     refine o_sadd rfl rfl rfl rfl rfl hf24 (Z 3 ?_)
     exact hk16 _ _ _ ⟨(s15.1 ++ ((bstr [32]) ++ r19)), h, hl22, rfl, rfl⟩
    ·refine Z 2 ?_
     exact hk16 _ _ _ ⟨s15.1, h, LR, rfl, rfl⟩
   ·refine st_exit rfl ?_
    obtain rfl := he15 _ h
    replace h := hA15
    exact hk14 _ _ _ ⟨s15.1, h, hl15, rfl, rfl⟩
theorem script_Check_1_ok {a0 : Int} {r : Bool} (h : script_Check_1 a0 r) (σ : Sto)  :
    Does prog 43 [.I a0] σ [] (fun v τ gs => gs = [] ∧ .bool r = v) := by
 refine CO func43 ntmps43 rfl (fun cs fs => Z 5 ?_)
 refine cutS σ (fun (s1 : Bool) => script_Check_1_j1 s1 r) (fun s1 => [(2, .bool s1)]) (fun s1 => []) (fun s1 τ1 h hl1 => ?_) (fun hk1 => ?_)
 ·obtain rfl := h.symm
  exact RT func43 rfl hl1 ⟨rfl, rfl⟩
 refine Z 3 ?_
 refine M2 h (fun h => ?_) (fun h => ?_)
 ·refine Z 5 ?_
  exact hk1 _ _ _ ⟨true, h, LR, rfl, rfl⟩
 ·refine Z 5 ?_
  exact hk1 _ _ _ ⟨(decide (1000 < a0)), h, LR, rfl, rfl⟩
theorem slices_IndexFunc_int_int__script_Check_1_ok {a0 : List Int} {v1 : Value} {r : Int} (h : slices_IndexFunc_int_int__script_Check_1 a0 r) (σ : Sto) (hs2 : Sl (kI .i64) σ v1 a0) :
    Does prog 83 [v1, .func (.func 43) #[] [].toArray] σ [] (fun v τ gs => gs = [] ∧ .I r = v) := by
 refine CO func83 ntmps83 rfl (fun cs fs => Z 5 ?_)
 refine cutS σ (fun (s3 : Unit) => slices_IndexFunc_int_int__script_Check_1_j1 s3 r) (fun s3 => [(4, .I 0)]) (fun s3 => []) (fun s3 τ3 h hl3 => (Z 4 ?_)) (fun hk3 => ?_)
 ·obtain rfl := h.symm
  exact RT func83 rfl hl3 ⟨rfl, rfl⟩
 refine Z 3 ?_
 refine o_lenI rfl rfl rfl z_slT24 rfl hs2 (Z 2 ?_)
 obtain ⟨e4, hL4, hA4⟩ := h
 refine st_loop hL4 (fun (s4 : Int) ρ τ4 gs => σ.Le τ4 ∧ ESub ρ [(0, v1), (1, .func (.func 43) #[] #[]), (4, .I 0), (7, .I (a0.length : Int)), (8, .I s4)] ∧ gs = []) ⟨LR, rfl, rfl⟩ ?_
 rintro s4 o4 h he4 ρ4 τ4 gs4 ⟨hl4, hρ, rfl⟩ hn4
 refine st_es hρ (Z 5 ?_)
 refine I2 h (fun h => ?_) (fun h => ?_)
 ·refine Z 13 ?_
  obtain ⟨q5, hf6, h⟩ := h
  refine o_index rfl rfl rfl z_slT24 rfl rfl (hs2.up hl4) rfl hf6 (fun b7 of8 vs hc9 hrep => ?_)
  obtain rfl := hrep
  refine o_loadI (v := .I q5) rfl rfl rfl z_sc3 rfl (hc9 0 _ rfl) ?_
  obtain ⟨r10, hr11, h⟩ := h
  refine SC z_en43 (script_Check_1_ok hr11 τ4) ?_
  rintro _ τ12 _ hl13 ⟨rfl, rfl⟩
  refine st_end ?_
  refine I2 h (fun h => ?_) (fun h => ?_)
  ·refine Z 5 ?_
   obtain rfl := he4 _ h
   replace h := hA4
   obtain rfl := h.symm
   exact RT func83 rfl (hl4.trans hl13) ⟨rfl, rfl⟩
  ·refine Z 6 ?_
   exact hn4 _ _ _ _ h ⟨(hl4.trans hl13), rfl, rfl⟩
 ·refine st_exit rfl ?_
  obtain rfl := he4 _ h
  replace h := hA4
  exact hk3 _ _ _ ⟨(), h, hl4, rfl, rfl⟩
theorem slices_ContainsFunc_int_int__script_Check_1_ok {a0 : List Int} {v1 : Value} {r : Bool} (h : slices_ContainsFunc_int_int__script_Check_1 a0 r) (σ : Sto) (hs2 : Sl (kI .i64) σ v1 a0) :
    Does prog 42 [v1, .func (.func 43) #[] [].toArray] σ [] (fun v τ gs => gs = [] ∧ .bool r = v) := by
 refine CO func42 ntmps42 rfl (fun cs fs => Z 8 ?_)
 obtain ⟨r3, hr4, h⟩ := h
 refine SC z_en83 (slices_IndexFunc_int_int__script_Check_1_ok hr4 σ hs2) ?_
 rintro _ τ5 _ hl6 ⟨rfl, rfl⟩
 refine Z 3 ?_
 obtain rfl := h.symm
 exact RT func42 rfl hl6 ⟨rfl, rfl⟩
theorem script_Check_ok {a0 : TyS} {v1 v2 : Value} {v3 v4 : Value} {r : Int} (h : script_Check a0 r) (σ : Sto) (hs5 : Sl (kP (kI .i64) (kI .i64)) σ v1 a0.2.1.2.2.1) (hs6 : Sl (kI .i64) σ v2 a0.2.1.2.2.2.1) (hs7 : Sl (kI .u8) σ v3 a0.2.2.1.t4) (hs8 : Sl (kI .i64) σ v4 a0.2.2.2) (hT : Tab prog σ) :
    Does prog 15 [.agg (lS a0 v1 v2 v3 v4).toArray] σ [] (fun v τ gs => gs = [] ∧ .I r = v) := by
 refine CO func15 ntmps15 rfl (fun cs fs => Z 2 ?_)
 refine o_box (cs := (lS a0 v1 v2 v3 v4)) rfl rfl rfl rfl rfl (fun b9 => Z 3 ?_)
 refine cutS σ (fun (s10 : Unit) => script_Check_j1 s10 r) (fun s10 => [(2, .I 0)]) (fun s10 => []) (fun s10 τ10 h hl10 => (Z 4 ?_)) (fun hk10 => ?_)
 ·obtain rfl := h.symm
  exact RT func15 rfl hl10 ⟨rfl, rfl⟩
 refine ZZ 11 [0] ?_
 refine I2 h (fun h => ?_) (fun h => ?_)
 ·refine ZZ 4 [0] ?_
  obtain ⟨r11, hr12, h⟩ := h
  refine SC z_en41 (msg_Check_ok hr12 σ hs5 hs6) ?_
  rintro _ τ13 _ hl14 ⟨rfl, rfl⟩
  refine Z 2 ?_
  obtain rfl := h.symm
  exact RT func15 rfl hl14 ⟨rfl, rfl⟩
 ·refine Z 5 ?_
  refine I2 h (fun h => ?_) (fun h => ?_)
  ·refine ZZ 4 [0] ?_
   obtain ⟨r15, hr16, h⟩ := h
   refine SC z_en33 (noise_Line_ok hr16 σ hs7 hT) ?_
   rintro _ τ17 _ hl18 ⟨rfl, rfl⟩
   refine o_sbin (v := .bool (decide (r15 = (bstr [])))) rfl rfl rfl rfl (ev_str z_str1) rfl ?_
   refine st_end ?_
   refine I2 h (fun h => ?_) (fun h => ?_)
   ·refine Z 4 ?_
    obtain rfl := h.symm
    exact RT func15 rfl hl18 ⟨rfl, rfl⟩
   ·refine Z 2 ?_
    refine st_ord [] _ rfl ?_
    exact hk10 _ _ _ ⟨(), h, hl18, rfl, rfl⟩
  ·refine Z 5 ?_
   refine I2 h (fun h => ?_) (fun h => ?_)
   ·refine ZZ 5 [0] ?_
    refine o_lenI rfl rfl rfl z_slT24 rfl hs8 (Z 2 ?_)
    refine I2 h (fun h => ?_) (fun h => ?_)
    ·refine Z 4 ?_
     obtain rfl := h.symm
     exact RT func15 rfl LR ⟨rfl, rfl⟩
    ·refine ZZ 5 [0] ?_
     obtain ⟨r19, hr20, h⟩ := h
     refine SC z_en42 (slices_ContainsFunc_int_int__script_Check_1_ok hr20 σ hs8) ?_
     rintro _ τ21 _ hl22 ⟨rfl, rfl⟩
     refine st_end ?_
     refine I2 h (fun h => ?_) (fun h => ?_)
     ·refine Z 4 ?_
      obtain rfl := h.symm
      exact RT func15 rfl hl22 ⟨rfl, rfl⟩
     ·refine Z 2 ?_
      refine st_ord [] _ rfl ?_
      exact hk10 _ _ _ ⟨(), h, hl22, rfl, rfl⟩
   ·refine st_seq ?_
    refine cutS σ (fun (s23 : Bool) => script_Check_j2 s23 r) (fun s23 => [(2, .I 0), (25, .bool s23)]) (fun s23 => []) (fun s23 τ23 h hl23 => ?_) (fun hk23 => ?_)
    ·refine I2 h (fun h => ?_) (fun h => ?_)
     ·refine Z 2 ?_
      exact hk10 _ _ _ ⟨(), h, hl23, rfl, rfl⟩
     ·refine Z 4 ?_
      obtain rfl := h.symm
      exact RT func15 rfl hl23 ⟨rfl, rfl⟩
    refine Z 5 ?_
    refine I2 h (fun h => ?_) (fun h => ?_)
    ·refine st_skip ?_
     refine st_ord [] _ rfl ?_
     exact hk23 _ _ _ ⟨(decide (a0.1 = 3)), h, LR, rfl, rfl⟩
    ·refine Z 5 ?_
     refine I2 h (fun h => ?_) (fun h => ?_)
     ·refine st_skip ?_
      refine st_ord [] _ rfl ?_
      exact hk23 _ _ _ ⟨(decide (a0.1 = 5)), h, LR, rfl, rfl⟩
     ·refine Z 4 ?_
      refine st_ord [] _ rfl ?_
      exact hk23 _ _ _ ⟨(decide (a0.1 = 6)), h, LR, rfl, rfl⟩
theorem script_chunk_ok {a0 : List ByteArray} {v1 : Value} {r : (TyS) × Int} (h : script_chunk a0 r) (σ : Sto) (hs2 : Sl kS σ v1 a0) (hT : Tab prog σ) (hE : Errs prog σ) :
    Does prog 64 [v1] σ [] (fun v τ gs => ∃ (v47 v48 : Value) (v49 v50 : Value), gs = [] ∧ .tuple [.agg (lS r.1 v47 v48 v49 v50).toArray, .I r.2].toArray = v ∧ Sl (kP (kI .i64) (kI .i64)) τ v47 r.1.2.1.2.2.1 ∧ Sl (kI .i64) τ v48 r.1.2.1.2.2.2.1 ∧ Sl (kI .u8) τ v49 r.1.2.2.1.t4 ∧ Sl (kI .i64) τ v50 r.1.2.2.2) := by
 refine CO func64 ntmps64 rfl (fun cs fs => Z 2 ?_)
 refine o_alloc rfl rfl rfl z_zero31 (fun b3 => ZZ 5 [] ?_)
 refine o_alloc rfl rfl rfl z_zero31 (fun b4 => ZZ 3 [0] ?_)
 refine st_cut (fun ρ τ5 gs => ∃ (s5 : List Int) (v6 : Value) (g7 : Grp), script_chunk_j1 s5 r ∧ σ.Le τ5 ∧ ESub ρ [(2, .Pb b3), (3, .I 0), (4, .Pb b4)] ∧ gs = [[(b3, .cells lZ.toArray 31 (0, 0))], [(b4, .cells #[.I 4, .I 0, .I 0, .I 0, .I 0, .I 0, .I 0, .I 0, .N0, .N0, .E0, .E0, .I 0, .I 0, .I 0, .I 0, .N0, v6] 31 (0, 0))], g7] ∧ Ow (kI .i64) 3 τ5 v6 s5 g7) ?_ (fun hk5 => ?_)
 ·rintro ρ5 τ5 gs5 ⟨s5, v6, g7, h, hl5, hρ, rfl, ho8⟩
  refine st_es hρ ?_
  refine st_seq ?_
  obtain ⟨r13, hr14, h⟩ := h
  refine st_ord [2, 0, 0] _ rfl ?_
  refine st_freeze (fun τ9 hl10 hg11 => ?_)
  have hs12 := ho8.freeze hl10 hg11
  refine st_ord [1, 0] _ rfl ?_
  refine st_d41 [[(b4, .cells #[.I 4, .I 0, .I 0, .I 0, .I 0, .I 0, .I 0, .I 0, .N0, .N0, .E0, .E0, .I 0, .I 0, .I 0, .I 0, .N0, v6] 31 (0, 0))]] [[(b3, .cells lZ.toArray 31 (0, 0))]] 4 1 [none, none, none, some (0, 0)] [none, none, none, none] [[none, none]] [.v (.agg #[.I 4, .I 0, .I 0, .I 0, .I 0, .I 0, .I 0, .I 0, .N0, .N0, .E0, .E0, .I 0, .I 0, .I 0, .I 0, .N0, v6]), .v (.agg #[.I 4, .I 0, .I 0, .I 0, .I 0, .I 0, .I 0, .I 0, .N0, .N0, .E0, .E0, .I 0, .I 0, .I 0, .I 0, .N0, v6]), .v (.I r13), .t fun _ _ => True] [[fun τ u F => F = [[(b3, .cells lZ.toArray 31 (0, 0))]], fun τ u F => F = [[(b3, .cells #[.I 4, .I 0, .I 0, .I 0, .I 0, .I 0, .I 0, .I 0, .N0, .N0, .E0, .E0, .I 0, .I 0, .I 0, .I 0, .N0, v6] 31 (0, 0))]]]] rfl z_mix rfl ⟨fun _ _ _ _ _ => trivial, trivial⟩ ⟨⟨fun _ _ _ _ hl h => h, ⟨fun _ _ _ _ hl h => h, trivial⟩⟩, trivial⟩ rfl rfl ?_ (allB_cons (allB_cons (allB_cons (allB_cons allB_nil ?_) ?_) ?_) ?_) ?_
  ·exact rfl
  ·intro ρ' τ pq rs hl hd hq hw hk
   refine o_loadN (j := 0) (vs := [.I 4, .I 0, .I 0, .I 0, .I 0, .I 0, .I 0, .I 0, .N0, .N0, .E0, .E0, .I 0, .I 0, .I 0, .I 0, .N0, v6]) rfl rfl rfl z_agg31 (oT hq 4) rfl rfl ?_
   exact hk _ _ LR rfl
  ·intro ρ' τ pq rs hl hd hq hw hk
   refine o_loadN (j := 0) (vs := [.I 4, .I 0, .I 0, .I 0, .I 0, .I 0, .I 0, .I 0, .N0, .N0, .E0, .E0, .I 0, .I 0, .I 0, .I 0, .N0, v6]) rfl rfl rfl z_agg31 (oT hq 4) rfl rfl ?_
   exact hk _ _ LR rfl
  ·intro ρ' τ pq rs hl hd hq hw hk
   obtain ⟨_, e1, rfl⟩ := hd 1 rfl _ rfl
   refine st_call (foot := []) rfl rfl rfl rfl (evs_cons e1 rfl) rfl (callV_fn z_en15 (script_Check_ok hr14 τ Sl.nil Sl.nil Sl.nil (hs12.up hl) (hT.up ((hl5.trans hl10).trans hl)))) ?_
   rintro _ τ15 _ hl16 ⟨rfl, rfl⟩
   exact hk _ _ hl16 rfl
  ·intro ρ' τ u Fv pq rs hl hI hu hd hq hw hk
   obtain ⟨_, e0, rfl⟩ := hd 0 rfl _ rfl
   have hI0 := hI
   obtain rfl := hI
   refine o_store (j := 1) (vs := [.I 4, .I 0, .I 0, .I 0, .I 0, .I 0, .I 0, .I 0, .N0, .N0, .E0, .E0, .I 0, .I 0, .I 0, .I 0, .N0, v6]) (cs' := [.I 4, .I 0, .I 0, .I 0, .I 0, .I 0, .I 0, .I 0, .N0, .N0, .E0, .E0, .I 0, .I 0, .I 0, .I 0, .N0, v6]) rfl rfl rfl z_size31 (oT hq 2) e0 rfl (o4 (o4 (o4 (o4 (ones_cons rfl (ones_cons (hs12.up hl).one' ones_nil)))))) rfl rfl rfl ?_
   exact hk _ _ [[(b3, .cells #[.I 4, .I 0, .I 0, .I 0, .I 0, .I 0, .I 0, .I 0, .N0, .N0, .E0, .E0, .I 0, .I 0, .I 0, .I 0, .N0, v6] 31 (0, 0))]] LR trivial (by exact rfl)
  intro ρ' τ17 vals u Fv hl17 hI hu hv hq
  obtain rfl := hI
  refine st_env (ρ' := [(34, .I r13), (2, .Pb b3), (3, .I 0)]) ⟨(lv4 hv 2 rfl rfl rfl), oT hq 2, oT hq 3, trivial⟩ (Z 2 ?_)
  obtain rfl := h.symm
  exact RC [.agg #[.I 4, .I 0, .I 0, .I 0, .I 0, .I 0, .I 0, .I 0, .N0, .N0, .E0, .E0, .I 0, .I 0, .I 0, .I 0, .N0, v6], .I r13] func64 ⟨cN 1 z_agg31, rfl, trivial⟩ ((hl5.trans hl10).trans hl17) ⟨_, _, _, _, rfl, rfl, Sl.nil, Sl.nil, Sl.nil, (hs12.up hl17)⟩
 refine Z 3 ?_
 refine o_lenI rfl rfl rfl z_slT67 rfl hs2 (Z 2 ?_)
 obtain ⟨e18, hL18, hA18⟩ := h
 refine st_addNil ?_
 refine st_ord [2, 1, 0] _ rfl ?_
 refine st_loop hL18 (fun (s18 : K41) ρ τ18 gs => σ.Le τ18 ∧ ∃ (v19 : Value) (g20 : Grp), ESub ρ [(2, .Pb b3), (3, .I 0), (4, .Pb b4), (10, v1), (11, .I (a0.length : Int)), (12, .I s18.1)] ∧ gs = [[(b3, .cells lZ.toArray 31 (0, 0))], [(b4, .cells #[.I 4, .I 0, .I 0, .I 0, .I 0, .I 0, .I 0, .I 0, .N0, .N0, .E0, .E0, .I 0, .I 0, .I 0, .I 0, .N0, v19] 31 (0, 0))], g20] ∧ Ow (kI .i64) 3 τ18 v19 s18.2 g20) ⟨LR, _, _, rfl, rfl, Ow.nil⟩ ?_
 rintro s18 o18 h he18 ρ18 τ18 gs18 ⟨hl18, v19, g20, hρ, rfl, ho21⟩ hn18
 refine st_es hρ (Z 5 ?_)
 refine I2 h (fun h => ?_) (fun h => ?_)
 ·refine Z 5 ?_
  obtain ⟨q22, hf23, h⟩ := h
  refine o_index rfl rfl rfl z_slT67 rfl rfl (hs2.up hl18) rfl hf23 (fun b24 of25 vs hc26 hrep => ?_)
  obtain rfl := hrep
  refine o_loadI (v := .string q22) rfl rfl rfl z_sc9 rfl (hc26 0 _ rfl) (Z 5 ?_)
  obtain ⟨r27, hr28, h⟩ := h
  refine SC z_en87 (say_Read_ok hr28 τ18 (hE.up hl18)) ?_
  rintro _ τ29 _ hl30 ⟨rfl, rfl⟩
  refine Z 12 ?_
  refine I2 h (fun h => ?_) (fun h => ?_)
  ·refine ZZ 4 [1] ?_
   refine o_store (j := 0) (vs := [.I 4, .I 0, .I 0, .I 0, .I 0, .I 0, .I 0, .I 0, .N0, .N0, .E0, .E0, .I 0, .I 0, .I 0, .I 0, .N0, v19]) (cs' := [.I 4, .I 0, .I 0, .I 0, .I 0, .I 0, .I 0, .I 0, .N0, .N0, .E0, .E0, .I 0, .I 0, .I 0, .I 0, .N0, v19]) rfl rfl rfl z_size31 rfl rfl rfl (o4 (o4 (o4 (o4 (ones_cons rfl (ones_cons (ho21.up hl30).one' ones_nil)))))) rfl rfl rfl (Z 2 ?_)
   refine st_ord [2, 0, 0] _ rfl ?_
   refine st_freeze (fun τ31 hl32 hg33 => ?_)
   have hs34 := ho21.freeze (hl30.trans hl32) hg33
   obtain rfl := he18 _ h
   replace h := hA18
   obtain rfl := h.symm
   exact RC [.agg #[.I 4, .I 0, .I 0, .I 0, .I 0, .I 0, .I 0, .I 0, .N0, .N0, .E0, .E0, .I 0, .I 0, .I 0, .I 0, .N0, v19], .I r27.2] func64 ⟨cN 0 z_agg31, rfl, trivial⟩ ((hl18.trans hl30).trans hl32) ⟨_, _, _, _, rfl, rfl, Sl.nil, Sl.nil, Sl.nil, hs34⟩
  ·refine ZZ 5 [1] ?_
   refine o_litE (eI .i64) [r27.1] rfl rfl rfl z_slT24 z_zero3 ⟨rfl, ⟨_, rfl, rfl⟩, trivial⟩ rfl rfl rfl rfl (fun v37 g38 ho39 => ?_)
   obtain ⟨hf43, hf44, h⟩ := h
   refine st_ord [3, 0, 0, 0] _ rfl ?_
   refine o_append (dk := (kI .i64)) (xs := s18.2) (ys := [r27.1]) rfl rfl rfl rfl z_slT24 rfl (ho21.up hl30) rfl (Ow.src (j := 1) ho39 rfl) hf43 hf44 (fun v40 g41 ho42 => ?_)
   refine o_fieldAddr rfl rfl rfl z_field31_3 rfl ?_
   refine o_store (j := 3) (vs := [v40]) (cs' := [.I 4, .I 0, .I 0, .I 0, .I 0, .I 0, .I 0, .I 0, .N0, .N0, .E0, .E0, .I 0, .I 0, .I 0, .I 0, .N0, v40]) rfl rfl rfl z_size24 rfl rfl (oneL_ow ho42) (ones_cons ho42.one' ones_nil) rfl rfl rfl (Z 6 ?_)
   refine st_ord [2, 2, 0] _ rfl ?_
   exact hn18 _ _ _ _ h ⟨(hl18.trans hl30), _, _, rfl, rfl, ho42⟩
 ·refine st_exit rfl ?_
  obtain rfl := he18 _ h
  replace h := hA18
  exact hk5 _ _ _ ⟨s18.2, _, _, h, hl18, rfl, rfl, ho21⟩
theorem noise_unhex_ok {a0 : ByteArray} {r : List Int × Int} (h : noise_unhex a0 r) (σ : Sto)  :
    Does prog 99 [.string a0] σ [] (fun v τ gs => ∃ (v40 : Value), gs = [] ∧ .tuple [v40, .I r.2].toArray = v ∧ Sl (kI .u8) τ v40 r.1) := by
 refine CO func99 ntmps99 rfl (fun cs fs => Z 13 ?_)
 refine o_sbin (v := .bool (decide (a0 = (bstr [45])))) rfl rfl rfl rfl (ev_str z_str33) rfl ?_
 refine st_end ?_
 refine I2 h (fun h => ?_) (fun h => ?_)
 ·refine Z 5 ?_
  obtain rfl := h.symm
  exact RT func99 rfl LR ⟨_, rfl, rfl, Sl.nil⟩
 ·refine Z 3 ?_
  refine cutS σ (fun (s1 : Bool) => noise_unhex_j1 a0 s1 r) (fun s1 => [(0, .string a0), (2, .N0), (3, .I 0), (4, .N0), (17, .bool s1)]) (fun s1 => []) (fun s1 τ1 h hl1 => ?_) (fun hk1 => ?_)
  ·refine I2 h (fun h => ?_) (fun h => ?_)
   ·refine Z 5 ?_
    obtain rfl := h.symm
    exact RT func99 rfl hl1 ⟨_, rfl, rfl, Sl.nil⟩
   ·refine Z 2 ?_
    refine st_cut (fun ρ τ2 gs => ∃ (s2 : List Int) (v3 : Value) (g4 : Grp), noise_unhex_j2 s2 r ∧ τ1.Le τ2 ∧ ESub ρ [(2, .N0), (3, .I 0), (4, v3)] ∧ gs = [g4] ∧ Ow (kI .u8) 5 τ2 v3 s2 g4) ?_ (fun hk2 => ?_)
    ·rintro ρ2 τ2 gs2 ⟨s2, v3, g4, h, hl2, hρ, rfl, ho5⟩
     refine st_es hρ (Z 6 ?_)
     refine st_freeze (fun τ6 hl7 hg8 => ?_)
     have hs9 := ho5.freeze hl7 hg8
     obtain rfl := h.symm
     exact RT func99 rfl ((hl1.trans hl2).trans hl7) ⟨_, rfl, rfl, hs9⟩
    refine Z 4 ?_
    obtain ⟨e12, hL12, hA12⟩ := h
    refine st_addNil ?_
    refine st_loop hL12 (fun (s12 : K7) ρ τ12 gs => τ1.Le τ12 ∧ ∃ (v13 : Value) (g14 : Grp), ESub ρ [(0, .string a0), (2, .N0), (3, .I 0), (4, v13), (5, .I s12.2)] ∧ gs = [g14] ∧ Ow (kI .u8) 5 τ12 v13 s12.1 g14) ⟨LR, _, _, rfl, rfl, Ow.nil⟩ ?_
    rintro s12 o12 h he12 ρ12 τ12 gs12 ⟨hl12, v13, g14, hρ, rfl, ho15⟩ hn12
    refine st_es hρ (Z 8 ?_)
    refine I2 h (fun h => ?_) (fun h => ?_)
    ·refine Z 4 ?_
     obtain ⟨q16, hf17, r18, hr19, q22, hf23, r24, hr25, h⟩ := h
     refine st_draw 10 (dl [.v (.string a0), .v (.I s12.2), .v (.int .u8 q16), .v (.I r18), .v (.string a0), .v (.I s12.2), .v (.I (i64.wrap (s12.2 + 1))), .v (.int .u8 q22), .v (.I r24), .v (.I r18)]) (fun _ _ => []) z_mix rfl (dl_mono trivial) (allB_cons (allB_cons (allB_cons (allB_cons (allB_cons (allB_cons (allB_cons (allB_cons (allB_cons (allB_cons allB_nil (p1 dA)) (p1 dA)) ?_) ?_) (p1 dA)) (p1 dA)) (p1 dA)) ?_) ?_) (p1 dA)) ?_
     ·intro ρ' τ pq rs hl hd hq hk
      obtain ⟨_, e0, rfl⟩ := hd 0 rfl
      obtain ⟨_, e1, rfl⟩ := hd 1 rfl
      refine o_indexS rfl rfl rfl underlying9 e0 e1 hf17 ?_
      exact st_addNil (hk _ _ LR rfl)
     ·intro ρ' τ pq rs hl hd hq hk
      obtain ⟨_, e2, rfl⟩ := hd 2 rfl
      refine st_call (foot := []) rfl rfl rfl rfl (evs_cons (ev_str z_str36) (evs_cons e2 rfl)) rfl (callV_fn z_en91 (strings_IndexByte_ok hr19 τ)) ?_
      rintro _ τ20 _ hl21 ⟨rfl, rfl⟩
      exact st_addNil (hk _ _ hl21 rfl)
     ·intro ρ' τ pq rs hl hd hq hk
      obtain ⟨_, e4, rfl⟩ := hd 4 rfl
      obtain ⟨_, e6, rfl⟩ := hd 6 rfl
      refine o_indexS rfl rfl rfl underlying9 e4 e6 hf23 ?_
      exact st_addNil (hk _ _ LR rfl)
     ·intro ρ' τ pq rs hl hd hq hk
      obtain ⟨_, e7, rfl⟩ := hd 7 rfl
      refine st_call (foot := []) rfl rfl rfl rfl (evs_cons (ev_str z_str36) (evs_cons e7 rfl)) rfl (callV_fn z_en91 (strings_IndexByte_ok hr25 τ)) ?_
      rintro _ τ26 _ hl27 ⟨rfl, rfl⟩
      exact st_addNil (hk _ _ hl27 rfl)
     intro ρ' τ28 vals hl28 hv hq
     refine st_ord [0] _ rfl ?_
     refine st_env (ρ' := [(32, .I r24), (6, .I r18), (0, .string a0), (2, .N0), (3, .I 0), (4, v13), (5, .I s12.2)]) ⟨(lv1 hv 8 rfl rfl), (lv1 hv 9 rfl rfl), oT hq 0, oT hq 2, oT hq 3, oT hq 4, oT hq 5, trivial⟩ (Z 4 ?_)
     refine cutS τ28 (fun (s29 : Bool) => noise_unhex_j4 s12 r18 r24 s29 o12) (fun s29 => [(6, .I r18), (0, .string a0), (2, .N0), (3, .I 0), (4, v13), (5, .I s12.2), (7, .I r24), (38, .bool s29)]) (fun s29 => [g14]) (fun s29 τ29 h hl29 => ?_) (fun hk29 => ?_)
     ·refine I2 h (fun h => ?_) (fun h => ?_)
      ·refine Z 5 ?_
       refine st_ord [] _ rfl ?_
       obtain rfl := he12 _ h
       replace h := hA12
       obtain rfl := h.symm
       exact RT func99 rfl (((hl1.trans hl12).trans hl28).trans hl29) ⟨_, rfl, rfl, Sl.nil⟩
      ·refine Z 8 ?_
       refine o_litE (eI .u8) [(u8.wrap (ior .i64 (ishl .i64 r18 4) r24))] rfl rfl rfl z_slT27 z_zero5 ⟨rfl, ⟨_, rfl, rfl⟩, trivial⟩ rfl rfl rfl rfl (fun v30 g31 ho32 => ?_)
       obtain ⟨hf36, hf37, h⟩ := h
       refine st_ord [1, 0] _ rfl ?_
       refine o_append (dk := (kI .u8)) (xs := s12.1) (ys := [(u8.wrap (ior .i64 (ishl .i64 r18 4) r24))]) rfl rfl rfl rfl z_slT27 rfl (ho15.up (hl28.trans hl29)) rfl (Ow.src (j := 1) ho32 rfl) hf36 hf37 (fun v33 g34 ho35 => Z 8 ?_)
       refine st_ord [0] _ rfl ?_
       exact hn12 _ _ _ _ h ⟨((hl12.trans hl28).trans hl29), _, _, rfl, rfl, ho35⟩
     refine Z 3 ?_
     refine M2 h (fun h => ?_) (fun h => ?_)
     ·refine Z 4 ?_
      exact hk29 _ _ _ ⟨true, h, LR, rfl, rfl⟩
     ·refine Z 4 ?_
      exact hk29 _ _ _ ⟨(decide (r24 < 0)), h, LR, rfl, rfl⟩
    ·refine st_exit rfl ?_
     obtain rfl := he12 _ h
     replace h := hA12
     exact hk2 _ _ _ ⟨s12.1, _, _, h, hl12, rfl, rfl, ho15⟩
  refine Z 2 ?_
  refine o_sbin (v := .bool (decide (a0 = (bstr [])))) rfl rfl rfl rfl (ev_str z_str1) rfl ?_
  refine M2 h (fun h => ?_) (fun h => ?_)
  ·refine Z 6 ?_
   exact hk1 _ _ _ ⟨true, h, LR, rfl, rfl⟩
  ·refine Z 6 ?_
   exact hk1 _ _ _ ⟨(!(decide (((a0.size : Int).tmod 2) = 0))), h, LR, rfl, rfl⟩
theorem noise_Parse_ok {a0 : ByteArray} {r : (TyI) × Int} (h : noise_Parse a0 r) (σ : Sto) (hE : Errs prog σ) :
    Does prog 65 [.string a0] σ [] (fun v τ gs => ∃ (v77 : Value), gs = [] ∧ .tuple [.agg (lI r.1 v77).toArray, .I r.2].toArray = v ∧ Sl (kI .u8) τ v77 r.1.t4) := by
 refine CO func65 ntmps65 rfl (fun cs fs => Z 2 ?_)
 refine o_alloc rfl rfl rfl z_zero29 (fun b1 => Z 5 ?_)
 refine o_alloc rfl rfl rfl z_zero67 (fun b2 => Z 5 ?_)
 obtain ⟨r3, hr4, h⟩ := h
 refine SC z_en61 (say_Words_ok hr4 σ) ?_
 rintro _ τ5 _ hl6 ⟨f7, q8, rfl, rfl, hit9⟩
 refine Z 2 ?_
 obtain ⟨t10, w10, hR10, hA10⟩ := h
 refine st_env (ρ' := [(2, .Pb b1), (3, .I 0), (4, .Pb b2), (16, .func (.func f7) #[] q8)]) ⟨rfl, rfl, rfl, rfl, trivial⟩ ?_
 refine st_addNil ?_
 refine st_ord [2, 1, 0] _ rfl ?_
 refine st_addNil ?_
 refine st_range (B := noise_Parse_l1) (s0 := []) ranges_fctx rfl hit9 LR hR10 rfl (fun _ _ _ h => by cases h; rfl) (fun (s10 : K0) τ10 gs => τ5.Le τ10 ∧ ∃ (v11 : Value) (g12 : Grp), gs = [[(b1, .cells #[.I 0, .I 0, .I 0, .I 0, .N0] 29 (0, 0))], [(b2, .cells #[v11] 67 (0, 0))], g12] ∧ Ow kS 9 τ10 v11 s10 g12) (fun _ _ _ _ => False) (fun _ _ _ _ hl ⟨hb, v11, g12, hg, ho13⟩ => ⟨hb.trans hl, v11, g12, hg, ho13.up hl⟩) (fun _ _ _ _ _ _ h => h.elim) ⟨LR, _, _, rfl, Ow.nil⟩ ?_ ?_ ?_
 ·rintro x10 s10 o10 τ10 gs10 vx10 hl10 h rfl ⟨hb10, v11, g12, rfl, ho13⟩ l10 rc10 caller10 cs10 fs10
  refine Z 3 ?_
  refine st_begin (ZZ 4 [1] ?_)
  refine o_litE eS [x10.2] rfl rfl rfl z_slT67 z_zero9 ⟨rfl, ⟨_, rfl, rfl⟩, trivial⟩ rfl rfl rfl rfl (fun v14 g15 ho16 => ?_)
  obtain ⟨hf20, hf21, h⟩ := h
  refine st_ord [3, 0, 0, 0] _ rfl ?_
  refine o_append (dk := kS) (xs := s10) (ys := [x10.2]) rfl rfl rfl rfl z_slT67 rfl ho13 rfl (Ow.src (j := 1) ho16 rfl) hf20 hf21 (fun v17 g18 ho19 => ?_)
  refine o_store (j := 3) (vs := [v17]) (cs' := [v17]) rfl rfl rfl z_size67 rfl rfl (oneL_ow ho19) (ones_cons ho19.one' ones_nil) rfl rfl rfl (Z 2 ?_)
  refine st_ord [2, 2, 0] _ rfl ?_
  exact st_rend (List.Sublist.refl _) LR ⟨_, h, hl10, _, _, rfl, ho19⟩
 ·rintro p22 τ23 gs10 f10 ht hl24 ⟨hb, v25, g26, rfl, ho27⟩ rfl
  subst ht
  replace h := hA10
  refine st_ord [1, 1, 1] _ rfl (Z 3 ?_)
  refine o_alloc rfl rfl rfl z_zero29 (fun b28 => Z 6 ?_)
  refine cutS τ23 (fun (s29 : Int × Int) => noise_Parse_j2 p22 s29 r) (fun s29 => [(2, .Pb b1), (3, .I 0), (4, .Pb b2), (7, .Pb b28), (8, .I s29.1)]) (fun s29 => [[(b1, .cells #[.I 0, .I 0, .I 0, .I 0, .N0] 29 (0, 0))], [(b2, .cells #[v25] 67 (0, 0))], [(b28, .cells #[.I s29.2, .I 0, .I 0, .I 0, .N0] 29 (0, 0))], g26]) (fun s29 τ29 h hl29 => (Z 5 ?_)) (fun hk29 => ?_)
  ·refine st_cut (fun ρ τ30 gs => ∃ (s30 : K41) (v31 : Value), noise_Parse_j3 p22 s29 s30 r ∧ τ29.Le τ30 ∧ ESub ρ [(2, .Pb b1), (3, .I 0), (4, .Pb b2), (7, .Pb b28), (8, .I s29.1), (12, .I s30.1)] ∧ gs = [[(b1, .cells #[.I 0, .I 0, .I 0, .I 0, .N0] 29 (0, 0))], [(b2, .cells #[v25] 67 (0, 0))], [(b28, .cells #[.I s29.2, .I 0, .I 0, .I 0, v31] 29 (0, 0))], g26] ∧ Sl (kI .u8) τ30 v31 s30.2) ?_ (fun hk30 => ?_)
   ·rintro ρ30 τ30 gs30 ⟨s30, v31, h, hl30, hρ, rfl, hs32⟩
    refine st_es hρ (Z 6 ?_)
    refine I2 h (fun h => ?_) (fun h => ?_)
    ·refine ZZ 7 [0] ?_
     obtain rfl := h.symm
     exact RC [.agg #[.I 0, .I 0, .I 0, .I 0, .N0], .I s30.1] func65 ⟨cN 0 z_agg29, rfl, trivial⟩ (((hl6.trans hl24).trans hl29).trans hl30) ⟨_, rfl, rfl, Sl.nil⟩
    ·refine Z 4 ?_
     refine cutS τ30 (fun (s33 : K20) => noise_Parse_j4 s29 s30 s33 r) (fun s33 => [(2, .Pb b1), (3, .I 0), (7, .Pb b28)]) (fun s33 => [[(b1, .cells #[.I 0, .I 0, .I 0, .I 0, .N0] 29 (0, 0))], [(b28, .cells #[.I s29.2, .I s33.1, .I s33.2.1, .I s33.2.2, v31] 29 (0, 0))]]) (fun s33 τ33 h hl33 => (ZZ 3 [1] ?_)) (fun hk33 => ?_)
     ·refine o_store (j := 0) (vs := [.I s29.2, .I s33.1, .I s33.2.1, .I s33.2.2, v31]) (cs' := [.I s29.2, .I s33.1, .I s33.2.1, .I s33.2.2, v31]) rfl rfl rfl z_size29 rfl rfl rfl (o4 (ones_cons (hs32.up hl33).one' ones_nil)) rfl rfl rfl (Z 2 ?_)
      obtain rfl := h.symm
      exact RC [.agg #[.I s29.2, .I s33.1, .I s33.2.1, .I s33.2.2, v31], .I 0] func65 ⟨cN 0 z_agg29, rfl, trivial⟩ ((((hl6.trans hl24).trans hl29).trans hl30).trans hl33) ⟨_, rfl, rfl, (hs32.up hl33)⟩
     refine Z 5 ?_
     refine o_buildA (ps := [(0, [.pointer (some ⟨b28, 1, none⟩)]), (1, [.pointer (some ⟨b28, 2, none⟩)]), (2, [.pointer (some ⟨b28, 3, none⟩)])]) (cs := [.pointer (some ⟨b28, 1, none⟩), .pointer (some ⟨b28, 2, none⟩), .pointer (some ⟨b28, 3, none⟩)]) rfl rfl rfl z_arrz171 ⟨rfl, ⟨_, rfl, rfl⟩, ⟨rfl, ⟨_, rfl, rfl⟩, ⟨rfl, ⟨_, rfl, rfl⟩, trivial⟩⟩⟩ (fill_all [.pointer (some ⟨b28, 1, none⟩), .pointer (some ⟨b28, 2, none⟩), .pointer (some ⟨b28, 3, none⟩)] _ rfl) (Z 2 ?_)
     obtain ⟨e34, hL34, hA34⟩ := h
     refine st_loop hL34 (fun (s34 : K45) ρ τ34 gs => τ30.Le τ34 ∧ ESub ρ [(2, .Pb b1), (3, .I 0), (4, .Pb b2), (7, .Pb b28), (8, .I s29.1), (69, .agg #[.pointer (some ⟨b28, 1, none⟩), .pointer (some ⟨b28, 2, none⟩), .pointer (some ⟨b28, 3, none⟩)]), (70, .I s34.1)] ∧ gs = [[(b1, .cells #[.I 0, .I 0, .I 0, .I 0, .N0] 29 (0, 0))], [(b2, .cells #[v25] 67 (0, 0))], [(b28, .cells #[.I s29.2, .I s34.2.1, .I s34.2.2.1, .I s34.2.2.2, v31] 29 (0, 0))], g26]) ⟨LR, rfl, rfl⟩ ?_
     rintro s34 o34 h he34 ρ34 τ34 gs34 ⟨hl34, hρ, rfl⟩ hn34
     refine st_es hρ (Z 5 ?_)
     refine I2 h (fun h => ?_) (fun h => ?_)
     ·refine Z 6 ?_
      obtain ⟨hf35, hf36, h⟩ := h
      refine o_indexP (b := b28) (o := 1) (l := 3) (cs := [.pointer (some ⟨b28, 1, none⟩), .pointer (some ⟨b28, 2, none⟩), .pointer (some ⟨b28, 3, none⟩)]) rfl rfl rfl z_arr171 z_sc170 rfl rfl rfl hf35 hf36 (Z 10 ?_)
      refine I2 h (fun h => ?_) (fun h => ?_)
      ·refine st_exit rfl ?_
       obtain rfl := he34 _ h
       replace h := hA34
       refine st_ord [0, 1] _ rfl ?_
       exact hk33 _ _ _ ⟨(s34.2.1, s34.2.2.1, s34.2.2.2), h, hl34, rfl, rfl⟩
      ·refine ZZ 7 [1] ?_
       obtain ⟨q37, hf38, h⟩ := h
       refine o_indexOw rfl rfl rfl z_slT67 rfl rfl (ho27.up ((hl29.trans hl30).trans hl34)) rfl hf38 (fun b39 hb40 => ?_)
       obtain ⟨vs41, hrep42, hat43⟩ := Ow.at (ho27.up ((hl29.trans hl30).trans hl34)) hb40 hf38
       obtain rfl := hrep42
       refine o_loadOw (off := 0) (j := 3) (v := .string q37) rfl rfl rfl z_sc9 rfl hat43 rfl rfl ?_
       obtain ⟨r44, hr45, h⟩ := h
       refine st_call (foot := []) rfl rfl rfl rfl rfl rfl (callV_fn z_en87 (say_Read_ok hr45 τ34 (hE.up ((((hl6.trans hl24).trans hl29).trans hl30).trans hl34)))) ?_
       rintro _ τ46 _ hl47 ⟨rfl, rfl⟩
       refine Z 4 ?_
       refine o_storeV (j := 2) (s34.1.toNat) (f := (Value.int .i64)) (zz := 0) (a := r44.1) (l := 3) (xs := [s34.2.1, s34.2.2.1, s34.2.2.2]) [.I s29.2] [v31] rfl rfl rfl z_size3 rfl rfl rfl rfl rfl (by simp only [List.length_cons, List.length_nil] <;> omega) (by omega) (Z 7 ?_)
       refine I2 h (fun h => ?_) (fun h => ?_)
       ·refine ZZ 7 [0] ?_
        obtain rfl := he34 _ h
        replace h := hA34
        obtain rfl := h.symm
        exact RC [.agg #[.I 0, .I 0, .I 0, .I 0, .N0], .I r44.2] func65 ⟨cN 0 z_agg29, rfl, trivial⟩ (((((hl6.trans hl24).trans hl29).trans hl30).trans hl34).trans hl47) ⟨_, rfl, rfl, Sl.nil⟩
       ·refine Z 6 ?_
        exact hn34 _ _ _ _ h ⟨(hl34.trans hl47), rfl, rfl⟩
     ·refine st_exit rfl ?_
      obtain rfl := he34 _ h
      replace h := hA34
      refine st_ord [0, 1] _ rfl ?_
      exact hk33 _ _ _ ⟨(s34.2.1, s34.2.2.1, s34.2.2.2), h, hl34, rfl, rfl⟩
   refine ZZ 8 [2] ?_
   refine I2 h (fun h => ?_) (fun h => ?_)
   ·refine Z 4 ?_
    exact hk30 _ _ _ ⟨(9, []), _, h, LR, rfl, rfl, Sl.nil⟩
   ·refine ZZ 3 [1] ?_
    refine o_lenO rfl rfl rfl z_slT67 rfl (ho27.up hl29) (Z 6 ?_)
    refine I2 h (fun h => ?_) (fun h => ?_)
    ·refine Z 4 ?_
     exact hk30 _ _ _ ⟨(3, []), _, h, LR, rfl, rfl, Sl.nil⟩
    ·refine Z 6 ?_
     refine I2 h (fun h => ?_) (fun h => ?_)
     ·refine ZZ 2 [1] ?_
      obtain ⟨q50, hf51, h⟩ := h
      refine o_indexOw rfl rfl rfl z_slT67 rfl rfl (ho27.up hl29) rfl hf51 (fun b52 hb53 => ?_)
      obtain ⟨vs54, hrep55, hat56⟩ := Ow.at (ho27.up hl29) hb53 hf51
      obtain rfl := hrep55
      refine o_loadOw (off := 0) (j := 3) (v := .string q50) rfl rfl rfl z_sc9 rfl hat56 rfl rfl ?_
      obtain ⟨r57, hr58, h⟩ := h
      refine SC z_en99 (noise_unhex_ok hr58 τ29) ?_
      rintro _ τ59 _ hl60 ⟨v61, rfl, rfl, hs62⟩
      refine Z 4 ?_
      refine o_store (j := 2) (vs := [v61]) (cs' := [.I s29.2, .I 0, .I 0, .I 0, v61]) rfl rfl rfl z_size27 rfl rfl (oneL_sl hs62) (ones_cons hs62.one' ones_nil) rfl rfl rfl (Z 3 ?_)
      exact hk30 _ _ _ ⟨(r57.2, r57.1), _, h, hl60, rfl, rfl, hs62⟩
     ·refine Z 2 ?_
      exact hk30 _ _ _ ⟨(0, []), _, h, LR, rfl, rfl, Sl.nil⟩
  refine Z 4 ?_
  obtain ⟨e63, hL63, hA63⟩ := h
  refine st_ord [1, 1, 0, 0] _ rfl ?_
  refine st_loop hL63 (fun (s63 : K20) ρ τ63 gs => τ23.Le τ63 ∧ ESub ρ [(2, .Pb b1), (3, .I 0), (4, .Pb b2), (7, .Pb b28), (8, .I s63.1), (9, .I s63.2.1)] ∧ gs = [[(b1, .cells #[.I 0, .I 0, .I 0, .I 0, .N0] 29 (0, 0))], [(b2, .cells #[v25] 67 (0, 0))], [(b28, .cells #[.I s63.2.2, .I 0, .I 0, .I 0, .N0] 29 (0, 0))], g26]) ⟨LR, rfl, rfl⟩ ?_
  rintro s63 o63 h he63 ρ63 τ63 gs63 ⟨hl63, hρ, rfl⟩ hn63
  refine st_es hρ (Z 6 ?_)
  refine I2 h (fun h => ?_) (fun h => ?_)
  ·refine Z 2 ?_
   refine cutS τ63 (fun (s64 : Int × Int) => noise_Parse_j7 s63 s64 o63) (fun s64 => [(2, .Pb b1), (3, .I 0), (4, .Pb b2), (7, .Pb b28), (8, .I s64.1), (9, .I s63.2.1)]) (fun s64 => [[(b1, .cells #[.I 0, .I 0, .I 0, .I 0, .N0] 29 (0, 0))], [(b2, .cells #[v25] 67 (0, 0))], [(b28, .cells #[.I s64.2, .I 0, .I 0, .I 0, .N0] 29 (0, 0))], g26]) (fun s64 τ64 h hl64 => (Z 5 ?_)) (fun hk64 => ?_)
   ·exact hn63 _ _ _ _ h ⟨(hl63.trans hl64), rfl, rfl⟩
   refine Z 4 ?_
   obtain ⟨r65, hr66, h⟩ := h
   refine SC z_en74 (noise_word_ok hr66 τ63) ?_
   rintro _ τ67 _ hl68 ⟨rfl, rfl⟩
   refine ZZ 10 [1] ?_
   obtain ⟨q69, hf70, h⟩ := h
   refine o_indexOw rfl rfl rfl z_slT67 rfl rfl (ho27.up (hl63.trans hl68)) rfl hf70 (fun b71 hb72 => ?_)
   obtain ⟨vs73, hrep74, hat75⟩ := Ow.at (ho27.up (hl63.trans hl68)) hb72 hf70
   obtain rfl := hrep74
   refine o_loadOw (off := 0) (j := 3) (v := .string q69) rfl rfl rfl z_sc9 rfl hat75 rfl rfl (Z 2 ?_)
   refine I2 h (fun h => ?_) (fun h => ?_)
   ·refine ZZ 8 [2] ?_
    exact hk64 _ _ _ ⟨(r65.2, s63.2.1), h, hl68, rfl, rfl⟩
   ·refine Z 2 ?_
    exact hk64 _ _ _ ⟨(s63.1, s63.2.2), h, hl68, rfl, rfl⟩
  ·refine st_exit rfl ?_
   obtain rfl := he63 _ h
   replace h := hA63
   exact hk29 _ _ _ ⟨(s63.1, s63.2.2), h, hl63, rfl, rfl⟩
 ·exact fun _ _ _ _ _ _ _ h => h.elim
end Go.Rel
