import Derived.Test.YtnlghjmngfgmcabGreatDoorURel
import Derived.Test.YtnlghjmngfgmcabGreatDoorUFacts
import Derived.Test.YtnlghjmngfgmcabGreatDoorUWalk0
/-! The walks. -/
set_option linter.unusedVariables false
set_option linter.unusedSimpArgs false
set_option maxRecDepth 4000
set_option maxHeartbeats 4000000
namespace Go.Rel
open Go Go.Eng Go.Proofs
theorem strings_splitSeq_1_ok {c0 : ByteArray} {c2 : Int} {c1 : ByteArray} {bc0 : Nat} {bc1 : Nat} {bc2 : Nat} {σ0 : Sto} (hc0_0 : Cel σ0 ⟨bc0, 0, none⟩ (.string c0)) (hc2_0 : Cel σ0 ⟨bc2, 0, none⟩ (.int .i64 c2)) :
    IterV Tryz.prog (fun _ x vx => vx = [.string x]) (.func (.func 146) #[] [.pointer (some ⟨bc0, 0, none⟩), .pointer (some ⟨bc1, 0, none⟩), .pointer (some ⟨bc2, 0, none⟩)].toArray) σ0 [(bc1, .cells [.string c1].toArray 9 (0, 0))] (fun (oo : ByteArray) υ f => f = [(bc1, .cells [.string oo].toArray 9 (0, 0))]) (strings_splitSeq_1 c0 c2 c1) := by
 intro S Y I y hyc hyo hIm hY s s' o hR σ g hle hIg
 obtain ⟨r, hr0⟩ : ∃ r, r = (s', o) := ⟨_, rfl⟩
 rw [← hr0] at hR
 have h := hR
 refine callV_of (caps := [.pointer (some ⟨bc0, 0, none⟩), .pointer (some ⟨bc1, 0, none⟩), .pointer (some ⟨bc2, 0, none⟩)]) z_en146 ?_
 refine call_of Tryz.func146 Tryz.ntmps146 rfl rfl (fun cs fs => ?_)
 refine st_perm (gs' := [g, [(bc1, .cells #[.string c1] 9 (0, 0))]]) (by simp) ?_
 refine Z 3 rfl ?_
 refine o_loadI (v := .string c0) rfl rfl rfl z_sc9 rfl (Cel.up hc0_0 hle) ?_
 refine Z 3 rfl ?_
 refine st_if rfl h (fun h => ?_) (fun h => ?_)
 ·refine st_seq ?_
  refine st_cut (fun ρ τ1 gs => ∃ (s1 : S × ByteArray) (g2 : Grp), strings_splitSeq_1_j1 S Y s1 r ∧ σ.Le τ1 ∧ ESub ρ [(0, y), (1, .pointer (some ⟨bc0, 0, none⟩)), (2, .pointer (some ⟨bc1, 0, none⟩)), (3, .pointer (some ⟨bc2, 0, none⟩))] ∧ gs = [[(bc1, .cells #[.string s1.2] 9 (0, 0))], g2] ∧ I s1.1 τ1 g2) ?_ (fun hk1 => ?_)
  ·rintro ρ1 τ1 gs1 ⟨s1, g2, h, hl1, hρ, rfl, hI3⟩
   refine st_es hρ ?_
   refine st_ord [1, 0] _ rfl ?_
   obtain rfl := Eq.symm h
   cases hr0
   exact st_ret (gs' := [g2, [(bc1, .cells #[.string s1.2] 9 (0, 0))]]) Tryz.func146 rfl (by simp) hl1 ⟨g2, _, rfl, hI3, rfl⟩
  obtain ⟨e4, hL4, hA4⟩ := h
  refine st_ord [1, 0] _ rfl ?_
  refine st_loop hL4 (fun (s4 : S × ByteArray) ρ τ4 gs => σ.Le τ4 ∧ ∃ (g5 : Grp), ESub ρ [(0, y), (1, .pointer (some ⟨bc0, 0, none⟩)), (2, .pointer (some ⟨bc1, 0, none⟩)), (3, .pointer (some ⟨bc2, 0, none⟩))] ∧ gs = [[(bc1, .cells #[.string s4.2] 9 (0, 0))], g5] ∧ I s4.1 τ4 g5) ⟨Sto.Le.refl _, g, rfl, rfl, hIg⟩ ?_
  rintro s4 o4 h he4 ρ4 τ4 gs4 ⟨hl4, g5, hρ, rfl, hI6⟩ hn4
  refine st_es hρ ?_
  refine ZZ 7 [0] rfl rfl ?_
  refine st_if rfl h (fun h => ?_) (fun h => ?_)
  ·refine ZZ 5 [0] rfl rfl ?_
   obtain ⟨r7, hr8, h⟩ := h
   refine st_call (foot := []) rfl rfl rfl rfl rfl rfl (callV_fn z_en147 (unicode_utf8_DecodeRuneInString_ok hr8 τ4)) ?_
   rintro vτ9 τ9 gsτ9 hl10 ⟨rfl, rfl⟩
   refine ZZ 12 [0] rfl rfl ?_
   obtain ⟨hf11, hf12, h⟩ := h
   refine o_sliceSh rfl rfl rfl Tryz.underlying9 rfl rfl hf11 hf12 ?_
   obtain ⟨y13, u14, hy15, h⟩ := h
   refine st_ord [1, 0] _ rfl ?_
   refine st_call (foot := [g5]) rfl rfl rfl rfl rfl rfl (hY (s4.2.extract 0 r7.2.toNat) s4.1 _ _ _ _ _ (hle.trans (hl4.trans hl10)) hy15 rfl (hIm _ _ _ _ hl10 hI6)) ?_
   rintro vτ16 τ16 gsτ16 hl17 ⟨rfl, g18, rfl, hI19⟩
   refine Z 2 rfl ?_
   refine st_if rfl h (fun h => ?_) (fun h => ?_)
   ·obtain rfl := he4 _ h
    replace h := hA4
    obtain rfl := Eq.symm h
    cases hr0
    exact st_ret (gs' := [g18, [(bc1, .cells #[.string s4.2] 9 (0, 0))]]) Tryz.func146 rfl (by simp) ((hl4.trans hl10).trans hl17) ⟨g18, _, rfl, hI19, rfl⟩
   ·refine ZZ 4 [1] rfl rfl ?_
    obtain ⟨hf20, hf21, h⟩ := h
    refine o_sliceSl rfl rfl rfl Tryz.underlying9 rfl rfl hf20 hf21 ?_
    refine ZZ 3 [1] rfl rfl ?_
    refine st_ord [1, 0] _ rfl ?_
    exact hn4 _ _ _ _ h ⟨((hl4.trans hl10).trans hl17), g18, rfl, rfl, hI19⟩
  ·refine st_exit rfl ?_
   obtain rfl := he4 _ h
   replace h := hA4
   exact hk1 _ _ _ ⟨(s4.1, s4.2), g5, h, hl4, rfl, rfl, hI6⟩
 ·refine Z 2 rfl ?_
  refine st_cut (fun ρ τ24 gs => ∃ (s24 : S × ByteArray) (g25 : Grp), strings_splitSeq_1_j3 S Y s24 r ∧ σ.Le τ24 ∧ ESub ρ [(0, y), (2, .pointer (some ⟨bc1, 0, none⟩))] ∧ gs = [[(bc1, .cells #[.string s24.2] 9 (0, 0))], g25] ∧ I s24.1 τ24 g25) ?_ (fun hk24 => ?_)
  ·rintro ρ24 τ24 gs24 ⟨s24, g25, h, hl24, hρ, rfl, hI26⟩
   refine st_es hρ ?_
   refine ZZ 3 [0] rfl rfl ?_
   obtain ⟨y27, u28, hy29, h⟩ := h
   refine st_ord [1, 0] _ rfl ?_
   refine st_call (foot := [g25]) rfl rfl rfl rfl rfl rfl (hY s24.2 s24.1 _ _ _ _ _ (hle.trans hl24) hy29 rfl hI26) ?_
   rintro vτ30 τ30 gsτ30 hl31 ⟨rfl, g32, rfl, hI33⟩
   refine st_end ?_
   obtain rfl := Eq.symm h
   cases hr0
   exact st_fin (gs' := [g32, [(bc1, .cells #[.string s24.2] 9 (0, 0))]]) Tryz.func146 rfl (by simp) (hl24.trans hl31) ⟨g32, _, rfl, hI33, rfl⟩
  obtain ⟨e34, hL34, hA34⟩ := h
  refine st_ord [1, 0] _ rfl ?_
  refine st_loop hL34 (fun (s34 : S × ByteArray) ρ τ34 gs => σ.Le τ34 ∧ ∃ (g35 : Grp), ESub ρ [(0, y), (1, .pointer (some ⟨bc0, 0, none⟩)), (2, .pointer (some ⟨bc1, 0, none⟩)), (3, .pointer (some ⟨bc2, 0, none⟩))] ∧ gs = [[(bc1, .cells #[.string s34.2] 9 (0, 0))], g35] ∧ I s34.1 τ34 g35) ⟨Sto.Le.refl _, g, rfl, rfl, hIg⟩ ?_
  rintro s34 o34 h he34 ρ34 τ34 gs34 ⟨hl34, g35, hρ, rfl, hI36⟩ hn34
  refine st_es hρ ?_
  refine ZZ 4 [0] rfl rfl ?_
  refine o_loadI (v := .string c0) rfl rfl rfl z_sc9 rfl (Cel.up hc0_0 (hle.trans hl34)) ?_
  obtain ⟨r37, hr38, h⟩ := h
  refine st_call (foot := []) rfl rfl rfl rfl rfl rfl (callV_fn z_en148 (strings_Index_ok hr38 τ34)) ?_
  rintro vτ39 τ39 gsτ39 hl40 ⟨rfl, rfl⟩
  refine Z 8 rfl ?_
  refine st_if rfl h (fun h => ?_) (fun h => ?_)
  ·refine st_exit rfl ?_
   obtain rfl := he34 _ h
   replace h := hA34
   exact hk24 _ _ _ ⟨(s34.1, s34.2), g35, h, (hl34.trans hl40), rfl, rfl, (hIm _ _ _ _ hl40 hI36)⟩
  ·refine ZZ 5 [0] rfl rfl ?_
   refine o_loadI (v := .int .i64 c2) rfl rfl rfl z_sc3 rfl (Cel.up hc2_0 ((hle.trans hl34).trans hl40)) ?_
   refine o_ibin (v := .int .i64 (IntKind.i64.wrap (r37 + c2))) rfl rfl rfl rfl rfl rfl ?_
   obtain ⟨hf41, hf42, h⟩ := h
   refine o_sliceSh rfl rfl rfl Tryz.underlying9 rfl rfl hf41 hf42 ?_
   refine Z 7 rfl ?_
   obtain ⟨y43, u44, hy45, h⟩ := h
   refine st_ord [1, 0] _ rfl ?_
   refine st_call (foot := [g35]) rfl rfl rfl rfl rfl rfl (hY (s34.2.extract 0 (IntKind.i64.wrap (r37 + c2)).toNat) s34.1 _ _ _ _ _ (hle.trans (hl34.trans hl40)) hy45 rfl (hIm _ _ _ _ hl40 hI36)) ?_
   rintro vτ46 τ46 gsτ46 hl47 ⟨rfl, g48, rfl, hI49⟩
   refine Z 2 rfl ?_
   refine st_if rfl h (fun h => ?_) (fun h => ?_)
   ·obtain rfl := he34 _ h
    replace h := hA34
    obtain rfl := Eq.symm h
    cases hr0
    exact st_ret (gs' := [g48, [(bc1, .cells #[.string s34.2] 9 (0, 0))]]) Tryz.func146 rfl (by simp) ((hl34.trans hl40).trans hl47) ⟨g48, _, rfl, hI49, rfl⟩
   ·refine ZZ 4 [1] rfl rfl ?_
    refine o_loadI (v := .string c0) rfl rfl rfl z_sc9 rfl (Cel.up hc0_0 (((hle.trans hl34).trans hl40).trans hl47)) ?_
    refine Z 2 rfl ?_
    obtain ⟨hf50, hf51, h⟩ := h
    refine o_sliceSl rfl rfl rfl Tryz.underlying9 rfl rfl hf50 hf51 ?_
    refine ZZ 3 [1] rfl rfl ?_
    refine st_ord [1, 0] _ rfl ?_
    exact hn34 _ _ _ _ h ⟨((hl34.trans hl40).trans hl47), g48, rfl, rfl, hI49⟩
theorem strings_splitSeq_ok {a0 : ByteArray} {a1 : ByteArray} {a2 : Int} {r : ((ByteArray → (S : Type) → (ByteArray → S → Bool × S → Prop) → S → S × ByteArray → Prop)) × ByteArray} (h : strings_splitSeq a0 a1 a2 r) (σ : Sto)  :
    Does Tryz.prog 113 [.string a0, .string a1, .int .i64 a2] σ [] (fun v τ gs => ∃ (f11 : Nat) (q12 : Array Value) (b14 : Nat), gs = [[(b14, .cells [.string r.2].toArray 9 (0, 0))]] ∧ .func (.func f11) #[] q12 = v ∧ ∀ (x16 : ByteArray) (σ15 : Sto), τ.Le σ15 → IterV Tryz.prog (fun _ x vx => vx = [.string x]) (.func (.func f11) #[] q12) σ15 [(b14, .cells [.string x16].toArray 9 (0, 0))] (fun (o17 : ByteArray) υ f => f = [(b14, .cells [.string o17].toArray 9 (0, 0))]) (r.1 x16)) := by
 refine call_of Tryz.func113 Tryz.ntmps113 rfl rfl (fun cs fs => ?_)
 refine Z 2 rfl ?_
 refine o_boxC rfl rfl rfl rfl rfl rfl (fun b1 => ?_)
 refine o_boxC rfl rfl rfl rfl rfl rfl (fun b2 => ?_)
 refine o_boxC rfl rfl rfl rfl rfl rfl (fun b3 => ?_)
 refine Z 4 rfl ?_
 refine st_ord [1, 0, 0] _ rfl ?_
 refine st_freeze (fun τ4 hl5 hg6 => ?_)
 refine st_freeze (fun τ7 hl8 hg9 => ?_)
 refine Z 3 rfl ?_
 obtain rfl := Eq.symm h
 exact st_ret (gs' := [[(b1, .cells #[.string a0] 9 (0, 0))]]) Tryz.func113 rfl (List.Sublist.refl _) (hl5.trans hl8) ⟨_, _, _, rfl, rfl, (fun _ _ hl  => strings_splitSeq_1_ok ((Cel.up (cel_of hg6 rfl) hl8).up hl) ((cel_of hg9 rfl).up hl))⟩
theorem strings_SplitSeq_ok {a0 : ByteArray} {a1 : ByteArray} {r : ((ByteArray → (S : Type) → (ByteArray → S → Bool × S → Prop) → S → S × ByteArray → Prop)) × ByteArray} (h : strings_SplitSeq a0 a1 r) (σ : Sto)  :
    Does Tryz.prog 76 [.string a0, .string a1] σ [] (fun v τ gs => ∃ (f13 : Nat) (q14 : Array Value) (b16 : Nat), gs = [[(b16, .cells [.string r.2].toArray 9 (0, 0))]] ∧ .func (.func f13) #[] q14 = v ∧ ∀ (x18 : ByteArray) (σ17 : Sto), τ.Le σ17 → IterV Tryz.prog (fun _ x vx => vx = [.string x]) (.func (.func f13) #[] q14) σ17 [(b16, .cells [.string x18].toArray 9 (0, 0))] (fun (o19 : ByteArray) υ f => f = [(b16, .cells [.string o19].toArray 9 (0, 0))]) (r.1 x18)) := by
 refine call_of Tryz.func76 Tryz.ntmps76 rfl rfl (fun cs fs => ?_)
 refine Z 8 rfl ?_
 obtain ⟨r1, hr2, h⟩ := h
 refine st_call (foot := []) rfl rfl rfl rfl rfl rfl (callV_fn z_en113 (strings_splitSeq_ok hr2 σ)) ?_
 rintro vτ3 τ3 gsτ3 hl4 ⟨f5, q6, b8, rfl, rfl, hit7⟩
 refine Z 2 rfl ?_
 obtain rfl := Eq.symm h
 exact st_ret (gs' := [[(b8, .cells #[.string r1.2] 9 (0, 0))]]) Tryz.func76 rfl (List.Sublist.refl _) hl4 ⟨_, _, _, rfl, rfl, (fun x0_ σ9 hl9 => hit7 x0_ σ9 ((Sto.Le.refl _).trans hl9))⟩
theorem say_Words_1_ok {c0 : ByteArray} {bc0 : Nat} {σ0 : Sto} (hc0_0 : Cel σ0 ⟨bc0, 0, none⟩ (.string c0)) :
    IterV Tryz.prog (fun _ x vx => vx = [.int .i64 x.1, .string x.2]) (.func (.func 75) #[] [.pointer (some ⟨bc0, 0, none⟩)].toArray) σ0 [] (fun (_ : Unit) _ f => f = []) (say_Words_1 c0) := by
 intro S Y I y hyc hyo hIm hY s s' o hR σ g hle hIg
 obtain ⟨r, hr0⟩ : ∃ r, r = (s', o) := ⟨_, rfl⟩
 rw [← hr0] at hR
 have h := hR
 refine callV_of (caps := [.pointer (some ⟨bc0, 0, none⟩)]) z_en75 ?_
 refine call_of Tryz.func75 Tryz.ntmps75 rfl rfl (fun cs fs => ?_)
 refine st_ord [0] _ rfl ?_
 refine Z 2 rfl ?_
 refine o_box (cs := [y]) rfl rfl rfl rfl hyc (fun b1 => ?_)
 refine Z 3 rfl ?_
 refine o_alloc rfl rfl rfl z_zero3 (fun b2 => ?_)
 refine ZZ 4 [0] rfl rfl ?_
 refine o_loadI (v := .string c0) rfl rfl rfl z_sc9 rfl (Cel.up hc0_0 hle) ?_
 obtain ⟨r3, hr4, h⟩ := h
 refine st_call (foot := []) rfl rfl rfl rfl (evs_cons rfl (evs_cons (ev_str z_str6) rfl)) rfl (callV_fn z_en76 (strings_SplitSeq_ok hr4 σ)) ?_
 rintro vτ5 τ5 gsτ5 hl6 ⟨f7, q8, b10, rfl, rfl, hit9⟩
 refine Z 2 rfl ?_
 obtain ⟨t14, w14, hR14, hA14⟩ := h
 refine st_env (ρ' := [(2, .pointer (some ⟨b1, 0, none⟩)), (3, .pointer (some ⟨b2, 0, none⟩)), (6, .func (.func f7) #[] q8)]) ⟨rfl, rfl, rfl, trivial⟩ ?_
 refine st_ord [0, 1, 0, 0] _ rfl ?_
 refine st_range (B := say_Words_1_l1 S Y) (s0 := (s, 0)) ranges_fctx rfl (hit9 r3.2 τ5 (Sto.Le.refl _)) (Sto.Le.refl _) hR14 rfl (fun _ _ _ h => by cases h; rfl) (fun (s14 : S × Int) τ14 gs => τ5.Le τ14 ∧ ∃ (g15 : Grp), gs = [[(b1, .cells #[y] 155 (0, 0))], [(b2, .cells #[.int .i64 s14.2] 3 (0, 0))], g15] ∧ I s14.1 τ14 g15) (fun (p24 : S × Int) cd τ25 gs => cd = .ret ∧ τ5.Le τ25 ∧ ∃ (g27 : Grp), gs = [[(b1, .cells #[y] 155 (0, 0))], [(b2, .cells #[.int .i64 p24.2] 3 (0, 0))], g27] ∧ I p24.1 τ25 g27) (fun _ _ _ _ hl ⟨hb, g15, hg, hI16⟩ => ⟨hb.trans hl, g15, hg, hIm _ _ _ _ hl hI16⟩) (fun _ _ _ _ _ hl ⟨hc, hb, g27, hg, hI28⟩ => ⟨hc, hb.trans hl, g27, hg, hIm _ _ _ _ hl hI28⟩) ⟨Sto.Le.refl _, g, rfl, (hIm _ _ _ _ hl6 hIg)⟩ ?_ ?_ ?_
 ·rintro x14 s14 o14 τ14 gs14 vx14 hl14 h rfl ⟨hb14, g15, rfl, hI16⟩ l14 rc14 caller14 cs14 fs14
  refine Z 3 rfl ?_
  refine st_begin ?_
  refine ZZ 7 [0, 1] rfl rfl ?_
  obtain ⟨y17, u18, hy19, h⟩ := h
  refine st_ord [2, 0, 0] _ rfl ?_
  refine st_call (foot := [g15]) rfl rfl rfl rfl rfl rfl (hY (s14.2, x14) s14.1 _ _ _ _ _ (hle.trans (hl6.trans hl14)) hy19 rfl hI16) ?_
  rintro vτ20 τ20 gsτ20 hl21 ⟨rfl, g22, rfl, hI23⟩
  refine Z 2 rfl ?_
  refine st_if rfl h (fun h => ?_) (fun h => ?_)
  ·refine st_ord [1, 1, 0] _ rfl ?_
   exact st_rret (List.Sublist.refl _) hl21 ⟨_, h, rfl, (hl14.trans hl21), g22, rfl, hI23⟩
  ·refine ZZ 10 [2, 2] rfl rfl ?_
   refine st_ord [1, 1, 0] _ rfl ?_
   exact st_rend (List.Sublist.refl _) hl21 ⟨_, h, (hl14.trans hl21), g22, rfl, hI23⟩
 ·rintro p30 τ31 gs14 f14 ht hl32 ⟨hb, g33, rfl, hI34⟩ rfl
  subst ht
  replace h := hA14
  refine st_gs [[(b10, .cells #[.string w14] 9 (0, 0))], [(b1, .cells #[y] 155 (0, 0))], [(b2, .cells #[.int .i64 p30.2] 3 (0, 0))], g33] rfl ?_
  refine st_inBlock ?_
  refine st_ord [3] _ rfl ?_
  obtain rfl := Eq.symm h
  cases hr0
  exact st_fin (gs' := [g33, []]) Tryz.func75 rfl (by simp) (hl6.trans hl32) ⟨g33, _, rfl, hI34, rfl⟩
 ·rintro p24 cd14 τ25 gs14 f14 ht hl26 ⟨rfl, hb, g27, rfl, hI28⟩ rfl
  subst ht
  replace h := hA14
  refine st_gs [[(b10, .cells #[.string w14] 9 (0, 0))], [(b1, .cells #[y] 155 (0, 0))], [(b2, .cells #[.int .i64 p24.2] 3 (0, 0))], g27] rfl ?_
  refine st_ord [3] _ rfl ?_
  obtain rfl := Eq.symm h
  cases hr0
  exact st_ret (gs' := [g27, []]) Tryz.func75 rfl (by simp) (hl6.trans hl26) ⟨g27, _, rfl, hI28, rfl⟩
theorem say_Words_ok {a0 : ByteArray} {r : (((S : Type) → ((Int × ByteArray) → S → Bool × S → Prop) → S → S × Unit → Prop))} (h : say_Words a0 r) (σ : Sto)  :
    Does Tryz.prog 41 [.string a0] σ [] (fun v τ gs => ∃ (f5 : Nat) (q6 : Array Value), gs = [] ∧ .func (.func f5) #[] q6 = v ∧ IterV Tryz.prog (fun _ x vx => vx = [.int .i64 x.1, .string x.2]) (.func (.func f5) #[] q6) τ [] (fun (_ : Unit) _ f => f = []) r) := by
 refine call_of Tryz.func41 Tryz.ntmps41 rfl rfl (fun cs fs => ?_)
 refine Z 2 rfl ?_
 refine o_boxC rfl rfl rfl rfl rfl rfl (fun b1 => ?_)
 refine Z 4 rfl ?_
 refine st_freeze (fun τ2 hl3 hg4 => ?_)
 refine Z 3 rfl ?_
 obtain rfl := Eq.symm h
 exact st_ret (gs' := []) Tryz.func41 rfl (List.Sublist.refl _) hl3 ⟨_, _, rfl, rfl, (say_Words_1_ok (cel_of hg4 rfl))⟩
theorem strings_IndexByte_ok {a0 : ByteArray} {a1 : Int} {r : Int} (h : strings_IndexByte a0 a1 r) (σ : Sto) :
    Does Tryz.prog 105 [.string a0, .int .u8 a1] σ [] (fun v τ gs => gs = [] ∧ .int .i64 r = v) := by
 obtain ⟨hc, rfl⟩ := h
 exact indexByte_does Tryz.strings_IndexByte hc
theorem noise_unhex_ok {a0 : ByteArray} {r : List Int × Int} (h : noise_unhex a0 r) (σ : Sto)  :
    Does Tryz.prog 65 [.string a0] σ [] (fun v τ gs => ∃ (v40 : Value), gs = [] ∧ .tuple [v40, .int .i64 r.2].toArray = v ∧ Sl (kI .u8) τ v40 r.1) := by
 refine call_of Tryz.func65 Tryz.ntmps65 rfl rfl (fun cs fs => ?_)
 refine Z 13 rfl ?_
 refine o_sbin (v := .bool (decide (a0 = (bstr [45])))) rfl rfl rfl rfl (ev_str z_str7) rfl ?_
 refine st_end ?_
 refine st_if rfl h (fun h => ?_) (fun h => ?_)
 ·refine Z 5 rfl ?_
  obtain rfl := Eq.symm h
  exact st_ret (gs' := []) Tryz.func65 rfl (List.Sublist.refl _) (Sto.Le.refl _) ⟨_, rfl, rfl, Sl.nil⟩
 ·refine Z 3 rfl ?_
  refine st_cut (fun ρ τ1 gs => ∃ (s1 : Bool), noise_unhex_j1 a0 s1 r ∧ σ.Le τ1 ∧ ESub ρ [(0, .string a0), (2, .slice none 0 0), (3, .int .i64 0), (4, .slice none 0 0), (17, .bool s1)] ∧ gs = []) ?_ (fun hk1 => ?_)
  ·rintro ρ1 τ1 gs1 ⟨s1, h, hl1, hρ, rfl⟩
   refine st_es hρ ?_
   refine st_if rfl h (fun h => ?_) (fun h => ?_)
   ·refine Z 5 rfl ?_
    obtain rfl := Eq.symm h
    exact st_ret (gs' := []) Tryz.func65 rfl (List.Sublist.refl _) hl1 ⟨_, rfl, rfl, Sl.nil⟩
   ·refine Z 2 rfl ?_
    refine st_cut (fun ρ τ2 gs => ∃ (s2 : List Int) (v3 : Value) (g4 : Grp), noise_unhex_j2 s2 r ∧ τ1.Le τ2 ∧ ESub ρ [(2, .slice none 0 0), (3, .int .i64 0), (4, v3)] ∧ gs = [g4] ∧ Ow (kI .u8) 5 τ2 v3 s2 g4) ?_ (fun hk2 => ?_)
    ·rintro ρ2 τ2 gs2 ⟨s2, v3, g4, h, hl2, hρ, rfl, ho5⟩
     refine st_es hρ ?_
     refine Z 6 rfl ?_
     refine st_freeze (fun τ6 hl7 hg8 => ?_)
     have hs9 := ho5.freeze hl7 hg8
     obtain rfl := Eq.symm h
     exact st_ret (gs' := []) Tryz.func65 rfl (List.Sublist.refl _) ((hl1.trans hl2).trans hl7) ⟨_, rfl, rfl, hs9⟩
    refine Z 4 rfl ?_
    obtain ⟨e12, hL12, hA12⟩ := h
    refine st_addNil ?_
    refine st_loop hL12 (fun (s12 : List Int × Int) ρ τ12 gs => τ1.Le τ12 ∧ ∃ (v13 : Value) (g14 : Grp), ESub ρ [(0, .string a0), (2, .slice none 0 0), (3, .int .i64 0), (4, v13), (5, .int .i64 s12.2)] ∧ gs = [g14] ∧ Ow (kI .u8) 5 τ12 v13 s12.1 g14) ⟨Sto.Le.refl _, _, _, rfl, rfl, Ow.nil⟩ ?_
    rintro s12 o12 h he12 ρ12 τ12 gs12 ⟨hl12, v13, g14, hρ, rfl, ho15⟩ hn12
    refine st_es hρ ?_
    refine Z 8 rfl ?_
    refine st_if rfl h (fun h => ?_) (fun h => ?_)
    ·refine Z 4 rfl ?_
     obtain ⟨q16, hf17, r18, hr19, q22, hf23, r24, hr25, h⟩ := h
     refine st_draw 10 (dl [.v (.string a0), .v (.int .i64 s12.2), .v (.int .u8 q16), .v (.int .i64 r18), .v (.string a0), .v (.int .i64 s12.2), .v (.int .i64 (IntKind.i64.wrap (s12.2 + 1))), .v (.int .u8 q22), .v (.int .i64 r24), .v (.int .i64 r18)]) (fun _ _ => []) z_mix rfl (dl_mono trivial) (allB_cons (allB_cons (allB_cons (allB_cons (allB_cons (allB_cons (allB_cons (allB_cons (allB_cons (allB_cons allB_nil (p1 dA)) (p1 dA)) ?_) ?_) (p1 dA)) (p1 dA)) (p1 dA)) ?_) ?_) (p1 dA)) ?_
     ·intro ρ' τ pool rs hl hd hout hk
      obtain ⟨_, e0, rfl⟩ := hd 0 rfl
      obtain ⟨_, e1, rfl⟩ := hd 1 rfl
      refine o_indexS rfl rfl rfl Tryz.underlying9 e0 e1 hf17 ?_
      exact st_addNil (hk _ _ (Sto.Le.refl _) rfl)
     ·intro ρ' τ pool rs hl hd hout hk
      obtain ⟨_, e2, rfl⟩ := hd 2 rfl
      refine st_call (foot := []) rfl rfl rfl rfl (evs_cons (ev_str z_str8) (evs_cons e2 rfl)) rfl (callV_fn z_en105 (strings_IndexByte_ok hr19 τ)) ?_
      rintro vτ20 τ20 gsτ20 hl21 ⟨rfl, rfl⟩
      exact st_addNil (hk _ _ hl21 rfl)
     ·intro ρ' τ pool rs hl hd hout hk
      obtain ⟨_, e4, rfl⟩ := hd 4 rfl
      obtain ⟨_, e6, rfl⟩ := hd 6 rfl
      refine o_indexS rfl rfl rfl Tryz.underlying9 e4 e6 hf23 ?_
      exact st_addNil (hk _ _ (Sto.Le.refl _) rfl)
     ·intro ρ' τ pool rs hl hd hout hk
      obtain ⟨_, e7, rfl⟩ := hd 7 rfl
      refine st_call (foot := []) rfl rfl rfl rfl (evs_cons (ev_str z_str8) (evs_cons e7 rfl)) rfl (callV_fn z_en105 (strings_IndexByte_ok hr25 τ)) ?_
      rintro vτ26 τ26 gsτ26 hl27 ⟨rfl, rfl⟩
      exact st_addNil (hk _ _ hl27 rfl)
     intro ρ' τ28 vals hl28 hv hout
     refine st_ord [0] _ rfl ?_
     refine st_env (ρ' := [(32, .int .i64 r24), (6, .int .i64 r18), (0, .string a0), (2, .slice none 0 0), (3, .int .i64 0), (4, v13), (5, .int .i64 s12.2)]) ⟨(lv1 hv 8 rfl rfl), (lv1 hv 9 rfl rfl), (hout 0 rfl).trans rfl, (hout 2 rfl).trans rfl, (hout 3 rfl).trans rfl, (hout 4 rfl).trans rfl, (hout 5 rfl).trans rfl, trivial⟩ ?_
     refine Z 4 rfl ?_
     refine st_cut (fun ρ τ29 gs => ∃ (s29 : Bool), noise_unhex_j4 s12 r18 r24 s29 o12 ∧ τ28.Le τ29 ∧ ESub ρ [(6, .int .i64 r18), (0, .string a0), (2, .slice none 0 0), (3, .int .i64 0), (4, v13), (5, .int .i64 s12.2), (7, .int .i64 r24), (38, .bool s29)] ∧ gs = [g14]) ?_ (fun hk29 => ?_)
     ·rintro ρ29 τ29 gs29 ⟨s29, h, hl29, hρ, rfl⟩
      refine st_es hρ ?_
      refine st_if rfl h (fun h => ?_) (fun h => ?_)
      ·refine Z 5 rfl ?_
       refine st_ord [] _ rfl ?_
       obtain rfl := he12 _ h
       replace h := hA12
       obtain rfl := Eq.symm h
       exact st_ret (gs' := []) Tryz.func65 rfl (List.Sublist.refl _) (((hl1.trans hl12).trans hl28).trans hl29) ⟨_, rfl, rfl, Sl.nil⟩
      ·refine Z 8 rfl ?_
       refine o_litE (eI .u8) [(IntKind.u8.wrap (ior .i64 (ishl .i64 r18 4) r24))] rfl rfl rfl z_slT23 z_zero5 ⟨rfl, ⟨_, rfl, rfl⟩, trivial⟩ rfl rfl rfl rfl (fun v30 g31 ho32 => ?_)
       obtain ⟨hf36, hf37, h⟩ := h
       refine st_ord [1, 0] _ rfl ?_
       refine o_append (dk := (kI .u8)) (xs := s12.1) (ys := [(IntKind.u8.wrap (ior .i64 (ishl .i64 r18 4) r24))]) rfl rfl rfl rfl z_slT23 rfl (ho15.up (hl28.trans hl29)) rfl (Ow.src (j := 1) ho32 rfl) hf36 hf37 (fun v33 g34 ho35 => ?_)
       refine Z 8 rfl ?_
       refine st_ord [0] _ rfl ?_
       exact hn12 _ _ _ _ h ⟨((hl12.trans hl28).trans hl29), _, _, rfl, rfl, ho35⟩
     refine Z 3 rfl ?_
     refine o_mif rfl rfl rfl rfl h (fun h => ?_) (fun h => ?_)
     ·refine Z 4 rfl ?_
      exact hk29 _ _ _ ⟨true, h, (Sto.Le.refl _), rfl, rfl⟩
     ·refine Z 4 rfl ?_
      exact hk29 _ _ _ ⟨(decide (r24 < 0)), h, (Sto.Le.refl _), rfl, rfl⟩
    ·refine st_exit rfl ?_
     obtain rfl := he12 _ h
     replace h := hA12
     exact hk2 _ _ _ ⟨s12.1, _, _, h, hl12, rfl, rfl, ho15⟩
  refine Z 2 rfl ?_
  refine o_sbin (v := .bool (decide (a0 = (bstr [])))) rfl rfl rfl rfl (ev_str z_str0) rfl ?_
  refine o_mif rfl rfl rfl rfl h (fun h => ?_) (fun h => ?_)
  ·refine Z 6 rfl ?_
   exact hk1 _ _ _ ⟨true, h, (Sto.Le.refl _), rfl, rfl⟩
  ·refine Z 6 rfl ?_
   exact hk1 _ _ _ ⟨(!(decide (((a0.size : Int).tmod 2) = 0))), h, (Sto.Le.refl _), rfl, rfl⟩
theorem strconv_ParseInt_ok {a0 : ByteArray} {a1 : Int} {a2 : Int} {r : Int × Bool} (h : strconv_ParseInt a0 a1 a2 r) (σ : Sto) (hE : Errs Tryz.prog σ) :
    Does Tryz.prog 106 [.string a0, .int .i64 a1, .int .i64 a2] σ [] (fun v τ gs => ∃ (v1 : Value), gs = [] ∧ .tuple [.int .i64 r.1, v1].toArray = v ∧ IfB v1 r.2) := by
 obtain ⟨rfl, rfl, hs, rfl⟩ := h
 exact parse_does Tryz.strconv_ParseInt_10_at64_ok Tryz.strconv_ParseInt_10_at64_syntax_var Tryz.strconv_ParseInt_10_at64_range_var hE hs
theorem internal_stringslite_HasPrefix_ok {a0 : ByteArray} {a1 : ByteArray} {r : Bool} (h : internal_stringslite_HasPrefix a0 a1 r) (σ : Sto)  :
    Does Tryz.prog 163 [.string a0, .string a1] σ [] (fun v τ gs => gs = [] ∧ .bool r = v) := by
 refine call_of Tryz.func163 Tryz.ntmps163 rfl rfl (fun cs fs => ?_)
 refine Z 5 rfl ?_
 refine st_cut (fun ρ τ1 gs => ∃ (s1 : Bool), internal_stringslite_HasPrefix_j1 s1 r ∧ σ.Le τ1 ∧ ESub ρ [(4, .bool s1)] ∧ gs = []) ?_ (fun hk1 => ?_)
 ·rintro ρ1 τ1 gs1 ⟨s1, h, hl1, hρ, rfl⟩
  refine st_es hρ ?_
  obtain rfl := Eq.symm h
  exact st_ret (gs' := []) Tryz.func163 rfl (List.Sublist.refl _) hl1 ⟨rfl, rfl⟩
 refine Z 6 rfl ?_
 refine o_mif rfl rfl rfl rfl h (fun h => ?_) (fun h => ?_)
 ·refine Z 3 rfl ?_
  obtain ⟨hf2, hf3, h⟩ := h
  refine o_sliceSh rfl rfl rfl Tryz.underlying9 rfl rfl hf2 hf3 ?_
  refine Z 5 rfl ?_
  exact hk1 _ _ _ ⟨(decide ((a0.extract 0 (a1.size : Int).toNat) = a1)), h, (Sto.Le.refl _), rfl, rfl⟩
 ·refine Z 9 rfl ?_
  exact hk1 _ _ _ ⟨false, h, (Sto.Le.refl _), rfl, rfl⟩
theorem internal_stringslite_TrimPrefix_ok {a0 : ByteArray} {a1 : ByteArray} {r : ByteArray} (h : internal_stringslite_TrimPrefix a0 a1 r) (σ : Sto)  :
    Does Tryz.prog 135 [.string a0, .string a1] σ [] (fun v τ gs => gs = [] ∧ .string r = v) := by
 refine call_of Tryz.func135 Tryz.ntmps135 rfl rfl (fun cs fs => ?_)
 refine Z 2 rfl ?_
 refine o_assign rfl rfl rfl (ev_str z_str0) ?_
 refine Z 6 rfl ?_
 obtain ⟨r1, hr2, h⟩ := h
 refine st_call (foot := []) rfl rfl rfl rfl rfl rfl (callV_fn z_en163 (internal_stringslite_HasPrefix_ok hr2 σ)) ?_
 rintro vτ3 τ3 gsτ3 hl4 ⟨rfl, rfl⟩
 refine st_end ?_
 refine st_if rfl h (fun h => ?_) (fun h => ?_)
 ·refine Z 5 rfl ?_
  obtain ⟨hf5, hf6, h⟩ := h
  refine o_sliceSl rfl rfl rfl Tryz.underlying9 rfl rfl hf5 hf6 ?_
  refine Z 2 rfl ?_
  obtain rfl := Eq.symm h
  exact st_ret (gs' := []) Tryz.func135 rfl (List.Sublist.refl _) hl4 ⟨rfl, rfl⟩
 ·refine Z 6 rfl ?_
  obtain rfl := Eq.symm h
  exact st_ret (gs' := []) Tryz.func135 rfl (List.Sublist.refl _) hl4 ⟨rfl, rfl⟩
theorem strings_TrimPrefix_ok {a0 : ByteArray} {a1 : ByteArray} {r : ByteArray} (h : strings_TrimPrefix a0 a1 r) (σ : Sto)  :
    Does Tryz.prog 107 [.string a0, .string a1] σ [] (fun v τ gs => gs = [] ∧ .string r = v) := by
 refine call_of Tryz.func107 Tryz.ntmps107 rfl rfl (fun cs fs => ?_)
 refine Z 2 rfl ?_
 refine o_assign rfl rfl rfl (ev_str z_str0) ?_
 refine Z 5 rfl ?_
 obtain ⟨r1, hr2, h⟩ := h
 refine st_call (foot := []) rfl rfl rfl rfl rfl rfl (callV_fn z_en135 (internal_stringslite_TrimPrefix_ok hr2 σ)) ?_
 rintro vτ3 τ3 gsτ3 hl4 ⟨rfl, rfl⟩
 refine Z 2 rfl ?_
 obtain rfl := Eq.symm h
 exact st_ret (gs' := []) Tryz.func107 rfl (List.Sublist.refl _) hl4 ⟨rfl, rfl⟩
theorem strings_trimRightByte_ok {a0 : ByteArray} {a1 : Int} {r : ByteArray} (h : strings_trimRightByte a0 a1 r) (σ : Sto)  :
    Does Tryz.prog 137 [.string a0, .int .u8 a1] σ [] (fun v τ gs => gs = [] ∧ .string r = v) := by
 refine call_of Tryz.func137 Tryz.ntmps137 rfl rfl (fun cs fs => ?_)
 refine Z 2 rfl ?_
 refine o_assign rfl rfl rfl (ev_str z_str0) ?_
 refine Z 2 rfl ?_
 refine st_cut (fun ρ τ1 gs => ∃ (s1 : ByteArray), strings_trimRightByte_j1 s1 r ∧ σ.Le τ1 ∧ ESub ρ [(0, .string s1), (4, .string (bstr []))] ∧ gs = []) ?_ (fun hk1 => ?_)
 ·rintro ρ1 τ1 gs1 ⟨s1, h, hl1, hρ, rfl⟩
  refine st_es hρ ?_
  refine Z 5 rfl ?_
  obtain rfl := Eq.symm h
  exact st_ret (gs' := []) Tryz.func137 rfl (List.Sublist.refl _) hl1 ⟨rfl, rfl⟩
 obtain ⟨e2, hL2, hA2⟩ := h
 refine st_loop hL2 (fun (s2 : ByteArray) ρ τ2 gs => σ.Le τ2 ∧ ESub ρ [(0, .string s2), (1, .int .u8 a1), (4, .string (bstr []))] ∧ gs = []) ⟨Sto.Le.refl _, rfl, rfl⟩ ?_
 rintro s2 o2 h he2 ρ2 τ2 gs2 ⟨hl2, hρ, rfl⟩ hn2
 refine st_es hρ ?_
 refine Z 2 rfl ?_
 refine st_cut (fun ρ τ3 gs => ∃ (s3 : Bool), strings_trimRightByte_j3 s2 s3 o2 ∧ τ2.Le τ3 ∧ ESub ρ [(0, .string s2), (1, .int .u8 a1), (4, .string (bstr [])), (16, .bool s3)] ∧ gs = []) ?_ (fun hk3 => ?_)
 ·rintro ρ3 τ3 gs3 ⟨s3, h, hl3, hρ, rfl⟩
  refine st_es hρ ?_
  refine st_if rfl h (fun h => ?_) (fun h => ?_)
  ·refine Z 7 rfl ?_
   obtain ⟨hf4, hf5, h⟩ := h
   refine o_sliceSh rfl rfl rfl Tryz.underlying9 rfl rfl hf4 hf5 ?_
   refine Z 3 rfl ?_
   exact hn2 _ _ _ _ h ⟨(hl2.trans hl3), rfl, rfl⟩
  ·refine st_exit rfl ?_
   obtain rfl := he2 _ h
   replace h := hA2
   exact hk1 _ _ _ ⟨s2, h, (hl2.trans hl3), rfl, rfl⟩
 refine Z 4 rfl ?_
 refine o_mif rfl rfl rfl rfl h (fun h => ?_) (fun h => ?_)
 ·refine Z 4 rfl ?_
  obtain ⟨q6, hf7, h⟩ := h
  refine o_indexS rfl rfl rfl Tryz.underlying9 rfl rfl hf7 ?_
  refine Z 4 rfl ?_
  exact hk3 _ _ _ ⟨(decide (q6 = a1)), h, (Sto.Le.refl _), rfl, rfl⟩
 ·refine Z 9 rfl ?_
  exact hk3 _ _ _ ⟨false, h, (Sto.Le.refl _), rfl, rfl⟩
theorem strings_trimLeftByte_ok {a0 : ByteArray} {a1 : Int} {r : ByteArray} (h : strings_trimLeftByte a0 a1 r) (σ : Sto)  :
    Does Tryz.prog 136 [.string a0, .int .u8 a1] σ [] (fun v τ gs => gs = [] ∧ .string r = v) := by
 refine call_of Tryz.func136 Tryz.ntmps136 rfl rfl (fun cs fs => ?_)
 refine Z 2 rfl ?_
 refine o_assign rfl rfl rfl (ev_str z_str0) ?_
 refine Z 2 rfl ?_
 refine st_cut (fun ρ τ1 gs => ∃ (s1 : ByteArray), strings_trimLeftByte_j1 s1 r ∧ σ.Le τ1 ∧ ESub ρ [(0, .string s1), (4, .string (bstr []))] ∧ gs = []) ?_ (fun hk1 => ?_)
 ·rintro ρ1 τ1 gs1 ⟨s1, h, hl1, hρ, rfl⟩
  refine st_es hρ ?_
  refine Z 5 rfl ?_
  obtain rfl := Eq.symm h
  exact st_ret (gs' := []) Tryz.func136 rfl (List.Sublist.refl _) hl1 ⟨rfl, rfl⟩
 obtain ⟨e2, hL2, hA2⟩ := h
 refine st_loop hL2 (fun (s2 : ByteArray) ρ τ2 gs => σ.Le τ2 ∧ ESub ρ [(0, .string s2), (1, .int .u8 a1), (4, .string (bstr []))] ∧ gs = []) ⟨Sto.Le.refl _, rfl, rfl⟩ ?_
 rintro s2 o2 h he2 ρ2 τ2 gs2 ⟨hl2, hρ, rfl⟩ hn2
 refine st_es hρ ?_
 refine Z 2 rfl ?_
 refine st_cut (fun ρ τ3 gs => ∃ (s3 : Bool), strings_trimLeftByte_j3 s2 s3 o2 ∧ τ2.Le τ3 ∧ ESub ρ [(0, .string s2), (1, .int .u8 a1), (4, .string (bstr [])), (13, .bool s3)] ∧ gs = []) ?_ (fun hk3 => ?_)
 ·rintro ρ3 τ3 gs3 ⟨s3, h, hl3, hρ, rfl⟩
  refine st_es hρ ?_
  refine st_if rfl h (fun h => ?_) (fun h => ?_)
  ·refine Z 4 rfl ?_
   obtain ⟨hf4, h⟩ := h
   refine o_sliceSl rfl rfl rfl Tryz.underlying9 rfl rfl (by decide) hf4 ?_
   refine Z 3 rfl ?_
   exact hn2 _ _ _ _ h ⟨(hl2.trans hl3), rfl, rfl⟩
  ·refine st_exit rfl ?_
   obtain rfl := he2 _ h
   replace h := hA2
   exact hk1 _ _ _ ⟨s2, h, (hl2.trans hl3), rfl, rfl⟩
 refine Z 4 rfl ?_
 refine o_mif rfl rfl rfl rfl h (fun h => ?_) (fun h => ?_)
 ·refine o_move rfl rfl rfl rfl ?_
  obtain ⟨q5, hf6, h⟩ := h
  refine o_indexS rfl rfl rfl Tryz.underlying9 rfl rfl hf6 ?_
  refine Z 4 rfl ?_
  exact hk3 _ _ _ ⟨(decide (q5 = a1)), h, (Sto.Le.refl _), rfl, rfl⟩
 ·refine Z 6 rfl ?_
  exact hk3 _ _ _ ⟨false, h, (Sto.Le.refl _), rfl, rfl⟩
theorem strings_makeASCIISet_ok {a0 : ByteArray} {r : List Bool × Bool} (h : strings_makeASCIISet a0 r) (σ : Sto)  :
    Does Tryz.prog 138 [.string a0] σ [] (fun v τ gs => gs = [] ∧ .tuple [.agg (cellsN Value.bool false 256 r.1).toArray, .bool r.2].toArray = v) := by
 refine call_of Tryz.func138 Tryz.ntmps138 rfl rfl (fun cs fs => ?_)
 refine Z 2 rfl ?_
 refine o_alloc rfl rfl rfl z_zero234 (fun b1 => ?_)
 refine Z 3 rfl ?_
 refine st_cut (fun ρ τ2 gs => ∃ (s2 : List Bool), strings_makeASCIISet_j1 s2 r ∧ σ.Le τ2 ∧ ESub ρ [(2, .pointer (some ⟨b1, 0, none⟩)), (3, .bool false)] ∧ gs = [[(b1, .cells (cellsN Value.bool false 256 s2).toArray 234 (0, 0))]]) ?_ (fun hk2 => ?_)
 ·rintro ρ2 τ2 gs2 ⟨s2, h, hl2, hρ, rfl⟩
  refine st_es hρ ?_
  refine Z 2 rfl ?_
  refine o_loadN (j := 0) (vs := (cellsN Value.bool false 256 s2)) rfl rfl rfl z_agg234 rfl rfl rfl ?_
  refine o_store (j := 0) (vs := (cellsN Value.bool false 256 s2)) (cs' := (cellsN Value.bool false 256 s2)) rfl rfl rfl z_size234 rfl rfl rfl ones_cellsNB rfl rfl rfl ?_
  refine st_gs [[(b1, .cells (cellsN Value.bool false 256 s2).toArray 234 (0, 0))]] rfl ?_
  refine Z 2 rfl ?_
  obtain rfl := Eq.symm h
  exact st_retC (gs' := []) [.agg (cellsN Value.bool false 256 s2).toArray, .bool true] Tryz.func138 ⟨⟨_, _, _, _, rfl, mem_flat 0 rfl, fun w hw => cellOfN (vs := (cellsN Value.bool false 256 s2)) z_agg234 rfl w hw⟩, rfl, trivial⟩ (by simp) hl2 ⟨rfl, rfl⟩
 refine Z 4 rfl ?_
 obtain ⟨e3, hL3, hA3⟩ := h
 refine st_loop hL3 (fun (s3 : Int × List Bool) ρ τ3 gs => σ.Le τ3 ∧ ESub ρ [(0, .string a0), (2, .pointer (some ⟨b1, 0, none⟩)), (3, .bool false), (4, .int .i64 s3.1)] ∧ gs = [[(b1, .cells (cellsN Value.bool false 256 s3.2).toArray 234 (0, 0))]]) ⟨Sto.Le.refl _, rfl, rfl⟩ ?_
 rintro s3 o3 h he3 ρ3 τ3 gs3 ⟨hl3, hρ, rfl⟩ hn3
 refine st_es hρ ?_
 refine Z 8 rfl ?_
 refine st_if rfl h (fun h => ?_) (fun h => ?_)
 ·refine Z 7 rfl ?_
  obtain ⟨q4, hf5, h⟩ := h
  refine o_indexS rfl rfl rfl Tryz.underlying9 rfl rfl hf5 ?_
  refine Z 8 rfl ?_
  refine st_if rfl h (fun h => ?_) (fun h => ?_)
  ·refine Z 2 rfl ?_
   refine o_loadN (j := 0) (vs := (cellsN Value.bool false 256 s3.2)) rfl rfl rfl z_agg234 rfl rfl rfl ?_
   refine o_store (j := 0) (vs := (cellsN Value.bool false 256 s3.2)) (cs' := (cellsN Value.bool false 256 s3.2)) rfl rfl rfl z_size234 rfl rfl rfl ones_cellsNB rfl rfl rfl ?_
   refine st_gs [[(b1, .cells (cellsN Value.bool false 256 s3.2).toArray 234 (0, 0))]] rfl ?_
   refine Z 2 rfl ?_
   obtain rfl := he3 _ h
   replace h := hA3
   obtain rfl := Eq.symm h
   exact st_retC (gs' := []) [.agg (cellsN Value.bool false 256 s3.2).toArray, .bool false] Tryz.func138 ⟨⟨_, _, _, _, rfl, mem_flat 0 rfl, fun w hw => cellOfN (vs := (cellsN Value.bool false 256 s3.2)) z_agg234 rfl w hw⟩, rfl, trivial⟩ (by simp) hl3 ⟨rfl, rfl⟩
  ·refine Z 3 rfl ?_
   obtain ⟨hf6, hf7, h⟩ := h
   refine o_indexA rfl rfl rfl z_arr234 rfl rfl hf6 hf7 ?_
   refine o_storeB (j := 0) (q := q4.toNat) (f := Value.bool) (zz := false) (a := true) (l := 256) (xs := s3.2) rfl rfl rfl z_size4 rfl rfl rfl rfl rfl (by omega) (by omega) ?_
   refine st_gs [[(b1, .cells (cellsN Value.bool false 256 (putN 256 false s3.2 q4.toNat true)).toArray 234 (0, 0))]] rfl ?_
   refine Z 7 rfl ?_
   exact hn3 _ _ _ _ h ⟨hl3, rfl, rfl⟩
 ·refine st_exit rfl ?_
  obtain rfl := he3 _ h
  replace h := hA3
  exact hk2 _ _ _ ⟨s3.2, h, hl3, rfl, rfl⟩
theorem strings_asciiSet_contains_ok {a0 : List Bool} {a1 : Int} {ba0 : Nat} {r : Bool} (h : strings_asciiSet_contains a0 a1 r) (σ : Sto)  :
    Does Tryz.prog 164 [.pointer (some ⟨ba0, 0, none⟩), .int .u8 a1] σ [[(ba0, .cells (cellsN Value.bool false 256 a0).toArray 234 (0, 0))]] (fun v τ gs => gs = [[(ba0, .cells (cellsN Value.bool false 256 a0).toArray 234 (0, 0))]] ∧ .bool r = v) := by
 refine call_of Tryz.func164 Tryz.ntmps164 rfl rfl (fun cs fs => ?_)
 refine Z 9 rfl ?_
 obtain ⟨hf1, hf2, h⟩ := h
 refine o_indexA rfl rfl rfl z_arr234 rfl rfl hf1 hf2 ?_
 refine o_loadB (j := 0) (q := a1.toNat) (f := Value.bool) (zz := false) (l := 256) (xs := a0) rfl rfl rfl z_sc4 rfl rfl (by omega) (by omega) ?_
 refine Z 2 rfl ?_
 obtain rfl := Eq.symm h
 exact st_ret (gs' := [[(ba0, .cells (cellsN Value.bool false 256 a0).toArray 234 (0, 0))]]) Tryz.func164 rfl (List.Sublist.refl _) (Sto.Le.refl _) ⟨rfl, rfl⟩
theorem strings_trimRightASCII_ok {a0 : ByteArray} {a1 : List Bool} {ba1 : Nat} {r : ByteArray} (h : strings_trimRightASCII a0 a1 r) (σ : Sto)  :
    Does Tryz.prog 140 [.string a0, .pointer (some ⟨ba1, 0, none⟩)] σ [[(ba1, .cells (cellsN Value.bool false 256 a1).toArray 234 (0, 0))]] (fun v τ gs => gs = [[(ba1, .cells (cellsN Value.bool false 256 a1).toArray 234 (0, 0))]] ∧ .string r = v) := by
 refine call_of Tryz.func140 Tryz.ntmps140 rfl rfl (fun cs fs => ?_)
 refine Z 2 rfl ?_
 refine o_assign rfl rfl rfl (ev_str z_str0) ?_
 refine Z 2 rfl ?_
 refine st_cut (fun ρ τ1 gs => ∃ (s1 : ByteArray), strings_trimRightASCII_j1 s1 r ∧ σ.Le τ1 ∧ ESub ρ [(0, .string s1), (4, .string (bstr []))] ∧ gs = [[(ba1, .cells (cellsN Value.bool false 256 a1).toArray 234 (0, 0))]]) ?_ (fun hk1 => ?_)
 ·rintro ρ1 τ1 gs1 ⟨s1, h, hl1, hρ, rfl⟩
  refine st_es hρ ?_
  refine Z 5 rfl ?_
  obtain rfl := Eq.symm h
  exact st_ret (gs' := [[(ba1, .cells (cellsN Value.bool false 256 a1).toArray 234 (0, 0))]]) Tryz.func140 rfl (List.Sublist.refl _) hl1 ⟨rfl, rfl⟩
 obtain ⟨e2, hL2, hA2⟩ := h
 refine st_loop hL2 (fun (s2 : ByteArray) ρ τ2 gs => σ.Le τ2 ∧ ESub ρ [(0, .string s2), (1, .pointer (some ⟨ba1, 0, none⟩)), (4, .string (bstr []))] ∧ gs = [[(ba1, .cells (cellsN Value.bool false 256 a1).toArray 234 (0, 0))]]) ⟨Sto.Le.refl _, rfl, rfl⟩ ?_
 rintro s2 o2 h he2 ρ2 τ2 gs2 ⟨hl2, hρ, rfl⟩ hn2
 refine st_es hρ ?_
 refine Z 7 rfl ?_
 refine st_if rfl h (fun h => ?_) (fun h => ?_)
 ·refine Z 10 rfl ?_
  obtain ⟨q3, hf4, h⟩ := h
  refine o_indexS rfl rfl rfl Tryz.underlying9 rfl rfl hf4 ?_
  obtain ⟨r5, hr6, h⟩ := h
  refine st_call (foot := [[(ba1, .cells (cellsN Value.bool false 256 a1).toArray 234 (0, 0))]]) rfl rfl rfl rfl rfl rfl (callV_fn z_en164 (strings_asciiSet_contains_ok hr6 τ2)) ?_
  rintro vτ7 τ7 gsτ7 hl8 ⟨rfl, rfl⟩
  refine Z 2 rfl ?_
  refine st_if rfl h (fun h => ?_) (fun h => ?_)
  ·refine st_exit rfl ?_
   obtain rfl := he2 _ h
   replace h := hA2
   exact hk1 _ _ _ ⟨s2, h, (hl2.trans hl8), rfl, rfl⟩
  ·refine Z 6 rfl ?_
   obtain ⟨hf9, hf10, h⟩ := h
   refine o_sliceSh rfl rfl rfl Tryz.underlying9 rfl rfl hf9 hf10 ?_
   refine Z 3 rfl ?_
   exact hn2 _ _ _ _ h ⟨(hl2.trans hl8), rfl, rfl⟩
 ·refine st_exit rfl ?_
  obtain rfl := he2 _ h
  replace h := hA2
  exact hk1 _ _ _ ⟨s2, h, hl2, rfl, rfl⟩
theorem strings_trimLeftASCII_ok {a0 : ByteArray} {a1 : List Bool} {ba1 : Nat} {r : ByteArray} (h : strings_trimLeftASCII a0 a1 r) (σ : Sto)  :
    Does Tryz.prog 139 [.string a0, .pointer (some ⟨ba1, 0, none⟩)] σ [[(ba1, .cells (cellsN Value.bool false 256 a1).toArray 234 (0, 0))]] (fun v τ gs => gs = [[(ba1, .cells (cellsN Value.bool false 256 a1).toArray 234 (0, 0))]] ∧ .string r = v) := by
 refine call_of Tryz.func139 Tryz.ntmps139 rfl rfl (fun cs fs => ?_)
 refine Z 2 rfl ?_
 refine o_assign rfl rfl rfl (ev_str z_str0) ?_
 refine Z 2 rfl ?_
 refine st_cut (fun ρ τ1 gs => ∃ (s1 : ByteArray), strings_trimLeftASCII_j1 s1 r ∧ σ.Le τ1 ∧ ESub ρ [(0, .string s1), (4, .string (bstr []))] ∧ gs = [[(ba1, .cells (cellsN Value.bool false 256 a1).toArray 234 (0, 0))]]) ?_ (fun hk1 => ?_)
 ·rintro ρ1 τ1 gs1 ⟨s1, h, hl1, hρ, rfl⟩
  refine st_es hρ ?_
  refine Z 5 rfl ?_
  obtain rfl := Eq.symm h
  exact st_ret (gs' := [[(ba1, .cells (cellsN Value.bool false 256 a1).toArray 234 (0, 0))]]) Tryz.func139 rfl (List.Sublist.refl _) hl1 ⟨rfl, rfl⟩
 obtain ⟨e2, hL2, hA2⟩ := h
 refine st_loop hL2 (fun (s2 : ByteArray) ρ τ2 gs => σ.Le τ2 ∧ ESub ρ [(0, .string s2), (1, .pointer (some ⟨ba1, 0, none⟩)), (4, .string (bstr []))] ∧ gs = [[(ba1, .cells (cellsN Value.bool false 256 a1).toArray 234 (0, 0))]]) ⟨Sto.Le.refl _, rfl, rfl⟩ ?_
 rintro s2 o2 h he2 ρ2 τ2 gs2 ⟨hl2, hρ, rfl⟩ hn2
 refine st_es hρ ?_
 refine Z 7 rfl ?_
 refine st_if rfl h (fun h => ?_) (fun h => ?_)
 ·refine Z 7 rfl ?_
  obtain ⟨q3, hf4, h⟩ := h
  refine o_indexS rfl rfl rfl Tryz.underlying9 rfl rfl hf4 ?_
  obtain ⟨r5, hr6, h⟩ := h
  refine st_call (foot := [[(ba1, .cells (cellsN Value.bool false 256 a1).toArray 234 (0, 0))]]) rfl rfl rfl rfl rfl rfl (callV_fn z_en164 (strings_asciiSet_contains_ok hr6 τ2)) ?_
  rintro vτ7 τ7 gsτ7 hl8 ⟨rfl, rfl⟩
  refine Z 2 rfl ?_
  refine st_if rfl h (fun h => ?_) (fun h => ?_)
  ·refine st_exit rfl ?_
   obtain rfl := he2 _ h
   replace h := hA2
   exact hk1 _ _ _ ⟨s2, h, (hl2.trans hl8), rfl, rfl⟩
  ·refine Z 3 rfl ?_
   obtain ⟨hf9, h⟩ := h
   refine o_sliceSl rfl rfl rfl Tryz.underlying9 rfl rfl (by decide) hf9 ?_
   refine Z 3 rfl ?_
   exact hn2 _ _ _ _ h ⟨(hl2.trans hl8), rfl, rfl⟩
 ·refine st_exit rfl ?_
  obtain rfl := he2 _ h
  replace h := hA2
  exact hk1 _ _ _ ⟨s2, h, hl2, rfl, rfl⟩
theorem unicode_utf8_RuneStart_ok {a0 : Int} {r : Bool} (h : unicode_utf8_RuneStart a0 r) (σ : Sto)  :
    Does Tryz.prog 178 [.int .u8 a0] σ [] (fun v τ gs => gs = [] ∧ .bool r = v) := by
 refine call_of Tryz.func178 Tryz.ntmps178 rfl rfl (fun cs fs => ?_)
 refine Z 11 rfl ?_
 obtain rfl := Eq.symm h
 exact st_ret (gs' := []) Tryz.func178 rfl (List.Sublist.refl _) (Sto.Le.refl _) ⟨rfl, rfl⟩
theorem unicode_utf8_DecodeLastRuneInString_ok {a0 : ByteArray} {r : Int × Int} (h : unicode_utf8_DecodeLastRuneInString a0 r) (σ : Sto)  :
    Does Tryz.prog 166 [.string a0] σ [] (fun v τ gs => gs = [] ∧ .tuple [.int .i32 r.1, .int .i64 r.2].toArray = v) := by
 refine call_of Tryz.func166 Tryz.ntmps166 rfl rfl (fun cs fs => ?_)
 refine Z 17 rfl ?_
 refine st_if rfl h (fun h => ?_) (fun h => ?_)
 ·refine Z 5 rfl ?_
  obtain rfl := Eq.symm h
  exact st_ret (gs' := []) Tryz.func166 rfl (List.Sublist.refl _) (Sto.Le.refl _) ⟨rfl, rfl⟩
 ·refine Z 11 rfl ?_
  obtain ⟨q1, hf2, h⟩ := h
  refine o_indexS rfl rfl rfl Tryz.underlying9 rfl rfl hf2 ?_
  refine Z 9 rfl ?_
  refine st_if rfl h (fun h => ?_) (fun h => ?_)
  ·refine Z 6 rfl ?_
   obtain rfl := Eq.symm h
   exact st_ret (gs' := []) Tryz.func166 rfl (List.Sublist.refl _) (Sto.Le.refl _) ⟨rfl, rfl⟩
  ·refine Z 9 rfl ?_
   refine st_cut (fun ρ τ3 gs => ∃ (s3 : Int), unicode_utf8_DecodeLastRuneInString_j1 a0 s3 r ∧ σ.Le τ3 ∧ ESub ρ [(0, .string a0), (2, .int .i32 (IntKind.i32.wrap q1)), (3, .int .i64 0), (4, .int .i64 (a0.size : Int)), (5, .int .i64 s3)] ∧ gs = []) ?_ (fun hk3 => ?_)
   ·rintro ρ3 τ3 gs3 ⟨s3, h, hl3, hρ, rfl⟩
    refine st_es hρ ?_
    refine st_seq ?_
    refine st_cut (fun ρ τ4 gs => ∃ (s4 : Int), unicode_utf8_DecodeLastRuneInString_j2 a0 s4 r ∧ τ3.Le τ4 ∧ ESub ρ [(0, .string a0), (2, .int .i32 (IntKind.i32.wrap q1)), (3, .int .i64 0), (4, .int .i64 (a0.size : Int)), (5, .int .i64 s4)] ∧ gs = []) ?_ (fun hk4 => ?_)
    ·rintro ρ4 τ4 gs4 ⟨s4, h, hl4, hρ, rfl⟩
     refine st_es hρ ?_
     refine Z 5 rfl ?_
     obtain ⟨hf5, hf6, hf7, h⟩ := h
     refine o_sliceS rfl rfl rfl Tryz.underlying9 rfl rfl rfl hf5 hf6 hf7 ?_
     obtain ⟨r8, hr9, h⟩ := h
     refine st_call (foot := []) rfl rfl rfl rfl rfl rfl (callV_fn z_en147 (unicode_utf8_DecodeRuneInString_ok hr9 τ4)) ?_
     rintro vτ10 τ10 gsτ10 hl11 ⟨rfl, rfl⟩
     refine Z 15 rfl ?_
     refine st_if rfl h (fun h => ?_) (fun h => ?_)
     ·refine Z 5 rfl ?_
      obtain rfl := Eq.symm h
      exact st_ret (gs' := []) Tryz.func166 rfl (List.Sublist.refl _) ((hl3.trans hl4).trans hl11) ⟨rfl, rfl⟩
     ·refine Z 8 rfl ?_
      obtain rfl := Eq.symm h
      exact st_ret (gs' := []) Tryz.func166 rfl (List.Sublist.refl _) ((hl3.trans hl4).trans hl11) ⟨rfl, rfl⟩
    refine Z 5 rfl ?_
    refine st_if rfl h (fun h => ?_) (fun h => ?_)
    ·refine Z 3 rfl ?_
     exact hk4 _ _ _ ⟨0, h, (Sto.Le.refl _), rfl, rfl⟩
    ·refine st_skip ?_
     exact hk4 _ _ _ ⟨s3, h, (Sto.Le.refl _), rfl, rfl⟩
   refine Z 6 rfl ?_
   obtain ⟨e12, hL12, hA12⟩ := h
   refine st_loop hL12 (fun (s12 : Int) ρ τ12 gs => σ.Le τ12 ∧ ESub ρ [(0, .string a0), (2, .int .i32 (IntKind.i32.wrap q1)), (3, .int .i64 0), (4, .int .i64 (a0.size : Int)), (5, .int .i64 s12), (6, .int .i64 (max (IntKind.i64.wrap ((a0.size : Int) - 4)) 0))] ∧ gs = []) ⟨Sto.Le.refl _, rfl, rfl⟩ ?_
   rintro s12 o12 h he12 ρ12 τ12 gs12 ⟨hl12, hρ, rfl⟩ hn12
   refine st_es hρ ?_
   refine Z 7 rfl ?_
   refine st_if rfl h (fun h => ?_) (fun h => ?_)
   ·refine Z 7 rfl ?_
    obtain ⟨q13, hf14, h⟩ := h
    refine o_indexS rfl rfl rfl Tryz.underlying9 rfl rfl hf14 ?_
    obtain ⟨r15, hr16, h⟩ := h
    refine st_call (foot := []) rfl rfl rfl rfl rfl rfl (callV_fn z_en178 (unicode_utf8_RuneStart_ok hr16 τ12)) ?_
    rintro vτ17 τ17 gsτ17 hl18 ⟨rfl, rfl⟩
    refine st_end ?_
    refine st_if rfl h (fun h => ?_) (fun h => ?_)
    ·refine st_exit rfl ?_
     obtain rfl := he12 _ h
     replace h := hA12
     exact hk3 _ _ _ ⟨s12, h, (hl12.trans hl18), rfl, rfl⟩
    ·refine Z 7 rfl ?_
     exact hn12 _ _ _ _ h ⟨(hl12.trans hl18), rfl, rfl⟩
   ·refine st_exit rfl ?_
    obtain rfl := he12 _ h
    replace h := hA12
    exact hk3 _ _ _ ⟨s12, h, hl12, rfl, rfl⟩
theorem unicode_utf8_ValidRune_ok {a0 : Int} {r : Bool} (h : unicode_utf8_ValidRune a0 r) (σ : Sto)  :
    Does Tryz.prog 186 [.int .i32 a0] σ [] (fun v τ gs => gs = [] ∧ .bool r = v) := by
 refine call_of Tryz.func186 Tryz.ntmps186 rfl rfl (fun cs fs => ?_)
 refine Z 7 rfl ?_
 refine st_cut (fun ρ τ1 gs => ∃ (s1 : Bool), unicode_utf8_ValidRune_j1 a0 s1 r ∧ σ.Le τ1 ∧ ESub ρ [(0, .int .i32 a0), (2, .bool false), (3, .bool s1)] ∧ gs = []) ?_ (fun hk1 => ?_)
 ·rintro ρ1 τ1 gs1 ⟨s1, h, hl1, hρ, rfl⟩
  refine st_es hρ ?_
  refine st_if rfl h (fun h => ?_) (fun h => ?_)
  ·refine Z 4 rfl ?_
   obtain rfl := Eq.symm h
   exact st_ret (gs' := []) Tryz.func186 rfl (List.Sublist.refl _) hl1 ⟨rfl, rfl⟩
  ·refine st_seq ?_
   refine st_cut (fun ρ τ2 gs => ∃ (s2 : Bool), unicode_utf8_ValidRune_j2 s2 r ∧ τ1.Le τ2 ∧ ESub ρ [(2, .bool false), (10, .bool s2)] ∧ gs = []) ?_ (fun hk2 => ?_)
   ·rintro ρ2 τ2 gs2 ⟨s2, h, hl2, hρ, rfl⟩
    refine st_es hρ ?_
    refine st_if rfl h (fun h => ?_) (fun h => ?_)
    ·refine Z 4 rfl ?_
     obtain rfl := Eq.symm h
     exact st_ret (gs' := []) Tryz.func186 rfl (List.Sublist.refl _) (hl1.trans hl2) ⟨rfl, rfl⟩
    ·refine Z 6 rfl ?_
     obtain rfl := Eq.symm h
     exact st_ret (gs' := []) Tryz.func186 rfl (List.Sublist.refl _) (hl1.trans hl2) ⟨rfl, rfl⟩
   refine Z 3 rfl ?_
   refine o_mif rfl rfl rfl rfl h (fun h => ?_) (fun h => ?_)
   ·refine Z 5 rfl ?_
    exact hk2 _ _ _ ⟨(decide (a0 ≤ 1114111)), h, (Sto.Le.refl _), rfl, rfl⟩
   ·refine Z 5 rfl ?_
    exact hk2 _ _ _ ⟨false, h, (Sto.Le.refl _), rfl, rfl⟩
 refine Z 3 rfl ?_
 refine o_mif rfl rfl rfl rfl h (fun h => ?_) (fun h => ?_)
 ·refine Z 5 rfl ?_
  exact hk1 _ _ _ ⟨(decide (a0 < 55296)), h, (Sto.Le.refl _), rfl, rfl⟩
 ·refine Z 5 rfl ?_
  exact hk1 _ _ _ ⟨false, h, (Sto.Le.refl _), rfl, rfl⟩
theorem strings_IndexRune_ok {a0 : ByteArray} {a1 : Int} {r : Int} (h : strings_IndexRune a0 a1 r) (σ : Sto)  :
    Does Tryz.prog 177 [.string a0, .int .i32 a1] σ [] (fun v τ gs => gs = [] ∧ .int .i64 r = v) := by
 refine call_of Tryz.func177 Tryz.ntmps177 rfl rfl (fun cs fs => ?_)
 refine Z 6 rfl ?_
 refine st_cut (fun ρ τ1 gs => ∃ (s1 : Bool), strings_IndexRune_j1 a0 a1 s1 r ∧ σ.Le τ1 ∧ ESub ρ [(0, .string a0), (1, .int .i32 a1), (4, .int .i64 0), (160, .bool s1)] ∧ gs = []) ?_ (fun hk1 => ?_)
 ·rintro ρ1 τ1 gs1 ⟨s1, h, hl1, hρ, rfl⟩
  refine st_es hρ ?_
  refine st_if rfl h (fun h => ?_) (fun h => ?_)
  ·refine Z 5 rfl ?_
   obtain ⟨r2, hr3, h⟩ := h
   refine st_call (foot := []) rfl rfl rfl rfl rfl rfl (callV_fn z_en105 (strings_IndexByte_ok hr3 τ1)) ?_
   rintro vτ4 τ4 gsτ4 hl5 ⟨rfl, rfl⟩
   refine Z 2 rfl ?_
   obtain rfl := Eq.symm h
   exact st_ret (gs' := []) Tryz.func177 rfl (List.Sublist.refl _) (hl1.trans hl5) ⟨rfl, rfl⟩
  ·refine Z 6 rfl ?_
   refine st_if rfl h (fun h => ?_) (fun h => ?_)
   ·refine Z 4 rfl ?_
    exact h.elim
   ·refine Z 3 rfl ?_
    obtain ⟨r6, hr7, h⟩ := h
    refine st_call (foot := []) rfl rfl rfl rfl rfl rfl (callV_fn z_en186 (unicode_utf8_ValidRune_ok hr7 τ1)) ?_
    rintro vτ8 τ8 gsτ8 hl9 ⟨rfl, rfl⟩
    refine Z 3 rfl ?_
    refine st_if rfl h (fun h => ?_) (fun h => ?_)
    ·refine Z 4 rfl ?_
     obtain rfl := Eq.symm h
     exact st_ret (gs' := []) Tryz.func177 rfl (List.Sublist.refl _) (hl1.trans hl9) ⟨rfl, rfl⟩
    ·refine Z 4 rfl ?_
     exact h.elim
 refine Z 3 rfl ?_
 refine o_mif rfl rfl rfl rfl h (fun h => ?_) (fun h => ?_)
 ·refine Z 5 rfl ?_
  exact hk1 _ _ _ ⟨(decide (a1 < 128)), h, (Sto.Le.refl _), rfl, rfl⟩
 ·refine Z 5 rfl ?_
  exact hk1 _ _ _ ⟨false, h, (Sto.Le.refl _), rfl, rfl⟩
theorem strings_ContainsRune_ok {a0 : ByteArray} {a1 : Int} {r : Bool} (h : strings_ContainsRune a0 a1 r) (σ : Sto)  :
    Does Tryz.prog 165 [.string a0, .int .i32 a1] σ [] (fun v τ gs => gs = [] ∧ .bool r = v) := by
 refine call_of Tryz.func165 Tryz.ntmps165 rfl rfl (fun cs fs => ?_)
 refine Z 8 rfl ?_
 obtain ⟨r1, hr2, h⟩ := h
 refine st_call (foot := []) rfl rfl rfl rfl rfl rfl (callV_fn z_en177 (strings_IndexRune_ok hr2 σ)) ?_
 rintro vτ3 τ3 gsτ3 hl4 ⟨rfl, rfl⟩
 refine Z 3 rfl ?_
 obtain rfl := Eq.symm h
 exact st_ret (gs' := []) Tryz.func165 rfl (List.Sublist.refl _) hl4 ⟨rfl, rfl⟩
theorem strings_trimRightUnicode_ok {a0 : ByteArray} {a1 : ByteArray} {r : ByteArray} (h : strings_trimRightUnicode a0 a1 r) (σ : Sto)  :
    Does Tryz.prog 142 [.string a0, .string a1] σ [] (fun v τ gs => gs = [] ∧ .string r = v) := by
 refine call_of Tryz.func142 Tryz.ntmps142 rfl rfl (fun cs fs => ?_)
 refine Z 2 rfl ?_
 refine o_assign rfl rfl rfl (ev_str z_str0) ?_
 refine Z 2 rfl ?_
 refine st_cut (fun ρ τ1 gs => ∃ (s1 : ByteArray), strings_trimRightUnicode_j1 s1 r ∧ σ.Le τ1 ∧ ESub ρ [(0, .string s1), (4, .string (bstr []))] ∧ gs = []) ?_ (fun hk1 => ?_)
 ·rintro ρ1 τ1 gs1 ⟨s1, h, hl1, hρ, rfl⟩
  refine st_es hρ ?_
  refine Z 5 rfl ?_
  obtain rfl := Eq.symm h
  exact st_ret (gs' := []) Tryz.func142 rfl (List.Sublist.refl _) hl1 ⟨rfl, rfl⟩
 obtain ⟨e2, hL2, hA2⟩ := h
 refine st_loop hL2 (fun (s2 : ByteArray) ρ τ2 gs => σ.Le τ2 ∧ ESub ρ [(0, .string s2), (1, .string a1), (4, .string (bstr []))] ∧ gs = []) ⟨Sto.Le.refl _, rfl, rfl⟩ ?_
 rintro s2 o2 h he2 ρ2 τ2 gs2 ⟨hl2, hρ, rfl⟩ hn2
 refine st_es hρ ?_
 refine Z 7 rfl ?_
 refine st_if rfl h (fun h => ?_) (fun h => ?_)
 ·refine Z 8 rfl ?_
  obtain ⟨q3, hf4, h⟩ := h
  refine o_indexS rfl rfl rfl Tryz.underlying9 rfl rfl hf4 ?_
  refine Z 5 rfl ?_
  refine st_cut (fun ρ τ5 gs => ∃ (s5 : Int × Int), strings_trimRightUnicode_j3 a1 s2 s5 o2 ∧ τ2.Le τ5 ∧ ESub ρ [(0, .string s2), (1, .string a1), (4, .string (bstr [])), (5, .int .i32 s5.1), (6, .int .i64 s5.2)] ∧ gs = []) ?_ (fun hk5 => ?_)
  ·rintro ρ5 τ5 gs5 ⟨s5, h, hl5, hρ, rfl⟩
   refine st_es hρ ?_
   refine Z 5 rfl ?_
   obtain ⟨r6, hr7, h⟩ := h
   refine st_call (foot := []) rfl rfl rfl rfl rfl rfl (callV_fn z_en165 (strings_ContainsRune_ok hr7 τ5)) ?_
   rintro vτ8 τ8 gsτ8 hl9 ⟨rfl, rfl⟩
   refine Z 2 rfl ?_
   refine st_if rfl h (fun h => ?_) (fun h => ?_)
   ·refine st_exit rfl ?_
    obtain rfl := he2 _ h
    replace h := hA2
    exact hk1 _ _ _ ⟨s2, h, ((hl2.trans hl5).trans hl9), rfl, rfl⟩
   ·refine Z 7 rfl ?_
    obtain ⟨hf10, hf11, h⟩ := h
    refine o_sliceSh rfl rfl rfl Tryz.underlying9 rfl rfl hf10 hf11 ?_
    refine Z 3 rfl ?_
    exact hn2 _ _ _ _ h ⟨((hl2.trans hl5).trans hl9), rfl, rfl⟩
  refine Z 5 rfl ?_
  refine st_if rfl h (fun h => ?_) (fun h => ?_)
  ·refine Z 2 rfl ?_
   obtain ⟨r12, hr13, h⟩ := h
   refine st_call (foot := []) rfl rfl rfl rfl rfl rfl (callV_fn z_en166 (unicode_utf8_DecodeLastRuneInString_ok hr13 τ2)) ?_
   rintro vτ14 τ14 gsτ14 hl15 ⟨rfl, rfl⟩
   refine Z 6 rfl ?_
   exact hk5 _ _ _ ⟨(r12.1, r12.2), h, hl15, rfl, rfl⟩
  ·refine st_skip ?_
   exact hk5 _ _ _ ⟨((IntKind.i32.wrap q3), 1), h, (Sto.Le.refl _), rfl, rfl⟩
 ·refine st_exit rfl ?_
  obtain rfl := he2 _ h
  replace h := hA2
  exact hk1 _ _ _ ⟨s2, h, hl2, rfl, rfl⟩
theorem strings_trimLeftUnicode_ok {a0 : ByteArray} {a1 : ByteArray} {r : ByteArray} (h : strings_trimLeftUnicode a0 a1 r) (σ : Sto)  :
    Does Tryz.prog 141 [.string a0, .string a1] σ [] (fun v τ gs => gs = [] ∧ .string r = v) := by
 refine call_of Tryz.func141 Tryz.ntmps141 rfl rfl (fun cs fs => ?_)
 refine Z 2 rfl ?_
 refine o_assign rfl rfl rfl (ev_str z_str0) ?_
 refine Z 2 rfl ?_
 refine st_cut (fun ρ τ1 gs => ∃ (s1 : ByteArray), strings_trimLeftUnicode_j1 s1 r ∧ σ.Le τ1 ∧ ESub ρ [(0, .string s1), (4, .string (bstr []))] ∧ gs = []) ?_ (fun hk1 => ?_)
 ·rintro ρ1 τ1 gs1 ⟨s1, h, hl1, hρ, rfl⟩
  refine st_es hρ ?_
  refine Z 5 rfl ?_
  obtain rfl := Eq.symm h
  exact st_ret (gs' := []) Tryz.func141 rfl (List.Sublist.refl _) hl1 ⟨rfl, rfl⟩
 obtain ⟨e2, hL2, hA2⟩ := h
 refine st_loop hL2 (fun (s2 : ByteArray) ρ τ2 gs => σ.Le τ2 ∧ ESub ρ [(0, .string s2), (1, .string a1), (4, .string (bstr []))] ∧ gs = []) ⟨Sto.Le.refl _, rfl, rfl⟩ ?_
 rintro s2 o2 h he2 ρ2 τ2 gs2 ⟨hl2, hρ, rfl⟩ hn2
 refine st_es hρ ?_
 refine Z 7 rfl ?_
 refine st_if rfl h (fun h => ?_) (fun h => ?_)
 ·refine Z 5 rfl ?_
  obtain ⟨r3, hr4, h⟩ := h
  refine st_call (foot := []) rfl rfl rfl rfl rfl rfl (callV_fn z_en147 (unicode_utf8_DecodeRuneInString_ok hr4 τ2)) ?_
  rintro vτ5 τ5 gsτ5 hl6 ⟨rfl, rfl⟩
  refine Z 11 rfl ?_
  obtain ⟨r7, hr8, h⟩ := h
  refine st_call (foot := []) rfl rfl rfl rfl rfl rfl (callV_fn z_en165 (strings_ContainsRune_ok hr8 τ5)) ?_
  rintro vτ9 τ9 gsτ9 hl10 ⟨rfl, rfl⟩
  refine Z 2 rfl ?_
  refine st_if rfl h (fun h => ?_) (fun h => ?_)
  ·refine st_exit rfl ?_
   obtain rfl := he2 _ h
   replace h := hA2
   exact hk1 _ _ _ ⟨s2, h, ((hl2.trans hl6).trans hl10), rfl, rfl⟩
  ·refine Z 4 rfl ?_
   obtain ⟨hf11, hf12, h⟩ := h
   refine o_sliceSl rfl rfl rfl Tryz.underlying9 rfl rfl hf11 hf12 ?_
   refine Z 3 rfl ?_
   exact hn2 _ _ _ _ h ⟨((hl2.trans hl6).trans hl10), rfl, rfl⟩
 ·refine st_exit rfl ?_
  obtain rfl := he2 _ h
  replace h := hA2
  exact hk1 _ _ _ ⟨s2, h, hl2, rfl, rfl⟩
theorem strings_Trim_ok {a0 : ByteArray} {a1 : ByteArray} {r : ByteArray} (h : strings_Trim a0 a1 r) (σ : Sto)  :
    Does Tryz.prog 108 [.string a0, .string a1] σ [] (fun v τ gs => gs = [] ∧ .string r = v) := by
 refine call_of Tryz.func108 Tryz.ntmps108 rfl rfl (fun cs fs => ?_)
 refine Z 2 rfl ?_
 refine o_assign rfl rfl rfl (ev_str z_str0) ?_
 refine Z 3 rfl ?_
 refine st_cut (fun ρ τ1 gs => ∃ (s1 : Bool), strings_Trim_j1 a0 a1 s1 r ∧ σ.Le τ1 ∧ ESub ρ [(0, .string a0), (1, .string a1), (4, .string (bstr [])), (12, .bool s1)] ∧ gs = []) ?_ (fun hk1 => ?_)
 ·rintro ρ1 τ1 gs1 ⟨s1, h, hl1, hρ, rfl⟩
  refine st_es hρ ?_
  refine st_if rfl h (fun h => ?_) (fun h => ?_)
  ·refine Z 5 rfl ?_
   obtain rfl := Eq.symm h
   exact st_ret (gs' := []) Tryz.func108 rfl (List.Sublist.refl _) hl1 ⟨rfl, rfl⟩
  ·refine Z 3 rfl ?_
   refine st_cut (fun ρ τ2 gs => ∃ (s2 : Bool), strings_Trim_j2 a0 a1 s2 r ∧ τ1.Le τ2 ∧ ESub ρ [(0, .string a0), (1, .string a1), (4, .string (bstr [])), (21, .bool s2)] ∧ gs = []) ?_ (fun hk2 => ?_)
   ·rintro ρ2 τ2 gs2 ⟨s2, h, hl2, hρ, rfl⟩
    refine st_es hρ ?_
    refine st_if rfl h (fun h => ?_) (fun h => ?_)
    ·refine st_seq ?_
     obtain ⟨q3, hf4, r5, hr6, q9, hf10, r11, hr12, h⟩ := h
     refine st_draw 7 (dl [.v (.string a0), .v (.string a1), .v (.int .u8 q3), .v (.string r5), .v (.string a1), .v (.int .u8 q9), .v (.string r11)]) (fun _ _ => []) z_mix rfl (dl_mono trivial) (allB_cons (allB_cons (allB_cons (allB_cons (allB_cons (allB_cons (allB_cons allB_nil (p1 dA)) (p1 dA)) ?_) ?_) (p1 dA)) ?_) ?_) ?_
     ·intro ρ' τ pool rs hl hd hout hk
      obtain ⟨_, e1, rfl⟩ := hd 1 rfl
      refine o_indexS rfl rfl rfl Tryz.underlying9 e1 rfl hf4 ?_
      exact st_addNil (hk _ _ (Sto.Le.refl _) rfl)
     ·intro ρ' τ pool rs hl hd hout hk
      obtain ⟨_, e0, rfl⟩ := hd 0 rfl
      obtain ⟨_, e2, rfl⟩ := hd 2 rfl
      refine st_call (foot := []) rfl rfl rfl rfl (evs_cons e0 (evs_cons e2 rfl)) rfl (callV_fn z_en137 (strings_trimRightByte_ok hr6 τ)) ?_
      rintro vτ7 τ7 gsτ7 hl8 ⟨rfl, rfl⟩
      exact st_addNil (hk _ _ hl8 rfl)
     ·intro ρ' τ pool rs hl hd hout hk
      obtain ⟨_, e4, rfl⟩ := hd 4 rfl
      refine o_indexS rfl rfl rfl Tryz.underlying9 e4 rfl hf10 ?_
      exact st_addNil (hk _ _ (Sto.Le.refl _) rfl)
     ·intro ρ' τ pool rs hl hd hout hk
      obtain ⟨_, e3, rfl⟩ := hd 3 rfl
      obtain ⟨_, e5, rfl⟩ := hd 5 rfl
      refine st_call (foot := []) rfl rfl rfl rfl (evs_cons e3 (evs_cons e5 rfl)) rfl (callV_fn z_en136 (strings_trimLeftByte_ok hr12 τ)) ?_
      rintro vτ13 τ13 gsτ13 hl14 ⟨rfl, rfl⟩
      exact st_addNil (hk _ _ hl14 rfl)
     intro ρ' τ15 vals hl15 hv hout
     refine st_ord [] _ rfl ?_
     refine st_env (ρ' := [(28, .string r11), (0, .string a0), (1, .string a1), (4, .string (bstr []))]) ⟨(lv1 hv 6 rfl rfl), (hout 0 rfl).trans rfl, (hout 1 rfl).trans rfl, (hout 4 rfl).trans rfl, trivial⟩ ?_
     refine Z 2 rfl ?_
     obtain rfl := Eq.symm h
     exact st_ret (gs' := []) Tryz.func108 rfl (List.Sublist.refl _) ((hl1.trans hl2).trans hl15) ⟨rfl, rfl⟩
    ·refine Z 5 rfl ?_
     obtain ⟨r16, hr17, h⟩ := h
     refine st_call (foot := []) rfl rfl rfl rfl rfl rfl (callV_fn z_en138 (strings_makeASCIISet_ok hr17 τ2)) ?_
     rintro vτ18 τ18 gsτ18 hl19 ⟨rfl, rfl⟩
     refine Z 3 rfl ?_
     refine o_alloc rfl rfl rfl z_zero234 (fun b20 => ?_)
     refine o_store (j := 0) (vs := (cellsN Value.bool false 256 r16.1)) (cs' := (cellsN Value.bool false 256 r16.1)) rfl rfl rfl z_size234 rfl rfl rfl ones_cellsNB rfl rfl rfl ?_
     refine st_gs [[(b20, .cells (cellsN Value.bool false 256 r16.1).toArray 234 (0, 0))]] rfl ?_
     refine Z 6 rfl ?_
     refine st_if rfl h (fun h => ?_) (fun h => ?_)
     ·refine Z 3 rfl ?_
      obtain ⟨r21, hr22, h⟩ := h
      refine st_call (foot := [[(b20, .cells (cellsN Value.bool false 256 r16.1).toArray 234 (0, 0))]]) rfl rfl rfl rfl rfl rfl (callV_fn z_en140 (strings_trimRightASCII_ok hr22 τ18)) ?_
      rintro vτ23 τ23 gsτ23 hl24 ⟨rfl, rfl⟩
      obtain ⟨r25, hr26, h⟩ := h
      refine st_call (foot := [[(b20, .cells (cellsN Value.bool false 256 r16.1).toArray 234 (0, 0))]]) rfl rfl rfl rfl rfl rfl (callV_fn z_en139 (strings_trimLeftASCII_ok hr26 τ23)) ?_
      rintro vτ27 τ27 gsτ27 hl28 ⟨rfl, rfl⟩
      refine Z 2 rfl ?_
      refine st_ord [] _ rfl ?_
      obtain rfl := Eq.symm h
      exact st_ret (gs' := []) Tryz.func108 rfl (List.Sublist.refl _) ((((hl1.trans hl2).trans hl19).trans hl24).trans hl28) ⟨rfl, rfl⟩
     ·refine Z 5 rfl ?_
      obtain ⟨r29, hr30, h⟩ := h
      refine st_call (foot := []) rfl rfl rfl rfl rfl rfl (callV_fn z_en142 (strings_trimRightUnicode_ok hr30 τ18)) ?_
      rintro vτ31 τ31 gsτ31 hl32 ⟨rfl, rfl⟩
      refine o_move rfl rfl rfl rfl ?_
      obtain ⟨r33, hr34, h⟩ := h
      refine st_call (foot := []) rfl rfl rfl rfl rfl rfl (callV_fn z_en141 (strings_trimLeftUnicode_ok hr34 τ31)) ?_
      rintro vτ35 τ35 gsτ35 hl36 ⟨rfl, rfl⟩
      refine Z 2 rfl ?_
      refine st_ord [] _ rfl ?_
      obtain rfl := Eq.symm h
      exact st_ret (gs' := []) Tryz.func108 rfl (List.Sublist.refl _) ((((hl1.trans hl2).trans hl19).trans hl32).trans hl36) ⟨rfl, rfl⟩
   refine Z 4 rfl ?_
   refine o_mif rfl rfl rfl rfl h (fun h => ?_) (fun h => ?_)
   ·refine o_move rfl rfl rfl rfl ?_
    obtain ⟨q37, hf38, h⟩ := h
    refine o_indexS rfl rfl rfl Tryz.underlying9 rfl rfl hf38 ?_
    refine Z 3 rfl ?_
    exact hk2 _ _ _ ⟨(decide (q37 < 128)), h, (Sto.Le.refl _), rfl, rfl⟩
   ·refine Z 5 rfl ?_
    exact hk2 _ _ _ ⟨false, h, (Sto.Le.refl _), rfl, rfl⟩
 refine Z 2 rfl ?_
 refine o_sbin (v := .bool (decide (a0 = (bstr [])))) rfl rfl rfl rfl (ev_str z_str0) rfl ?_
 refine o_mif rfl rfl rfl rfl h (fun h => ?_) (fun h => ?_)
 ·refine Z 4 rfl ?_
  exact hk1 _ _ _ ⟨true, h, (Sto.Le.refl _), rfl, rfl⟩
 ·refine o_move rfl rfl rfl rfl ?_
  refine o_sbin (v := .bool (decide (a1 = (bstr [])))) rfl rfl rfl rfl (ev_str z_str0) rfl ?_
  refine Z 2 rfl ?_
  exact hk1 _ _ _ ⟨(decide (a1 = (bstr []))), h, (Sto.Le.refl _), rfl, rfl⟩
theorem say_Read_ok {a0 : ByteArray} {r : Int × Int} (h : say_Read a0 r) (σ : Sto) (hE : Errs Tryz.prog σ) :
    Does Tryz.prog 66 [.string a0] σ [] (fun v τ gs => gs = [] ∧ .tuple [.int .i64 r.1, .int .i64 r.2].toArray = v) := by
 refine call_of Tryz.func66 Tryz.ntmps66 rfl rfl (fun cs fs => ?_)
 refine Z 8 rfl ?_
 obtain ⟨r1, hr2, h⟩ := h
 refine st_call (foot := []) rfl rfl rfl rfl rfl rfl (callV_fn z_en106 (strconv_ParseInt_ok hr2 σ hE)) ?_
 rintro vτ3 τ3 gsτ3 hl4 ⟨v5, rfl, rfl, hi6⟩
 refine Z 9 rfl ?_
 obtain ⟨r7, hr8, h⟩ := h
 refine st_call (foot := []) rfl rfl rfl rfl (evs_cons rfl (evs_cons (ev_str z_str7) rfl)) rfl (callV_fn z_en107 (strings_TrimPrefix_ok hr8 τ3)) ?_
 rintro vτ9 τ9 gsτ9 hl10 ⟨rfl, rfl⟩
 refine Z 5 rfl ?_
 refine st_cut (fun ρ τ11 gs => ∃ (s11 : Bool), say_Read_j1 r1 s11 r ∧ τ9.Le τ11 ∧ ESub ρ [(2, .int .i64 0), (3, .int .i64 0), (4, .int .i64 r1.1), (5, v5), (14, .bool s11)] ∧ gs = []) ?_ (fun hk11 => ?_)
 ·rintro ρ11 τ11 gs11 ⟨s11, h, hl11, hρ, rfl⟩
  refine st_es hρ ?_
  refine st_if rfl h (fun h => ?_) (fun h => ?_)
  ·refine Z 5 rfl ?_
   obtain rfl := Eq.symm h
   exact st_ret (gs' := []) Tryz.func66 rfl (List.Sublist.refl _) ((hl4.trans hl10).trans hl11) ⟨rfl, rfl⟩
  ·refine Z 3 rfl ?_
   refine o_ifNil rfl rfl rfl Tryz.underlying195 rfl (hi6.up (hl10.trans hl11)) rfl ?_
   refine Z 2 rfl ?_
   refine st_if rfl h (fun h => ?_) (fun h => ?_)
   ·refine Z 5 rfl ?_
    obtain rfl := Eq.symm h
    exact st_ret (gs' := []) Tryz.func66 rfl (List.Sublist.refl _) ((hl4.trans hl10).trans hl11) ⟨rfl, rfl⟩
   ·refine Z 8 rfl ?_
    obtain rfl := Eq.symm h
    exact st_ret (gs' := []) Tryz.func66 rfl (List.Sublist.refl _) ((hl4.trans hl10).trans hl11) ⟨rfl, rfl⟩
 refine Z 2 rfl ?_
 refine o_sbin (v := .bool (decide (r7 = (bstr [])))) rfl rfl rfl rfl (ev_str z_str0) rfl ?_
 refine o_mif rfl rfl rfl rfl h (fun h => ?_) (fun h => ?_)
 ·refine Z 15 rfl ?_
  exact hk11 _ _ _ ⟨true, h, (Sto.Le.refl _), rfl, rfl⟩
 ·refine o_move rfl rfl rfl rfl ?_
  obtain ⟨r12, hr13, h⟩ := h
  refine st_call (foot := []) rfl rfl rfl rfl (evs_cons rfl (evs_cons (ev_str z_str9) rfl)) rfl (callV_fn z_en108 (strings_Trim_ok hr13 τ9)) ?_
  rintro vτ14 τ14 gsτ14 hl15 ⟨rfl, rfl⟩
  refine o_sbin (v := .bool (!(decide (r12 = (bstr []))))) rfl rfl rfl rfl (ev_str z_str0) rfl ?_
  refine o_pick rfl rfl rfl rfl rfl ?_
  refine o_mif rfl rfl rfl rfl h (fun h => ?_) (fun h => ?_)
  ·refine Z 10 rfl ?_
   exact hk11 _ _ _ ⟨true, h, hl15, rfl, rfl⟩
  ·refine o_move rfl rfl rfl rfl ?_
   obtain ⟨q16, hf17, h⟩ := h
   refine o_indexS rfl rfl rfl Tryz.underlying9 rfl rfl hf17 ?_
   refine o_ibin (v := .bool (decide (q16 = 48))) rfl rfl rfl rfl rfl rfl ?_
   refine o_mif rfl rfl rfl rfl h (fun h => ?_) (fun h => ?_)
   ·refine o_move rfl rfl rfl rfl ?_
    refine o_sbin (v := .bool (!(decide (a0 = (bstr [48]))))) rfl rfl rfl rfl (ev_str z_str10) rfl ?_
    refine Z 4 rfl ?_
    exact hk11 _ _ _ ⟨(!(decide (a0 = (bstr [48])))), h, hl15, rfl, rfl⟩
   ·refine Z 6 rfl ?_
    exact hk11 _ _ _ ⟨false, h, hl15, rfl, rfl⟩
theorem noise_Parse_ok {a0 : ByteArray} {r : (Int × Int × Int × Int × List Int) × Int} (h : noise_Parse a0 r) (σ : Sto) (hE : Errs Tryz.prog σ) :
    Does Tryz.prog 32 [.string a0] σ [] (fun v τ gs => ∃ (v77 : Value), gs = [] ∧ .tuple [.agg [.int .i64 r.1.1, .int .i64 r.1.2.1, .int .i64 r.1.2.2.1, .int .i64 r.1.2.2.2.1, v77].toArray, .int .i64 r.2].toArray = v ∧ Sl (kI .u8) τ v77 r.1.2.2.2.2) := by
 refine call_of Tryz.func32 Tryz.ntmps32 rfl rfl (fun cs fs => ?_)
 refine Z 2 rfl ?_
 refine o_alloc rfl rfl rfl z_zero67 (fun b1 => ?_)
 refine Z 5 rfl ?_
 refine o_alloc rfl rfl rfl z_zero106 (fun b2 => ?_)
 refine Z 5 rfl ?_
 obtain ⟨r3, hr4, h⟩ := h
 refine st_call (foot := []) rfl rfl rfl rfl rfl rfl (callV_fn z_en41 (say_Words_ok hr4 σ)) ?_
 rintro vτ5 τ5 gsτ5 hl6 ⟨f7, q8, rfl, rfl, hit9⟩
 refine Z 2 rfl ?_
 obtain ⟨t10, w10, hR10, hA10⟩ := h
 refine st_env (ρ' := [(2, .pointer (some ⟨b1, 0, none⟩)), (3, .int .i64 0), (4, .pointer (some ⟨b2, 0, none⟩)), (16, .func (.func f7) #[] q8)]) ⟨rfl, rfl, rfl, rfl, trivial⟩ ?_
 refine st_addNil ?_
 refine st_ord [2, 1, 0] _ rfl ?_
 refine st_addNil ?_
 refine st_range (B := noise_Parse_l1) (s0 := []) ranges_fctx rfl hit9 (Sto.Le.refl _) hR10 rfl (fun _ _ _ h => by cases h; rfl) (fun (s10 : List ByteArray) τ10 gs => τ5.Le τ10 ∧ ∃ (v11 : Value) (g12 : Grp), gs = [[(b1, .cells #[.int .i64 0, .int .i64 0, .int .i64 0, .int .i64 0, .slice none 0 0] 67 (0, 0))], [(b2, .cells #[v11] 106 (0, 0))], g12] ∧ Ow kS 9 τ10 v11 s10 g12) (fun _ _ _ _ => False) (fun _ _ _ _ hl ⟨hb, v11, g12, hg, ho13⟩ => ⟨hb.trans hl, v11, g12, hg, ho13.up hl⟩) (fun _ _ _ _ _ _ h => h.elim) ⟨Sto.Le.refl _, _, _, rfl, Ow.nil⟩ ?_ ?_ ?_
 ·rintro x10 s10 o10 τ10 gs10 vx10 hl10 h rfl ⟨hb10, v11, g12, rfl, ho13⟩ l10 rc10 caller10 cs10 fs10
  refine Z 3 rfl ?_
  refine st_begin ?_
  refine ZZ 4 [1] rfl rfl ?_
  refine o_litE eS [x10.2] rfl rfl rfl z_slT106 z_zero9 ⟨rfl, ⟨_, rfl, rfl⟩, trivial⟩ rfl rfl rfl rfl (fun v14 g15 ho16 => ?_)
  obtain ⟨hf20, hf21, h⟩ := h
  refine st_ord [3, 0, 0, 0] _ rfl ?_
  refine o_append (dk := kS) (xs := s10) (ys := [x10.2]) rfl rfl rfl rfl z_slT106 rfl ho13 rfl (Ow.src (j := 1) ho16 rfl) hf20 hf21 (fun v17 g18 ho19 => ?_)
  refine o_store (j := 3) (vs := [v17]) (cs' := [v17]) rfl rfl rfl z_size106 rfl rfl (oneL_ow ho19) (ones_cons ho19.one' ones_nil) rfl rfl rfl ?_
  refine st_gs [g18, g15, [(b1, .cells #[.int .i64 0, .int .i64 0, .int .i64 0, .int .i64 0, .slice none 0 0] 67 (0, 0))], [(b2, .cells #[v17] 106 (0, 0))]] rfl ?_
  refine Z 2 rfl ?_
  refine st_ord [2, 2, 0] _ rfl ?_
  exact st_rend (List.Sublist.refl _) (Sto.Le.refl _) ⟨_, h, hl10, _, _, rfl, ho19⟩
 ·rintro p22 τ23 gs10 f10 ht hl24 ⟨hb, v25, g26, rfl, ho27⟩ rfl
  subst ht
  replace h := hA10
  refine st_ord [1, 1, 1] _ rfl ?_
  refine Z 3 rfl ?_
  refine o_alloc rfl rfl rfl z_zero67 (fun b28 => ?_)
  refine Z 6 rfl ?_
  refine st_cut (fun ρ τ29 gs => ∃ (s29 : Int × Int), noise_Parse_j2 p22 s29 r ∧ τ23.Le τ29 ∧ ESub ρ [(2, .pointer (some ⟨b1, 0, none⟩)), (3, .int .i64 0), (4, .pointer (some ⟨b2, 0, none⟩)), (7, .pointer (some ⟨b28, 0, none⟩)), (8, .int .i64 s29.1)] ∧ gs = [[(b1, .cells #[.int .i64 0, .int .i64 0, .int .i64 0, .int .i64 0, .slice none 0 0] 67 (0, 0))], [(b2, .cells #[v25] 106 (0, 0))], [(b28, .cells #[.int .i64 s29.2, .int .i64 0, .int .i64 0, .int .i64 0, .slice none 0 0] 67 (0, 0))], g26]) ?_ (fun hk29 => ?_)
  ·rintro ρ29 τ29 gs29 ⟨s29, h, hl29, hρ, rfl⟩
   refine st_es hρ ?_
   refine Z 5 rfl ?_
   refine st_cut (fun ρ τ30 gs => ∃ (s30 : Int × List Int) (v31 : Value), noise_Parse_j3 p22 s29 s30 r ∧ τ29.Le τ30 ∧ ESub ρ [(2, .pointer (some ⟨b1, 0, none⟩)), (3, .int .i64 0), (4, .pointer (some ⟨b2, 0, none⟩)), (7, .pointer (some ⟨b28, 0, none⟩)), (8, .int .i64 s29.1), (12, .int .i64 s30.1)] ∧ gs = [[(b1, .cells #[.int .i64 0, .int .i64 0, .int .i64 0, .int .i64 0, .slice none 0 0] 67 (0, 0))], [(b2, .cells #[v25] 106 (0, 0))], [(b28, .cells #[.int .i64 s29.2, .int .i64 0, .int .i64 0, .int .i64 0, v31] 67 (0, 0))], g26] ∧ Sl (kI .u8) τ30 v31 s30.2) ?_ (fun hk30 => ?_)
   ·rintro ρ30 τ30 gs30 ⟨s30, v31, h, hl30, hρ, rfl, hs32⟩
    refine st_es hρ ?_
    refine Z 6 rfl ?_
    refine st_if rfl h (fun h => ?_) (fun h => ?_)
    ·refine ZZ 7 [0] rfl rfl ?_
     obtain rfl := Eq.symm h
     exact st_retC (gs' := []) [.agg #[.int .i64 0, .int .i64 0, .int .i64 0, .int .i64 0, .slice none 0 0], .int .i64 s30.1] Tryz.func32 ⟨⟨_, _, _, _, rfl, mem_flat 0 rfl, fun w hw => cellOfN (vs := [.int .i64 0, .int .i64 0, .int .i64 0, .int .i64 0, .slice none 0 0]) z_agg67 rfl w hw⟩, rfl, trivial⟩ (by simp) (((hl6.trans hl24).trans hl29).trans hl30) ⟨_, rfl, rfl, Sl.nil⟩
    ·refine Z 4 rfl ?_
     refine st_cut (fun ρ τ33 gs => ∃ (s33 : Int × Int × Int), noise_Parse_j4 s29 s30 s33 r ∧ τ30.Le τ33 ∧ ESub ρ [(2, .pointer (some ⟨b1, 0, none⟩)), (3, .int .i64 0), (7, .pointer (some ⟨b28, 0, none⟩))] ∧ gs = [[(b1, .cells #[.int .i64 0, .int .i64 0, .int .i64 0, .int .i64 0, .slice none 0 0] 67 (0, 0))], [(b28, .cells #[.int .i64 s29.2, .int .i64 s33.1, .int .i64 s33.2.1, .int .i64 s33.2.2, v31] 67 (0, 0))]]) ?_ (fun hk33 => ?_)
     ·rintro ρ33 τ33 gs33 ⟨s33, h, hl33, hρ, rfl⟩
      refine st_es hρ ?_
      refine ZZ 3 [1] rfl rfl ?_
      refine o_store (j := 0) (vs := [.int .i64 s29.2, .int .i64 s33.1, .int .i64 s33.2.1, .int .i64 s33.2.2, v31]) (cs' := [.int .i64 s29.2, .int .i64 s33.1, .int .i64 s33.2.1, .int .i64 s33.2.2, v31]) rfl rfl rfl z_size67 rfl rfl rfl (ones_cons rfl (ones_cons rfl (ones_cons rfl (ones_cons rfl (ones_cons (hs32.up hl33).one' ones_nil))))) rfl rfl rfl ?_
      refine st_gs [[(b1, .cells #[.int .i64 s29.2, .int .i64 s33.1, .int .i64 s33.2.1, .int .i64 s33.2.2, v31] 67 (0, 0))], [(b28, .cells #[.int .i64 s29.2, .int .i64 s33.1, .int .i64 s33.2.1, .int .i64 s33.2.2, v31] 67 (0, 0))]] rfl ?_
      refine Z 2 rfl ?_
      obtain rfl := Eq.symm h
      exact st_retC (gs' := []) [.agg #[.int .i64 s29.2, .int .i64 s33.1, .int .i64 s33.2.1, .int .i64 s33.2.2, v31], .int .i64 0] Tryz.func32 ⟨⟨_, _, _, _, rfl, mem_flat 0 rfl, fun w hw => cellOfN (vs := [.int .i64 s29.2, .int .i64 s33.1, .int .i64 s33.2.1, .int .i64 s33.2.2, v31]) z_agg67 rfl w hw⟩, rfl, trivial⟩ (by simp) ((((hl6.trans hl24).trans hl29).trans hl30).trans hl33) ⟨_, rfl, rfl, (hs32.up hl33)⟩
     refine Z 5 rfl ?_
     refine o_buildA (ps := [(0, [.pointer (some ⟨b28, 1, none⟩)]), (1, [.pointer (some ⟨b28, 2, none⟩)]), (2, [.pointer (some ⟨b28, 3, none⟩)])]) (cs := [.pointer (some ⟨b28, 1, none⟩), .pointer (some ⟨b28, 2, none⟩), .pointer (some ⟨b28, 3, none⟩)]) rfl rfl rfl z_arrz144 ⟨rfl, ⟨_, rfl, rfl⟩, ⟨rfl, ⟨_, rfl, rfl⟩, ⟨rfl, ⟨_, rfl, rfl⟩, trivial⟩⟩⟩ (fill_all [.pointer (some ⟨b28, 1, none⟩), .pointer (some ⟨b28, 2, none⟩), .pointer (some ⟨b28, 3, none⟩)] _ rfl) ?_
     refine Z 2 rfl ?_
     obtain ⟨e34, hL34, hA34⟩ := h
     refine st_loop hL34 (fun (s34 : Int × Int × Int × Int) ρ τ34 gs => τ30.Le τ34 ∧ ESub ρ [(2, .pointer (some ⟨b1, 0, none⟩)), (3, .int .i64 0), (4, .pointer (some ⟨b2, 0, none⟩)), (7, .pointer (some ⟨b28, 0, none⟩)), (8, .int .i64 s29.1), (69, .agg #[.pointer (some ⟨b28, 1, none⟩), .pointer (some ⟨b28, 2, none⟩), .pointer (some ⟨b28, 3, none⟩)]), (70, .int .i64 s34.1)] ∧ gs = [[(b1, .cells #[.int .i64 0, .int .i64 0, .int .i64 0, .int .i64 0, .slice none 0 0] 67 (0, 0))], [(b2, .cells #[v25] 106 (0, 0))], [(b28, .cells #[.int .i64 s29.2, .int .i64 s34.2.1, .int .i64 s34.2.2.1, .int .i64 s34.2.2.2, v31] 67 (0, 0))], g26]) ⟨Sto.Le.refl _, rfl, rfl⟩ ?_
     rintro s34 o34 h he34 ρ34 τ34 gs34 ⟨hl34, hρ, rfl⟩ hn34
     refine st_es hρ ?_
     refine Z 5 rfl ?_
     refine st_if rfl h (fun h => ?_) (fun h => ?_)
     ·refine Z 6 rfl ?_
      obtain ⟨hf35, hf36, h⟩ := h
      refine o_indexP (b := b28) (o := 1) (l := 3) (cs := [.pointer (some ⟨b28, 1, none⟩), .pointer (some ⟨b28, 2, none⟩), .pointer (some ⟨b28, 3, none⟩)]) rfl rfl rfl z_arr144 z_sc143 rfl rfl rfl hf35 hf36 ?_
      refine Z 10 rfl ?_
      refine st_if rfl h (fun h => ?_) (fun h => ?_)
      ·refine st_exit rfl ?_
       obtain rfl := he34 _ h
       replace h := hA34
       refine st_ord [0, 1] _ rfl ?_
       exact hk33 _ _ _ ⟨(s34.2.1, s34.2.2.1, s34.2.2.2), h, hl34, rfl, rfl⟩
      ·refine ZZ 7 [1] rfl rfl ?_
       obtain ⟨q37, hf38, h⟩ := h
       refine o_indexOw rfl rfl rfl z_slT106 rfl rfl (ho27.up ((hl29.trans hl30).trans hl34)) rfl hf38 (fun b39 hb40 => ?_)
       obtain ⟨vs41, hrep42, hat43⟩ := Ow.at (ho27.up ((hl29.trans hl30).trans hl34)) hb40 hf38
       obtain rfl := hrep42
       refine o_loadOw (off := 0) (j := 3) (v := .string q37) rfl rfl rfl z_sc9 rfl hat43 rfl rfl ?_
       obtain ⟨r44, hr45, h⟩ := h
       refine st_call (foot := []) rfl rfl rfl rfl rfl rfl (callV_fn z_en66 (say_Read_ok hr45 τ34 (hE.up ((((hl6.trans hl24).trans hl29).trans hl30).trans hl34)))) ?_
       rintro vτ46 τ46 gsτ46 hl47 ⟨rfl, rfl⟩
       refine Z 4 rfl ?_
       refine o_storeV (j := 2) (s34.1.toNat) (f := (Value.int .i64)) (zz := 0) (a := r44.1) (l := 3) (xs := [s34.2.1, s34.2.2.1, s34.2.2.2]) [.int .i64 s29.2] [v31] rfl rfl rfl z_size3 rfl rfl rfl rfl rfl (by simp only [List.length_cons, List.length_nil] <;> omega) (by omega) ?_
       refine st_gs [[(b1, .cells #[.int .i64 0, .int .i64 0, .int .i64 0, .int .i64 0, .slice none 0 0] 67 (0, 0))], [(b2, .cells #[v25] 106 (0, 0))], [(b28, .cells #[.int .i64 s29.2, .int .i64 ((putN 3 0 [s34.2.1, s34.2.2.1, s34.2.2.2] s34.1.toNat r44.1).getD 0 0), .int .i64 ((putN 3 0 [s34.2.1, s34.2.2.1, s34.2.2.2] s34.1.toNat r44.1).getD 1 0), .int .i64 ((putN 3 0 [s34.2.1, s34.2.2.1, s34.2.2.2] s34.1.toNat r44.1).getD 2 0), v31] 67 (0, 0))], g26] rfl ?_
       refine Z 7 rfl ?_
       refine st_if rfl h (fun h => ?_) (fun h => ?_)
       ·refine ZZ 7 [0] rfl rfl ?_
        obtain rfl := he34 _ h
        replace h := hA34
        obtain rfl := Eq.symm h
        exact st_retC (gs' := []) [.agg #[.int .i64 0, .int .i64 0, .int .i64 0, .int .i64 0, .slice none 0 0], .int .i64 r44.2] Tryz.func32 ⟨⟨_, _, _, _, rfl, mem_flat 0 rfl, fun w hw => cellOfN (vs := [.int .i64 0, .int .i64 0, .int .i64 0, .int .i64 0, .slice none 0 0]) z_agg67 rfl w hw⟩, rfl, trivial⟩ (by simp) (((((hl6.trans hl24).trans hl29).trans hl30).trans hl34).trans hl47) ⟨_, rfl, rfl, Sl.nil⟩
       ·refine Z 6 rfl ?_
        exact hn34 _ _ _ _ h ⟨(hl34.trans hl47), rfl, rfl⟩
     ·refine st_exit rfl ?_
      obtain rfl := he34 _ h
      replace h := hA34
      refine st_ord [0, 1] _ rfl ?_
      exact hk33 _ _ _ ⟨(s34.2.1, s34.2.2.1, s34.2.2.2), h, hl34, rfl, rfl⟩
   refine ZZ 8 [2] rfl rfl ?_
   refine st_if rfl h (fun h => ?_) (fun h => ?_)
   ·refine Z 4 rfl ?_
    exact hk30 _ _ _ ⟨(9, []), _, h, (Sto.Le.refl _), rfl, rfl, Sl.nil⟩
   ·refine ZZ 3 [1] rfl rfl ?_
    refine o_lenO rfl rfl rfl z_slT106 rfl (ho27.up hl29) ?_
    refine Z 6 rfl ?_
    refine st_if rfl h (fun h => ?_) (fun h => ?_)
    ·refine Z 4 rfl ?_
     exact hk30 _ _ _ ⟨(3, []), _, h, (Sto.Le.refl _), rfl, rfl, Sl.nil⟩
    ·refine Z 6 rfl ?_
     refine st_if rfl h (fun h => ?_) (fun h => ?_)
     ·refine ZZ 2 [1] rfl rfl ?_
      obtain ⟨q50, hf51, h⟩ := h
      refine o_indexOw rfl rfl rfl z_slT106 rfl rfl (ho27.up hl29) rfl hf51 (fun b52 hb53 => ?_)
      obtain ⟨vs54, hrep55, hat56⟩ := Ow.at (ho27.up hl29) hb53 hf51
      obtain rfl := hrep55
      refine o_loadOw (off := 0) (j := 3) (v := .string q50) rfl rfl rfl z_sc9 rfl hat56 rfl rfl ?_
      obtain ⟨r57, hr58, h⟩ := h
      refine st_call (foot := []) rfl rfl rfl rfl rfl rfl (callV_fn z_en65 (noise_unhex_ok hr58 τ29)) ?_
      rintro vτ59 τ59 gsτ59 hl60 ⟨v61, rfl, rfl, hs62⟩
      refine Z 4 rfl ?_
      refine o_store (j := 2) (vs := [v61]) (cs' := [.int .i64 s29.2, .int .i64 0, .int .i64 0, .int .i64 0, v61]) rfl rfl rfl z_size23 rfl rfl (oneL_sl hs62) (ones_cons hs62.one' ones_nil) rfl rfl rfl ?_
      refine st_gs [[(b1, .cells #[.int .i64 0, .int .i64 0, .int .i64 0, .int .i64 0, .slice none 0 0] 67 (0, 0))], [(b2, .cells #[v25] 106 (0, 0))], [(b28, .cells #[.int .i64 s29.2, .int .i64 0, .int .i64 0, .int .i64 0, v61] 67 (0, 0))], g26] rfl ?_
      refine Z 3 rfl ?_
      exact hk30 _ _ _ ⟨(r57.2, r57.1), _, h, hl60, rfl, rfl, hs62⟩
     ·refine Z 2 rfl ?_
      exact hk30 _ _ _ ⟨(0, []), _, h, (Sto.Le.refl _), rfl, rfl, Sl.nil⟩
  refine Z 4 rfl ?_
  obtain ⟨e63, hL63, hA63⟩ := h
  refine st_ord [1, 1, 0, 0] _ rfl ?_
  refine st_loop hL63 (fun (s63 : Int × Int × Int) ρ τ63 gs => τ23.Le τ63 ∧ ESub ρ [(2, .pointer (some ⟨b1, 0, none⟩)), (3, .int .i64 0), (4, .pointer (some ⟨b2, 0, none⟩)), (7, .pointer (some ⟨b28, 0, none⟩)), (8, .int .i64 s63.1), (9, .int .i64 s63.2.1)] ∧ gs = [[(b1, .cells #[.int .i64 0, .int .i64 0, .int .i64 0, .int .i64 0, .slice none 0 0] 67 (0, 0))], [(b2, .cells #[v25] 106 (0, 0))], [(b28, .cells #[.int .i64 s63.2.2, .int .i64 0, .int .i64 0, .int .i64 0, .slice none 0 0] 67 (0, 0))], g26]) ⟨Sto.Le.refl _, rfl, rfl⟩ ?_
  rintro s63 o63 h he63 ρ63 τ63 gs63 ⟨hl63, hρ, rfl⟩ hn63
  refine st_es hρ ?_
  refine Z 6 rfl ?_
  refine st_if rfl h (fun h => ?_) (fun h => ?_)
  ·refine Z 2 rfl ?_
   refine st_cut (fun ρ τ64 gs => ∃ (s64 : Int × Int), noise_Parse_j7 s63 s64 o63 ∧ τ63.Le τ64 ∧ ESub ρ [(2, .pointer (some ⟨b1, 0, none⟩)), (3, .int .i64 0), (4, .pointer (some ⟨b2, 0, none⟩)), (7, .pointer (some ⟨b28, 0, none⟩)), (8, .int .i64 s64.1), (9, .int .i64 s63.2.1)] ∧ gs = [[(b1, .cells #[.int .i64 0, .int .i64 0, .int .i64 0, .int .i64 0, .slice none 0 0] 67 (0, 0))], [(b2, .cells #[v25] 106 (0, 0))], [(b28, .cells #[.int .i64 s64.2, .int .i64 0, .int .i64 0, .int .i64 0, .slice none 0 0] 67 (0, 0))], g26]) ?_ (fun hk64 => ?_)
   ·rintro ρ64 τ64 gs64 ⟨s64, h, hl64, hρ, rfl⟩
    refine st_es hρ ?_
    refine Z 5 rfl ?_
    exact hn63 _ _ _ _ h ⟨(hl63.trans hl64), rfl, rfl⟩
   refine Z 4 rfl ?_
   obtain ⟨r65, hr66, h⟩ := h
   refine st_call (foot := []) rfl rfl rfl rfl rfl rfl (callV_fn z_en64 (noise_word_ok hr66 τ63)) ?_
   rintro vτ67 τ67 gsτ67 hl68 ⟨rfl, rfl⟩
   refine ZZ 10 [1] rfl rfl ?_
   obtain ⟨q69, hf70, h⟩ := h
   refine o_indexOw rfl rfl rfl z_slT106 rfl rfl (ho27.up (hl63.trans hl68)) rfl hf70 (fun b71 hb72 => ?_)
   obtain ⟨vs73, hrep74, hat75⟩ := Ow.at (ho27.up (hl63.trans hl68)) hb72 hf70
   obtain rfl := hrep74
   refine o_loadOw (off := 0) (j := 3) (v := .string q69) rfl rfl rfl z_sc9 rfl hat75 rfl rfl ?_
   refine Z 2 rfl ?_
   refine st_if rfl h (fun h => ?_) (fun h => ?_)
   ·refine ZZ 8 [2] rfl rfl ?_
    exact hk64 _ _ _ ⟨(r65.2, s63.2.1), h, hl68, rfl, rfl⟩
   ·refine Z 2 rfl ?_
    exact hk64 _ _ _ ⟨(s63.1, s63.2.2), h, hl68, rfl, rfl⟩
  ·refine st_exit rfl ?_
   obtain rfl := he63 _ h
   replace h := hA63
   exact hk29 _ _ _ ⟨(s63.1, s63.2.2), h, hl63, rfl, rfl⟩
 ·exact fun _ _ _ _ _ _ _ h => h.elim
theorem law26_known_ok  {r : Bool} (h : law26_known r) (σ : Sto) (hE : Errs Tryz.prog σ) :
    Does Tryz.prog 11 [] σ [] (fun v τ gs => gs = [] ∧ .bool r = v) := by
 refine call_of Tryz.func11 Tryz.ntmps11 rfl rfl (fun cs fs => ?_)
 refine Z 6 rfl ?_
 refine o_litE (eI .u8) [1, 2, 3] rfl rfl rfl z_slT23 z_zero5 ⟨rfl, ⟨_, rfl, rfl⟩, ⟨rfl, ⟨_, rfl, rfl⟩, ⟨rfl, ⟨_, rfl, rfl⟩, trivial⟩⟩⟩ rfl rfl rfl rfl (fun v1 g2 ho3 => ?_)
 refine st_freeze (fun τ4 hl5 hg6 => ?_)
 have hs7 := ho3.freeze hl5 hg6
 refine o_lit (dk := (kSl (kI .u8))) (xs := [[1, 2, 3]]) (ps := [(0, [v1])]) (cs := [v1]) rfl rfl rfl z_slT22 z_zero23 ⟨rfl, ⟨_, rfl, (oneL_sl hs7)⟩, trivial⟩ rfl rfl rfl rfl (Kd.Many.cons (d := (kSl (kI .u8))) (x := [1, 2, 3]) (a := [v1]) ⟨_, rfl, hs7⟩ Kd.Many.nil) (fun v8 g9 ho10 => ?_)
 refine ZZ 7 [] rfl rfl ?_
 refine o_lit (dk := (kP (kI .i64) (kP (kI .i64) (kP (kI .i64) (kP (kI .i64) (kSl (kI .u8))))))) (xs := [(2, 0, 1, 5, []), (3, 0, 2, 255, [])]) (ps := [(0, [.int .i64 2, .int .i64 0, .int .i64 1, .int .i64 5, .slice none 0 0]), (1, [.int .i64 3, .int .i64 0, .int .i64 2, .int .i64 255, .slice none 0 0])]) (cs := [.int .i64 2, .int .i64 0, .int .i64 1, .int .i64 5, .slice none 0 0, .int .i64 3, .int .i64 0, .int .i64 2, .int .i64 255, .slice none 0 0]) rfl rfl rfl z_slT64 z_zero67 ⟨rfl, ⟨_, rfl, rfl⟩, ⟨rfl, ⟨_, rfl, rfl⟩, trivial⟩⟩ rfl rfl rfl rfl (Kd.Many.cons (d := (kP (kI .i64) (kP (kI .i64) (kP (kI .i64) (kP (kI .i64) (kSl (kI .u8))))))) (x := (2, 0, 1, 5, [])) (a := [.int .i64 2, .int .i64 0, .int .i64 1, .int .i64 5, .slice none 0 0]) ⟨[.int .i64 2], _, rfl, rfl, ⟨[.int .i64 0], _, rfl, rfl, ⟨[.int .i64 1], _, rfl, rfl, ⟨[.int .i64 5], _, rfl, rfl, ⟨_, rfl, Sl.nil⟩⟩⟩⟩⟩ (Kd.Many.cons (d := (kP (kI .i64) (kP (kI .i64) (kP (kI .i64) (kP (kI .i64) (kSl (kI .u8))))))) (x := (3, 0, 2, 255, [])) (a := [.int .i64 3, .int .i64 0, .int .i64 2, .int .i64 255, .slice none 0 0]) ⟨[.int .i64 3], _, rfl, rfl, ⟨[.int .i64 0], _, rfl, rfl, ⟨[.int .i64 2], _, rfl, rfl, ⟨[.int .i64 255], _, rfl, rfl, ⟨_, rfl, Sl.nil⟩⟩⟩⟩⟩ Kd.Many.nil)) (fun v11 g12 ho13 => ?_)
 obtain ⟨r24, hr25, h⟩ := h
 refine st_ord [1, 0] _ rfl ?_
 refine st_freeze (fun τ14 hl15 hg16 => ?_)
 have hs17 := ho10.freeze hl15 hg16
 refine st_freeze (fun τ20 hl21 hg22 => ?_)
 have hs23 := ho13.freeze (hl15.trans hl21) hg22
 refine st_call (foot := []) rfl rfl rfl rfl rfl rfl (callV_fn z_en24 (noise_Run_ok hr25 τ20 (hs17.up hl21) hs23)) ?_
 rintro vτ26 τ26 gsτ26 hl27 ⟨v28, rfl, rfl, hs29⟩
 refine Z 4 rfl ?_
 obtain ⟨r30, hr31, h⟩ := h
 refine st_call (foot := []) rfl rfl rfl rfl (evs_cons (ev_str z_str5) rfl) rfl (callV_fn z_en32 (noise_Parse_ok hr31 τ26 (hE.up (((hl5.trans hl15).trans hl21).trans hl27)))) ?_
 rintro vτ32 τ32 gsτ32 hl33 ⟨v34, rfl, rfl, hs35⟩
 refine Z 3 rfl ?_
 refine o_alloc rfl rfl rfl z_zero67 (fun b36 => ?_)
 refine o_store (j := 0) (vs := [.int .i64 r30.1.1, .int .i64 r30.1.2.1, .int .i64 r30.1.2.2.1, .int .i64 r30.1.2.2.2.1, v34]) (cs' := [.int .i64 r30.1.1, .int .i64 r30.1.2.1, .int .i64 r30.1.2.2.1, .int .i64 r30.1.2.2.2.1, v34]) rfl rfl rfl z_size67 rfl rfl rfl (ones_cons rfl (ones_cons rfl (ones_cons rfl (ones_cons rfl (ones_cons hs35.one' ones_nil))))) rfl rfl rfl ?_
 refine st_gs [[(b36, .cells #[.int .i64 r30.1.1, .int .i64 r30.1.2.1, .int .i64 r30.1.2.2.1, .int .i64 r30.1.2.2.2.1, v34] 67 (0, 0))]] rfl ?_
 refine Z 3 rfl ?_
 refine st_cut (fun ρ τ37 gs => ∃ (s37 : Bool), law26_known_j1 s37 r ∧ τ32.Le τ37 ∧ ESub ρ [(0, .bool s37)] ∧ gs = []) ?_ (fun hk37 => ?_)
 ·rintro ρ37 τ37 gs37 ⟨s37, h, hl37, hρ, rfl⟩
  refine st_es hρ ?_
  obtain rfl := Eq.symm h
  exact st_ret (gs' := []) Tryz.func11 rfl (List.Sublist.refl _) (((((hl5.trans hl15).trans hl21).trans hl27).trans hl33).trans hl37) ⟨rfl, rfl⟩
 refine Z 2 rfl ?_
 refine o_litE (eI .u8) [2, 3, 1, 2, 252] rfl rfl rfl z_slT23 z_zero5 ⟨rfl, ⟨_, rfl, rfl⟩, ⟨rfl, ⟨_, rfl, rfl⟩, ⟨rfl, ⟨_, rfl, rfl⟩, ⟨rfl, ⟨_, rfl, rfl⟩, ⟨rfl, ⟨_, rfl, rfl⟩, trivial⟩⟩⟩⟩⟩ rfl rfl rfl rfl (fun v38 g39 ho40 => ?_)
 obtain ⟨r45, hr46, h⟩ := h
 refine st_freeze (fun τ41 hl42 hg43 => ?_)
 have hs44 := ho40.freeze hl42 hg43
 refine st_call (foot := []) rfl rfl rfl rfl rfl rfl (callV_fn z_en28 (ref01_Same_ok hr46 τ41 (hs29.up (hl33.trans hl42)) hs44)) ?_
 rintro vτ47 τ47 gsτ47 hl48 ⟨rfl, rfl⟩
 refine o_mif rfl rfl rfl rfl h (fun h => ?_) (fun h => ?_)
 ·refine Z 3 rfl ?_
  refine o_mif rfl rfl rfl rfl h (fun h => ?_) (fun h => ?_)
  ·refine ZZ 4 [0] rfl rfl ?_
   refine o_mif rfl rfl rfl rfl h (fun h => ?_) (fun h => ?_)
   ·refine ZZ 2 [0] rfl rfl ?_
    refine o_litE (eI .u8) [0, 9] rfl rfl rfl z_slT23 z_zero5 ⟨rfl, ⟨_, rfl, rfl⟩, ⟨rfl, ⟨_, rfl, rfl⟩, trivial⟩⟩ rfl rfl rfl rfl (fun v49 g50 ho51 => ?_)
    obtain ⟨r56, hr57, h⟩ := h
    refine st_freeze (fun τ52 hl53 hg54 => ?_)
    have hs55 := ho51.freeze hl53 hg54
    refine st_call (foot := []) rfl rfl rfl rfl rfl rfl (callV_fn z_en28 (ref01_Same_ok hr57 τ52 (hs35.up ((hl42.trans hl48).trans hl53)) hs55)) ?_
    rintro vτ58 τ58 gsτ58 hl59 ⟨rfl, rfl⟩
    refine Z 3 rfl ?_
    refine st_ord [] _ rfl ?_
    exact hk37 _ _ _ ⟨r56, h, (((hl42.trans hl48).trans hl53).trans hl59), rfl, rfl⟩
   ·refine Z 7 rfl ?_
    refine st_ord [] _ rfl ?_
    exact hk37 _ _ _ ⟨false, h, (hl42.trans hl48), rfl, rfl⟩
  ·refine Z 12 rfl ?_
   refine st_ord [] _ rfl ?_
   exact hk37 _ _ _ ⟨false, h, (hl42.trans hl48), rfl, rfl⟩
 ·refine Z 16 rfl ?_
  refine st_ord [] _ rfl ?_
  exact hk37 _ _ _ ⟨false, h, (hl42.trans hl48), rfl, rfl⟩
theorem noise_Honest_ok {a0 : List Int} {a1 : List (List Int)} {a2 : List Int} {bi3 : Nat} {bi1 : Nat} {v5 : Value} {v7 : Value} {r : Bool} (h : noise_Honest a0 a1 a2 r) (σ : Sto) (hc4 : CelN σ ⟨bi3, 0, none⟩ (cellsN (Value.int .u32) 0 1024 a0)) (hc2 : CelN σ ⟨bi1, 0, none⟩ [.pointer (some ⟨bi3, 0, none⟩)]) (hs6 : Sl (kSl (kI .u8)) σ v5 a1) (hs8 : Sl (kI .u8) σ v7 a2) :
    Does Tryz.prog 12 [.pointer (some ⟨bi1, 0, none⟩), v5, v7] σ [] (fun v τ gs => gs = [] ∧ .bool r = v) := by
 refine call_of Tryz.func12 Tryz.ntmps12 rfl rfl (fun cs fs => ?_)
 refine Z 2 rfl ?_
 refine o_alloc rfl rfl rfl z_zero4 (fun b9 => ?_)
 refine Z 7 rfl ?_
 obtain ⟨r10, hr11, h⟩ := h
 refine st_call (foot := []) rfl rfl rfl rfl rfl rfl (callV_fn z_en10 (noise_Forged_ok hr11 σ hc4 hc2 hs6 hs8)) ?_
 rintro vτ12 τ12 gsτ12 hl13 ⟨f14, q15, rfl, rfl, hit16⟩
 refine Z 2 rfl ?_
 obtain ⟨t17, w17, hR17, hA17⟩ := h
 refine st_env (ρ' := [(6, .pointer (some ⟨b9, 0, none⟩)), (10, .func (.func f14) #[] q15)]) ⟨rfl, rfl, trivial⟩ ?_
 refine st_addNil ?_
 refine st_range (B := noise_Honest_l1) (s0 := ()) ranges_fctx rfl hit16 (Sto.Le.refl _) hR17 rfl (fun _ _ _ h => by cases h; rfl) (fun (s17 : Unit) τ17 gs => τ12.Le τ17 ∧ gs = [[(b9, .cells #[.bool false] 4 (0, 0))]]) (fun (p18 : Unit) cd τ19 gs => cd = .ret ∧ τ12.Le τ19 ∧ gs = [[(b9, .cells #[.bool false] 4 (0, 0))]]) (fun _ _ _ _ hl ⟨hb, hg⟩ => ⟨hb.trans hl, hg⟩) (fun _ _ _ _ _ hl ⟨hc, hb, hg⟩ => ⟨hc, hb.trans hl, hg⟩) ⟨Sto.Le.refl _, rfl⟩ ?_ ?_ ?_
 ·rintro x17 s17 o17 τ17 gs17 vx17 hl17 h rfl ⟨hb17, rfl⟩ l17 rc17 caller17 cs17 fs17
  refine st_skip ?_
  refine st_begin ?_
  refine ZZ 5 [0] rfl rfl ?_
  exact st_rret (List.Sublist.refl _) (Sto.Le.refl _) ⟨_, h, rfl, hl17, rfl⟩
 ·rintro p21 τ22 gs17 f17 ht hl23 ⟨hb, rfl⟩ rfl
  subst ht
  replace h := hA17
  refine st_ord [1] _ rfl ?_
  refine ZZ 5 [0] rfl rfl ?_
  obtain rfl := Eq.symm h
  exact st_retC (gs' := []) [.bool true] Tryz.func12 ⟨⟨_, _, _, _, rfl, mem_flat 0 rfl, fun w hw => cellOf z_sc4 rfl w hw⟩, trivial⟩ (by simp) (hl13.trans hl23) ⟨rfl, rfl⟩
 ·rintro p18 cd17 τ19 gs17 f17 ht hl20 ⟨rfl, hb, rfl⟩ rfl
  subst ht
  replace h := hA17
  refine st_ord [1] _ rfl ?_
  obtain rfl := Eq.symm h
  exact st_retC (gs' := []) [.bool false] Tryz.func12 ⟨⟨_, _, _, _, rfl, mem_flat 0 rfl, fun w hw => cellOf z_sc4 rfl w hw⟩, trivial⟩ (by simp) (hl13.trans hl20) ⟨rfl, rfl⟩
theorem law26_NoiseForged_ok {a0 : List (List Int)} {a1 : List Int} {a2 : Int} {v1 : Value} {v3 : Value} {r : Bool} (h : law26_NoiseForged a0 a1 a2 r) (σ : Sto) (hs2 : Sl (kSl (kI .u8)) σ v1 a0) (hs4 : Sl (kI .u8) σ v3 a1) (hE : Errs Tryz.prog σ) :
    Does Tryz.prog 3 [v1, v3, .int .i64 a2] σ [] (fun v τ gs => gs = [] ∧ .bool r = v) := by
 refine call_of Tryz.func3 Tryz.ntmps3 rfl rfl (fun cs fs => ?_)
 refine Z 2 rfl ?_
 refine o_boxC rfl rfl rfl rfl rfl rfl (fun b5 => ?_)
 refine o_alloc rfl rfl rfl z_zero4 (fun b6 => ?_)
 refine Z 4 rfl ?_
 obtain ⟨r7, hr8, h⟩ := h
 refine st_call (foot := []) rfl rfl rfl rfl rfl rfl (callV_fn z_en7 (law26_Rows_ok hr8 σ hs2)) ?_
 rintro vτ9 τ9 gsτ9 hl10 ⟨v11, rfl, rfl, hs12⟩
 refine Z 6 rfl ?_
 refine o_lenI rfl rfl rfl z_slT23 rfl (hs4.up hl10) ?_
 refine o_min2 rfl rfl rfl rfl rfl ?_
 obtain ⟨hf13, hf14, h⟩ := h
 refine o_slice (L := 0) (H := (min (a1.length : Int) 600)) rfl rfl rfl z_slT23 rfl rfl (hs4.up hl10) rfl ⟨_, rfl⟩ (by decide) hf13 hf14 trivial (by simp) (fun v15 hs16 => ?_)
 refine Z 4 rfl ?_
 obtain ⟨r17, hr18, h⟩ := h
 refine st_call (foot := []) rfl rfl rfl rfl rfl rfl (callV_fn z_en8 (frame_New_ok hr18 τ9)) ?_
 rintro vτ19 τ19 gsτ19 hl20 ⟨bi23, bi21, rfl, rfl, hc24, hc22⟩
 refine Z 6 rfl ?_
 obtain ⟨r25, hr26, h⟩ := h
 refine st_call (foot := []) rfl rfl rfl rfl rfl rfl (callV_fn z_en9 (ref26_Forged_ok hr26 τ19 (hs12.up hl20) (hs16.up hl20))) ?_
 rintro vτ27 τ27 gsτ27 hl28 ⟨v29, rfl, rfl, hs30⟩
 refine o_alloc rfl rfl rfl z_zero27 (fun b31 => ?_)
 refine o_store (j := 0) (vs := [v29]) (cs' := [v29]) rfl rfl rfl z_size27 rfl rfl (oneL_sl hs30) (ones_cons hs30.one' ones_nil) rfl rfl rfl ?_
 refine st_gs [[(b31, .cells #[v29] 27 (0, 0))], [(b6, .cells #[.bool false] 4 (0, 0))], [(b5, .cells #[.int .i64 a2] 3 (0, 0))]] rfl ?_
 refine Z 3 rfl ?_
 refine o_alloc rfl rfl rfl z_zero3 (fun b32 => ?_)
 refine ZZ 7 [0] rfl rfl ?_
 obtain ⟨r33, hr34, h⟩ := h
 refine st_call (foot := []) rfl rfl rfl rfl rfl rfl (callV_fn z_en10 (noise_Forged_ok hr34 τ27 (hc24.up hl28) (hc22.up hl28) (hs12.up (hl20.trans hl28)) (hs16.up (hl20.trans hl28)))) ?_
 rintro vτ35 τ35 gsτ35 hl36 ⟨f37, q38, rfl, rfl, hit39⟩
 refine Z 16 rfl ?_
 obtain ⟨t40, w40, hR40, hA40⟩ := h
 refine st_env (ρ' := [(0, v11), (1, v15), (5, .pointer (some ⟨b5, 0, none⟩)), (6, .pointer (some ⟨b6, 0, none⟩)), (7, .pointer (some ⟨bi21, 0, none⟩)), (8, .pointer (some ⟨b31, 0, none⟩)), (9, .pointer (some ⟨b32, 0, none⟩)), (31, .func (.func f37) #[] q38)]) ⟨rfl, rfl, rfl, rfl, rfl, rfl, rfl, rfl, trivial⟩ ?_
 refine st_ord [3, 2, 1, 0] _ rfl ?_
 refine st_addNil ?_
 refine st_range (B := law26_NoiseForged_l1 r25) (s0 := 0) ranges_fctx rfl hit39 (Sto.Le.refl _) hR40 rfl (fun _ _ _ h => by cases h; rfl) (fun (s40 : Int) τ40 gs => τ35.Le τ40 ∧ gs = [[(b5, .cells #[.int .i64 a2] 3 (0, 0))], [(b6, .cells #[.bool false] 4 (0, 0))], [(b31, .cells #[v29] 27 (0, 0))], [(b32, .cells #[.int .i64 s40] 3 (0, 0))]]) (fun (p47 : Int) cd τ48 gs => cd = .ret ∧ τ35.Le τ48 ∧ gs = [[(b5, .cells #[.int .i64 a2] 3 (0, 0))], [(b6, .cells #[.bool false] 4 (0, 0))], [(b31, .cells #[v29] 27 (0, 0))], [(b32, .cells #[.int .i64 p47] 3 (0, 0))]]) (fun _ _ _ _ hl ⟨hb, hg⟩ => ⟨hb.trans hl, hg⟩) (fun _ _ _ _ _ hl ⟨hc, hb, hg⟩ => ⟨hc, hb.trans hl, hg⟩) ⟨Sto.Le.refl _, rfl⟩ ?_ ?_ ?_
 ·rintro x40 s40 o40 τ40 gs40 vx40 hl40 h rfl ⟨hb40, rfl⟩ l40 rc40 caller40 cs40 fs40
  refine Z 3 rfl ?_
  refine st_begin ?_
  refine Z 3 rfl ?_
  refine st_cut (fun ρ τ41 gs => ∃ (s41 : Bool), law26_NoiseForged_j2 s40 s41 o40 ∧ τ40.Le τ41 ∧ ESub ρ [(0, v11), (1, v15), (5, .pointer (some ⟨b5, 0, none⟩)), (6, .pointer (some ⟨b6, 0, none⟩)), (7, .pointer (some ⟨bi21, 0, none⟩)), (8, .pointer (some ⟨b31, 0, none⟩)), (9, .pointer (some ⟨b32, 0, none⟩)), (32, .int .i64 x40), (11, .int .i64 x40), (44, .bool s41)] ∧ gs = [[(b5, .cells #[.int .i64 a2] 3 (0, 0))], [(b6, .cells #[.bool false] 4 (0, 0))], [(b31, .cells #[v29] 27 (0, 0))], [(b32, .cells #[.int .i64 s40] 3 (0, 0))]]) ?_ (fun hk41 => ?_)
  ·rintro ρ41 τ41 gs41 ⟨s41, h, hl41, hρ, rfl⟩
   refine st_es hρ ?_
   refine st_if rfl h (fun h => ?_) (fun h => ?_)
   ·refine ZZ 4 [1] rfl rfl ?_
    exact st_rret (List.Sublist.refl _) hl41 ⟨_, h, rfl, (hl40.trans hl41), rfl⟩
   ·refine ZZ 7 [3, 3] rfl rfl ?_
    exact st_rend (List.Sublist.refl _) hl41 ⟨_, h, (hl40.trans hl41), rfl⟩
  refine ZZ 3 [3, 2] rfl rfl ?_
  refine o_lenI rfl rfl rfl z_slT27 rfl (hs30.up (hl36.trans hl40)) ?_
  refine o_ibin (v := .bool (decide ((r25.length : Int) ≤ s40))) rfl rfl rfl rfl rfl rfl ?_
  refine o_mif rfl rfl rfl rfl h (fun h => ?_) (fun h => ?_)
  ·refine Z 8 rfl ?_
   exact hk41 _ _ _ ⟨true, h, (Sto.Le.refl _), rfl, rfl⟩
  ·refine ZZ 3 [2, 3] rfl rfl ?_
   obtain ⟨q42, hf43, h⟩ := h
   refine o_index rfl rfl rfl z_slT27 rfl rfl (hs30.up (hl36.trans hl40)) rfl hf43 (fun b44 of45 vs hc46 hrep => ?_)
   obtain rfl := hrep
   refine o_loadI (v := .int .i64 q42) rfl rfl rfl z_sc3 rfl (hc46 0 _ rfl) ?_
   refine Z 3 rfl ?_
   exact hk41 _ _ _ ⟨(!(decide (x40 = q42))), h, (Sto.Le.refl _), rfl, rfl⟩
 ·rintro p50 τ51 gs40 f40 ht hl52 ⟨hb, rfl⟩ rfl
  subst ht
  replace h := hA40
  refine st_ord [1, 1, 1, 1] _ rfl ?_
  refine Z 3 rfl ?_
  refine o_alloc rfl rfl rfl z_zero3 (fun b53 => ?_)
  refine ZZ 7 [0] rfl rfl ?_
  obtain ⟨r54, hr55, h⟩ := h
  refine st_call (foot := []) rfl rfl rfl rfl rfl rfl (callV_fn z_en10 (noise_Forged_ok hr55 τ51 (hc24.up ((hl28.trans hl36).trans hl52)) (hc22.up ((hl28.trans hl36).trans hl52)) (hs12.up (((hl20.trans hl28).trans hl36).trans hl52)) (hs16.up (((hl20.trans hl28).trans hl36).trans hl52)))) ?_
  rintro vτ56 τ56 gsτ56 hl57 ⟨f58, q59, rfl, rfl, hit60⟩
  refine Z 11 rfl ?_
  refine st_cut (fun ρ τ61 gs => ∃ (s61 : Int), law26_NoiseForged_j3 a1 a2 r7 r17 r25 p50 s61 r ∧ τ56.Le τ61 ∧ ESub ρ [(0, v11), (1, v15), (5, .pointer (some ⟨b5, 0, none⟩)), (6, .pointer (some ⟨b6, 0, none⟩)), (7, .pointer (some ⟨bi21, 0, none⟩)), (8, .pointer (some ⟨b31, 0, none⟩)), (9, .pointer (some ⟨b32, 0, none⟩)), (12, .pointer (some ⟨b53, 0, none⟩))] ∧ gs = [[(b5, .cells #[.int .i64 a2] 3 (0, 0))], [(b6, .cells #[.bool false] 4 (0, 0))], [(b31, .cells #[v29] 27 (0, 0))], [(b32, .cells #[.int .i64 p50] 3 (0, 0))], [(b53, .cells #[.int .i64 s61] 3 (0, 0))]]) ?_ (fun hk61 => ?_)
  ·rintro ρ61 τ61 gs61 ⟨s61, h, hl61, hρ, rfl⟩
   refine st_es hρ ?_
   refine st_seq ?_
   obtain ⟨r62, hr63, r70, hr71, h⟩ := h
   let cc66 : Prop := r62 = true
   let cc67 : Prop := (r62 && (decide (p50 = (r25.length : Int)))) = true
   let cc68 : Prop := cc67 ∧ (decide (s61 = p50)) = false
   let cc69 : Prop := ((r62 && (decide (p50 = (r25.length : Int)))) && ((decide (s61 = p50)) || (decide (s61 = a2)))) = true
   refine st_draw 27 (dl [.v (.bool r62), .v (.bool r62), .g cc66 (.int .i64 p50), .g cc66 (v29), .g cc66 (.int .i64 (r25.length : Int)), .g cc66 (.bool (decide (p50 = (r25.length : Int)))), .v (.bool (r62 && (decide (p50 = (r25.length : Int))))), .v (.bool (r62 && (decide (p50 = (r25.length : Int))))), .g cc67 (.int .i64 s61), .g cc67 (.int .i64 p50), .g cc67 (.bool (decide (s61 = p50))), .g cc67 (.bool (decide (s61 = p50))), .g cc68 (.int .i64 s61), .g cc68 (.int .i64 a2), .g cc68 (.bool (decide (s61 = a2))), .g cc67 (.bool ((decide (s61 = p50)) || (decide (s61 = a2)))), .v (.bool ((r62 && (decide (p50 = (r25.length : Int)))) && ((decide (s61 = p50)) || (decide (s61 = a2))))), .v (.bool ((r62 && (decide (p50 = (r25.length : Int)))) && ((decide (s61 = p50)) || (decide (s61 = a2))))), .g cc69 (.pointer (some ⟨bi21, 0, none⟩)), .g cc69 (v11), .g cc69 (v15), .g cc69 (.bool r70), .g cc69 (v29), .g cc69 (.int .i64 (r25.length : Int)), .g cc69 (.bool (decide ((r25.length : Int) = 0))), .g cc69 (.bool (decide (r70 = (decide ((r25.length : Int) = 0))))), .v (.bool (((r62 && (decide (p50 = (r25.length : Int)))) && ((decide (s61 = p50)) || (decide (s61 = a2)))) && (decide (r70 = (decide ((r25.length : Int) = 0))))))]) (fun _ _ => []) z_mix rfl (dl_mono (by exact trivial)) (allB_cons (allB_cons (allB_cons (allB_cons (allB_cons (allB_cons (allB_cons (allB_cons (allB_cons (allB_cons (allB_cons (allB_cons (allB_cons (allB_cons (allB_cons (allB_cons (allB_cons (allB_cons (allB_cons (allB_cons (allB_cons (allB_cons (allB_cons (allB_cons (allB_cons (allB_cons (allB_cons allB_nil ?_) (p1 dA)) ?_) ?_) ?_) (p1 (dG [2, 4]))) (p1 dK)) (p1 dA)) ?_) ?_) (p1 (dG [8, 9]))) (p1 (dG [10]))) ?_) ?_) (p1 (dG [12, 13]))) (p1 (dOG [11]))) (p1 dK)) (p1 dA)) (p1 (dG []))) (p1 (dG []))) (p1 (dG []))) ?_) ?_) ?_) (p1 (dG [23]))) (p1 (dG [21, 24]))) (p1 dK)) ?_
   ·intro ρ' τ pool rs hl hd hout hk
    refine st_call (foot := []) rfl rfl rfl rfl rfl rfl (callV_fn z_en11 (law26_known_ok hr63 τ (hE.up (((((((hl10.trans hl20).trans hl28).trans hl36).trans hl52).trans hl57).trans hl61).trans hl)))) ?_
    rintro vτ64 τ64 gsτ64 hl65 ⟨rfl, rfl⟩
    exact st_addNil (hk _ _ hl65 rfl)
   ·intro ρ' τ pool rs hl hd hout hk
    obtain ⟨_, e1, rfl⟩ := hd 1 rfl
    by_cases hG : r62 = true
    ·have hC := hG
     refine o_load (j := 3) (v := .int .i64 p50) rfl (wants_of rfl e1 hG) rfl z_sc3 ((hout 9 rfl).trans rfl) rfl rfl ?_
     exact st_addNil (hk _ _ (Sto.Le.refl _) ⟨fun _ => rfl, fun hn => absurd hC hn⟩)
    ·refine st_pass rfl rfl rfl e1 (beq_off hG) rfl ?_
     exact st_addNil (hk _ _ (Sto.Le.refl _) ⟨fun h => absurd h hG, fun _ => rfl⟩)
   ·intro ρ' τ pool rs hl hd hout hk
    obtain ⟨_, e1, rfl⟩ := hd 1 rfl
    by_cases hG : r62 = true
    ·have hC := hG
     refine o_load (j := 2) (v := v29) rfl (wants_of rfl e1 hG) rfl z_sc27 ((hout 8 rfl).trans rfl) rfl rfl ?_
     exact st_addNil (hk _ _ (Sto.Le.refl _) ⟨fun _ => rfl, fun hn => absurd hC hn⟩)
    ·refine st_pass rfl rfl rfl e1 (beq_off hG) rfl ?_
     exact st_addNil (hk _ _ (Sto.Le.refl _) ⟨fun h => absurd h hG, fun _ => rfl⟩)
   ·intro ρ' τ pool rs hl hd hout hk
    obtain ⟨_, e1, rfl⟩ := hd 1 rfl
    obtain ⟨w3, e3, t3⟩ := hd 3 rfl
    by_cases hG : r62 = true
    ·have hC := hG
     obtain ⟨rfl⟩ := t3.1 hC
     refine o_lenI rfl (wants_of rfl e1 hG) rfl z_slT27 e3 (hs30.up ((((hl36.trans hl52).trans hl57).trans hl61).trans hl)) ?_
     exact st_addNil (hk _ _ (Sto.Le.refl _) ⟨fun _ => rfl, fun hn => absurd hC hn⟩)
    ·refine st_pass rfl rfl rfl e1 (beq_off hG) rfl ?_
     exact st_addNil (hk _ _ (Sto.Le.refl _) ⟨fun h => absurd h hG, fun _ => rfl⟩)
   ·intro ρ' τ pool rs hl hd hout hk
    obtain ⟨_, e7, rfl⟩ := hd 7 rfl
    by_cases hG : (r62 && (decide (p50 = (r25.length : Int)))) = true
    ·have hC := hG
     refine o_load (j := 4) (v := .int .i64 s61) rfl (wants_of rfl e7 hG) rfl z_sc3 ((hout 12 rfl).trans rfl) rfl rfl ?_
     exact st_addNil (hk _ _ (Sto.Le.refl _) ⟨fun _ => rfl, fun hn => absurd hC hn⟩)
    ·refine st_pass rfl rfl rfl e7 (beq_off hG) rfl ?_
     exact st_addNil (hk _ _ (Sto.Le.refl _) ⟨fun h => absurd h hG, fun _ => rfl⟩)
   ·intro ρ' τ pool rs hl hd hout hk
    obtain ⟨_, e7, rfl⟩ := hd 7 rfl
    by_cases hG : (r62 && (decide (p50 = (r25.length : Int)))) = true
    ·have hC := hG
     refine o_load (j := 3) (v := .int .i64 p50) rfl (wants_of rfl e7 hG) rfl z_sc3 ((hout 9 rfl).trans rfl) rfl rfl ?_
     exact st_addNil (hk _ _ (Sto.Le.refl _) ⟨fun _ => rfl, fun hn => absurd hC hn⟩)
    ·refine st_pass rfl rfl rfl e7 (beq_off hG) rfl ?_
     exact st_addNil (hk _ _ (Sto.Le.refl _) ⟨fun h => absurd h hG, fun _ => rfl⟩)
   ·intro ρ' τ pool rs hl hd hout hk
    obtain ⟨w11, e11, t11⟩ := hd 11 rfl
    by_cases hC : (r62 && (decide (p50 = (r25.length : Int)))) = true
    ·obtain rfl := t11.1 hC
     by_cases hG : (decide (s61 = p50)) = false
     ·replace hC := And.intro hC hG
      refine o_load (j := 4) (v := .int .i64 s61) rfl (wants_of rfl e11 hG) rfl z_sc3 ((hout 12 rfl).trans rfl) rfl rfl ?_
      exact st_addNil (hk _ _ (Sto.Le.refl _) ⟨fun _ => rfl, fun hn => absurd hC hn⟩)
     ·refine st_pass rfl rfl rfl e11 (beq_off hG) rfl ?_
      exact st_addNil (hk _ _ (Sto.Le.refl _) ⟨fun h => absurd h.2 hG, fun _ => rfl⟩)
    ·obtain rfl := t11.2 hC
     refine st_passU rfl rfl rfl e11 rfl ?_
     exact st_addNil (hk _ _ (Sto.Le.refl _) ⟨fun h => absurd h.1 hC, fun _ => rfl⟩)
   ·intro ρ' τ pool rs hl hd hout hk
    obtain ⟨w11, e11, t11⟩ := hd 11 rfl
    by_cases hC : (r62 && (decide (p50 = (r25.length : Int)))) = true
    ·obtain rfl := t11.1 hC
     by_cases hG : (decide (s61 = p50)) = false
     ·replace hC := And.intro hC hG
      refine o_load (j := 0) (v := .int .i64 a2) rfl (wants_of rfl e11 hG) rfl z_sc3 ((hout 5 rfl).trans rfl) rfl rfl ?_
      exact st_addNil (hk _ _ (Sto.Le.refl _) ⟨fun _ => rfl, fun hn => absurd hC hn⟩)
     ·refine st_pass rfl rfl rfl e11 (beq_off hG) rfl ?_
      exact st_addNil (hk _ _ (Sto.Le.refl _) ⟨fun h => absurd h.2 hG, fun _ => rfl⟩)
    ·obtain rfl := t11.2 hC
     refine st_passU rfl rfl rfl e11 rfl ?_
     exact st_addNil (hk _ _ (Sto.Le.refl _) ⟨fun h => absurd h.1 hC, fun _ => rfl⟩)
   ·intro ρ' τ pool rs hl hd hout hk
    obtain ⟨_, e17, rfl⟩ := hd 17 rfl
    obtain ⟨w18, e18, t18⟩ := hd 18 rfl
    obtain ⟨w19, e19, t19⟩ := hd 19 rfl
    obtain ⟨w20, e20, t20⟩ := hd 20 rfl
    by_cases hG : ((r62 && (decide (p50 = (r25.length : Int)))) && ((decide (s61 = p50)) || (decide (s61 = a2)))) = true
    ·have hC := hG
     replace hr71 := hr71 hC
     obtain ⟨rfl⟩ := t20.1 hC
     obtain ⟨rfl⟩ := t18.1 hC
     obtain ⟨rfl⟩ := t19.1 hC
     refine st_call (foot := []) rfl (wants_of rfl e17 hG) rfl rfl (evs_cons e18 (evs_cons e19 (evs_cons e20 rfl))) rfl (callV_fn z_en12 (noise_Honest_ok hr71 τ (hc24.up (((((hl28.trans hl36).trans hl52).trans hl57).trans hl61).trans hl)) (hc22.up (((((hl28.trans hl36).trans hl52).trans hl57).trans hl61).trans hl)) (hs12.up ((((((hl20.trans hl28).trans hl36).trans hl52).trans hl57).trans hl61).trans hl)) (hs16.up ((((((hl20.trans hl28).trans hl36).trans hl52).trans hl57).trans hl61).trans hl)))) ?_
     rintro vτ72 τ72 gsτ72 hl73 ⟨rfl, rfl⟩
     exact st_addNil (hk _ _ hl73 ⟨fun _ => rfl, fun hn => absurd hC hn⟩)
    ·refine st_pass rfl rfl rfl e17 (beq_off hG) rfl ?_
     exact st_addNil (hk _ _ (Sto.Le.refl _) ⟨fun h => absurd h hG, fun _ => rfl⟩)
   ·intro ρ' τ pool rs hl hd hout hk
    obtain ⟨_, e17, rfl⟩ := hd 17 rfl
    by_cases hG : ((r62 && (decide (p50 = (r25.length : Int)))) && ((decide (s61 = p50)) || (decide (s61 = a2)))) = true
    ·have hC := hG
     refine o_load (j := 2) (v := v29) rfl (wants_of rfl e17 hG) rfl z_sc27 ((hout 8 rfl).trans rfl) rfl rfl ?_
     exact st_addNil (hk _ _ (Sto.Le.refl _) ⟨fun _ => rfl, fun hn => absurd hC hn⟩)
    ·refine st_pass rfl rfl rfl e17 (beq_off hG) rfl ?_
     exact st_addNil (hk _ _ (Sto.Le.refl _) ⟨fun h => absurd h hG, fun _ => rfl⟩)
   ·intro ρ' τ pool rs hl hd hout hk
    obtain ⟨_, e17, rfl⟩ := hd 17 rfl
    obtain ⟨w22, e22, t22⟩ := hd 22 rfl
    by_cases hG : ((r62 && (decide (p50 = (r25.length : Int)))) && ((decide (s61 = p50)) || (decide (s61 = a2)))) = true
    ·have hC := hG
     obtain ⟨rfl⟩ := t22.1 hC
     refine o_lenI rfl (wants_of rfl e17 hG) rfl z_slT27 e22 (hs30.up ((((hl36.trans hl52).trans hl57).trans hl61).trans hl)) ?_
     exact st_addNil (hk _ _ (Sto.Le.refl _) ⟨fun _ => rfl, fun hn => absurd hC hn⟩)
    ·refine st_pass rfl rfl rfl e17 (beq_off hG) rfl ?_
     exact st_addNil (hk _ _ (Sto.Le.refl _) ⟨fun h => absurd h hG, fun _ => rfl⟩)
   intro ρ' τ74 vals hl74 hv hout
   refine st_ord [0, 0, 0, 0, 0] _ rfl ?_
   refine st_env (ρ' := [(86, .bool (((r62 && (decide (p50 = (r25.length : Int)))) && ((decide (s61 = p50)) || (decide (s61 = a2)))) && (decide (r70 = (decide ((r25.length : Int) = 0)))))), (6, .pointer (some ⟨b6, 0, none⟩))]) ⟨(lv1 hv 26 rfl rfl), (hout 6 rfl).trans rfl, trivial⟩ ?_
   refine ZZ 2 [1] rfl rfl ?_
   obtain rfl := Eq.symm h
   exact st_retC (gs' := []) [.bool (((r62 && (decide (p50 = (r25.length : Int)))) && ((decide (s61 = p50)) || (decide (s61 = a2)))) && (decide (r70 = (decide ((r25.length : Int) = 0)))))] Tryz.func3 ⟨⟨_, _, _, _, rfl, mem_flat 1 rfl, fun w hw => cellOf z_sc4 rfl w hw⟩, trivial⟩ (by simp) (((((((hl10.trans hl20).trans hl28).trans hl36).trans hl52).trans hl57).trans hl61).trans hl74) ⟨rfl, rfl⟩
  refine Z 5 rfl ?_
  obtain ⟨t75, w75, hR75, hA75⟩ := h
  refine st_env (ρ' := [(0, v11), (1, v15), (5, .pointer (some ⟨b5, 0, none⟩)), (6, .pointer (some ⟨b6, 0, none⟩)), (7, .pointer (some ⟨bi21, 0, none⟩)), (8, .pointer (some ⟨b31, 0, none⟩)), (9, .pointer (some ⟨b32, 0, none⟩)), (12, .pointer (some ⟨b53, 0, none⟩)), (53, .func (.func f58) #[] q59)]) ⟨rfl, rfl, rfl, rfl, rfl, rfl, rfl, rfl, rfl, trivial⟩ ?_
  refine st_ord [1, 1, 1, 1, 0] _ rfl ?_
  refine st_addNil ?_
  refine st_range (B := law26_NoiseForged_l4 a2) (s0 := 0) ranges_fctx rfl hit60 (Sto.Le.refl _) hR75 rfl (fun _ _ _ h => by cases h; rfl) (fun (s75 : Int) τ75 gs => τ56.Le τ75 ∧ gs = [[(b5, .cells #[.int .i64 a2] 3 (0, 0))], [(b6, .cells #[.bool false] 4 (0, 0))], [(b31, .cells #[v29] 27 (0, 0))], [(b32, .cells #[.int .i64 p50] 3 (0, 0))], [(b53, .cells #[.int .i64 s75] 3 (0, 0))]]) (fun (p76 : Int) cd τ77 gs => cd = .exit 2 ∧ τ56.Le τ77 ∧ gs = [[(b5, .cells #[.int .i64 a2] 3 (0, 0))], [(b6, .cells #[.bool false] 4 (0, 0))], [(b31, .cells #[v29] 27 (0, 0))], [(b32, .cells #[.int .i64 p50] 3 (0, 0))], [(b53, .cells #[.int .i64 p76] 3 (0, 0))]]) (fun _ _ _ _ hl ⟨hb, hg⟩ => ⟨hb.trans hl, hg⟩) (fun _ _ _ _ _ hl ⟨hc, hb, hg⟩ => ⟨hc, hb.trans hl, hg⟩) ⟨Sto.Le.refl _, rfl⟩ ?_ ?_ ?_
  ·rintro x75 s75 o75 τ75 gs75 vx75 hl75 h rfl ⟨hb75, rfl⟩ l75 rc75 caller75 cs75 fs75
   refine st_skip ?_
   refine st_begin ?_
   refine ZZ 8 [4, 0] rfl rfl ?_
   refine st_if rfl h (fun h => ?_) (fun h => ?_)
   ·exact st_rexit rfl (List.Sublist.refl _) (Sto.Le.refl _) ⟨_, h, rfl, hl75, rfl⟩
   ·refine ZZ 7 [4, 4] rfl rfl ?_
    exact st_rend (List.Sublist.refl _) (Sto.Le.refl _) ⟨_, h, hl75, rfl⟩
  ·rintro p79 τ80 gs75 f75 ht hl81 ⟨hb, rfl⟩ rfl
   subst ht
   replace h := hA75
   refine st_ord [1, 1, 1, 1, 1] _ rfl ?_
   refine st_inBlock ?_
   exact hk61 _ _ _ ⟨p79, h, hl81, rfl, rfl⟩
  ·rintro p76 cd75 τ77 gs75 f75 ht hl78 ⟨rfl, hb, rfl⟩ rfl
   subst ht
   replace h := hA75
   refine st_ord [1, 1, 1, 1, 1] _ rfl ?_
   refine st_exit rfl ?_
   exact hk61 _ _ _ ⟨p76, h, hl78, rfl, rfl⟩
 ·rintro p47 cd40 τ48 gs40 f40 ht hl49 ⟨rfl, hb, rfl⟩ rfl
  subst ht
  replace h := hA40
  refine st_ord [1, 1, 1, 1] _ rfl ?_
  obtain rfl := Eq.symm h
  exact st_retC (gs' := []) [.bool false] Tryz.func3 ⟨⟨_, _, _, _, rfl, mem_flat 1 rfl, fun w hw => cellOf z_sc4 rfl w hw⟩, trivial⟩ (by simp) ((((hl10.trans hl20).trans hl28).trans hl36).trans hl49) ⟨rfl, rfl⟩
end Go.Rel
