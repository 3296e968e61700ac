import Derived.Test.YtnlghjmngfgmcaaDoorURel
import Derived.Test.YtnlghjmngfgmcaaDoorUFacts
/-! The walks. -/
set_option linter.unusedVariables false
set_option linter.unusedSimpArgs false
set_option maxRecDepth 4000
set_option maxHeartbeats 4000000
namespace Go.Rel
open Go Go.Eng Go.Proofs
theorem strings_IndexByte_ok {a0 : ByteArray} {a1 : Int} {r : Int} (h : strings_IndexByte a0 a1 r) (σ : Sto) :
    Does Tryd.prog 73 [.string a0, .int .u8 a1] σ [] (fun v τ gs => gs = [] ∧ .int .i64 r = v) := by
 obtain ⟨hc, rfl⟩ := h
 exact indexByte_does Tryd.strings_IndexByte hc
theorem unicode_utf8_DecodeRuneInString_ok {a0 : ByteArray} {r : Int × Int} (h : unicode_utf8_DecodeRuneInString a0 r) (σ : Sto) :
    Does Tryd.prog 111 [.string a0] σ [] (fun v τ gs => gs = [] ∧ .tuple [.int .i32 r.1, .int .i64 r.2].toArray = v) := by
 obtain ⟨hf, _⟩ := h
 exact hf.elim
theorem strings_Index_ok {a0 : ByteArray} {a1 : ByteArray} {r : Int} (h : strings_Index a0 a1 r) (σ : Sto) :
    Does Tryd.prog 112 [.string a0, .string a1] σ [] (fun v τ gs => gs = [] ∧ .int .i64 r = v) := by
 obtain ⟨c, hc, rfl⟩ := h
 exact index_does Tryd.strings_Index_one hc
theorem strings_splitSeq_1_ok {c0 : ByteArray} {c2 : Int} {c1 : ByteArray} {bc0 : Nat} {bc1 : Nat} {bc2 : Nat} {σ0 : Sto} (hc0_0 : Cel σ0 ⟨bc0, 0, none⟩ (.string c0)) (hc2_0 : Cel σ0 ⟨bc2, 0, none⟩ (.int .i64 c2)) :
    IterV Tryd.prog (fun _ x vx => vx = [.string x]) (.func (.func 110) #[] [.pointer (some ⟨bc0, 0, none⟩), .pointer (some ⟨bc1, 0, none⟩), .pointer (some ⟨bc2, 0, none⟩)].toArray) σ0 [(bc1, .cells [.string c1].toArray 9 (0, 0))] (fun (oo : ByteArray) υ f => f = [(bc1, .cells [.string oo].toArray 9 (0, 0))]) (strings_splitSeq_1 c0 c2 c1) := by
 intro S Y I y hyc hyo hIm hY s s' o hR σ g hle hIg
 obtain ⟨r, hr0⟩ : ∃ r, r = (s', o) := ⟨_, rfl⟩
 rw [← hr0] at hR
 have h := hR
 refine callV_of (caps := [.pointer (some ⟨bc0, 0, none⟩), .pointer (some ⟨bc1, 0, none⟩), .pointer (some ⟨bc2, 0, none⟩)]) z_en110 ?_
 refine call_of Tryd.func110 Tryd.ntmps110 rfl rfl (fun cs fs => ?_)
 refine st_perm (gs' := [g, [(bc1, .cells #[.string c1] 9 (0, 0))]]) (by simp) ?_
 refine Z 3 rfl ?_
 refine o_loadI (v := .string c0) rfl rfl rfl z_sc9 rfl (Cel.up hc0_0 hle) ?_
 refine Z 3 rfl ?_
 refine st_if rfl h (fun h => ?_) (fun h => ?_)
 ·refine st_seq ?_
  refine st_cut (fun ρ τ1 gs => ∃ (s1 : S × ByteArray) (g2 : Grp), strings_splitSeq_1_j1 S Y s1 r ∧ σ.Le τ1 ∧ ESub ρ [(0, y), (1, .pointer (some ⟨bc0, 0, none⟩)), (2, .pointer (some ⟨bc1, 0, none⟩)), (3, .pointer (some ⟨bc2, 0, none⟩))] ∧ gs = [[(bc1, .cells #[.string s1.2] 9 (0, 0))], g2] ∧ I s1.1 τ1 g2) ?_ (fun hk1 => ?_)
  ·rintro ρ1 τ1 gs1 ⟨s1, g2, h, hl1, hρ, rfl, hI3⟩
   refine st_es hρ ?_
   refine st_ord [1, 0] _ rfl ?_
   obtain rfl := Eq.symm h
   cases hr0
   exact st_ret (gs' := [g2, [(bc1, .cells #[.string s1.2] 9 (0, 0))]]) Tryd.func110 rfl (by simp) hl1 ⟨g2, _, rfl, hI3, rfl⟩
  obtain ⟨e4, hL4, hA4⟩ := h
  refine st_ord [1, 0] _ rfl ?_
  refine st_loop hL4 (fun (s4 : S × ByteArray) ρ τ4 gs => σ.Le τ4 ∧ ∃ (g5 : Grp), ESub ρ [(0, y), (1, .pointer (some ⟨bc0, 0, none⟩)), (2, .pointer (some ⟨bc1, 0, none⟩)), (3, .pointer (some ⟨bc2, 0, none⟩))] ∧ gs = [[(bc1, .cells #[.string s4.2] 9 (0, 0))], g5] ∧ I s4.1 τ4 g5) ⟨Sto.Le.refl _, g, rfl, rfl, hIg⟩ ?_
  rintro s4 o4 h he4 ρ4 τ4 gs4 ⟨hl4, g5, hρ, rfl, hI6⟩ hn4
  refine st_es hρ ?_
  refine ZZ 7 [0] rfl rfl ?_
  refine st_if rfl h (fun h => ?_) (fun h => ?_)
  ·refine ZZ 5 [0] rfl rfl ?_
   obtain ⟨r7, hr8, h⟩ := h
   refine st_call (foot := []) rfl rfl rfl rfl rfl rfl (callV_fn z_en111 (unicode_utf8_DecodeRuneInString_ok hr8 τ4)) ?_
   rintro vτ9 τ9 gsτ9 hl10 ⟨rfl, rfl⟩
   refine ZZ 12 [0] rfl rfl ?_
   obtain ⟨hf11, hf12, h⟩ := h
   refine o_sliceSh rfl rfl rfl Tryd.underlying9 rfl rfl hf11 hf12 ?_
   obtain ⟨y13, u14, hy15, h⟩ := h
   refine st_ord [1, 0] _ rfl ?_
   refine st_call (foot := [g5]) rfl rfl rfl rfl rfl rfl (hY (s4.2.extract 0 r7.2.toNat) s4.1 _ _ _ _ _ (hle.trans (hl4.trans hl10)) hy15 rfl (hIm _ _ _ _ hl10 hI6)) ?_
   rintro vτ16 τ16 gsτ16 hl17 ⟨rfl, g18, rfl, hI19⟩
   refine Z 2 rfl ?_
   refine st_if rfl h (fun h => ?_) (fun h => ?_)
   ·obtain rfl := he4 _ h
    replace h := hA4
    obtain rfl := Eq.symm h
    cases hr0
    exact st_ret (gs' := [g18, [(bc1, .cells #[.string s4.2] 9 (0, 0))]]) Tryd.func110 rfl (by simp) ((hl4.trans hl10).trans hl17) ⟨g18, _, rfl, hI19, rfl⟩
   ·refine ZZ 4 [1] rfl rfl ?_
    obtain ⟨hf20, hf21, h⟩ := h
    refine o_sliceSl rfl rfl rfl Tryd.underlying9 rfl rfl hf20 hf21 ?_
    refine ZZ 3 [1] rfl rfl ?_
    refine st_ord [1, 0] _ rfl ?_
    exact hn4 _ _ _ _ h ⟨((hl4.trans hl10).trans hl17), g18, rfl, rfl, hI19⟩
  ·refine st_exit rfl ?_
   obtain rfl := he4 _ h
   replace h := hA4
   exact hk1 _ _ _ ⟨(s4.1, s4.2), g5, h, hl4, rfl, rfl, hI6⟩
 ·refine Z 2 rfl ?_
  refine st_cut (fun ρ τ24 gs => ∃ (s24 : S × ByteArray) (g25 : Grp), strings_splitSeq_1_j3 S Y s24 r ∧ σ.Le τ24 ∧ ESub ρ [(0, y), (2, .pointer (some ⟨bc1, 0, none⟩))] ∧ gs = [[(bc1, .cells #[.string s24.2] 9 (0, 0))], g25] ∧ I s24.1 τ24 g25) ?_ (fun hk24 => ?_)
  ·rintro ρ24 τ24 gs24 ⟨s24, g25, h, hl24, hρ, rfl, hI26⟩
   refine st_es hρ ?_
   refine ZZ 3 [0] rfl rfl ?_
   obtain ⟨y27, u28, hy29, h⟩ := h
   refine st_ord [1, 0] _ rfl ?_
   refine st_call (foot := [g25]) rfl rfl rfl rfl rfl rfl (hY s24.2 s24.1 _ _ _ _ _ (hle.trans hl24) hy29 rfl hI26) ?_
   rintro vτ30 τ30 gsτ30 hl31 ⟨rfl, g32, rfl, hI33⟩
   refine st_end ?_
   obtain rfl := Eq.symm h
   cases hr0
   exact st_fin (gs' := [g32, [(bc1, .cells #[.string s24.2] 9 (0, 0))]]) Tryd.func110 rfl (by simp) (hl24.trans hl31) ⟨g32, _, rfl, hI33, rfl⟩
  obtain ⟨e34, hL34, hA34⟩ := h
  refine st_ord [1, 0] _ rfl ?_
  refine st_loop hL34 (fun (s34 : S × ByteArray) ρ τ34 gs => σ.Le τ34 ∧ ∃ (g35 : Grp), ESub ρ [(0, y), (1, .pointer (some ⟨bc0, 0, none⟩)), (2, .pointer (some ⟨bc1, 0, none⟩)), (3, .pointer (some ⟨bc2, 0, none⟩))] ∧ gs = [[(bc1, .cells #[.string s34.2] 9 (0, 0))], g35] ∧ I s34.1 τ34 g35) ⟨Sto.Le.refl _, g, rfl, rfl, hIg⟩ ?_
  rintro s34 o34 h he34 ρ34 τ34 gs34 ⟨hl34, g35, hρ, rfl, hI36⟩ hn34
  refine st_es hρ ?_
  refine ZZ 4 [0] rfl rfl ?_
  refine o_loadI (v := .string c0) rfl rfl rfl z_sc9 rfl (Cel.up hc0_0 (hle.trans hl34)) ?_
  obtain ⟨r37, hr38, h⟩ := h
  refine st_call (foot := []) rfl rfl rfl rfl rfl rfl (callV_fn z_en112 (strings_Index_ok hr38 τ34)) ?_
  rintro vτ39 τ39 gsτ39 hl40 ⟨rfl, rfl⟩
  refine Z 8 rfl ?_
  refine st_if rfl h (fun h => ?_) (fun h => ?_)
  ·refine st_exit rfl ?_
   obtain rfl := he34 _ h
   replace h := hA34
   exact hk24 _ _ _ ⟨(s34.1, s34.2), g35, h, (hl34.trans hl40), rfl, rfl, (hIm _ _ _ _ hl40 hI36)⟩
  ·refine ZZ 5 [0] rfl rfl ?_
   refine o_loadI (v := .int .i64 c2) rfl rfl rfl z_sc3 rfl (Cel.up hc2_0 ((hle.trans hl34).trans hl40)) ?_
   refine o_ibin (v := .int .i64 (IntKind.i64.wrap (r37 + c2))) rfl rfl rfl rfl rfl rfl ?_
   obtain ⟨hf41, hf42, h⟩ := h
   refine o_sliceSh rfl rfl rfl Tryd.underlying9 rfl rfl hf41 hf42 ?_
   refine Z 7 rfl ?_
   obtain ⟨y43, u44, hy45, h⟩ := h
   refine st_ord [1, 0] _ rfl ?_
   refine st_call (foot := [g35]) rfl rfl rfl rfl rfl rfl (hY (s34.2.extract 0 (IntKind.i64.wrap (r37 + c2)).toNat) s34.1 _ _ _ _ _ (hle.trans (hl34.trans hl40)) hy45 rfl (hIm _ _ _ _ hl40 hI36)) ?_
   rintro vτ46 τ46 gsτ46 hl47 ⟨rfl, g48, rfl, hI49⟩
   refine Z 2 rfl ?_
   refine st_if rfl h (fun h => ?_) (fun h => ?_)
   ·obtain rfl := he34 _ h
    replace h := hA34
    obtain rfl := Eq.symm h
    cases hr0
    exact st_ret (gs' := [g48, [(bc1, .cells #[.string s34.2] 9 (0, 0))]]) Tryd.func110 rfl (by simp) ((hl34.trans hl40).trans hl47) ⟨g48, _, rfl, hI49, rfl⟩
   ·refine ZZ 4 [1] rfl rfl ?_
    refine o_loadI (v := .string c0) rfl rfl rfl z_sc9 rfl (Cel.up hc0_0 (((hle.trans hl34).trans hl40).trans hl47)) ?_
    refine Z 2 rfl ?_
    obtain ⟨hf50, hf51, h⟩ := h
    refine o_sliceSl rfl rfl rfl Tryd.underlying9 rfl rfl hf50 hf51 ?_
    refine ZZ 3 [1] rfl rfl ?_
    refine st_ord [1, 0] _ rfl ?_
    exact hn34 _ _ _ _ h ⟨((hl34.trans hl40).trans hl47), g48, rfl, rfl, hI49⟩
theorem strings_splitSeq_ok {a0 : ByteArray} {a1 : ByteArray} {a2 : Int} {r : ((ByteArray → (S : Type) → (ByteArray → S → Bool × S → Prop) → S → S × ByteArray → Prop)) × ByteArray} (h : strings_splitSeq a0 a1 a2 r) (σ : Sto)  :
    Does Tryd.prog 90 [.string a0, .string a1, .int .i64 a2] σ [] (fun v τ gs => ∃ (f11 : Nat) (q12 : Array Value) (b14 : Nat), gs = [[(b14, .cells [.string r.2].toArray 9 (0, 0))]] ∧ .func (.func f11) #[] q12 = v ∧ ∀ (x16 : ByteArray) (σ15 : Sto), τ.Le σ15 → IterV Tryd.prog (fun _ x vx => vx = [.string x]) (.func (.func f11) #[] q12) σ15 [(b14, .cells [.string x16].toArray 9 (0, 0))] (fun (o17 : ByteArray) υ f => f = [(b14, .cells [.string o17].toArray 9 (0, 0))]) (r.1 x16)) := by
 refine call_of Tryd.func90 Tryd.ntmps90 rfl rfl (fun cs fs => ?_)
 refine Z 2 rfl ?_
 refine o_boxC rfl rfl rfl rfl rfl rfl (fun b1 => ?_)
 refine o_boxC rfl rfl rfl rfl rfl rfl (fun b2 => ?_)
 refine o_boxC rfl rfl rfl rfl rfl rfl (fun b3 => ?_)
 refine Z 4 rfl ?_
 refine st_ord [1, 0, 0] _ rfl ?_
 refine st_freeze (fun τ4 hl5 hg6 => ?_)
 refine st_freeze (fun τ7 hl8 hg9 => ?_)
 refine Z 3 rfl ?_
 obtain rfl := Eq.symm h
 exact st_ret (gs' := [[(b1, .cells #[.string a0] 9 (0, 0))]]) Tryd.func90 rfl (List.Sublist.refl _) (hl5.trans hl8) ⟨_, _, _, rfl, rfl, (fun _ _ hl  => strings_splitSeq_1_ok ((Cel.up (cel_of hg6 rfl) hl8).up hl) ((cel_of hg9 rfl).up hl))⟩
theorem strings_SplitSeq_ok {a0 : ByteArray} {a1 : ByteArray} {r : ((ByteArray → (S : Type) → (ByteArray → S → Bool × S → Prop) → S → S × ByteArray → Prop)) × ByteArray} (h : strings_SplitSeq a0 a1 r) (σ : Sto)  :
    Does Tryd.prog 77 [.string a0, .string a1] σ [] (fun v τ gs => ∃ (f13 : Nat) (q14 : Array Value) (b16 : Nat), gs = [[(b16, .cells [.string r.2].toArray 9 (0, 0))]] ∧ .func (.func f13) #[] q14 = v ∧ ∀ (x18 : ByteArray) (σ17 : Sto), τ.Le σ17 → IterV Tryd.prog (fun _ x vx => vx = [.string x]) (.func (.func f13) #[] q14) σ17 [(b16, .cells [.string x18].toArray 9 (0, 0))] (fun (o19 : ByteArray) υ f => f = [(b16, .cells [.string o19].toArray 9 (0, 0))]) (r.1 x18)) := by
 refine call_of Tryd.func77 Tryd.ntmps77 rfl rfl (fun cs fs => ?_)
 refine Z 8 rfl ?_
 obtain ⟨r1, hr2, h⟩ := h
 refine st_call (foot := []) rfl rfl rfl rfl rfl rfl (callV_fn z_en90 (strings_splitSeq_ok hr2 σ)) ?_
 rintro vτ3 τ3 gsτ3 hl4 ⟨f5, q6, b8, rfl, rfl, hit7⟩
 refine Z 2 rfl ?_
 obtain rfl := Eq.symm h
 exact st_ret (gs' := [[(b8, .cells #[.string r1.2] 9 (0, 0))]]) Tryd.func77 rfl (List.Sublist.refl _) hl4 ⟨_, _, _, rfl, rfl, (fun x0_ σ9 hl9 => hit7 x0_ σ9 ((Sto.Le.refl _).trans hl9))⟩
theorem strconv_Itoa_ok {a0 : Int} {r : ByteArray} (h : strconv_Itoa a0 r) (σ : Sto) (hT : Tab Tryd.prog σ) :
    Does Tryd.prog 84 [.int .i64 a0] σ [] (fun v τ gs => gs = [] ∧ .string r = v) := by
 obtain ⟨hk, rfl⟩ := h
 rw [itoa_lib]
 exact does_grow fun w hw => Tryd.strconv_Itoa a0 (i64_lo hk) (i64_hi hk) w (hT w hw)
theorem say_Number_ok {a0 : Int} {r : ByteArray} (h : say_Number a0 r) (σ : Sto) (hT : Tab Tryd.prog σ) :
    Does Tryd.prog 62 [.int .i64 a0] σ [] (fun v τ gs => gs = [] ∧ .string r = v) := by
 refine call_of Tryd.func62 Tryd.ntmps62 rfl rfl (fun cs fs => ?_)
 refine Z 2 rfl ?_
 refine o_assign rfl rfl rfl (ev_str z_str0) ?_
 refine Z 4 rfl ?_
 obtain ⟨r1, hr2, h⟩ := h
 refine st_call (foot := []) rfl rfl rfl rfl rfl rfl (callV_fn z_en84 (strconv_Itoa_ok hr2 σ hT)) ?_
 rintro vτ3 τ3 gsτ3 hl4 ⟨rfl, rfl⟩
 refine Z 2 rfl ?_
 obtain rfl := Eq.symm h
 exact st_ret (gs' := []) Tryd.func62 rfl (List.Sublist.refl _) hl4 ⟨rfl, rfl⟩
theorem say_Words_1_ok {c0 : ByteArray} {bc0 : Nat} {σ0 : Sto} (hc0_0 : Cel σ0 ⟨bc0, 0, none⟩ (.string c0)) :
    IterV Tryd.prog (fun _ x vx => vx = [.int .i64 x.1, .string x.2]) (.func (.func 80) #[] [.pointer (some ⟨bc0, 0, none⟩)].toArray) σ0 [] (fun (_ : Unit) _ f => f = []) (say_Words_1 c0) := by
 intro S Y I y hyc hyo hIm hY s s' o hR σ g hle hIg
 obtain ⟨r, hr0⟩ : ∃ r, r = (s', o) := ⟨_, rfl⟩
 rw [← hr0] at hR
 have h := hR
 refine callV_of (caps := [.pointer (some ⟨bc0, 0, none⟩)]) z_en80 ?_
 refine call_of Tryd.func80 Tryd.ntmps80 rfl rfl (fun cs fs => ?_)
 refine st_ord [0] _ rfl ?_
 refine Z 2 rfl ?_
 refine o_box (cs := [y]) rfl rfl rfl rfl hyc (fun b1 => ?_)
 refine Z 3 rfl ?_
 refine o_alloc rfl rfl rfl z_zero3 (fun b2 => ?_)
 refine ZZ 4 [0] rfl rfl ?_
 refine o_loadI (v := .string c0) rfl rfl rfl z_sc9 rfl (Cel.up hc0_0 hle) ?_
 obtain ⟨r3, hr4, h⟩ := h
 refine st_call (foot := []) rfl rfl rfl rfl (evs_cons rfl (evs_cons (ev_str z_str3) rfl)) rfl (callV_fn z_en77 (strings_SplitSeq_ok hr4 σ)) ?_
 rintro vτ5 τ5 gsτ5 hl6 ⟨f7, q8, b10, rfl, rfl, hit9⟩
 refine Z 2 rfl ?_
 obtain ⟨t14, w14, hR14, hA14⟩ := h
 refine st_env (ρ' := [(2, .pointer (some ⟨b1, 0, none⟩)), (3, .pointer (some ⟨b2, 0, none⟩)), (6, .func (.func f7) #[] q8)]) ⟨rfl, rfl, rfl, trivial⟩ ?_
 refine st_ord [0, 1, 0, 0] _ rfl ?_
 refine st_range (B := say_Words_1_l1 S Y) (s0 := (s, 0)) ranges_fctx rfl (hit9 r3.2 τ5 (Sto.Le.refl _)) (Sto.Le.refl _) hR14 rfl (fun _ _ _ h => by cases h; rfl) (fun (s14 : S × Int) τ14 gs => τ5.Le τ14 ∧ ∃ (g15 : Grp), gs = [[(b1, .cells #[y] 126 (0, 0))], [(b2, .cells #[.int .i64 s14.2] 3 (0, 0))], g15] ∧ I s14.1 τ14 g15) (fun (p24 : S × Int) cd τ25 gs => cd = .ret ∧ τ5.Le τ25 ∧ ∃ (g27 : Grp), gs = [[(b1, .cells #[y] 126 (0, 0))], [(b2, .cells #[.int .i64 p24.2] 3 (0, 0))], g27] ∧ I p24.1 τ25 g27) (fun _ _ _ _ hl ⟨hb, g15, hg, hI16⟩ => ⟨hb.trans hl, g15, hg, hIm _ _ _ _ hl hI16⟩) (fun _ _ _ _ _ hl ⟨hc, hb, g27, hg, hI28⟩ => ⟨hc, hb.trans hl, g27, hg, hIm _ _ _ _ hl hI28⟩) ⟨Sto.Le.refl _, g, rfl, (hIm _ _ _ _ hl6 hIg)⟩ ?_ ?_ ?_
 ·rintro x14 s14 o14 τ14 gs14 vx14 hl14 h rfl ⟨hb14, g15, rfl, hI16⟩ l14 rc14 caller14 cs14 fs14
  refine Z 3 rfl ?_
  refine st_begin ?_
  refine ZZ 7 [0, 1] rfl rfl ?_
  obtain ⟨y17, u18, hy19, h⟩ := h
  refine st_ord [2, 0, 0] _ rfl ?_
  refine st_call (foot := [g15]) rfl rfl rfl rfl rfl rfl (hY (s14.2, x14) s14.1 _ _ _ _ _ (hle.trans (hl6.trans hl14)) hy19 rfl hI16) ?_
  rintro vτ20 τ20 gsτ20 hl21 ⟨rfl, g22, rfl, hI23⟩
  refine Z 2 rfl ?_
  refine st_if rfl h (fun h => ?_) (fun h => ?_)
  ·refine st_ord [1, 1, 0] _ rfl ?_
   exact st_rret (List.Sublist.refl _) hl21 ⟨_, h, rfl, (hl14.trans hl21), g22, rfl, hI23⟩
  ·refine ZZ 10 [2, 2] rfl rfl ?_
   refine st_ord [1, 1, 0] _ rfl ?_
   exact st_rend (List.Sublist.refl _) hl21 ⟨_, h, (hl14.trans hl21), g22, rfl, hI23⟩
 ·rintro p30 τ31 gs14 f14 ht hl32 ⟨hb, g33, rfl, hI34⟩ rfl
  subst ht
  replace h := hA14
  refine st_gs [[(b10, .cells #[.string w14] 9 (0, 0))], [(b1, .cells #[y] 126 (0, 0))], [(b2, .cells #[.int .i64 p30.2] 3 (0, 0))], g33] rfl ?_
  refine st_inBlock ?_
  refine st_ord [3] _ rfl ?_
  obtain rfl := Eq.symm h
  cases hr0
  exact st_fin (gs' := [g33, []]) Tryd.func80 rfl (by simp) (hl6.trans hl32) ⟨g33, _, rfl, hI34, rfl⟩
 ·rintro p24 cd14 τ25 gs14 f14 ht hl26 ⟨rfl, hb, g27, rfl, hI28⟩ rfl
  subst ht
  replace h := hA14
  refine st_gs [[(b10, .cells #[.string w14] 9 (0, 0))], [(b1, .cells #[y] 126 (0, 0))], [(b2, .cells #[.int .i64 p24.2] 3 (0, 0))], g27] rfl ?_
  refine st_ord [3] _ rfl ?_
  obtain rfl := Eq.symm h
  cases hr0
  exact st_ret (gs' := [g27, []]) Tryd.func80 rfl (by simp) (hl6.trans hl26) ⟨g27, _, rfl, hI28, rfl⟩
theorem say_Words_ok {a0 : ByteArray} {r : (((S : Type) → ((Int × ByteArray) → S → Bool × S → Prop) → S → S × Unit → Prop))} (h : say_Words a0 r) (σ : Sto)  :
    Does Tryd.prog 58 [.string a0] σ [] (fun v τ gs => ∃ (f5 : Nat) (q6 : Array Value), gs = [] ∧ .func (.func f5) #[] q6 = v ∧ IterV Tryd.prog (fun _ x vx => vx = [.int .i64 x.1, .string x.2]) (.func (.func f5) #[] q6) τ [] (fun (_ : Unit) _ f => f = []) r) := by
 refine call_of Tryd.func58 Tryd.ntmps58 rfl rfl (fun cs fs => ?_)
 refine Z 2 rfl ?_
 refine o_boxC rfl rfl rfl rfl rfl rfl (fun b1 => ?_)
 refine Z 4 rfl ?_
 refine st_freeze (fun τ2 hl3 hg4 => ?_)
 refine Z 3 rfl ?_
 obtain rfl := Eq.symm h
 exact st_ret (gs' := []) Tryd.func58 rfl (List.Sublist.refl _) hl3 ⟨_, _, rfl, rfl, (say_Words_1_ok (cel_of hg4 rfl))⟩
theorem strconv_ParseInt_ok {a0 : ByteArray} {a1 : Int} {a2 : Int} {r : Int × Bool} (h : strconv_ParseInt a0 a1 a2 r) (σ : Sto) (hE : Errs Tryd.prog σ) :
    Does Tryd.prog 81 [.string a0, .int .i64 a1, .int .i64 a2] σ [] (fun v τ gs => ∃ (v1 : Value), gs = [] ∧ .tuple [.int .i64 r.1, v1].toArray = v ∧ IfB v1 r.2) := by
 obtain ⟨rfl, rfl, hs, rfl⟩ := h
 exact parse_does Tryd.strconv_ParseInt_10_at64_ok Tryd.strconv_ParseInt_10_at64_syntax_var Tryd.strconv_ParseInt_10_at64_range_var hE hs
theorem internal_stringslite_HasPrefix_ok {a0 : ByteArray} {a1 : ByteArray} {r : Bool} (h : internal_stringslite_HasPrefix a0 a1 r) (σ : Sto)  :
    Does Tryd.prog 124 [.string a0, .string a1] σ [] (fun v τ gs => gs = [] ∧ .bool r = v) := by
 refine call_of Tryd.func124 Tryd.ntmps124 rfl rfl (fun cs fs => ?_)
 refine Z 5 rfl ?_
 refine st_cut (fun ρ τ1 gs => ∃ (s1 : Bool), internal_stringslite_HasPrefix_j1 s1 r ∧ σ.Le τ1 ∧ ESub ρ [(4, .bool s1)] ∧ gs = []) ?_ (fun hk1 => ?_)
 ·rintro ρ1 τ1 gs1 ⟨s1, h, hl1, hρ, rfl⟩
  refine st_es hρ ?_
  obtain rfl := Eq.symm h
  exact st_ret (gs' := []) Tryd.func124 rfl (List.Sublist.refl _) hl1 ⟨rfl, rfl⟩
 refine Z 6 rfl ?_
 refine o_mif rfl rfl rfl rfl h (fun h => ?_) (fun h => ?_)
 ·refine Z 3 rfl ?_
  obtain ⟨hf2, hf3, h⟩ := h
  refine o_sliceSh rfl rfl rfl Tryd.underlying9 rfl rfl hf2 hf3 ?_
  refine Z 5 rfl ?_
  exact hk1 _ _ _ ⟨(decide ((a0.extract 0 (a1.size : Int).toNat) = a1)), h, (Sto.Le.refl _), rfl, rfl⟩
 ·refine Z 9 rfl ?_
  exact hk1 _ _ _ ⟨false, h, (Sto.Le.refl _), rfl, rfl⟩
theorem internal_stringslite_TrimPrefix_ok {a0 : ByteArray} {a1 : ByteArray} {r : ByteArray} (h : internal_stringslite_TrimPrefix a0 a1 r) (σ : Sto)  :
    Does Tryd.prog 99 [.string a0, .string a1] σ [] (fun v τ gs => gs = [] ∧ .string r = v) := by
 refine call_of Tryd.func99 Tryd.ntmps99 rfl rfl (fun cs fs => ?_)
 refine Z 2 rfl ?_
 refine o_assign rfl rfl rfl (ev_str z_str0) ?_
 refine Z 6 rfl ?_
 obtain ⟨r1, hr2, h⟩ := h
 refine st_call (foot := []) rfl rfl rfl rfl rfl rfl (callV_fn z_en124 (internal_stringslite_HasPrefix_ok hr2 σ)) ?_
 rintro vτ3 τ3 gsτ3 hl4 ⟨rfl, rfl⟩
 refine st_end ?_
 refine st_if rfl h (fun h => ?_) (fun h => ?_)
 ·refine Z 5 rfl ?_
  obtain ⟨hf5, hf6, h⟩ := h
  refine o_sliceSl rfl rfl rfl Tryd.underlying9 rfl rfl hf5 hf6 ?_
  refine Z 2 rfl ?_
  obtain rfl := Eq.symm h
  exact st_ret (gs' := []) Tryd.func99 rfl (List.Sublist.refl _) hl4 ⟨rfl, rfl⟩
 ·refine Z 6 rfl ?_
  obtain rfl := Eq.symm h
  exact st_ret (gs' := []) Tryd.func99 rfl (List.Sublist.refl _) hl4 ⟨rfl, rfl⟩
theorem strings_TrimPrefix_ok {a0 : ByteArray} {a1 : ByteArray} {r : ByteArray} (h : strings_TrimPrefix a0 a1 r) (σ : Sto)  :
    Does Tryd.prog 82 [.string a0, .string a1] σ [] (fun v τ gs => gs = [] ∧ .string r = v) := by
 refine call_of Tryd.func82 Tryd.ntmps82 rfl rfl (fun cs fs => ?_)
 refine Z 2 rfl ?_
 refine o_assign rfl rfl rfl (ev_str z_str0) ?_
 refine Z 5 rfl ?_
 obtain ⟨r1, hr2, h⟩ := h
 refine st_call (foot := []) rfl rfl rfl rfl rfl rfl (callV_fn z_en99 (internal_stringslite_TrimPrefix_ok hr2 σ)) ?_
 rintro vτ3 τ3 gsτ3 hl4 ⟨rfl, rfl⟩
 refine Z 2 rfl ?_
 obtain rfl := Eq.symm h
 exact st_ret (gs' := []) Tryd.func82 rfl (List.Sublist.refl _) hl4 ⟨rfl, rfl⟩
theorem strings_trimRightByte_ok {a0 : ByteArray} {a1 : Int} {r : ByteArray} (h : strings_trimRightByte a0 a1 r) (σ : Sto)  :
    Does Tryd.prog 101 [.string a0, .int .u8 a1] σ [] (fun v τ gs => gs = [] ∧ .string r = v) := by
 refine call_of Tryd.func101 Tryd.ntmps101 rfl rfl (fun cs fs => ?_)
 refine Z 2 rfl ?_
 refine o_assign rfl rfl rfl (ev_str z_str0) ?_
 refine Z 2 rfl ?_
 refine st_cut (fun ρ τ1 gs => ∃ (s1 : ByteArray), strings_trimRightByte_j1 s1 r ∧ σ.Le τ1 ∧ ESub ρ [(0, .string s1), (4, .string (bstr []))] ∧ gs = []) ?_ (fun hk1 => ?_)
 ·rintro ρ1 τ1 gs1 ⟨s1, h, hl1, hρ, rfl⟩
  refine st_es hρ ?_
  refine Z 5 rfl ?_
  obtain rfl := Eq.symm h
  exact st_ret (gs' := []) Tryd.func101 rfl (List.Sublist.refl _) hl1 ⟨rfl, rfl⟩
 obtain ⟨e2, hL2, hA2⟩ := h
 refine st_loop hL2 (fun (s2 : ByteArray) ρ τ2 gs => σ.Le τ2 ∧ ESub ρ [(0, .string s2), (1, .int .u8 a1), (4, .string (bstr []))] ∧ gs = []) ⟨Sto.Le.refl _, rfl, rfl⟩ ?_
 rintro s2 o2 h he2 ρ2 τ2 gs2 ⟨hl2, hρ, rfl⟩ hn2
 refine st_es hρ ?_
 refine Z 2 rfl ?_
 refine st_cut (fun ρ τ3 gs => ∃ (s3 : Bool), strings_trimRightByte_j3 s2 s3 o2 ∧ τ2.Le τ3 ∧ ESub ρ [(0, .string s2), (1, .int .u8 a1), (4, .string (bstr [])), (16, .bool s3)] ∧ gs = []) ?_ (fun hk3 => ?_)
 ·rintro ρ3 τ3 gs3 ⟨s3, h, hl3, hρ, rfl⟩
  refine st_es hρ ?_
  refine st_if rfl h (fun h => ?_) (fun h => ?_)
  ·refine Z 7 rfl ?_
   obtain ⟨hf4, hf5, h⟩ := h
   refine o_sliceSh rfl rfl rfl Tryd.underlying9 rfl rfl hf4 hf5 ?_
   refine Z 3 rfl ?_
   exact hn2 _ _ _ _ h ⟨(hl2.trans hl3), rfl, rfl⟩
  ·refine st_exit rfl ?_
   obtain rfl := he2 _ h
   replace h := hA2
   exact hk1 _ _ _ ⟨s2, h, (hl2.trans hl3), rfl, rfl⟩
 refine Z 4 rfl ?_
 refine o_mif rfl rfl rfl rfl h (fun h => ?_) (fun h => ?_)
 ·refine Z 4 rfl ?_
  obtain ⟨q6, hf7, h⟩ := h
  refine o_indexS rfl rfl rfl Tryd.underlying9 rfl rfl hf7 ?_
  refine Z 4 rfl ?_
  exact hk3 _ _ _ ⟨(decide (q6 = a1)), h, (Sto.Le.refl _), rfl, rfl⟩
 ·refine Z 9 rfl ?_
  exact hk3 _ _ _ ⟨false, h, (Sto.Le.refl _), rfl, rfl⟩
theorem strings_trimLeftByte_ok {a0 : ByteArray} {a1 : Int} {r : ByteArray} (h : strings_trimLeftByte a0 a1 r) (σ : Sto)  :
    Does Tryd.prog 100 [.string a0, .int .u8 a1] σ [] (fun v τ gs => gs = [] ∧ .string r = v) := by
 refine call_of Tryd.func100 Tryd.ntmps100 rfl rfl (fun cs fs => ?_)
 refine Z 2 rfl ?_
 refine o_assign rfl rfl rfl (ev_str z_str0) ?_
 refine Z 2 rfl ?_
 refine st_cut (fun ρ τ1 gs => ∃ (s1 : ByteArray), strings_trimLeftByte_j1 s1 r ∧ σ.Le τ1 ∧ ESub ρ [(0, .string s1), (4, .string (bstr []))] ∧ gs = []) ?_ (fun hk1 => ?_)
 ·rintro ρ1 τ1 gs1 ⟨s1, h, hl1, hρ, rfl⟩
  refine st_es hρ ?_
  refine Z 5 rfl ?_
  obtain rfl := Eq.symm h
  exact st_ret (gs' := []) Tryd.func100 rfl (List.Sublist.refl _) hl1 ⟨rfl, rfl⟩
 obtain ⟨e2, hL2, hA2⟩ := h
 refine st_loop hL2 (fun (s2 : ByteArray) ρ τ2 gs => σ.Le τ2 ∧ ESub ρ [(0, .string s2), (1, .int .u8 a1), (4, .string (bstr []))] ∧ gs = []) ⟨Sto.Le.refl _, rfl, rfl⟩ ?_
 rintro s2 o2 h he2 ρ2 τ2 gs2 ⟨hl2, hρ, rfl⟩ hn2
 refine st_es hρ ?_
 refine Z 2 rfl ?_
 refine st_cut (fun ρ τ3 gs => ∃ (s3 : Bool), strings_trimLeftByte_j3 s2 s3 o2 ∧ τ2.Le τ3 ∧ ESub ρ [(0, .string s2), (1, .int .u8 a1), (4, .string (bstr [])), (13, .bool s3)] ∧ gs = []) ?_ (fun hk3 => ?_)
 ·rintro ρ3 τ3 gs3 ⟨s3, h, hl3, hρ, rfl⟩
  refine st_es hρ ?_
  refine st_if rfl h (fun h => ?_) (fun h => ?_)
  ·refine Z 4 rfl ?_
   obtain ⟨hf4, h⟩ := h
   refine o_sliceSl rfl rfl rfl Tryd.underlying9 rfl rfl (by decide) hf4 ?_
   refine Z 3 rfl ?_
   exact hn2 _ _ _ _ h ⟨(hl2.trans hl3), rfl, rfl⟩
  ·refine st_exit rfl ?_
   obtain rfl := he2 _ h
   replace h := hA2
   exact hk1 _ _ _ ⟨s2, h, (hl2.trans hl3), rfl, rfl⟩
 refine Z 4 rfl ?_
 refine o_mif rfl rfl rfl rfl h (fun h => ?_) (fun h => ?_)
 ·refine o_move rfl rfl rfl rfl ?_
  obtain ⟨q5, hf6, h⟩ := h
  refine o_indexS rfl rfl rfl Tryd.underlying9 rfl rfl hf6 ?_
  refine Z 4 rfl ?_
  exact hk3 _ _ _ ⟨(decide (q5 = a1)), h, (Sto.Le.refl _), rfl, rfl⟩
 ·refine Z 6 rfl ?_
  exact hk3 _ _ _ ⟨false, h, (Sto.Le.refl _), rfl, rfl⟩
theorem strings_makeASCIISet_ok {a0 : ByteArray} {r : List Bool × Bool} (h : strings_makeASCIISet a0 r) (σ : Sto)  :
    Does Tryd.prog 102 [.string a0] σ [] (fun v τ gs => gs = [] ∧ .tuple [.agg (cellsN Value.bool false 256 r.1).toArray, .bool r.2].toArray = v) := by
 refine call_of Tryd.func102 Tryd.ntmps102 rfl rfl (fun cs fs => ?_)
 refine Z 2 rfl ?_
 refine o_alloc rfl rfl rfl z_zero148 (fun b1 => ?_)
 refine Z 3 rfl ?_
 refine st_cut (fun ρ τ2 gs => ∃ (s2 : List Bool), strings_makeASCIISet_j1 s2 r ∧ σ.Le τ2 ∧ ESub ρ [(2, .pointer (some ⟨b1, 0, none⟩)), (3, .bool false)] ∧ gs = [[(b1, .cells (cellsN Value.bool false 256 s2).toArray 148 (0, 0))]]) ?_ (fun hk2 => ?_)
 ·rintro ρ2 τ2 gs2 ⟨s2, h, hl2, hρ, rfl⟩
  refine st_es hρ ?_
  refine Z 2 rfl ?_
  refine o_loadN (j := 0) (vs := (cellsN Value.bool false 256 s2)) rfl rfl rfl z_agg148 rfl rfl rfl ?_
  refine o_store (j := 0) (vs := (cellsN Value.bool false 256 s2)) (cs' := (cellsN Value.bool false 256 s2)) rfl rfl rfl z_size148 rfl rfl rfl ones_cellsNB rfl rfl rfl ?_
  refine st_gs [[(b1, .cells (cellsN Value.bool false 256 s2).toArray 148 (0, 0))]] rfl ?_
  refine Z 2 rfl ?_
  obtain rfl := Eq.symm h
  exact st_retC (gs' := []) [.agg (cellsN Value.bool false 256 s2).toArray, .bool true] Tryd.func102 ⟨⟨_, _, _, _, rfl, mem_flat 0 rfl, fun w hw => cellOfN (vs := (cellsN Value.bool false 256 s2)) z_agg148 rfl w hw⟩, rfl, trivial⟩ (by simp) hl2 ⟨rfl, rfl⟩
 refine Z 4 rfl ?_
 obtain ⟨e3, hL3, hA3⟩ := h
 refine st_loop hL3 (fun (s3 : Int × List Bool) ρ τ3 gs => σ.Le τ3 ∧ ESub ρ [(0, .string a0), (2, .pointer (some ⟨b1, 0, none⟩)), (3, .bool false), (4, .int .i64 s3.1)] ∧ gs = [[(b1, .cells (cellsN Value.bool false 256 s3.2).toArray 148 (0, 0))]]) ⟨Sto.Le.refl _, rfl, rfl⟩ ?_
 rintro s3 o3 h he3 ρ3 τ3 gs3 ⟨hl3, hρ, rfl⟩ hn3
 refine st_es hρ ?_
 refine Z 8 rfl ?_
 refine st_if rfl h (fun h => ?_) (fun h => ?_)
 ·refine Z 7 rfl ?_
  obtain ⟨q4, hf5, h⟩ := h
  refine o_indexS rfl rfl rfl Tryd.underlying9 rfl rfl hf5 ?_
  refine Z 8 rfl ?_
  refine st_if rfl h (fun h => ?_) (fun h => ?_)
  ·refine Z 2 rfl ?_
   refine o_loadN (j := 0) (vs := (cellsN Value.bool false 256 s3.2)) rfl rfl rfl z_agg148 rfl rfl rfl ?_
   refine o_store (j := 0) (vs := (cellsN Value.bool false 256 s3.2)) (cs' := (cellsN Value.bool false 256 s3.2)) rfl rfl rfl z_size148 rfl rfl rfl ones_cellsNB rfl rfl rfl ?_
   refine st_gs [[(b1, .cells (cellsN Value.bool false 256 s3.2).toArray 148 (0, 0))]] rfl ?_
   refine Z 2 rfl ?_
   obtain rfl := he3 _ h
   replace h := hA3
   obtain rfl := Eq.symm h
   exact st_retC (gs' := []) [.agg (cellsN Value.bool false 256 s3.2).toArray, .bool false] Tryd.func102 ⟨⟨_, _, _, _, rfl, mem_flat 0 rfl, fun w hw => cellOfN (vs := (cellsN Value.bool false 256 s3.2)) z_agg148 rfl w hw⟩, rfl, trivial⟩ (by simp) hl3 ⟨rfl, rfl⟩
  ·refine Z 3 rfl ?_
   obtain ⟨hf6, hf7, h⟩ := h
   refine o_indexA rfl rfl rfl z_arr148 rfl rfl hf6 hf7 ?_
   refine o_storeB (j := 0) (q := q4.toNat) (f := Value.bool) (zz := false) (a := true) (l := 256) (xs := s3.2) rfl rfl rfl z_size4 rfl rfl rfl rfl rfl (by omega) (by omega) ?_
   refine st_gs [[(b1, .cells (cellsN Value.bool false 256 (putN 256 false s3.2 q4.toNat true)).toArray 148 (0, 0))]] rfl ?_
   refine Z 7 rfl ?_
   exact hn3 _ _ _ _ h ⟨hl3, rfl, rfl⟩
 ·refine st_exit rfl ?_
  obtain rfl := he3 _ h
  replace h := hA3
  exact hk2 _ _ _ ⟨s3.2, h, hl3, rfl, rfl⟩
theorem strings_asciiSet_contains_ok {a0 : List Bool} {a1 : Int} {ba0 : Nat} {r : Bool} (h : strings_asciiSet_contains a0 a1 r) (σ : Sto)  :
    Does Tryd.prog 125 [.pointer (some ⟨ba0, 0, none⟩), .int .u8 a1] σ [[(ba0, .cells (cellsN Value.bool false 256 a0).toArray 148 (0, 0))]] (fun v τ gs => gs = [[(ba0, .cells (cellsN Value.bool false 256 a0).toArray 148 (0, 0))]] ∧ .bool r = v) := by
 refine call_of Tryd.func125 Tryd.ntmps125 rfl rfl (fun cs fs => ?_)
 refine Z 9 rfl ?_
 obtain ⟨hf1, hf2, h⟩ := h
 refine o_indexA rfl rfl rfl z_arr148 rfl rfl hf1 hf2 ?_
 refine o_loadB (j := 0) (q := a1.toNat) (f := Value.bool) (zz := false) (l := 256) (xs := a0) rfl rfl rfl z_sc4 rfl rfl (by omega) (by omega) ?_
 refine Z 2 rfl ?_
 obtain rfl := Eq.symm h
 exact st_ret (gs' := [[(ba0, .cells (cellsN Value.bool false 256 a0).toArray 148 (0, 0))]]) Tryd.func125 rfl (List.Sublist.refl _) (Sto.Le.refl _) ⟨rfl, rfl⟩
theorem strings_trimRightASCII_ok {a0 : ByteArray} {a1 : List Bool} {ba1 : Nat} {r : ByteArray} (h : strings_trimRightASCII a0 a1 r) (σ : Sto)  :
    Does Tryd.prog 104 [.string a0, .pointer (some ⟨ba1, 0, none⟩)] σ [[(ba1, .cells (cellsN Value.bool false 256 a1).toArray 148 (0, 0))]] (fun v τ gs => gs = [[(ba1, .cells (cellsN Value.bool false 256 a1).toArray 148 (0, 0))]] ∧ .string r = v) := by
 refine call_of Tryd.func104 Tryd.ntmps104 rfl rfl (fun cs fs => ?_)
 refine Z 2 rfl ?_
 refine o_assign rfl rfl rfl (ev_str z_str0) ?_
 refine Z 2 rfl ?_
 refine st_cut (fun ρ τ1 gs => ∃ (s1 : ByteArray), strings_trimRightASCII_j1 s1 r ∧ σ.Le τ1 ∧ ESub ρ [(0, .string s1), (4, .string (bstr []))] ∧ gs = [[(ba1, .cells (cellsN Value.bool false 256 a1).toArray 148 (0, 0))]]) ?_ (fun hk1 => ?_)
 ·rintro ρ1 τ1 gs1 ⟨s1, h, hl1, hρ, rfl⟩
  refine st_es hρ ?_
  refine Z 5 rfl ?_
  obtain rfl := Eq.symm h
  exact st_ret (gs' := [[(ba1, .cells (cellsN Value.bool false 256 a1).toArray 148 (0, 0))]]) Tryd.func104 rfl (List.Sublist.refl _) hl1 ⟨rfl, rfl⟩
 obtain ⟨e2, hL2, hA2⟩ := h
 refine st_loop hL2 (fun (s2 : ByteArray) ρ τ2 gs => σ.Le τ2 ∧ ESub ρ [(0, .string s2), (1, .pointer (some ⟨ba1, 0, none⟩)), (4, .string (bstr []))] ∧ gs = [[(ba1, .cells (cellsN Value.bool false 256 a1).toArray 148 (0, 0))]]) ⟨Sto.Le.refl _, rfl, rfl⟩ ?_
 rintro s2 o2 h he2 ρ2 τ2 gs2 ⟨hl2, hρ, rfl⟩ hn2
 refine st_es hρ ?_
 refine Z 7 rfl ?_
 refine st_if rfl h (fun h => ?_) (fun h => ?_)
 ·refine Z 10 rfl ?_
  obtain ⟨q3, hf4, h⟩ := h
  refine o_indexS rfl rfl rfl Tryd.underlying9 rfl rfl hf4 ?_
  obtain ⟨r5, hr6, h⟩ := h
  refine st_call (foot := [[(ba1, .cells (cellsN Value.bool false 256 a1).toArray 148 (0, 0))]]) rfl rfl rfl rfl rfl rfl (callV_fn z_en125 (strings_asciiSet_contains_ok hr6 τ2)) ?_
  rintro vτ7 τ7 gsτ7 hl8 ⟨rfl, rfl⟩
  refine Z 2 rfl ?_
  refine st_if rfl h (fun h => ?_) (fun h => ?_)
  ·refine st_exit rfl ?_
   obtain rfl := he2 _ h
   replace h := hA2
   exact hk1 _ _ _ ⟨s2, h, (hl2.trans hl8), rfl, rfl⟩
  ·refine Z 6 rfl ?_
   obtain ⟨hf9, hf10, h⟩ := h
   refine o_sliceSh rfl rfl rfl Tryd.underlying9 rfl rfl hf9 hf10 ?_
   refine Z 3 rfl ?_
   exact hn2 _ _ _ _ h ⟨(hl2.trans hl8), rfl, rfl⟩
 ·refine st_exit rfl ?_
  obtain rfl := he2 _ h
  replace h := hA2
  exact hk1 _ _ _ ⟨s2, h, hl2, rfl, rfl⟩
theorem strings_trimLeftASCII_ok {a0 : ByteArray} {a1 : List Bool} {ba1 : Nat} {r : ByteArray} (h : strings_trimLeftASCII a0 a1 r) (σ : Sto)  :
    Does Tryd.prog 103 [.string a0, .pointer (some ⟨ba1, 0, none⟩)] σ [[(ba1, .cells (cellsN Value.bool false 256 a1).toArray 148 (0, 0))]] (fun v τ gs => gs = [[(ba1, .cells (cellsN Value.bool false 256 a1).toArray 148 (0, 0))]] ∧ .string r = v) := by
 refine call_of Tryd.func103 Tryd.ntmps103 rfl rfl (fun cs fs => ?_)
 refine Z 2 rfl ?_
 refine o_assign rfl rfl rfl (ev_str z_str0) ?_
 refine Z 2 rfl ?_
 refine st_cut (fun ρ τ1 gs => ∃ (s1 : ByteArray), strings_trimLeftASCII_j1 s1 r ∧ σ.Le τ1 ∧ ESub ρ [(0, .string s1), (4, .string (bstr []))] ∧ gs = [[(ba1, .cells (cellsN Value.bool false 256 a1).toArray 148 (0, 0))]]) ?_ (fun hk1 => ?_)
 ·rintro ρ1 τ1 gs1 ⟨s1, h, hl1, hρ, rfl⟩
  refine st_es hρ ?_
  refine Z 5 rfl ?_
  obtain rfl := Eq.symm h
  exact st_ret (gs' := [[(ba1, .cells (cellsN Value.bool false 256 a1).toArray 148 (0, 0))]]) Tryd.func103 rfl (List.Sublist.refl _) hl1 ⟨rfl, rfl⟩
 obtain ⟨e2, hL2, hA2⟩ := h
 refine st_loop hL2 (fun (s2 : ByteArray) ρ τ2 gs => σ.Le τ2 ∧ ESub ρ [(0, .string s2), (1, .pointer (some ⟨ba1, 0, none⟩)), (4, .string (bstr []))] ∧ gs = [[(ba1, .cells (cellsN Value.bool false 256 a1).toArray 148 (0, 0))]]) ⟨Sto.Le.refl _, rfl, rfl⟩ ?_
 rintro s2 o2 h he2 ρ2 τ2 gs2 ⟨hl2, hρ, rfl⟩ hn2
 refine st_es hρ ?_
 refine Z 7 rfl ?_
 refine st_if rfl h (fun h => ?_) (fun h => ?_)
 ·refine Z 7 rfl ?_
  obtain ⟨q3, hf4, h⟩ := h
  refine o_indexS rfl rfl rfl Tryd.underlying9 rfl rfl hf4 ?_
  obtain ⟨r5, hr6, h⟩ := h
  refine st_call (foot := [[(ba1, .cells (cellsN Value.bool false 256 a1).toArray 148 (0, 0))]]) rfl rfl rfl rfl rfl rfl (callV_fn z_en125 (strings_asciiSet_contains_ok hr6 τ2)) ?_
  rintro vτ7 τ7 gsτ7 hl8 ⟨rfl, rfl⟩
  refine Z 2 rfl ?_
  refine st_if rfl h (fun h => ?_) (fun h => ?_)
  ·refine st_exit rfl ?_
   obtain rfl := he2 _ h
   replace h := hA2
   exact hk1 _ _ _ ⟨s2, h, (hl2.trans hl8), rfl, rfl⟩
  ·refine Z 3 rfl ?_
   obtain ⟨hf9, h⟩ := h
   refine o_sliceSl rfl rfl rfl Tryd.underlying9 rfl rfl (by decide) hf9 ?_
   refine Z 3 rfl ?_
   exact hn2 _ _ _ _ h ⟨(hl2.trans hl8), rfl, rfl⟩
 ·refine st_exit rfl ?_
  obtain rfl := he2 _ h
  replace h := hA2
  exact hk1 _ _ _ ⟨s2, h, hl2, rfl, rfl⟩
theorem unicode_utf8_RuneStart_ok {a0 : Int} {r : Bool} (h : unicode_utf8_RuneStart a0 r) (σ : Sto)  :
    Does Tryd.prog 147 [.int .u8 a0] σ [] (fun v τ gs => gs = [] ∧ .bool r = v) := by
 refine call_of Tryd.func147 Tryd.ntmps147 rfl rfl (fun cs fs => ?_)
 refine Z 11 rfl ?_
 obtain rfl := Eq.symm h
 exact st_ret (gs' := []) Tryd.func147 rfl (List.Sublist.refl _) (Sto.Le.refl _) ⟨rfl, rfl⟩
theorem unicode_utf8_DecodeLastRuneInString_ok {a0 : ByteArray} {r : Int × Int} (h : unicode_utf8_DecodeLastRuneInString a0 r) (σ : Sto)  :
    Does Tryd.prog 127 [.string a0] σ [] (fun v τ gs => gs = [] ∧ .tuple [.int .i32 r.1, .int .i64 r.2].toArray = v) := by
 refine call_of Tryd.func127 Tryd.ntmps127 rfl rfl (fun cs fs => ?_)
 refine Z 17 rfl ?_
 refine st_if rfl h (fun h => ?_) (fun h => ?_)
 ·refine Z 5 rfl ?_
  obtain rfl := Eq.symm h
  exact st_ret (gs' := []) Tryd.func127 rfl (List.Sublist.refl _) (Sto.Le.refl _) ⟨rfl, rfl⟩
 ·refine Z 11 rfl ?_
  obtain ⟨q1, hf2, h⟩ := h
  refine o_indexS rfl rfl rfl Tryd.underlying9 rfl rfl hf2 ?_
  refine Z 9 rfl ?_
  refine st_if rfl h (fun h => ?_) (fun h => ?_)
  ·refine Z 6 rfl ?_
   obtain rfl := Eq.symm h
   exact st_ret (gs' := []) Tryd.func127 rfl (List.Sublist.refl _) (Sto.Le.refl _) ⟨rfl, rfl⟩
  ·refine Z 9 rfl ?_
   refine st_cut (fun ρ τ3 gs => ∃ (s3 : Int), unicode_utf8_DecodeLastRuneInString_j1 a0 s3 r ∧ σ.Le τ3 ∧ ESub ρ [(0, .string a0), (2, .int .i32 (IntKind.i32.wrap q1)), (3, .int .i64 0), (4, .int .i64 (a0.size : Int)), (5, .int .i64 s3)] ∧ gs = []) ?_ (fun hk3 => ?_)
   ·rintro ρ3 τ3 gs3 ⟨s3, h, hl3, hρ, rfl⟩
    refine st_es hρ ?_
    refine st_seq ?_
    refine st_cut (fun ρ τ4 gs => ∃ (s4 : Int), unicode_utf8_DecodeLastRuneInString_j2 a0 s4 r ∧ τ3.Le τ4 ∧ ESub ρ [(0, .string a0), (2, .int .i32 (IntKind.i32.wrap q1)), (3, .int .i64 0), (4, .int .i64 (a0.size : Int)), (5, .int .i64 s4)] ∧ gs = []) ?_ (fun hk4 => ?_)
    ·rintro ρ4 τ4 gs4 ⟨s4, h, hl4, hρ, rfl⟩
     refine st_es hρ ?_
     refine Z 5 rfl ?_
     obtain ⟨hf5, hf6, hf7, h⟩ := h
     refine o_sliceS rfl rfl rfl Tryd.underlying9 rfl rfl rfl hf5 hf6 hf7 ?_
     obtain ⟨r8, hr9, h⟩ := h
     refine st_call (foot := []) rfl rfl rfl rfl rfl rfl (callV_fn z_en111 (unicode_utf8_DecodeRuneInString_ok hr9 τ4)) ?_
     rintro vτ10 τ10 gsτ10 hl11 ⟨rfl, rfl⟩
     refine Z 15 rfl ?_
     refine st_if rfl h (fun h => ?_) (fun h => ?_)
     ·refine Z 5 rfl ?_
      obtain rfl := Eq.symm h
      exact st_ret (gs' := []) Tryd.func127 rfl (List.Sublist.refl _) ((hl3.trans hl4).trans hl11) ⟨rfl, rfl⟩
     ·refine Z 8 rfl ?_
      obtain rfl := Eq.symm h
      exact st_ret (gs' := []) Tryd.func127 rfl (List.Sublist.refl _) ((hl3.trans hl4).trans hl11) ⟨rfl, rfl⟩
    refine Z 5 rfl ?_
    refine st_if rfl h (fun h => ?_) (fun h => ?_)
    ·refine Z 3 rfl ?_
     exact hk4 _ _ _ ⟨0, h, (Sto.Le.refl _), rfl, rfl⟩
    ·refine st_skip ?_
     exact hk4 _ _ _ ⟨s3, h, (Sto.Le.refl _), rfl, rfl⟩
   refine Z 6 rfl ?_
   obtain ⟨e12, hL12, hA12⟩ := h
   refine st_loop hL12 (fun (s12 : Int) ρ τ12 gs => σ.Le τ12 ∧ ESub ρ [(0, .string a0), (2, .int .i32 (IntKind.i32.wrap q1)), (3, .int .i64 0), (4, .int .i64 (a0.size : Int)), (5, .int .i64 s12), (6, .int .i64 (max (IntKind.i64.wrap ((a0.size : Int) - 4)) 0))] ∧ gs = []) ⟨Sto.Le.refl _, rfl, rfl⟩ ?_
   rintro s12 o12 h he12 ρ12 τ12 gs12 ⟨hl12, hρ, rfl⟩ hn12
   refine st_es hρ ?_
   refine Z 7 rfl ?_
   refine st_if rfl h (fun h => ?_) (fun h => ?_)
   ·refine Z 7 rfl ?_
    obtain ⟨q13, hf14, h⟩ := h
    refine o_indexS rfl rfl rfl Tryd.underlying9 rfl rfl hf14 ?_
    obtain ⟨r15, hr16, h⟩ := h
    refine st_call (foot := []) rfl rfl rfl rfl rfl rfl (callV_fn z_en147 (unicode_utf8_RuneStart_ok hr16 τ12)) ?_
    rintro vτ17 τ17 gsτ17 hl18 ⟨rfl, rfl⟩
    refine st_end ?_
    refine st_if rfl h (fun h => ?_) (fun h => ?_)
    ·refine st_exit rfl ?_
     obtain rfl := he12 _ h
     replace h := hA12
     exact hk3 _ _ _ ⟨s12, h, (hl12.trans hl18), rfl, rfl⟩
    ·refine Z 7 rfl ?_
     exact hn12 _ _ _ _ h ⟨(hl12.trans hl18), rfl, rfl⟩
   ·refine st_exit rfl ?_
    obtain rfl := he12 _ h
    replace h := hA12
    exact hk3 _ _ _ ⟨s12, h, hl12, rfl, rfl⟩
theorem unicode_utf8_ValidRune_ok {a0 : Int} {r : Bool} (h : unicode_utf8_ValidRune a0 r) (σ : Sto)  :
    Does Tryd.prog 161 [.int .i32 a0] σ [] (fun v τ gs => gs = [] ∧ .bool r = v) := by
 refine call_of Tryd.func161 Tryd.ntmps161 rfl rfl (fun cs fs => ?_)
 refine Z 7 rfl ?_
 refine st_cut (fun ρ τ1 gs => ∃ (s1 : Bool), unicode_utf8_ValidRune_j1 a0 s1 r ∧ σ.Le τ1 ∧ ESub ρ [(0, .int .i32 a0), (2, .bool false), (3, .bool s1)] ∧ gs = []) ?_ (fun hk1 => ?_)
 ·rintro ρ1 τ1 gs1 ⟨s1, h, hl1, hρ, rfl⟩
  refine st_es hρ ?_
  refine st_if rfl h (fun h => ?_) (fun h => ?_)
  ·refine Z 4 rfl ?_
   obtain rfl := Eq.symm h
   exact st_ret (gs' := []) Tryd.func161 rfl (List.Sublist.refl _) hl1 ⟨rfl, rfl⟩
  ·refine st_seq ?_
   refine st_cut (fun ρ τ2 gs => ∃ (s2 : Bool), unicode_utf8_ValidRune_j2 s2 r ∧ τ1.Le τ2 ∧ ESub ρ [(2, .bool false), (10, .bool s2)] ∧ gs = []) ?_ (fun hk2 => ?_)
   ·rintro ρ2 τ2 gs2 ⟨s2, h, hl2, hρ, rfl⟩
    refine st_es hρ ?_
    refine st_if rfl h (fun h => ?_) (fun h => ?_)
    ·refine Z 4 rfl ?_
     obtain rfl := Eq.symm h
     exact st_ret (gs' := []) Tryd.func161 rfl (List.Sublist.refl _) (hl1.trans hl2) ⟨rfl, rfl⟩
    ·refine Z 6 rfl ?_
     obtain rfl := Eq.symm h
     exact st_ret (gs' := []) Tryd.func161 rfl (List.Sublist.refl _) (hl1.trans hl2) ⟨rfl, rfl⟩
   refine Z 3 rfl ?_
   refine o_mif rfl rfl rfl rfl h (fun h => ?_) (fun h => ?_)
   ·refine Z 5 rfl ?_
    exact hk2 _ _ _ ⟨(decide (a0 ≤ 1114111)), h, (Sto.Le.refl _), rfl, rfl⟩
   ·refine Z 5 rfl ?_
    exact hk2 _ _ _ ⟨false, h, (Sto.Le.refl _), rfl, rfl⟩
 refine Z 3 rfl ?_
 refine o_mif rfl rfl rfl rfl h (fun h => ?_) (fun h => ?_)
 ·refine Z 5 rfl ?_
  exact hk1 _ _ _ ⟨(decide (a0 < 55296)), h, (Sto.Le.refl _), rfl, rfl⟩
 ·refine Z 5 rfl ?_
  exact hk1 _ _ _ ⟨false, h, (Sto.Le.refl _), rfl, rfl⟩
theorem strings_IndexRune_ok {a0 : ByteArray} {a1 : Int} {r : Int} (h : strings_IndexRune a0 a1 r) (σ : Sto)  :
    Does Tryd.prog 146 [.string a0, .int .i32 a1] σ [] (fun v τ gs => gs = [] ∧ .int .i64 r = v) := by
 refine call_of Tryd.func146 Tryd.ntmps146 rfl rfl (fun cs fs => ?_)
 refine Z 6 rfl ?_
 refine st_cut (fun ρ τ1 gs => ∃ (s1 : Bool), strings_IndexRune_j1 a0 a1 s1 r ∧ σ.Le τ1 ∧ ESub ρ [(0, .string a0), (1, .int .i32 a1), (4, .int .i64 0), (160, .bool s1)] ∧ gs = []) ?_ (fun hk1 => ?_)
 ·rintro ρ1 τ1 gs1 ⟨s1, h, hl1, hρ, rfl⟩
  refine st_es hρ ?_
  refine st_if rfl h (fun h => ?_) (fun h => ?_)
  ·refine Z 5 rfl ?_
   obtain ⟨r2, hr3, h⟩ := h
   refine st_call (foot := []) rfl rfl rfl rfl rfl rfl (callV_fn z_en73 (strings_IndexByte_ok hr3 τ1)) ?_
   rintro vτ4 τ4 gsτ4 hl5 ⟨rfl, rfl⟩
   refine Z 2 rfl ?_
   obtain rfl := Eq.symm h
   exact st_ret (gs' := []) Tryd.func146 rfl (List.Sublist.refl _) (hl1.trans hl5) ⟨rfl, rfl⟩
  ·refine Z 6 rfl ?_
   refine st_if rfl h (fun h => ?_) (fun h => ?_)
   ·refine Z 4 rfl ?_
    exact h.elim
   ·refine Z 3 rfl ?_
    obtain ⟨r6, hr7, h⟩ := h
    refine st_call (foot := []) rfl rfl rfl rfl rfl rfl (callV_fn z_en161 (unicode_utf8_ValidRune_ok hr7 τ1)) ?_
    rintro vτ8 τ8 gsτ8 hl9 ⟨rfl, rfl⟩
    refine Z 3 rfl ?_
    refine st_if rfl h (fun h => ?_) (fun h => ?_)
    ·refine Z 4 rfl ?_
     obtain rfl := Eq.symm h
     exact st_ret (gs' := []) Tryd.func146 rfl (List.Sublist.refl _) (hl1.trans hl9) ⟨rfl, rfl⟩
    ·refine Z 4 rfl ?_
     exact h.elim
 refine Z 3 rfl ?_
 refine o_mif rfl rfl rfl rfl h (fun h => ?_) (fun h => ?_)
 ·refine Z 5 rfl ?_
  exact hk1 _ _ _ ⟨(decide (a1 < 128)), h, (Sto.Le.refl _), rfl, rfl⟩
 ·refine Z 5 rfl ?_
  exact hk1 _ _ _ ⟨false, h, (Sto.Le.refl _), rfl, rfl⟩
theorem strings_ContainsRune_ok {a0 : ByteArray} {a1 : Int} {r : Bool} (h : strings_ContainsRune a0 a1 r) (σ : Sto)  :
    Does Tryd.prog 126 [.string a0, .int .i32 a1] σ [] (fun v τ gs => gs = [] ∧ .bool r = v) := by
 refine call_of Tryd.func126 Tryd.ntmps126 rfl rfl (fun cs fs => ?_)
 refine Z 8 rfl ?_
 obtain ⟨r1, hr2, h⟩ := h
 refine st_call (foot := []) rfl rfl rfl rfl rfl rfl (callV_fn z_en146 (strings_IndexRune_ok hr2 σ)) ?_
 rintro vτ3 τ3 gsτ3 hl4 ⟨rfl, rfl⟩
 refine Z 3 rfl ?_
 obtain rfl := Eq.symm h
 exact st_ret (gs' := []) Tryd.func126 rfl (List.Sublist.refl _) hl4 ⟨rfl, rfl⟩
theorem strings_trimRightUnicode_ok {a0 : ByteArray} {a1 : ByteArray} {r : ByteArray} (h : strings_trimRightUnicode a0 a1 r) (σ : Sto)  :
    Does Tryd.prog 106 [.string a0, .string a1] σ [] (fun v τ gs => gs = [] ∧ .string r = v) := by
 refine call_of Tryd.func106 Tryd.ntmps106 rfl rfl (fun cs fs => ?_)
 refine Z 2 rfl ?_
 refine o_assign rfl rfl rfl (ev_str z_str0) ?_
 refine Z 2 rfl ?_
 refine st_cut (fun ρ τ1 gs => ∃ (s1 : ByteArray), strings_trimRightUnicode_j1 s1 r ∧ σ.Le τ1 ∧ ESub ρ [(0, .string s1), (4, .string (bstr []))] ∧ gs = []) ?_ (fun hk1 => ?_)
 ·rintro ρ1 τ1 gs1 ⟨s1, h, hl1, hρ, rfl⟩
  refine st_es hρ ?_
  refine Z 5 rfl ?_
  obtain rfl := Eq.symm h
  exact st_ret (gs' := []) Tryd.func106 rfl (List.Sublist.refl _) hl1 ⟨rfl, rfl⟩
 obtain ⟨e2, hL2, hA2⟩ := h
 refine st_loop hL2 (fun (s2 : ByteArray) ρ τ2 gs => σ.Le τ2 ∧ ESub ρ [(0, .string s2), (1, .string a1), (4, .string (bstr []))] ∧ gs = []) ⟨Sto.Le.refl _, rfl, rfl⟩ ?_
 rintro s2 o2 h he2 ρ2 τ2 gs2 ⟨hl2, hρ, rfl⟩ hn2
 refine st_es hρ ?_
 refine Z 7 rfl ?_
 refine st_if rfl h (fun h => ?_) (fun h => ?_)
 ·refine Z 8 rfl ?_
  obtain ⟨q3, hf4, h⟩ := h
  refine o_indexS rfl rfl rfl Tryd.underlying9 rfl rfl hf4 ?_
  refine Z 5 rfl ?_
  refine st_cut (fun ρ τ5 gs => ∃ (s5 : Int × Int), strings_trimRightUnicode_j3 a1 s2 s5 o2 ∧ τ2.Le τ5 ∧ ESub ρ [(0, .string s2), (1, .string a1), (4, .string (bstr [])), (5, .int .i32 s5.1), (6, .int .i64 s5.2)] ∧ gs = []) ?_ (fun hk5 => ?_)
  ·rintro ρ5 τ5 gs5 ⟨s5, h, hl5, hρ, rfl⟩
   refine st_es hρ ?_
   refine Z 5 rfl ?_
   obtain ⟨r6, hr7, h⟩ := h
   refine st_call (foot := []) rfl rfl rfl rfl rfl rfl (callV_fn z_en126 (strings_ContainsRune_ok hr7 τ5)) ?_
   rintro vτ8 τ8 gsτ8 hl9 ⟨rfl, rfl⟩
   refine Z 2 rfl ?_
   refine st_if rfl h (fun h => ?_) (fun h => ?_)
   ·refine st_exit rfl ?_
    obtain rfl := he2 _ h
    replace h := hA2
    exact hk1 _ _ _ ⟨s2, h, ((hl2.trans hl5).trans hl9), rfl, rfl⟩
   ·refine Z 7 rfl ?_
    obtain ⟨hf10, hf11, h⟩ := h
    refine o_sliceSh rfl rfl rfl Tryd.underlying9 rfl rfl hf10 hf11 ?_
    refine Z 3 rfl ?_
    exact hn2 _ _ _ _ h ⟨((hl2.trans hl5).trans hl9), rfl, rfl⟩
  refine Z 5 rfl ?_
  refine st_if rfl h (fun h => ?_) (fun h => ?_)
  ·refine Z 2 rfl ?_
   obtain ⟨r12, hr13, h⟩ := h
   refine st_call (foot := []) rfl rfl rfl rfl rfl rfl (callV_fn z_en127 (unicode_utf8_DecodeLastRuneInString_ok hr13 τ2)) ?_
   rintro vτ14 τ14 gsτ14 hl15 ⟨rfl, rfl⟩
   refine Z 6 rfl ?_
   exact hk5 _ _ _ ⟨(r12.1, r12.2), h, hl15, rfl, rfl⟩
  ·refine st_skip ?_
   exact hk5 _ _ _ ⟨((IntKind.i32.wrap q3), 1), h, (Sto.Le.refl _), rfl, rfl⟩
 ·refine st_exit rfl ?_
  obtain rfl := he2 _ h
  replace h := hA2
  exact hk1 _ _ _ ⟨s2, h, hl2, rfl, rfl⟩
theorem strings_trimLeftUnicode_ok {a0 : ByteArray} {a1 : ByteArray} {r : ByteArray} (h : strings_trimLeftUnicode a0 a1 r) (σ : Sto)  :
    Does Tryd.prog 105 [.string a0, .string a1] σ [] (fun v τ gs => gs = [] ∧ .string r = v) := by
 refine call_of Tryd.func105 Tryd.ntmps105 rfl rfl (fun cs fs => ?_)
 refine Z 2 rfl ?_
 refine o_assign rfl rfl rfl (ev_str z_str0) ?_
 refine Z 2 rfl ?_
 refine st_cut (fun ρ τ1 gs => ∃ (s1 : ByteArray), strings_trimLeftUnicode_j1 s1 r ∧ σ.Le τ1 ∧ ESub ρ [(0, .string s1), (4, .string (bstr []))] ∧ gs = []) ?_ (fun hk1 => ?_)
 ·rintro ρ1 τ1 gs1 ⟨s1, h, hl1, hρ, rfl⟩
  refine st_es hρ ?_
  refine Z 5 rfl ?_
  obtain rfl := Eq.symm h
  exact st_ret (gs' := []) Tryd.func105 rfl (List.Sublist.refl _) hl1 ⟨rfl, rfl⟩
 obtain ⟨e2, hL2, hA2⟩ := h
 refine st_loop hL2 (fun (s2 : ByteArray) ρ τ2 gs => σ.Le τ2 ∧ ESub ρ [(0, .string s2), (1, .string a1), (4, .string (bstr []))] ∧ gs = []) ⟨Sto.Le.refl _, rfl, rfl⟩ ?_
 rintro s2 o2 h he2 ρ2 τ2 gs2 ⟨hl2, hρ, rfl⟩ hn2
 refine st_es hρ ?_
 refine Z 7 rfl ?_
 refine st_if rfl h (fun h => ?_) (fun h => ?_)
 ·refine Z 5 rfl ?_
  obtain ⟨r3, hr4, h⟩ := h
  refine st_call (foot := []) rfl rfl rfl rfl rfl rfl (callV_fn z_en111 (unicode_utf8_DecodeRuneInString_ok hr4 τ2)) ?_
  rintro vτ5 τ5 gsτ5 hl6 ⟨rfl, rfl⟩
  refine Z 11 rfl ?_
  obtain ⟨r7, hr8, h⟩ := h
  refine st_call (foot := []) rfl rfl rfl rfl rfl rfl (callV_fn z_en126 (strings_ContainsRune_ok hr8 τ5)) ?_
  rintro vτ9 τ9 gsτ9 hl10 ⟨rfl, rfl⟩
  refine Z 2 rfl ?_
  refine st_if rfl h (fun h => ?_) (fun h => ?_)
  ·refine st_exit rfl ?_
   obtain rfl := he2 _ h
   replace h := hA2
   exact hk1 _ _ _ ⟨s2, h, ((hl2.trans hl6).trans hl10), rfl, rfl⟩
  ·refine Z 4 rfl ?_
   obtain ⟨hf11, hf12, h⟩ := h
   refine o_sliceSl rfl rfl rfl Tryd.underlying9 rfl rfl hf11 hf12 ?_
   refine Z 3 rfl ?_
   exact hn2 _ _ _ _ h ⟨((hl2.trans hl6).trans hl10), rfl, rfl⟩
 ·refine st_exit rfl ?_
  obtain rfl := he2 _ h
  replace h := hA2
  exact hk1 _ _ _ ⟨s2, h, hl2, rfl, rfl⟩
theorem strings_Trim_ok {a0 : ByteArray} {a1 : ByteArray} {r : ByteArray} (h : strings_Trim a0 a1 r) (σ : Sto)  :
    Does Tryd.prog 83 [.string a0, .string a1] σ [] (fun v τ gs => gs = [] ∧ .string r = v) := by
 refine call_of Tryd.func83 Tryd.ntmps83 rfl rfl (fun cs fs => ?_)
 refine Z 2 rfl ?_
 refine o_assign rfl rfl rfl (ev_str z_str0) ?_
 refine Z 3 rfl ?_
 refine st_cut (fun ρ τ1 gs => ∃ (s1 : Bool), strings_Trim_j1 a0 a1 s1 r ∧ σ.Le τ1 ∧ ESub ρ [(0, .string a0), (1, .string a1), (4, .string (bstr [])), (12, .bool s1)] ∧ gs = []) ?_ (fun hk1 => ?_)
 ·rintro ρ1 τ1 gs1 ⟨s1, h, hl1, hρ, rfl⟩
  refine st_es hρ ?_
  refine st_if rfl h (fun h => ?_) (fun h => ?_)
  ·refine Z 5 rfl ?_
   obtain rfl := Eq.symm h
   exact st_ret (gs' := []) Tryd.func83 rfl (List.Sublist.refl _) hl1 ⟨rfl, rfl⟩
  ·refine Z 3 rfl ?_
   refine st_cut (fun ρ τ2 gs => ∃ (s2 : Bool), strings_Trim_j2 a0 a1 s2 r ∧ τ1.Le τ2 ∧ ESub ρ [(0, .string a0), (1, .string a1), (4, .string (bstr [])), (21, .bool s2)] ∧ gs = []) ?_ (fun hk2 => ?_)
   ·rintro ρ2 τ2 gs2 ⟨s2, h, hl2, hρ, rfl⟩
    refine st_es hρ ?_
    refine st_if rfl h (fun h => ?_) (fun h => ?_)
    ·refine st_seq ?_
     obtain ⟨q3, hf4, r5, hr6, q9, hf10, r11, hr12, h⟩ := h
     refine st_draw 7 (dl [.v (.string a0), .v (.string a1), .v (.int .u8 q3), .v (.string r5), .v (.string a1), .v (.int .u8 q9), .v (.string r11)]) (fun _ _ => []) z_mix rfl (dl_mono trivial) (allB_cons (allB_cons (allB_cons (allB_cons (allB_cons (allB_cons (allB_cons allB_nil (p1 dA)) (p1 dA)) ?_) ?_) (p1 dA)) ?_) ?_) ?_
     ·intro ρ' τ pool rs hl hd hout hk
      obtain ⟨_, e1, rfl⟩ := hd 1 rfl
      refine o_indexS rfl rfl rfl Tryd.underlying9 e1 rfl hf4 ?_
      exact st_addNil (hk _ _ (Sto.Le.refl _) rfl)
     ·intro ρ' τ pool rs hl hd hout hk
      obtain ⟨_, e0, rfl⟩ := hd 0 rfl
      obtain ⟨_, e2, rfl⟩ := hd 2 rfl
      refine st_call (foot := []) rfl rfl rfl rfl (evs_cons e0 (evs_cons e2 rfl)) rfl (callV_fn z_en101 (strings_trimRightByte_ok hr6 τ)) ?_
      rintro vτ7 τ7 gsτ7 hl8 ⟨rfl, rfl⟩
      exact st_addNil (hk _ _ hl8 rfl)
     ·intro ρ' τ pool rs hl hd hout hk
      obtain ⟨_, e4, rfl⟩ := hd 4 rfl
      refine o_indexS rfl rfl rfl Tryd.underlying9 e4 rfl hf10 ?_
      exact st_addNil (hk _ _ (Sto.Le.refl _) rfl)
     ·intro ρ' τ pool rs hl hd hout hk
      obtain ⟨_, e3, rfl⟩ := hd 3 rfl
      obtain ⟨_, e5, rfl⟩ := hd 5 rfl
      refine st_call (foot := []) rfl rfl rfl rfl (evs_cons e3 (evs_cons e5 rfl)) rfl (callV_fn z_en100 (strings_trimLeftByte_ok hr12 τ)) ?_
      rintro vτ13 τ13 gsτ13 hl14 ⟨rfl, rfl⟩
      exact st_addNil (hk _ _ hl14 rfl)
     intro ρ' τ15 vals hl15 hv hout
     refine st_ord [] _ rfl ?_
     refine st_env (ρ' := [(28, .string r11), (0, .string a0), (1, .string a1), (4, .string (bstr []))]) ⟨(lv1 hv 6 rfl rfl), (hout 0 rfl).trans rfl, (hout 1 rfl).trans rfl, (hout 4 rfl).trans rfl, trivial⟩ ?_
     refine Z 2 rfl ?_
     obtain rfl := Eq.symm h
     exact st_ret (gs' := []) Tryd.func83 rfl (List.Sublist.refl _) ((hl1.trans hl2).trans hl15) ⟨rfl, rfl⟩
    ·refine Z 5 rfl ?_
     obtain ⟨r16, hr17, h⟩ := h
     refine st_call (foot := []) rfl rfl rfl rfl rfl rfl (callV_fn z_en102 (strings_makeASCIISet_ok hr17 τ2)) ?_
     rintro vτ18 τ18 gsτ18 hl19 ⟨rfl, rfl⟩
     refine Z 3 rfl ?_
     refine o_alloc rfl rfl rfl z_zero148 (fun b20 => ?_)
     refine o_store (j := 0) (vs := (cellsN Value.bool false 256 r16.1)) (cs' := (cellsN Value.bool false 256 r16.1)) rfl rfl rfl z_size148 rfl rfl rfl ones_cellsNB rfl rfl rfl ?_
     refine st_gs [[(b20, .cells (cellsN Value.bool false 256 r16.1).toArray 148 (0, 0))]] rfl ?_
     refine Z 6 rfl ?_
     refine st_if rfl h (fun h => ?_) (fun h => ?_)
     ·refine Z 3 rfl ?_
      obtain ⟨r21, hr22, h⟩ := h
      refine st_call (foot := [[(b20, .cells (cellsN Value.bool false 256 r16.1).toArray 148 (0, 0))]]) rfl rfl rfl rfl rfl rfl (callV_fn z_en104 (strings_trimRightASCII_ok hr22 τ18)) ?_
      rintro vτ23 τ23 gsτ23 hl24 ⟨rfl, rfl⟩
      obtain ⟨r25, hr26, h⟩ := h
      refine st_call (foot := [[(b20, .cells (cellsN Value.bool false 256 r16.1).toArray 148 (0, 0))]]) rfl rfl rfl rfl rfl rfl (callV_fn z_en103 (strings_trimLeftASCII_ok hr26 τ23)) ?_
      rintro vτ27 τ27 gsτ27 hl28 ⟨rfl, rfl⟩
      refine Z 2 rfl ?_
      refine st_ord [] _ rfl ?_
      obtain rfl := Eq.symm h
      exact st_ret (gs' := []) Tryd.func83 rfl (List.Sublist.refl _) ((((hl1.trans hl2).trans hl19).trans hl24).trans hl28) ⟨rfl, rfl⟩
     ·refine Z 5 rfl ?_
      obtain ⟨r29, hr30, h⟩ := h
      refine st_call (foot := []) rfl rfl rfl rfl rfl rfl (callV_fn z_en106 (strings_trimRightUnicode_ok hr30 τ18)) ?_
      rintro vτ31 τ31 gsτ31 hl32 ⟨rfl, rfl⟩
      refine o_move rfl rfl rfl rfl ?_
      obtain ⟨r33, hr34, h⟩ := h
      refine st_call (foot := []) rfl rfl rfl rfl rfl rfl (callV_fn z_en105 (strings_trimLeftUnicode_ok hr34 τ31)) ?_
      rintro vτ35 τ35 gsτ35 hl36 ⟨rfl, rfl⟩
      refine Z 2 rfl ?_
      refine st_ord [] _ rfl ?_
      obtain rfl := Eq.symm h
      exact st_ret (gs' := []) Tryd.func83 rfl (List.Sublist.refl _) ((((hl1.trans hl2).trans hl19).trans hl32).trans hl36) ⟨rfl, rfl⟩
   refine Z 4 rfl ?_
   refine o_mif rfl rfl rfl rfl h (fun h => ?_) (fun h => ?_)
   ·refine o_move rfl rfl rfl rfl ?_
    obtain ⟨q37, hf38, h⟩ := h
    refine o_indexS rfl rfl rfl Tryd.underlying9 rfl rfl hf38 ?_
    refine Z 3 rfl ?_
    exact hk2 _ _ _ ⟨(decide (q37 < 128)), h, (Sto.Le.refl _), rfl, rfl⟩
   ·refine Z 5 rfl ?_
    exact hk2 _ _ _ ⟨false, h, (Sto.Le.refl _), rfl, rfl⟩
 refine Z 2 rfl ?_
 refine o_sbin (v := .bool (decide (a0 = (bstr [])))) rfl rfl rfl rfl (ev_str z_str0) rfl ?_
 refine o_mif rfl rfl rfl rfl h (fun h => ?_) (fun h => ?_)
 ·refine Z 4 rfl ?_
  exact hk1 _ _ _ ⟨true, h, (Sto.Le.refl _), rfl, rfl⟩
 ·refine o_move rfl rfl rfl rfl ?_
  refine o_sbin (v := .bool (decide (a1 = (bstr [])))) rfl rfl rfl rfl (ev_str z_str0) rfl ?_
  refine Z 2 rfl ?_
  exact hk1 _ _ _ ⟨(decide (a1 = (bstr []))), h, (Sto.Le.refl _), rfl, rfl⟩
theorem say_Read_ok {a0 : ByteArray} {r : Int × Int} (h : say_Read a0 r) (σ : Sto) (hE : Errs Tryd.prog σ) :
    Does Tryd.prog 59 [.string a0] σ [] (fun v τ gs => gs = [] ∧ .tuple [.int .i64 r.1, .int .i64 r.2].toArray = v) := by
 refine call_of Tryd.func59 Tryd.ntmps59 rfl rfl (fun cs fs => ?_)
 refine Z 8 rfl ?_
 obtain ⟨r1, hr2, h⟩ := h
 refine st_call (foot := []) rfl rfl rfl rfl rfl rfl (callV_fn z_en81 (strconv_ParseInt_ok hr2 σ hE)) ?_
 rintro vτ3 τ3 gsτ3 hl4 ⟨v5, rfl, rfl, hi6⟩
 refine Z 9 rfl ?_
 obtain ⟨r7, hr8, h⟩ := h
 refine st_call (foot := []) rfl rfl rfl rfl (evs_cons rfl (evs_cons (ev_str z_str4) rfl)) rfl (callV_fn z_en82 (strings_TrimPrefix_ok hr8 τ3)) ?_
 rintro vτ9 τ9 gsτ9 hl10 ⟨rfl, rfl⟩
 refine Z 5 rfl ?_
 refine st_cut (fun ρ τ11 gs => ∃ (s11 : Bool), say_Read_j1 r1 s11 r ∧ τ9.Le τ11 ∧ ESub ρ [(2, .int .i64 0), (3, .int .i64 0), (4, .int .i64 r1.1), (5, v5), (14, .bool s11)] ∧ gs = []) ?_ (fun hk11 => ?_)
 ·rintro ρ11 τ11 gs11 ⟨s11, h, hl11, hρ, rfl⟩
  refine st_es hρ ?_
  refine st_if rfl h (fun h => ?_) (fun h => ?_)
  ·refine Z 5 rfl ?_
   obtain rfl := Eq.symm h
   exact st_ret (gs' := []) Tryd.func59 rfl (List.Sublist.refl _) ((hl4.trans hl10).trans hl11) ⟨rfl, rfl⟩
  ·refine Z 3 rfl ?_
   refine o_ifNil rfl rfl rfl Tryd.underlying85 rfl (hi6.up (hl10.trans hl11)) rfl ?_
   refine Z 2 rfl ?_
   refine st_if rfl h (fun h => ?_) (fun h => ?_)
   ·refine Z 5 rfl ?_
    obtain rfl := Eq.symm h
    exact st_ret (gs' := []) Tryd.func59 rfl (List.Sublist.refl _) ((hl4.trans hl10).trans hl11) ⟨rfl, rfl⟩
   ·refine Z 8 rfl ?_
    obtain rfl := Eq.symm h
    exact st_ret (gs' := []) Tryd.func59 rfl (List.Sublist.refl _) ((hl4.trans hl10).trans hl11) ⟨rfl, rfl⟩
 refine Z 2 rfl ?_
 refine o_sbin (v := .bool (decide (r7 = (bstr [])))) rfl rfl rfl rfl (ev_str z_str0) rfl ?_
 refine o_mif rfl rfl rfl rfl h (fun h => ?_) (fun h => ?_)
 ·refine Z 15 rfl ?_
  exact hk11 _ _ _ ⟨true, h, (Sto.Le.refl _), rfl, rfl⟩
 ·refine o_move rfl rfl rfl rfl ?_
  obtain ⟨r12, hr13, h⟩ := h
  refine st_call (foot := []) rfl rfl rfl rfl (evs_cons rfl (evs_cons (ev_str z_str27) rfl)) rfl (callV_fn z_en83 (strings_Trim_ok hr13 τ9)) ?_
  rintro vτ14 τ14 gsτ14 hl15 ⟨rfl, rfl⟩
  refine o_sbin (v := .bool (!(decide (r12 = (bstr []))))) rfl rfl rfl rfl (ev_str z_str0) rfl ?_
  refine o_pick rfl rfl rfl rfl rfl ?_
  refine o_mif rfl rfl rfl rfl h (fun h => ?_) (fun h => ?_)
  ·refine Z 10 rfl ?_
   exact hk11 _ _ _ ⟨true, h, hl15, rfl, rfl⟩
  ·refine o_move rfl rfl rfl rfl ?_
   obtain ⟨q16, hf17, h⟩ := h
   refine o_indexS rfl rfl rfl Tryd.underlying9 rfl rfl hf17 ?_
   refine o_ibin (v := .bool (decide (q16 = 48))) rfl rfl rfl rfl rfl rfl ?_
   refine o_mif rfl rfl rfl rfl h (fun h => ?_) (fun h => ?_)
   ·refine o_move rfl rfl rfl rfl ?_
    refine o_sbin (v := .bool (!(decide (a0 = (bstr [48]))))) rfl rfl rfl rfl (ev_str z_str28) rfl ?_
    refine Z 4 rfl ?_
    exact hk11 _ _ _ ⟨(!(decide (a0 = (bstr [48])))), h, hl15, rfl, rfl⟩
   ·refine Z 6 rfl ?_
    exact hk11 _ _ _ ⟨false, h, hl15, rfl, rfl⟩
theorem conf_start_ok {a0 : Int} {r : Int × Bool} (h : conf_start a0 r) (σ : Sto)  :
    Does Tryd.prog 60 [.int .i64 a0] σ [] (fun v τ gs => gs = [] ∧ .tuple [.int .u32 r.1, .bool r.2].toArray = v) := by
 refine call_of Tryd.func60 Tryd.ntmps60 rfl rfl (fun cs fs => ?_)
 refine Z 17 rfl ?_
 obtain rfl := Eq.symm h
 exact st_ret (gs' := []) Tryd.func60 rfl (List.Sublist.refl _) (Sto.Le.refl _) ⟨rfl, rfl⟩
theorem conf_CheckSender_ok {a0 : Int × Int × Int} {r : Int} (h : conf_CheckSender a0 r) (σ : Sto)  :
    Does Tryd.prog 33 [.agg [.int .i64 a0.1, .int .i64 a0.2.1, .int .u32 a0.2.2].toArray] σ [] (fun v τ gs => gs = [] ∧ .int .i64 r = v) := by
 refine call_of Tryd.func33 Tryd.ntmps33 rfl rfl (fun cs fs => ?_)
 refine Z 2 rfl ?_
 refine o_boxC rfl rfl rfl rfl rfl rfl (fun b1 => ?_)
 refine Z 5 rfl ?_
 refine st_cut (fun ρ τ2 gs => ∃ (s2 : Bool), conf_CheckSender_j1 a0 s2 r ∧ σ.Le τ2 ∧ ESub ρ [(1, .pointer (some ⟨b1, 0, none⟩)), (2, .int .i64 0), (3, .bool s2)] ∧ gs = [[(b1, .cells #[.int .i64 a0.1, .int .i64 a0.2.1, .int .u32 a0.2.2] 38 (0, 0))]]) ?_ (fun hk2 => ?_)
 ·rintro ρ2 τ2 gs2 ⟨s2, h, hl2, hρ, rfl⟩
  refine st_es hρ ?_
  refine st_if rfl h (fun h => ?_) (fun h => ?_)
  ·refine Z 4 rfl ?_
   refine st_ord [] _ rfl ?_
   obtain rfl := Eq.symm h
   exact st_ret (gs' := []) Tryd.func33 rfl (List.Sublist.refl _) hl2 ⟨rfl, rfl⟩
  ·refine st_seq ?_
   refine st_cut (fun ρ τ3 gs => ∃ (s3 : Bool), conf_CheckSender_j2 s3 r ∧ τ2.Le τ3 ∧ ESub ρ [(2, .int .i64 0), (12, .bool s3)] ∧ gs = []) ?_ (fun hk3 => ?_)
   ·rintro ρ3 τ3 gs3 ⟨s3, h, hl3, hρ, rfl⟩
    refine st_es hρ ?_
    refine st_if rfl h (fun h => ?_) (fun h => ?_)
    ·refine Z 4 rfl ?_
     obtain rfl := Eq.symm h
     exact st_ret (gs' := []) Tryd.func33 rfl (List.Sublist.refl _) (hl2.trans hl3) ⟨rfl, rfl⟩
    ·refine Z 6 rfl ?_
     obtain rfl := Eq.symm h
     exact st_ret (gs' := []) Tryd.func33 rfl (List.Sublist.refl _) (hl2.trans hl3) ⟨rfl, rfl⟩
   refine ZZ 4 [0] rfl rfl ?_
   refine o_mif rfl rfl rfl rfl h (fun h => ?_) (fun h => ?_)
   ·refine Z 6 rfl ?_
    refine st_ord [] _ rfl ?_
    exact hk3 _ _ _ ⟨true, h, (Sto.Le.refl _), rfl, rfl⟩
   ·refine ZZ 6 [0] rfl rfl ?_
    refine st_ord [] _ rfl ?_
    exact hk3 _ _ _ ⟨(decide (257 < a0.2.1)), h, (Sto.Le.refl _), rfl, rfl⟩
 refine ZZ 4 [0] rfl rfl ?_
 refine o_mif rfl rfl rfl rfl h (fun h => ?_) (fun h => ?_)
 ·refine ZZ 6 [0] rfl rfl ?_
  exact hk2 _ _ _ ⟨(!(decide (a0.1 = 2))), h, (Sto.Le.refl _), rfl, rfl⟩
 ·refine Z 6 rfl ?_
  exact hk2 _ _ _ ⟨false, h, (Sto.Le.refl _), rfl, rfl⟩
theorem conf_CheckReceiver_ok {a0 : Int × Int} {r : Int} (h : conf_CheckReceiver a0 r) (σ : Sto)  :
    Does Tryd.prog 34 [.agg [.int .u32 a0.1, .int .i64 a0.2].toArray] σ [] (fun v τ gs => gs = [] ∧ .int .i64 r = v) := by
 refine call_of Tryd.func34 Tryd.ntmps34 rfl rfl (fun cs fs => ?_)
 refine Z 2 rfl ?_
 refine o_boxC rfl rfl rfl rfl rfl rfl (fun b1 => ?_)
 refine Z 4 rfl ?_
 refine st_cut (fun ρ τ2 gs => ∃ (s2 : Bool), conf_CheckReceiver_j1 s2 r ∧ σ.Le τ2 ∧ ESub ρ [(2, .int .i64 0), (10, .bool s2)] ∧ gs = []) ?_ (fun hk2 => ?_)
 ·rintro ρ2 τ2 gs2 ⟨s2, h, hl2, hρ, rfl⟩
  refine st_es hρ ?_
  refine st_if rfl h (fun h => ?_) (fun h => ?_)
  ·refine Z 4 rfl ?_
   obtain rfl := Eq.symm h
   exact st_ret (gs' := []) Tryd.func34 rfl (List.Sublist.refl _) hl2 ⟨rfl, rfl⟩
  ·refine Z 5 rfl ?_
   obtain rfl := Eq.symm h
   exact st_ret (gs' := []) Tryd.func34 rfl (List.Sublist.refl _) hl2 ⟨rfl, rfl⟩
 refine ZZ 4 [0] rfl rfl ?_
 refine o_mif rfl rfl rfl rfl h (fun h => ?_) (fun h => ?_)
 ·refine Z 5 rfl ?_
  refine st_ord [] _ rfl ?_
  exact hk2 _ _ _ ⟨true, h, (Sto.Le.refl _), rfl, rfl⟩
 ·refine ZZ 5 [0] rfl rfl ?_
  refine st_ord [] _ rfl ?_
  exact hk2 _ _ _ ⟨(decide (16 < a0.2)), h, (Sto.Le.refl _), rfl, rfl⟩
theorem conf_Parse_ok {a0 : ByteArray} {r : (Int × Int × Int) × (Int × Int) × Int} (h : conf_Parse a0 r) (σ : Sto) (hE : Errs Tryd.prog σ) :
    Does Tryd.prog 16 [.string a0] σ [] (fun v τ gs => gs = [] ∧ .tuple [.agg [.int .i64 r.1.1, .int .i64 r.1.2.1, .int .u32 r.1.2.2].toArray, .agg [.int .u32 r.2.1.1, .int .i64 r.2.1.2].toArray, .int .i64 r.2.2].toArray = v) := by
 refine call_of Tryd.func16 Tryd.ntmps16 rfl rfl (fun cs fs => ?_)
 refine Z 2 rfl ?_
 refine o_alloc rfl rfl rfl z_zero38 (fun b1 => ?_)
 refine o_alloc rfl rfl rfl z_zero40 (fun b2 => ?_)
 refine Z 5 rfl ?_
 refine o_alloc rfl rfl rfl z_zero101 (fun b3 => ?_)
 refine Z 3 rfl ?_
 refine o_alloc rfl rfl rfl z_zero98 (fun b4 => ?_)
 refine Z 5 rfl ?_
 obtain ⟨r5, hr6, h⟩ := h
 refine st_call (foot := []) rfl rfl rfl rfl rfl rfl (callV_fn z_en58 (say_Words_ok hr6 σ)) ?_
 rintro vτ7 τ7 gsτ7 hl8 ⟨f9, q10, rfl, rfl, hit11⟩
 refine Z 2 rfl ?_
 obtain ⟨t12, w12, hR12, hA12⟩ := h
 refine st_env (ρ' := [(2, .pointer (some ⟨b1, 0, none⟩)), (3, .pointer (some ⟨b2, 0, none⟩)), (4, .int .i64 0), (5, .pointer (some ⟨b3, 0, none⟩)), (6, .pointer (some ⟨b4, 0, none⟩)), (18, .func (.func f9) #[] q10)]) ⟨rfl, rfl, rfl, rfl, rfl, rfl, trivial⟩ ?_
 refine st_addNil ?_
 refine st_ord [4, 3, 2, 1, 0] _ rfl ?_
 refine st_addNil ?_
 refine st_range (B := conf_Parse_l1) (s0 := []) ranges_fctx rfl hit11 (Sto.Le.refl _) hR12 rfl (fun _ _ _ h => by cases h; rfl) (fun (s12 : List ByteArray) τ12 gs => τ7.Le τ12 ∧ ∃ (v13 : Value) (g14 : Grp), gs = [[(b1, .cells #[.int .i64 0, .int .i64 0, .int .u32 0] 38 (0, 0))], [(b2, .cells #[.int .u32 0, .int .i64 0] 40 (0, 0))], [(b3, .cells #[.int .i64 0, .int .i64 0, .int .i64 0, .int .i64 0, .int .i64 0] 101 (0, 0))], [(b4, .cells #[v13] 98 (0, 0))], g14] ∧ Ow kS 9 τ12 v13 s12 g14) (fun _ _ _ _ => False) (fun _ _ _ _ hl ⟨hb, v13, g14, hg, ho15⟩ => ⟨hb.trans hl, v13, g14, hg, ho15.up hl⟩) (fun _ _ _ _ _ _ h => h.elim) ⟨Sto.Le.refl _, _, _, rfl, Ow.nil⟩ ?_ ?_ ?_
 ·rintro x12 s12 o12 τ12 gs12 vx12 hl12 h rfl ⟨hb12, v13, g14, rfl, ho15⟩ l12 rc12 caller12 cs12 fs12
  refine Z 3 rfl ?_
  refine st_begin ?_
  refine ZZ 4 [3] rfl rfl ?_
  refine o_litE eS [x12.2] rfl rfl rfl z_slT98 z_zero9 ⟨rfl, ⟨_, rfl, rfl⟩, trivial⟩ rfl rfl rfl rfl (fun v16 g17 ho18 => ?_)
  obtain ⟨hf22, hf23, h⟩ := h
  refine st_ord [5, 0, 0, 0, 0, 0] _ rfl ?_
  refine o_append (dk := kS) (xs := s12) (ys := [x12.2]) rfl rfl rfl rfl z_slT98 rfl ho15 rfl (Ow.src (j := 1) ho18 rfl) hf22 hf23 (fun v19 g20 ho21 => ?_)
  refine o_store (j := 5) (vs := [v19]) (cs' := [v19]) rfl rfl rfl z_size98 rfl rfl (oneL_ow ho21) (ones_cons ho21.one' ones_nil) rfl rfl rfl ?_
  refine st_gs [g20, g17, [(b1, .cells #[.int .i64 0, .int .i64 0, .int .u32 0] 38 (0, 0))], [(b2, .cells #[.int .u32 0, .int .i64 0] 40 (0, 0))], [(b3, .cells #[.int .i64 0, .int .i64 0, .int .i64 0, .int .i64 0, .int .i64 0] 101 (0, 0))], [(b4, .cells #[v19] 98 (0, 0))]] rfl ?_
  refine Z 2 rfl ?_
  refine st_ord [2, 2, 2, 2, 0] _ rfl ?_
  exact st_rend (List.Sublist.refl _) (Sto.Le.refl _) ⟨_, h, hl12, _, _, rfl, ho21⟩
 ·rintro p24 τ25 gs12 f12 ht hl26 ⟨hb, v27, g28, rfl, ho29⟩ rfl
  subst ht
  replace h := hA12
  refine st_ord [1, 1, 1, 1, 1] _ rfl ?_
  refine Z 3 rfl ?_
  refine st_cut (fun ρ τ30 gs => ∃ (s30 : Bool), conf_Parse_j2 p24 s30 r ∧ τ25.Le τ30 ∧ ESub ρ [(2, .pointer (some ⟨b1, 0, none⟩)), (3, .pointer (some ⟨b2, 0, none⟩)), (4, .int .i64 0), (5, .pointer (some ⟨b3, 0, none⟩)), (6, .pointer (some ⟨b4, 0, none⟩)), (33, .bool s30)] ∧ gs = [[(b1, .cells #[.int .i64 0, .int .i64 0, .int .u32 0] 38 (0, 0))], [(b2, .cells #[.int .u32 0, .int .i64 0] 40 (0, 0))], [(b3, .cells #[.int .i64 0, .int .i64 0, .int .i64 0, .int .i64 0, .int .i64 0] 101 (0, 0))], [(b4, .cells #[v27] 98 (0, 0))], g28]) ?_ (fun hk30 => ?_)
  ·rintro ρ30 τ30 gs30 ⟨s30, h, hl30, hρ, rfl⟩
   refine st_es hρ ?_
   refine st_if rfl h (fun h => ?_) (fun h => ?_)
   ·refine ZZ 8 [0, 1] rfl rfl ?_
    obtain rfl := Eq.symm h
    exact st_retC (gs' := []) [.agg #[.int .i64 0, .int .i64 0, .int .u32 0], .agg #[.int .u32 0, .int .i64 0], .int .i64 3] Tryd.func16 ⟨⟨_, _, _, _, rfl, mem_flat 0 rfl, fun w hw => cellOfN (vs := [.int .i64 0, .int .i64 0, .int .u32 0]) z_agg38 rfl w hw⟩, ⟨_, _, _, _, rfl, mem_flat 1 rfl, fun w hw => cellOfN (vs := [.int .u32 0, .int .i64 0]) z_agg40 rfl w hw⟩, rfl, trivial⟩ (by simp) ((hl8.trans hl26).trans hl30) ⟨rfl, rfl⟩
   ·refine Z 8 rfl ?_
    refine st_cut (fun ρ τ31 gs => ∃ (s31 : Int × Int × Int × Int × Int × Int), conf_Parse_j3 s31 r ∧ τ30.Le τ31 ∧ ESub ρ [(2, .pointer (some ⟨b1, 0, none⟩)), (3, .pointer (some ⟨b2, 0, none⟩)), (4, .int .i64 0), (5, .pointer (some ⟨b3, 0, none⟩)), (9, .int .i64 s31.1)] ∧ gs = [[(b1, .cells #[.int .i64 0, .int .i64 0, .int .u32 0] 38 (0, 0))], [(b2, .cells #[.int .u32 0, .int .i64 0] 40 (0, 0))], [(b3, .cells #[.int .i64 s31.2.1, .int .i64 s31.2.2.1, .int .i64 s31.2.2.2.1, .int .i64 s31.2.2.2.2.1, .int .i64 s31.2.2.2.2.2] 101 (0, 0))]]) ?_ (fun hk31 => ?_)
    ·rintro ρ31 τ31 gs31 ⟨s31, h, hl31, hρ, rfl⟩
     refine st_es hρ ?_
     refine Z 2 rfl ?_
     refine o_indexA rfl rfl rfl z_arr101 rfl rfl (by decide) (by decide) ?_
     refine ZZ 1 [2] rfl rfl ?_
     obtain ⟨r32, hr33, h⟩ := h
     refine st_call (foot := []) rfl rfl rfl rfl rfl rfl (callV_fn z_en60 (conf_start_ok hr33 τ31)) ?_
     rintro vτ34 τ34 gsτ34 hl35 ⟨rfl, rfl⟩
     refine Z 8 rfl ?_
     refine o_indexA rfl rfl rfl z_arr101 rfl rfl (by decide) (by decide) ?_
     refine ZZ 1 [2] rfl rfl ?_
     obtain ⟨r36, hr37, h⟩ := h
     refine st_call (foot := []) rfl rfl rfl rfl rfl rfl (callV_fn z_en60 (conf_start_ok hr37 τ34)) ?_
     rintro vτ38 τ38 gsτ38 hl39 ⟨rfl, rfl⟩
     refine Z 7 rfl ?_
     refine st_d42 [[(b1, .cells #[.int .i64 0, .int .i64 0, .int .u32 0] 38 (0, 0))], [(b2, .cells #[.int .u32 0, .int .i64 0] 40 (0, 0))], [(b3, .cells #[.int .i64 s31.2.1, .int .i64 s31.2.2.1, .int .i64 s31.2.2.2.1, .int .i64 s31.2.2.2.2.1, .int .i64 s31.2.2.2.2.2] 101 (0, 0))]] [] [] 13 2 1 [none, none, none, none, none, none, none, none, none, none, some (0, 0), some (1, 0), some (0, 1)] [none, none, none, none, none, none, none, none, none, none, none, none, none] [[none, some 15, some 15], [none, some 16]] [.v (.pointer (some ⟨b3, 0, none⟩)), .v (.int .i64 s31.2.1), .v (.pointer (some ⟨b3, 1, none⟩)), .v (.int .i64 s31.2.2.1), .v (.int .u32 r32.1), .v (.agg #[.int .i64 s31.2.1, .int .i64 s31.2.2.1, .int .u32 r32.1]), .v (.int .u32 r36.1), .v (.pointer (some ⟨b3, 4, none⟩)), .v (.int .i64 s31.2.2.2.2.2), .v (.agg #[.int .u32 r36.1, .int .i64 s31.2.2.2.2.2]), .t fun _ _ => True, .t fun _ _ => True, .t fun _ _ => True] [[fun τ u F => F = [], fun τ u F => ∃ (b41 : Nat), F = [[(b41, .cells #[.int .i64 0, .int .i64 0, .int .u32 0] 38 (0, 0))]] ∧ .pointer (some ⟨b41, 0, none⟩) = u, fun τ u F => ∃ (b44 : Nat), F = [[(b44, .cells #[.int .i64 s31.2.1, .int .i64 s31.2.2.1, .int .u32 r32.1] 38 (0, 0))]] ∧ .pointer (some ⟨b44, 0, none⟩) = u], [fun τ u F => F = [], fun τ u F => ∃ (b43 : Nat), F = [[(b43, .cells #[.int .u32 0, .int .i64 0] 40 (0, 0))]] ∧ .pointer (some ⟨b43, 0, none⟩) = u]] rfl z_mix rfl ⟨fun _ _ _ _ _ => trivial, ⟨fun _ _ _ _ _ => trivial, ⟨fun _ _ _ _ _ => trivial, trivial⟩⟩⟩ ⟨⟨fun _ _ _ _ hl h => h, ⟨fun _ _ _ _ hl h => (let ⟨b41, hF, hU⟩ := h; ⟨b41, hF, hU⟩), ⟨fun _ _ _ _ hl h => (let ⟨b44, hF, hU⟩ := h; ⟨b44, hF, hU⟩), trivial⟩⟩⟩, ⟨⟨fun _ _ _ _ hl h => h, ⟨fun _ _ _ _ hl h => (let ⟨b43, hF, hU⟩ := h; ⟨b43, hF, hU⟩), trivial⟩⟩, trivial⟩⟩ rfl rfl ?_ ?_ (allB_cons (allB_cons (allB_cons (allB_cons (allB_cons (allB_cons (allB_cons (allB_cons (allB_cons (allB_cons (allB_cons (allB_cons (allB_cons allB_nil ?_) ?_) ?_) ?_) (p4 dA)) ?_) (p4 dA)) ?_) ?_) ?_) ?_) ?_) ?_) ?_
     ·exact rfl
     ·exact rfl
     ·intro ρ' τ pool rs hl hd hout hw hk
      refine o_indexA rfl rfl rfl z_arr101 ((hout 5 rfl).trans rfl) rfl (by decide) (by decide) ?_
      exact hk _ _ (Sto.Le.refl _) rfl
     ·intro ρ' τ pool rs hl hd hout hw hk
      obtain ⟨_, e0, rfl⟩ := hd 0 rfl _ rfl
      refine o_load (j := 2) (v := .int .i64 s31.2.1) rfl rfl rfl z_sc3 e0 rfl rfl ?_
      exact hk _ _ (Sto.Le.refl _) rfl
     ·intro ρ' τ pool rs hl hd hout hw hk
      refine o_indexA rfl rfl rfl z_arr101 ((hout 5 rfl).trans rfl) rfl (by decide) (by decide) ?_
      exact hk _ _ (Sto.Le.refl _) rfl
     ·intro ρ' τ pool rs hl hd hout hw hk
      obtain ⟨_, e2, rfl⟩ := hd 2 rfl _ rfl
      refine o_load (j := 2) (v := .int .i64 s31.2.2.1) rfl rfl rfl z_sc3 e2 rfl rfl ?_
      exact hk _ _ (Sto.Le.refl _) rfl
     ·intro ρ' τ pool rs hl hd hout hw hk
      obtain ⟨_, e1, rfl⟩ := hd 1 rfl _ rfl
      obtain ⟨_, e3, rfl⟩ := hd 3 rfl _ rfl
      obtain ⟨_, e4, rfl⟩ := hd 4 rfl _ rfl
      refine o_build (ps := [(0, [.int .i64 s31.2.1]), (1, [.int .i64 s31.2.2.1]), (2, [.int .u32 r32.1])]) (cs := [.int .i64 s31.2.1, .int .i64 s31.2.2.1, .int .u32 r32.1]) rfl rfl rfl z_struct38 ⟨rfl, ⟨_, e1, rfl⟩, ⟨rfl, ⟨_, e3, rfl⟩, ⟨rfl, ⟨_, e4, rfl⟩, trivial⟩⟩⟩ rfl ?_
      exact hk _ _ (Sto.Le.refl _) rfl
     ·intro ρ' τ pool rs hl hd hout hw hk
      refine o_indexA rfl rfl rfl z_arr101 ((hout 5 rfl).trans rfl) rfl (by decide) (by decide) ?_
      exact hk _ _ (Sto.Le.refl _) rfl
     ·intro ρ' τ pool rs hl hd hout hw hk
      obtain ⟨_, e7, rfl⟩ := hd 7 rfl _ rfl
      refine o_load (j := 2) (v := .int .i64 s31.2.2.2.2.2) rfl rfl rfl z_sc3 e7 rfl rfl ?_
      exact hk _ _ (Sto.Le.refl _) rfl
     ·intro ρ' τ pool rs hl hd hout hw hk
      obtain ⟨_, e6, rfl⟩ := hd 6 rfl _ rfl
      obtain ⟨_, e8, rfl⟩ := hd 8 rfl _ rfl
      refine o_build (ps := [(0, [.int .u32 r36.1]), (1, [.int .i64 s31.2.2.2.2.2])]) (cs := [.int .u32 r36.1, .int .i64 s31.2.2.2.2.2]) rfl rfl rfl z_struct40 ⟨rfl, ⟨_, e6, rfl⟩, ⟨rfl, ⟨_, e8, rfl⟩, trivial⟩⟩ rfl ?_
      exact hk _ _ (Sto.Le.refl _) rfl
     ·intro ρ' τ u Fv pool rs hl hI hu hd hout hw hk
      have hI0 := hI
      obtain rfl := hI
      refine st_gs [[(b1, .cells #[.int .i64 0, .int .i64 0, .int .u32 0] 38 (0, 0))], [(b2, .cells #[.int .u32 0, .int .i64 0] 40 (0, 0))], [(b3, .cells #[.int .i64 s31.2.1, .int .i64 s31.2.2.1, .int .i64 s31.2.2.2.1, .int .i64 s31.2.2.2.2.1, .int .i64 s31.2.2.2.2.2] 101 (0, 0))], pool] rfl ?_
      refine o_alloc rfl rfl rfl z_zero38 (fun b40 => ?_)
      refine st_ord [1, 1, 1, 0, 0] _ rfl ?_
      exact hk _ _ [[(b40, .cells #[.int .i64 0, .int .i64 0, .int .u32 0] 38 (0, 0))]] (Sto.Le.refl _) trivial (by exact ⟨b40, rfl, rfl⟩)
     ·intro ρ' τ u Fv pool rs hl hI hu hd hout hw hk
      have hI0 := hI
      obtain rfl := hI
      refine st_gs [[(b1, .cells #[.int .i64 0, .int .i64 0, .int .u32 0] 38 (0, 0))], [(b2, .cells #[.int .u32 0, .int .i64 0] 40 (0, 0))], [(b3, .cells #[.int .i64 s31.2.1, .int .i64 s31.2.2.1, .int .i64 s31.2.2.2.1, .int .i64 s31.2.2.2.2.1, .int .i64 s31.2.2.2.2.2] 101 (0, 0))], pool] rfl ?_
      refine o_alloc rfl rfl rfl z_zero40 (fun b42 => ?_)
      refine st_ord [1, 1, 1, 0, 0] _ rfl ?_
      exact hk _ _ [[(b42, .cells #[.int .u32 0, .int .i64 0] 40 (0, 0))]] (Sto.Le.refl _) trivial (by exact ⟨b42, rfl, rfl⟩)
     ·intro ρ' τ u Fv pool rs hl hI hu hd hout hw hk
      obtain ⟨_, e5, rfl⟩ := hd 5 rfl _ rfl
      obtain ⟨b41, rfl, rfl⟩ := hI
      refine st_gs [[(b1, .cells #[.int .i64 0, .int .i64 0, .int .u32 0] 38 (0, 0))], [(b2, .cells #[.int .u32 0, .int .i64 0] 40 (0, 0))], [(b3, .cells #[.int .i64 s31.2.1, .int .i64 s31.2.2.1, .int .i64 s31.2.2.2.1, .int .i64 s31.2.2.2.2.1, .int .i64 s31.2.2.2.2.2] 101 (0, 0))], [(b41, .cells #[.int .i64 0, .int .i64 0, .int .u32 0] 38 (0, 0))], pool] rfl ?_
      refine o_store (j := 3) (vs := [.int .i64 s31.2.1, .int .i64 s31.2.2.1, .int .u32 r32.1]) (cs' := [.int .i64 s31.2.1, .int .i64 s31.2.2.1, .int .u32 r32.1]) rfl rfl rfl z_size38 (hu (by decide) _ rfl) e5 rfl (ones_cons rfl (ones_cons rfl (ones_cons rfl ones_nil))) rfl rfl rfl ?_
      refine st_gs [[(b1, .cells #[.int .i64 0, .int .i64 0, .int .u32 0] 38 (0, 0))], [(b2, .cells #[.int .u32 0, .int .i64 0] 40 (0, 0))], [(b3, .cells #[.int .i64 s31.2.1, .int .i64 s31.2.2.1, .int .i64 s31.2.2.2.1, .int .i64 s31.2.2.2.2.1, .int .i64 s31.2.2.2.2.2] 101 (0, 0))], [(b41, .cells #[.int .i64 s31.2.1, .int .i64 s31.2.2.1, .int .u32 r32.1] 38 (0, 0))], pool] rfl ?_
      exact hk _ _ [[(b41, .cells #[.int .i64 s31.2.1, .int .i64 s31.2.2.1, .int .u32 r32.1] 38 (0, 0))]] (Sto.Le.refl _) trivial (by exact ⟨b41, rfl, rfl⟩)
     intro ρ' τ45 vals u u1 Fv Fv1 hl45 hI hu hI1 hu1 hv hout
     obtain ⟨b44, rfl, rfl⟩ := hI
     obtain ⟨b43, rfl, rfl⟩ := hI1
     refine st_gs [[(b1, .cells #[.int .i64 0, .int .i64 0, .int .u32 0] 38 (0, 0))], [(b2, .cells #[.int .u32 0, .int .i64 0] 40 (0, 0))], [(b3, .cells #[.int .i64 s31.2.1, .int .i64 s31.2.2.1, .int .i64 s31.2.2.2.1, .int .i64 s31.2.2.2.2.1, .int .i64 s31.2.2.2.2.2] 101 (0, 0))], [(b44, .cells #[.int .i64 s31.2.1, .int .i64 s31.2.2.1, .int .u32 r32.1] 38 (0, 0))], [(b43, .cells #[.int .u32 0, .int .i64 0] 40 (0, 0))]] rfl ?_
     refine st_env (ρ' := [(74, .agg #[.int .u32 r36.1, .int .i64 s31.2.2.2.2.2]), (2, .pointer (some ⟨b1, 0, none⟩)), (3, .pointer (some ⟨b2, 0, none⟩)), (4, .int .i64 0), (9, .int .i64 s31.1), (12, .bool r32.2), (14, .bool r36.2), (15, .pointer (some ⟨b44, 0, none⟩)), (16, .pointer (some ⟨b43, 0, none⟩))]) ⟨(lv4 hv 9 rfl rfl rfl), (hout 2 rfl).trans rfl, (hout 3 rfl).trans rfl, (hout 4 rfl).trans rfl, (hout 9 rfl).trans rfl, (hout 12 rfl).trans rfl, (hout 14 rfl).trans rfl, (by exact hu _ rfl), (by exact hu1 _ rfl), trivial⟩ ?_
     refine ZZ 3 [4] rfl rfl ?_
     refine st_cut (fun ρ τ46 gs => ∃ (s46 : Int), conf_Parse_j4 s31 r32 r36 s46 r ∧ τ45.Le τ46 ∧ ESub ρ [(2, .pointer (some ⟨b1, 0, none⟩)), (3, .pointer (some ⟨b2, 0, none⟩)), (4, .int .i64 0), (9, .int .i64 s46), (15, .pointer (some ⟨b44, 0, none⟩)), (16, .pointer (some ⟨b43, 0, none⟩))] ∧ gs = [[(b1, .cells #[.int .i64 0, .int .i64 0, .int .u32 0] 38 (0, 0))], [(b2, .cells #[.int .u32 0, .int .i64 0] 40 (0, 0))], [(b44, .cells #[.int .i64 s31.2.1, .int .i64 s31.2.2.1, .int .u32 r32.1] 38 (0, 0))], [(b43, .cells #[.int .u32 r36.1, .int .i64 s31.2.2.2.2.2] 40 (0, 0))]]) ?_ (fun hk46 => ?_)
     ·rintro ρ46 τ46 gs46 ⟨s46, h, hl46, hρ, rfl⟩
      refine st_es hρ ?_
      refine Z 6 rfl ?_
      refine st_if rfl h (fun h => ?_) (fun h => ?_)
      ·refine ZZ 9 [0, 1] rfl rfl ?_
       obtain rfl := Eq.symm h
       exact st_retC (gs' := []) [.agg #[.int .i64 0, .int .i64 0, .int .u32 0], .agg #[.int .u32 0, .int .i64 0], .int .i64 s46] Tryd.func16 ⟨⟨_, _, _, _, rfl, mem_flat 0 rfl, fun w hw => cellOfN (vs := [.int .i64 0, .int .i64 0, .int .u32 0]) z_agg38 rfl w hw⟩, ⟨_, _, _, _, rfl, mem_flat 1 rfl, fun w hw => cellOfN (vs := [.int .u32 0, .int .i64 0]) z_agg40 rfl w hw⟩, rfl, trivial⟩ (by simp) (((((((hl8.trans hl26).trans hl30).trans hl31).trans hl35).trans hl39).trans hl45).trans hl46) ⟨rfl, rfl⟩
      ·refine Z 2 rfl ?_
       refine st_ord [1, 1, 1, 0] _ rfl ?_
       refine st_d41 [[(b2, .cells #[.int .u32 0, .int .i64 0] 40 (0, 0))], [(b44, .cells #[.int .i64 s31.2.1, .int .i64 s31.2.2.1, .int .u32 r32.1] 38 (0, 0))], [(b43, .cells #[.int .u32 r36.1, .int .i64 s31.2.2.2.2.2] 40 (0, 0))]] [[(b1, .cells #[.int .i64 0, .int .i64 0, .int .u32 0] 38 (0, 0))]] 3 1 [none, none, some (0, 0)] [none, none, none] [[none, none]] [.v (.agg #[.int .i64 s31.2.1, .int .i64 s31.2.2.1, .int .u32 r32.1]), .v (.agg #[.int .u32 r36.1, .int .i64 s31.2.2.2.2.2]), .t fun _ _ => True] [[fun τ u F => F = [[(b1, .cells #[.int .i64 0, .int .i64 0, .int .u32 0] 38 (0, 0))]], fun τ u F => F = [[(b1, .cells #[.int .i64 s31.2.1, .int .i64 s31.2.2.1, .int .u32 r32.1] 38 (0, 0))]]]] rfl z_mix rfl ⟨fun _ _ _ _ _ => trivial, trivial⟩ ⟨⟨fun _ _ _ _ hl h => h, ⟨fun _ _ _ _ hl h => h, trivial⟩⟩, trivial⟩ rfl rfl ?_ (allB_cons (allB_cons (allB_cons allB_nil ?_) ?_) ?_) ?_
       ·exact rfl
       ·intro ρ' τ pool rs hl hd hout hw hk
        refine o_loadN (j := 1) (vs := [.int .i64 s31.2.1, .int .i64 s31.2.2.1, .int .u32 r32.1]) rfl rfl rfl z_agg38 ((hout 15 rfl).trans rfl) rfl rfl ?_
        exact hk _ _ (Sto.Le.refl _) rfl
       ·intro ρ' τ pool rs hl hd hout hw hk
        refine o_loadN (j := 2) (vs := [.int .u32 r36.1, .int .i64 s31.2.2.2.2.2]) rfl rfl rfl z_agg40 ((hout 16 rfl).trans rfl) rfl rfl ?_
        exact hk _ _ (Sto.Le.refl _) rfl
       ·intro ρ' τ u Fv pool rs hl hI hu hd hout hw hk
        obtain ⟨_, e0, rfl⟩ := hd 0 rfl _ rfl
        have hI0 := hI
        obtain rfl := hI
        refine st_gs [[(b2, .cells #[.int .u32 0, .int .i64 0] 40 (0, 0))], [(b44, .cells #[.int .i64 s31.2.1, .int .i64 s31.2.2.1, .int .u32 r32.1] 38 (0, 0))], [(b43, .cells #[.int .u32 r36.1, .int .i64 s31.2.2.2.2.2] 40 (0, 0))], [(b1, .cells #[.int .i64 0, .int .i64 0, .int .u32 0] 38 (0, 0))], pool] rfl ?_
        refine o_store (j := 3) (vs := [.int .i64 s31.2.1, .int .i64 s31.2.2.1, .int .u32 r32.1]) (cs' := [.int .i64 s31.2.1, .int .i64 s31.2.2.1, .int .u32 r32.1]) rfl rfl rfl z_size38 ((hout 2 rfl).trans rfl) e0 rfl (ones_cons rfl (ones_cons rfl (ones_cons rfl ones_nil))) rfl rfl rfl ?_
        refine st_gs [[(b2, .cells #[.int .u32 0, .int .i64 0] 40 (0, 0))], [(b44, .cells #[.int .i64 s31.2.1, .int .i64 s31.2.2.1, .int .u32 r32.1] 38 (0, 0))], [(b43, .cells #[.int .u32 r36.1, .int .i64 s31.2.2.2.2.2] 40 (0, 0))], [(b1, .cells #[.int .i64 s31.2.1, .int .i64 s31.2.2.1, .int .u32 r32.1] 38 (0, 0))], pool] rfl ?_
        exact hk _ _ [[(b1, .cells #[.int .i64 s31.2.1, .int .i64 s31.2.2.1, .int .u32 r32.1] 38 (0, 0))]] (Sto.Le.refl _) trivial (by exact rfl)
       intro ρ' τ47 vals u Fv hl47 hI hu hv hout
       obtain rfl := hI
       refine st_gs [[(b2, .cells #[.int .u32 0, .int .i64 0] 40 (0, 0))], [(b44, .cells #[.int .i64 s31.2.1, .int .i64 s31.2.2.1, .int .u32 r32.1] 38 (0, 0))], [(b43, .cells #[.int .u32 r36.1, .int .i64 s31.2.2.2.2.2] 40 (0, 0))], [(b1, .cells #[.int .i64 s31.2.1, .int .i64 s31.2.2.1, .int .u32 r32.1] 38 (0, 0))]] rfl ?_
       refine st_env (ρ' := [(97, .agg #[.int .u32 r36.1, .int .i64 s31.2.2.2.2.2]), (2, .pointer (some ⟨b1, 0, none⟩)), (3, .pointer (some ⟨b2, 0, none⟩)), (4, .int .i64 0)]) ⟨(lv4 hv 1 rfl rfl rfl), (hout 2 rfl).trans rfl, (hout 3 rfl).trans rfl, (hout 4 rfl).trans rfl, trivial⟩ ?_
       refine ZZ 3 [0] rfl rfl ?_
       obtain rfl := Eq.symm h
       exact st_retC (gs' := []) [.agg #[.int .i64 s31.2.1, .int .i64 s31.2.2.1, .int .u32 r32.1], .agg #[.int .u32 r36.1, .int .i64 s31.2.2.2.2.2], .int .i64 0] Tryd.func16 ⟨⟨_, _, _, _, rfl, mem_flat 3 rfl, fun w hw => cellOfN (vs := [.int .i64 s31.2.1, .int .i64 s31.2.2.1, .int .u32 r32.1]) z_agg38 rfl w hw⟩, ⟨_, _, _, _, rfl, mem_flat 0 rfl, fun w hw => cellOfN (vs := [.int .u32 r36.1, .int .i64 s31.2.2.2.2.2]) z_agg40 rfl w hw⟩, rfl, trivial⟩ (by simp) ((((((((hl8.trans hl26).trans hl30).trans hl31).trans hl35).trans hl39).trans hl45).trans hl46).trans hl47) ⟨rfl, rfl⟩
     refine Z 7 rfl ?_
     refine st_if rfl h (fun h => ?_) (fun h => ?_)
     ·refine Z 2 rfl ?_
      refine st_ord [0, 0, 1, 1] _ rfl ?_
      exact hk46 _ _ _ ⟨s31.1, h, (Sto.Le.refl _), rfl, rfl⟩
     ·refine st_seq ?_
      refine st_cut (fun ρ τ48 gs => ∃ (s48 : Bool), conf_Parse_j5 s31 r32 r36 s48 r ∧ τ45.Le τ48 ∧ ESub ρ [(2, .pointer (some ⟨b1, 0, none⟩)), (3, .pointer (some ⟨b2, 0, none⟩)), (4, .int .i64 0), (15, .pointer (some ⟨b44, 0, none⟩)), (16, .pointer (some ⟨b43, 0, none⟩)), (84, .bool s48)] ∧ gs = [[(b1, .cells #[.int .i64 0, .int .i64 0, .int .u32 0] 38 (0, 0))], [(b2, .cells #[.int .u32 0, .int .i64 0] 40 (0, 0))], [(b44, .cells #[.int .i64 s31.2.1, .int .i64 s31.2.2.1, .int .u32 r32.1] 38 (0, 0))], [(b43, .cells #[.int .u32 r36.1, .int .i64 s31.2.2.2.2.2] 40 (0, 0))]]) ?_ (fun hk48 => ?_)
      ·rintro ρ48 τ48 gs48 ⟨s48, h, hl48, hρ, rfl⟩
       refine st_es hρ ?_
       refine st_if rfl h (fun h => ?_) (fun h => ?_)
       ·refine Z 4 rfl ?_
        exact hk46 _ _ _ ⟨5, h, hl48, rfl, rfl⟩
       ·refine ZZ 3 [2] rfl rfl ?_
        obtain ⟨r49, hr50, h⟩ := h
        refine st_call (foot := []) rfl rfl rfl rfl rfl rfl (callV_fn z_en33 (conf_CheckSender_ok hr50 τ48)) ?_
        rintro vτ51 τ51 gsτ51 hl52 ⟨rfl, rfl⟩
        refine Z 7 rfl ?_
        refine st_if rfl h (fun h => ?_) (fun h => ?_)
        ·refine ZZ 2 [3] rfl rfl ?_
         obtain ⟨r53, hr54, h⟩ := h
         refine st_call (foot := []) rfl rfl rfl rfl rfl rfl (callV_fn z_en34 (conf_CheckReceiver_ok hr54 τ51)) ?_
         rintro vτ55 τ55 gsτ55 hl56 ⟨rfl, rfl⟩
         refine Z 3 rfl ?_
         exact hk46 _ _ _ ⟨r53, h, ((hl48.trans hl52).trans hl56), rfl, rfl⟩
        ·refine Z 2 rfl ?_
         exact hk46 _ _ _ ⟨r49, h, (hl48.trans hl52), rfl, rfl⟩
      refine Z 3 rfl ?_
      refine o_mif rfl rfl rfl rfl h (fun h => ?_) (fun h => ?_)
      ·refine Z 5 rfl ?_
       refine st_ord [0, 0, 1, 1] _ rfl ?_
       exact hk48 _ _ _ ⟨true, h, (Sto.Le.refl _), rfl, rfl⟩
      ·refine Z 5 rfl ?_
       refine st_ord [0, 0, 1, 1] _ rfl ?_
       exact hk48 _ _ _ ⟨(!r36.2), h, (Sto.Le.refl _), rfl, rfl⟩
    refine Z 4 rfl ?_
    obtain ⟨e57, hL57, hA57⟩ := h
    refine st_loop hL57 (fun (s57 : Int × Int × Int × Int × Int × Int × Int) ρ τ57 gs => τ30.Le τ57 ∧ ESub ρ [(2, .pointer (some ⟨b1, 0, none⟩)), (3, .pointer (some ⟨b2, 0, none⟩)), (4, .int .i64 0), (5, .pointer (some ⟨b3, 0, none⟩)), (6, .pointer (some ⟨b4, 0, none⟩)), (9, .int .i64 s57.1), (36, .int .i64 s57.2.1)] ∧ gs = [[(b1, .cells #[.int .i64 0, .int .i64 0, .int .u32 0] 38 (0, 0))], [(b2, .cells #[.int .u32 0, .int .i64 0] 40 (0, 0))], [(b3, .cells #[.int .i64 s57.2.2.1, .int .i64 s57.2.2.2.1, .int .i64 s57.2.2.2.2.1, .int .i64 s57.2.2.2.2.2.1, .int .i64 s57.2.2.2.2.2.2] 101 (0, 0))], [(b4, .cells #[v27] 98 (0, 0))], g28]) ⟨Sto.Le.refl _, rfl, rfl⟩ ?_
    rintro s57 o57 h he57 ρ57 τ57 gs57 ⟨hl57, hρ, rfl⟩ hn57
    refine st_es hρ ?_
    refine Z 5 rfl ?_
    refine st_if rfl h (fun h => ?_) (fun h => ?_)
    ·refine ZZ 14 [3] rfl rfl ?_
     obtain ⟨q58, hf59, h⟩ := h
     refine o_indexOw rfl rfl rfl z_slT98 rfl rfl (ho29.up (hl30.trans hl57)) rfl hf59 (fun b60 hb61 => ?_)
     obtain ⟨vs62, hrep63, hat64⟩ := Ow.at (ho29.up (hl30.trans hl57)) hb61 hf59
     obtain rfl := hrep63
     refine o_loadOw (off := 0) (j := 4) (v := .string q58) rfl rfl rfl z_sc9 rfl hat64 rfl rfl ?_
     obtain ⟨r65, hr66, h⟩ := h
     refine st_call (foot := []) rfl rfl rfl rfl rfl rfl (callV_fn z_en59 (say_Read_ok hr66 τ57 (hE.up (((hl8.trans hl26).trans hl30).trans hl57)))) ?_
     rintro vτ67 τ67 gsτ67 hl68 ⟨rfl, rfl⟩
     refine Z 3 rfl ?_
     obtain ⟨hf69, hf70, h⟩ := h
     refine o_indexA rfl rfl rfl z_arr101 rfl rfl hf69 hf70 ?_
     refine o_storeV (j := 2) (s57.2.1.toNat) (f := (Value.int .i64)) (zz := 0) (a := r65.1) (l := 5) (xs := [s57.2.2.1, s57.2.2.2.1, s57.2.2.2.2.1, s57.2.2.2.2.2.1, s57.2.2.2.2.2.2]) [] [] rfl rfl rfl z_size3 rfl rfl rfl rfl rfl (by simp only [List.length_cons, List.length_nil]; omega) (by omega) ?_
     refine st_gs [[(b1, .cells #[.int .i64 0, .int .i64 0, .int .u32 0] 38 (0, 0))], [(b2, .cells #[.int .u32 0, .int .i64 0] 40 (0, 0))], [(b3, .cells #[.int .i64 ((putN 5 0 [s57.2.2.1, s57.2.2.2.1, s57.2.2.2.2.1, s57.2.2.2.2.2.1, s57.2.2.2.2.2.2] s57.2.1.toNat r65.1).getD 0 0), .int .i64 ((putN 5 0 [s57.2.2.1, s57.2.2.2.1, s57.2.2.2.2.1, s57.2.2.2.2.2.1, s57.2.2.2.2.2.2] s57.2.1.toNat r65.1).getD 1 0), .int .i64 ((putN 5 0 [s57.2.2.1, s57.2.2.2.1, s57.2.2.2.2.1, s57.2.2.2.2.2.1, s57.2.2.2.2.2.2] s57.2.1.toNat r65.1).getD 2 0), .int .i64 ((putN 5 0 [s57.2.2.1, s57.2.2.2.1, s57.2.2.2.2.1, s57.2.2.2.2.2.1, s57.2.2.2.2.2.2] s57.2.1.toNat r65.1).getD 3 0), .int .i64 ((putN 5 0 [s57.2.2.1, s57.2.2.2.1, s57.2.2.2.2.1, s57.2.2.2.2.2.1, s57.2.2.2.2.2.2] s57.2.1.toNat r65.1).getD 4 0)] 101 (0, 0))], [(b4, .cells #[v27] 98 (0, 0))], g28] rfl ?_
     refine Z 7 rfl ?_
     refine st_if rfl h (fun h => ?_) (fun h => ?_)
     ·refine st_exit rfl ?_
      obtain rfl := he57 _ h
      replace h := hA57
      refine st_ord [0, 0, 0] _ rfl ?_
      exact hk31 _ _ _ ⟨(r65.2, ((putN 5 0 [s57.2.2.1, s57.2.2.2.1, s57.2.2.2.2.1, s57.2.2.2.2.2.1, s57.2.2.2.2.2.2] s57.2.1.toNat r65.1).getD 0 0), ((putN 5 0 [s57.2.2.1, s57.2.2.2.1, s57.2.2.2.2.1, s57.2.2.2.2.2.1, s57.2.2.2.2.2.2] s57.2.1.toNat r65.1).getD 1 0), ((putN 5 0 [s57.2.2.1, s57.2.2.2.1, s57.2.2.2.2.1, s57.2.2.2.2.2.1, s57.2.2.2.2.2.2] s57.2.1.toNat r65.1).getD 2 0), ((putN 5 0 [s57.2.2.1, s57.2.2.2.1, s57.2.2.2.2.1, s57.2.2.2.2.2.1, s57.2.2.2.2.2.2] s57.2.1.toNat r65.1).getD 3 0), ((putN 5 0 [s57.2.2.1, s57.2.2.2.1, s57.2.2.2.2.1, s57.2.2.2.2.2.1, s57.2.2.2.2.2.2] s57.2.1.toNat r65.1).getD 4 0)), h, (hl57.trans hl68), rfl, rfl⟩
     ·refine Z 6 rfl ?_
      exact hn57 _ _ _ _ h ⟨(hl57.trans hl68), rfl, rfl⟩
    ·refine st_exit rfl ?_
     obtain rfl := he57 _ h
     replace h := hA57
     refine st_ord [0, 0, 0] _ rfl ?_
     exact hk31 _ _ _ ⟨(s57.1, s57.2.2.1, s57.2.2.2.1, s57.2.2.2.2.1, s57.2.2.2.2.2.1, s57.2.2.2.2.2.2), h, hl57, rfl, rfl⟩
  refine ZZ 2 [3] rfl rfl ?_
  refine o_lenO rfl rfl rfl z_slT98 rfl ho29 ?_
  refine o_ibin (v := .bool (!(decide ((p24.length : Int) = 6)))) rfl rfl rfl rfl rfl rfl ?_
  refine o_mif rfl rfl rfl rfl h (fun h => ?_) (fun h => ?_)
  ·refine Z 6 rfl ?_
   exact hk30 _ _ _ ⟨true, h, (Sto.Le.refl _), rfl, rfl⟩
  ·refine ZZ 1 [3] rfl rfl ?_
   obtain ⟨q72, hf73, h⟩ := h
   refine o_indexOw rfl rfl rfl z_slT98 rfl rfl ho29 rfl hf73 (fun b74 hb75 => ?_)
   obtain ⟨vs76, hrep77, hat78⟩ := Ow.at ho29 hb75 hf73
   obtain rfl := hrep77
   refine o_loadOw (off := 0) (j := 4) (v := .string q72) rfl rfl rfl z_sc9 rfl hat78 rfl rfl ?_
   refine o_sbin (v := .bool (!(decide (q72 = (bstr [108, 105, 110, 107]))))) rfl rfl rfl rfl (ev_str z_str26) rfl ?_
   refine Z 2 rfl ?_
   exact hk30 _ _ _ ⟨(!(decide (q72 = (bstr [108, 105, 110, 107])))), h, (Sto.Le.refl _), rfl, rfl⟩
 ·exact fun _ _ _ _ _ _ _ h => h.elim
theorem ref21_Sender_ok {a0 : Int × Int × Int} {r : Int} (h : ref21_Sender a0 r) (σ : Sto)  :
    Does Tryd.prog 30 [.agg [.int .i64 a0.1, .int .i64 a0.2.1, .int .u32 a0.2.2].toArray] σ [] (fun v τ gs => gs = [] ∧ .int .i64 r = v) := by
 refine call_of Tryd.func30 Tryd.ntmps30 rfl rfl (fun cs fs => ?_)
 refine Z 2 rfl ?_
 refine o_boxC rfl rfl rfl rfl rfl rfl (fun b1 => ?_)
 refine Z 4 rfl ?_
 refine st_cut (fun ρ τ2 gs => ∃ (s2 : Bool), ref21_Sender_j1 a0 s2 r ∧ σ.Le τ2 ∧ ESub ρ [(1, .pointer (some ⟨b1, 0, none⟩)), (2, .int .i64 0), (10, .bool s2)] ∧ gs = [[(b1, .cells #[.int .i64 a0.1, .int .i64 a0.2.1, .int .u32 a0.2.2] 43 (0, 0))]]) ?_ (fun hk2 => ?_)
 ·rintro ρ2 τ2 gs2 ⟨s2, h, hl2, hρ, rfl⟩
  refine st_es hρ ?_
  refine st_if rfl h (fun h => ?_) (fun h => ?_)
  ·refine Z 4 rfl ?_
   refine st_ord [] _ rfl ?_
   obtain rfl := Eq.symm h
   exact st_ret (gs' := []) Tryd.func30 rfl (List.Sublist.refl _) hl2 ⟨rfl, rfl⟩
  ·refine Z 3 rfl ?_
   refine st_cut (fun ρ τ3 gs => ∃ (s3 : Bool), ref21_Sender_j2 s3 r ∧ τ2.Le τ3 ∧ ESub ρ [(2, .int .i64 0), (18, .bool s3)] ∧ gs = []) ?_ (fun hk3 => ?_)
   ·rintro ρ3 τ3 gs3 ⟨s3, h, hl3, hρ, rfl⟩
    refine st_es hρ ?_
    refine st_if rfl h (fun h => ?_) (fun h => ?_)
    ·refine Z 4 rfl ?_
     obtain rfl := Eq.symm h
     exact st_ret (gs' := []) Tryd.func30 rfl (List.Sublist.refl _) (hl2.trans hl3) ⟨rfl, rfl⟩
    ·refine Z 5 rfl ?_
     obtain rfl := Eq.symm h
     exact st_ret (gs' := []) Tryd.func30 rfl (List.Sublist.refl _) (hl2.trans hl3) ⟨rfl, rfl⟩
   refine ZZ 4 [0] rfl rfl ?_
   refine o_mif rfl rfl rfl rfl h (fun h => ?_) (fun h => ?_)
   ·refine Z 5 rfl ?_
    refine st_ord [] _ rfl ?_
    exact hk3 _ _ _ ⟨true, h, (Sto.Le.refl _), rfl, rfl⟩
   ·refine ZZ 5 [0] rfl rfl ?_
    refine st_ord [] _ rfl ?_
    exact hk3 _ _ _ ⟨(decide (257 < a0.2.1)), h, (Sto.Le.refl _), rfl, rfl⟩
 refine ZZ 4 [0] rfl rfl ?_
 refine o_mif rfl rfl rfl rfl h (fun h => ?_) (fun h => ?_)
 ·refine Z 5 rfl ?_
  exact hk2 _ _ _ ⟨true, h, (Sto.Le.refl _), rfl, rfl⟩
 ·refine ZZ 5 [0] rfl rfl ?_
  exact hk2 _ _ _ ⟨(decide (2 < a0.1)), h, (Sto.Le.refl _), rfl, rfl⟩
theorem ref21_Receiver_ok {a0 : Int × Int} {r : Int} (h : ref21_Receiver a0 r) (σ : Sto)  :
    Does Tryd.prog 31 [.agg [.int .u32 a0.1, .int .i64 a0.2].toArray] σ [] (fun v τ gs => gs = [] ∧ .int .i64 r = v) := by
 refine call_of Tryd.func31 Tryd.ntmps31 rfl rfl (fun cs fs => ?_)
 refine Z 2 rfl ?_
 refine o_boxC rfl rfl rfl rfl rfl rfl (fun b1 => ?_)
 refine Z 4 rfl ?_
 refine st_cut (fun ρ τ2 gs => ∃ (s2 : Bool), ref21_Receiver_j1 s2 r ∧ σ.Le τ2 ∧ ESub ρ [(2, .int .i64 0), (10, .bool s2)] ∧ gs = []) ?_ (fun hk2 => ?_)
 ·rintro ρ2 τ2 gs2 ⟨s2, h, hl2, hρ, rfl⟩
  refine st_es hρ ?_
  refine st_if rfl h (fun h => ?_) (fun h => ?_)
  ·refine Z 4 rfl ?_
   obtain rfl := Eq.symm h
   exact st_ret (gs' := []) Tryd.func31 rfl (List.Sublist.refl _) hl2 ⟨rfl, rfl⟩
  ·refine Z 5 rfl ?_
   obtain rfl := Eq.symm h
   exact st_ret (gs' := []) Tryd.func31 rfl (List.Sublist.refl _) hl2 ⟨rfl, rfl⟩
 refine ZZ 4 [0] rfl rfl ?_
 refine o_mif rfl rfl rfl rfl h (fun h => ?_) (fun h => ?_)
 ·refine Z 5 rfl ?_
  refine st_ord [] _ rfl ?_
  exact hk2 _ _ _ ⟨true, h, (Sto.Le.refl _), rfl, rfl⟩
 ·refine ZZ 5 [0] rfl rfl ?_
  refine st_ord [] _ rfl ?_
  exact hk2 _ _ _ ⟨(decide (16 < a0.2)), h, (Sto.Le.refl _), rfl, rfl⟩
theorem conf_Line_ok {a0 : Int × Int × Int} {a1 : Int × Int} {r : ByteArray} (h : conf_Line a0 a1 r) (σ : Sto) (hT : Tab Tryd.prog σ) :
    Does Tryd.prog 19 [.agg [.int .i64 a0.1, .int .i64 a0.2.1, .int .u32 a0.2.2].toArray, .agg [.int .u32 a1.1, .int .i64 a1.2].toArray] σ [] (fun v τ gs => gs = [] ∧ .string r = v) := by
 refine call_of Tryd.func19 Tryd.ntmps19 rfl rfl (fun cs fs => ?_)
 refine Z 2 rfl ?_
 refine o_boxC rfl rfl rfl rfl rfl rfl (fun b1 => ?_)
 refine o_boxC rfl rfl rfl rfl rfl rfl (fun b2 => ?_)
 refine o_assign rfl rfl rfl (ev_str z_str0) ?_
 refine Z 3 rfl ?_
 refine st_cut (fun ρ τ3 gs => ∃ (s3 : Bool), conf_Line_j1 a0 a1 s3 r ∧ σ.Le τ3 ∧ ESub ρ [(2, .pointer (some ⟨b1, 0, none⟩)), (3, .pointer (some ⟨b2, 0, none⟩)), (4, .string (bstr [])), (15, .bool s3)] ∧ gs = [[(b1, .cells #[.int .i64 a0.1, .int .i64 a0.2.1, .int .u32 a0.2.2] 38 (0, 0))], [(b2, .cells #[.int .u32 a1.1, .int .i64 a1.2] 40 (0, 0))]]) ?_ (fun hk3 => ?_)
 ·rintro ρ3 τ3 gs3 ⟨s3, h, hl3, hρ, rfl⟩
  refine st_es hρ ?_
  refine st_if rfl h (fun h => ?_) (fun h => ?_)
  ·refine Z 2 rfl ?_
   refine o_assign rfl rfl rfl (ev_str z_str0) ?_
   refine st_end ?_
   refine st_ord [] _ rfl ?_
   obtain rfl := Eq.symm h
   exact st_ret (gs' := []) Tryd.func19 rfl (List.Sublist.refl _) hl3 ⟨rfl, rfl⟩
  ·refine Z 3 rfl ?_
   refine o_assign rfl rfl rfl (ev_str z_str26) ?_
   refine Z 2 rfl ?_
   refine st_cut (fun ρ τ4 gs => ∃ (s4 : ByteArray), conf_Line_j2 s4 r ∧ τ3.Le τ4 ∧ ESub ρ [(4, .string (bstr [])), (5, .string s4)] ∧ gs = []) ?_ (fun hk4 => ?_)
   ·rintro ρ4 τ4 gs4 ⟨s4, h, hl4, hρ, rfl⟩
    refine st_es hρ ?_
    refine Z 5 rfl ?_
    obtain rfl := Eq.symm h
    exact st_ret (gs' := []) Tryd.func19 rfl (List.Sublist.refl _) (hl3.trans hl4) ⟨rfl, rfl⟩
   refine ZZ 14 [0, 0, 0, 1, 1] rfl rfl ?_
   refine o_buildA (ps := [(0, [.int .i64 a0.1]), (1, [.int .i64 a0.2.1]), (2, [.int .i64 (IntKind.i64.wrap a0.2.2)]), (3, [.int .i64 (IntKind.i64.wrap a1.1)]), (4, [.int .i64 a1.2])]) (cs := [.int .i64 a0.1, .int .i64 a0.2.1, .int .i64 (IntKind.i64.wrap a0.2.2), .int .i64 (IntKind.i64.wrap a1.1), .int .i64 a1.2]) rfl rfl rfl z_arrz101 ⟨rfl, ⟨_, rfl, rfl⟩, ⟨rfl, ⟨_, rfl, rfl⟩, ⟨rfl, ⟨_, rfl, rfl⟩, ⟨rfl, ⟨_, rfl, rfl⟩, ⟨rfl, ⟨_, rfl, rfl⟩, trivial⟩⟩⟩⟩⟩ (fill_all [.int .i64 a0.1, .int .i64 a0.2.1, .int .i64 (IntKind.i64.wrap a0.2.2), .int .i64 (IntKind.i64.wrap a1.1), .int .i64 a1.2] _ rfl) ?_
   refine Z 2 rfl ?_
   obtain ⟨e5, hL5, hA5⟩ := h
   refine st_ord [] _ rfl ?_
   refine st_loop hL5 (fun (s5 : ByteArray × Int) ρ τ5 gs => τ3.Le τ5 ∧ ESub ρ [(4, .string (bstr [])), (5, .string s5.1), (28, .agg #[.int .i64 a0.1, .int .i64 a0.2.1, .int .i64 (IntKind.i64.wrap a0.2.2), .int .i64 (IntKind.i64.wrap a1.1), .int .i64 a1.2]), (29, .int .i64 s5.2)] ∧ gs = []) ⟨Sto.Le.refl _, rfl, rfl⟩ ?_
   rintro s5 o5 h he5 ρ5 τ5 gs5 ⟨hl5, hρ, rfl⟩ hn5
   refine st_es hρ ?_
   refine Z 5 rfl ?_
   refine st_if rfl h (fun h => ?_) (fun h => ?_)
   ·refine Z 5 rfl ?_
    obtain ⟨hf6, hf7, h⟩ := h
    refine o_indexV (f := (Value.int .i64)) (zz := 0) (l := 5) (xs := [a0.1, a0.2.1, (IntKind.i64.wrap a0.2.2), (IntKind.i64.wrap a1.1), a1.2]) (cs := [.int .i64 a0.1, .int .i64 a0.2.1, .int .i64 (IntKind.i64.wrap a0.2.2), .int .i64 (IntKind.i64.wrap a1.1), .int .i64 a1.2]) rfl rfl rfl z_arr101 z_sc3 rfl rfl rfl hf6 hf7 ?_
    refine Z 5 rfl ?_
    obtain ⟨r8, hr9, h⟩ := h
    refine st_call (foot := []) rfl rfl rfl rfl rfl rfl (callV_fn z_en62 (say_Number_ok hr9 τ5 (hT.up (hl3.trans hl5)))) ?_
    rintro vτ10 τ10 gsτ10 hl11 ⟨rfl, rfl⟩
    obtain ⟨hf12, h⟩ := h
    refine o_sadd rfl rfl rfl (ev_str z_str3) rfl hf12 ?_
    obtain ⟨hf13, h⟩ := h
    refine o_sadd rfl rfl rfl rfl rfl hf13 ?_
    refine Z 7 rfl ?_
    exact hn5 _ _ _ _ h ⟨(hl5.trans hl11), rfl, rfl⟩
   ·refine st_exit rfl ?_
    obtain rfl := he5 _ h
    replace h := hA5
    exact hk4 _ _ _ ⟨s5.1, h, hl5, rfl, rfl⟩
 refine ZZ 2 [1] rfl rfl ?_
 obtain ⟨r15, hr16, h⟩ := h
 refine st_call (foot := []) rfl rfl rfl rfl rfl rfl (callV_fn z_en33 (conf_CheckSender_ok hr16 σ)) ?_
 rintro vτ17 τ17 gsτ17 hl18 ⟨rfl, rfl⟩
 refine o_ibin (v := .bool (!(decide (r15 = 0)))) rfl rfl rfl rfl rfl rfl ?_
 refine o_mif rfl rfl rfl rfl h (fun h => ?_) (fun h => ?_)
 ·refine Z 5 rfl ?_
  refine st_ord [1, 0] _ rfl ?_
  exact hk3 _ _ _ ⟨true, h, hl18, rfl, rfl⟩
 ·refine ZZ 1 [0] rfl rfl ?_
  obtain ⟨r19, hr20, h⟩ := h
  refine st_call (foot := []) rfl rfl rfl rfl rfl rfl (callV_fn z_en34 (conf_CheckReceiver_ok hr20 τ17)) ?_
  rintro vτ21 τ21 gsτ21 hl22 ⟨rfl, rfl⟩
  refine Z 3 rfl ?_
  refine st_ord [1, 0] _ rfl ?_
  exact hk3 _ _ _ ⟨(!(decide (r19 = 0))), h, (hl18.trans hl22), rfl, rfl⟩
theorem cobs_Most_ok {a0 : Int} {r : Int} (h : cobs_Most a0 r) (σ : Sto)  :
    Does Tryd.prog 85 [.int .i64 a0] σ [] (fun v τ gs => gs = [] ∧ .int .i64 r = v) := by
 refine call_of Tryd.func85 Tryd.ntmps85 rfl rfl (fun cs fs => ?_)
 refine Z 10 rfl ?_
 refine st_if rfl h (fun h => ?_) (fun h => ?_)
 ·refine Z 4 rfl ?_
  obtain rfl := Eq.symm h
  exact st_ret (gs' := []) Tryd.func85 rfl (List.Sublist.refl _) (Sto.Le.refl _) ⟨rfl, rfl⟩
 ·refine Z 8 rfl ?_
  refine st_cut (fun ρ τ1 gs => ∃ (s1 : Int), cobs_Most_j1 a0 s1 r ∧ σ.Le τ1 ∧ ESub ρ [(0, .int .i64 a0), (2, .int .i64 0), (3, .int .i64 s1)] ∧ gs = []) ?_ (fun hk1 => ?_)
  ·rintro ρ1 τ1 gs1 ⟨s1, h, hl1, hρ, rfl⟩
   refine st_es hρ ?_
   refine Z 8 rfl ?_
   obtain rfl := Eq.symm h
   exact st_ret (gs' := []) Tryd.func85 rfl (List.Sublist.refl _) hl1 ⟨rfl, rfl⟩
  refine Z 6 rfl ?_
  refine st_if rfl h (fun h => ?_) (fun h => ?_)
  ·refine Z 5 rfl ?_
   exact hk1 _ _ _ ⟨(IntKind.i64.wrap ((IntKind.i64.wrap (a0.tdiv 254)) + 1)), h, (Sto.Le.refl _), rfl, rfl⟩
  ·refine st_skip ?_
   exact hk1 _ _ _ ⟨(IntKind.i64.wrap (a0.tdiv 254)), h, (Sto.Le.refl _), rfl, rfl⟩
theorem frame_Wire_ok {a0 : Int} {r : Int} (h : frame_Wire a0 r) (σ : Sto)  :
    Does Tryd.prog 67 [.int .i64 a0] σ [] (fun v τ gs => gs = [] ∧ .int .i64 r = v) := by
 refine call_of Tryd.func67 Tryd.ntmps67 rfl rfl (fun cs fs => ?_)
 refine Z 6 rfl ?_
 refine st_cut (fun ρ τ1 gs => ∃ (s1 : Bool), frame_Wire_j1 a0 s1 r ∧ σ.Le τ1 ∧ ESub ρ [(0, .int .i64 a0), (2, .int .i64 0), (8, .bool s1)] ∧ gs = []) ?_ (fun hk1 => ?_)
 ·rintro ρ1 τ1 gs1 ⟨s1, h, hl1, hρ, rfl⟩
  refine st_es hρ ?_
  refine st_if rfl h (fun h => ?_) (fun h => ?_)
  ·refine Z 4 rfl ?_
   obtain rfl := Eq.symm h
   exact st_ret (gs' := []) Tryd.func67 rfl (List.Sublist.refl _) hl1 ⟨rfl, rfl⟩
  ·refine Z 5 rfl ?_
   obtain ⟨r2, hr3, h⟩ := h
   refine st_call (foot := []) rfl rfl rfl rfl rfl rfl (callV_fn z_en85 (cobs_Most_ok hr3 τ1)) ?_
   rintro vτ4 τ4 gsτ4 hl5 ⟨rfl, rfl⟩
   refine Z 3 rfl ?_
   obtain rfl := Eq.symm h
   exact st_ret (gs' := []) Tryd.func67 rfl (List.Sublist.refl _) (hl1.trans hl5) ⟨rfl, rfl⟩
 refine Z 3 rfl ?_
 refine o_mif rfl rfl rfl rfl h (fun h => ?_) (fun h => ?_)
 ·refine Z 4 rfl ?_
  exact hk1 _ _ _ ⟨true, h, (Sto.Le.refl _), rfl, rfl⟩
 ·refine Z 4 rfl ?_
  exact hk1 _ _ _ ⟨(decide (242 < a0)), h, (Sto.Le.refl _), rfl, rfl⟩
theorem frame_Room_ok {a0 : Int} {r : Int} (h : frame_Room a0 r) (σ : Sto)  :
    Does Tryd.prog 65 [.int .i64 a0] σ [] (fun v τ gs => gs = [] ∧ .int .i64 r = v) := by
 refine call_of Tryd.func65 Tryd.ntmps65 rfl rfl (fun cs fs => ?_)
 refine Z 8 rfl ?_
 obtain ⟨r1, hr2, h⟩ := h
 refine st_call (foot := []) rfl rfl rfl rfl rfl rfl (callV_fn z_en67 (frame_Wire_ok hr2 σ)) ?_
 rintro vτ3 τ3 gsτ3 hl4 ⟨rfl, rfl⟩
 refine Z 2 rfl ?_
 refine st_if rfl h (fun h => ?_) (fun h => ?_)
 ·refine Z 4 rfl ?_
  obtain rfl := Eq.symm h
  exact st_ret (gs' := []) Tryd.func65 rfl (List.Sublist.refl _) hl4 ⟨rfl, rfl⟩
 ·refine Z 4 rfl ?_
  obtain ⟨r5, hr6, h⟩ := h
  refine st_call (foot := []) rfl rfl rfl rfl rfl rfl (callV_fn z_en67 (frame_Wire_ok hr6 τ3)) ?_
  rintro vτ7 τ7 gsτ7 hl8 ⟨rfl, rfl⟩
  refine Z 5 rfl ?_
  obtain rfl := Eq.symm h
  exact st_ret (gs' := []) Tryd.func65 rfl (List.Sublist.refl _) (hl4.trans hl8) ⟨rfl, rfl⟩
theorem conf_Room_ok {a0 : Int × Int × Int} {r : Int} (h : conf_Room a0 r) (σ : Sto)  :
    Does Tryd.prog 35 [.agg [.int .i64 a0.1, .int .i64 a0.2.1, .int .u32 a0.2.2].toArray] σ [] (fun v τ gs => gs = [] ∧ .int .i64 r = v) := by
 refine call_of Tryd.func35 Tryd.ntmps35 rfl rfl (fun cs fs => ?_)
 refine Z 2 rfl ?_
 refine o_boxC rfl rfl rfl rfl rfl rfl (fun b1 => ?_)
 refine ZZ 6 [0] rfl rfl ?_
 obtain ⟨r2, hr3, h⟩ := h
 refine st_call (foot := []) rfl rfl rfl rfl rfl rfl (callV_fn z_en33 (conf_CheckSender_ok hr3 σ)) ?_
 rintro vτ4 τ4 gsτ4 hl5 ⟨rfl, rfl⟩
 refine Z 2 rfl ?_
 refine st_if rfl h (fun h => ?_) (fun h => ?_)
 ·refine Z 4 rfl ?_
  refine st_ord [] _ rfl ?_
  obtain rfl := Eq.symm h
  exact st_ret (gs' := []) Tryd.func35 rfl (List.Sublist.refl _) hl5 ⟨rfl, rfl⟩
 ·refine ZZ 5 [0] rfl rfl ?_
  obtain ⟨r6, hr7, h⟩ := h
  refine st_call (foot := []) rfl rfl rfl rfl rfl rfl (callV_fn z_en65 (frame_Room_ok hr7 τ4)) ?_
  rintro vτ8 τ8 gsτ8 hl9 ⟨rfl, rfl⟩
  refine Z 2 rfl ?_
  refine st_ord [] _ rfl ?_
  obtain rfl := Eq.symm h
  exact st_ret (gs' := []) Tryd.func35 rfl (List.Sublist.refl _) (hl5.trans hl9) ⟨rfl, rfl⟩
theorem cut_Count_ok {a0 : Int} {a1 : Int} {r : Int} (h : cut_Count a0 a1 r) (σ : Sto)  :
    Does Tryd.prog 66 [.int .i64 a0, .int .i64 a1] σ [] (fun v τ gs => gs = [] ∧ .int .i64 r = v) := by
 refine call_of Tryd.func66 Tryd.ntmps66 rfl rfl (fun cs fs => ?_)
 refine Z 12 rfl ?_
 refine st_if rfl h (fun h => ?_) (fun h => ?_)
 ·refine Z 4 rfl ?_
  obtain rfl := Eq.symm h
  exact st_ret (gs' := []) Tryd.func66 rfl (List.Sublist.refl _) (Sto.Le.refl _) ⟨rfl, rfl⟩
 ·refine Z 6 rfl ?_
  refine st_if rfl h (fun h => ?_) (fun h => ?_)
  ·refine Z 4 rfl ?_
   obtain rfl := Eq.symm h
   exact st_ret (gs' := []) Tryd.func66 rfl (List.Sublist.refl _) (Sto.Le.refl _) ⟨rfl, rfl⟩
  ·refine Z 7 rfl ?_
   obtain ⟨hf1, h⟩ := h
   refine o_quo rfl rfl rfl rfl rfl hf1 ?_
   refine Z 3 rfl ?_
   obtain rfl := Eq.symm h
   exact st_ret (gs' := []) Tryd.func66 rfl (List.Sublist.refl _) (Sto.Le.refl _) ⟨rfl, rfl⟩
theorem conf_Frames_ok {a0 : Int × Int × Int} {a1 : Int} {r : Int} (h : conf_Frames a0 a1 r) (σ : Sto)  :
    Does Tryd.prog 37 [.agg [.int .i64 a0.1, .int .i64 a0.2.1, .int .u32 a0.2.2].toArray, .int .i64 a1] σ [] (fun v τ gs => gs = [] ∧ .int .i64 r = v) := by
 refine call_of Tryd.func37 Tryd.ntmps37 rfl rfl (fun cs fs => ?_)
 refine Z 2 rfl ?_
 refine o_boxC rfl rfl rfl rfl rfl rfl (fun b1 => ?_)
 refine Z 4 rfl ?_
 refine st_cut (fun ρ τ2 gs => ∃ (s2 : Bool), conf_Frames_j1 a0 a1 s2 r ∧ σ.Le τ2 ∧ ESub ρ [(1, .int .i64 a1), (2, .pointer (some ⟨b1, 0, none⟩)), (4, .int .i64 0), (10, .bool s2)] ∧ gs = [[(b1, .cells #[.int .i64 a0.1, .int .i64 a0.2.1, .int .u32 a0.2.2] 38 (0, 0))]]) ?_ (fun hk2 => ?_)
 ·rintro ρ2 τ2 gs2 ⟨s2, h, hl2, hρ, rfl⟩
  refine st_es hρ ?_
  refine st_if rfl h (fun h => ?_) (fun h => ?_)
  ·refine Z 4 rfl ?_
   refine st_ord [] _ rfl ?_
   obtain rfl := Eq.symm h
   exact st_ret (gs' := []) Tryd.func37 rfl (List.Sublist.refl _) hl2 ⟨rfl, rfl⟩
  ·refine ZZ 5 [0] rfl rfl ?_
   obtain ⟨r3, hr4, h⟩ := h
   refine st_call (foot := []) rfl rfl rfl rfl rfl rfl (callV_fn z_en35 (conf_Room_ok hr4 τ2)) ?_
   rintro vτ5 τ5 gsτ5 hl6 ⟨rfl, rfl⟩
   obtain ⟨r7, hr8, h⟩ := h
   refine st_call (foot := []) rfl rfl rfl rfl rfl rfl (callV_fn z_en66 (cut_Count_ok hr8 τ5)) ?_
   rintro vτ9 τ9 gsτ9 hl10 ⟨rfl, rfl⟩
   refine Z 2 rfl ?_
   refine st_ord [] _ rfl ?_
   obtain rfl := Eq.symm h
   exact st_ret (gs' := []) Tryd.func37 rfl (List.Sublist.refl _) ((hl2.trans hl6).trans hl10) ⟨rfl, rfl⟩
 refine Z 3 rfl ?_
 refine o_mif rfl rfl rfl rfl h (fun h => ?_) (fun h => ?_)
 ·refine Z 4 rfl ?_
  exact hk2 _ _ _ ⟨true, h, (Sto.Le.refl _), rfl, rfl⟩
 ·refine Z 4 rfl ?_
  exact hk2 _ _ _ ⟨(decide (192 < a1)), h, (Sto.Le.refl _), rfl, rfl⟩
theorem law21_known_ok  {r : Bool} (h : law21_known r) (σ : Sto) (hT : Tab Tryd.prog σ) :
    Does Tryd.prog 18 [] σ [] (fun v τ gs => gs = [] ∧ .bool r = v) := by
 refine call_of Tryd.func18 Tryd.ntmps18 rfl rfl (fun cs fs => ?_)
 refine ZZ 7 [] rfl rfl ?_
 refine o_alloc rfl rfl rfl z_zero38 (fun b1 => ?_)
 refine ZZ 3 [0] rfl rfl ?_
 refine st_cut (fun ρ τ2 gs => ∃ (s2 : Bool), law21_known_j1 s2 r ∧ σ.Le τ2 ∧ ESub ρ [(0, .bool s2)] ∧ gs = []) ?_ (fun hk2 => ?_)
 ·rintro ρ2 τ2 gs2 ⟨s2, h, hl2, hρ, rfl⟩
  refine st_es hρ ?_
  obtain rfl := Eq.symm h
  exact st_ret (gs' := []) Tryd.func18 rfl (List.Sublist.refl _) hl2 ⟨rfl, rfl⟩
 refine ZZ 3 [0] rfl rfl ?_
 obtain ⟨r3, hr4, h⟩ := h
 refine st_call (foot := []) rfl rfl rfl rfl rfl rfl (callV_fn z_en19 (conf_Line_ok hr4 σ hT)) ?_
 rintro vτ5 τ5 gsτ5 hl6 ⟨rfl, rfl⟩
 refine o_sbin (v := .bool (decide (r3 = (bstr [108, 105, 110, 107, 32, 50, 32, 54, 52, 32, 49, 48, 32, 49, 48, 32, 52])))) rfl rfl rfl rfl (ev_str z_str29) rfl ?_
 refine o_mif rfl rfl rfl rfl h (fun h => ?_) (fun h => ?_)
 ·refine ZZ 1 [0] rfl rfl ?_
  obtain ⟨r7, hr8, h⟩ := h
  refine st_call (foot := []) rfl rfl rfl rfl rfl rfl (callV_fn z_en35 (conf_Room_ok hr8 τ5)) ?_
  rintro vτ9 τ9 gsτ9 hl10 ⟨rfl, rfl⟩
  refine Z 2 rfl ?_
  refine o_mif rfl rfl rfl rfl h (fun h => ?_) (fun h => ?_)
  ·refine ZZ 1 [0] rfl rfl ?_
   obtain ⟨r11, hr12, h⟩ := h
   refine st_call (foot := []) rfl rfl rfl rfl rfl rfl (callV_fn z_en37 (conf_Frames_ok hr12 τ9)) ?_
   rintro vτ13 τ13 gsτ13 hl14 ⟨rfl, rfl⟩
   refine Z 4 rfl ?_
   refine st_ord [] _ rfl ?_
   exact hk2 _ _ _ ⟨(decide (r11 = 3)), h, ((hl6.trans hl10).trans hl14), rfl, rfl⟩
  ·refine Z 6 rfl ?_
   refine st_ord [] _ rfl ?_
   exact hk2 _ _ _ ⟨false, h, (hl6.trans hl10), rfl, rfl⟩
 ·refine Z 11 rfl ?_
  refine st_ord [] _ rfl ?_
  exact hk2 _ _ _ ⟨false, h, hl6, rfl, rfl⟩
theorem ref21_Room_ok {a0 : Int × Int × Int} {r : Int} (h : ref21_Room a0 r) (σ : Sto)  :
    Does Tryd.prog 36 [.agg [.int .i64 a0.1, .int .i64 a0.2.1, .int .u32 a0.2.2].toArray] σ [] (fun v τ gs => gs = [] ∧ .int .i64 r = v) := by
 refine call_of Tryd.func36 Tryd.ntmps36 rfl rfl (fun cs fs => ?_)
 refine Z 2 rfl ?_
 refine o_boxC rfl rfl rfl rfl rfl rfl (fun b1 => ?_)
 refine ZZ 6 [0] rfl rfl ?_
 obtain ⟨r2, hr3, h⟩ := h
 refine st_call (foot := []) rfl rfl rfl rfl rfl rfl (callV_fn z_en30 (ref21_Sender_ok hr3 σ)) ?_
 rintro vτ4 τ4 gsτ4 hl5 ⟨rfl, rfl⟩
 refine Z 2 rfl ?_
 refine st_if rfl h (fun h => ?_) (fun h => ?_)
 ·refine Z 4 rfl ?_
  refine st_ord [] _ rfl ?_
  obtain rfl := Eq.symm h
  exact st_ret (gs' := []) Tryd.func36 rfl (List.Sublist.refl _) hl5 ⟨rfl, rfl⟩
 ·refine ZZ 8 [0] rfl rfl ?_
  refine st_ord [] _ rfl ?_
  obtain rfl := Eq.symm h
  exact st_ret (gs' := []) Tryd.func36 rfl (List.Sublist.refl _) hl5 ⟨rfl, rfl⟩
theorem ref21_Frames_ok {a0 : Int × Int × Int} {a1 : Int} {r : Int} (h : ref21_Frames a0 a1 r) (σ : Sto)  :
    Does Tryd.prog 32 [.agg [.int .i64 a0.1, .int .i64 a0.2.1, .int .u32 a0.2.2].toArray, .int .i64 a1] σ [] (fun v τ gs => gs = [] ∧ .int .i64 r = v) := by
 refine call_of Tryd.func32 Tryd.ntmps32 rfl rfl (fun cs fs => ?_)
 refine Z 2 rfl ?_
 refine o_boxC rfl rfl rfl rfl rfl rfl (fun b1 => ?_)
 refine Z 4 rfl ?_
 refine st_cut (fun ρ τ2 gs => ∃ (s2 : Bool), ref21_Frames_j1 a0 a1 s2 r ∧ σ.Le τ2 ∧ ESub ρ [(1, .int .i64 a1), (2, .pointer (some ⟨b1, 0, none⟩)), (4, .int .i64 0), (16, .bool s2)] ∧ gs = [[(b1, .cells #[.int .i64 a0.1, .int .i64 a0.2.1, .int .u32 a0.2.2] 43 (0, 0))]]) ?_ (fun hk2 => ?_)
 ·rintro ρ2 τ2 gs2 ⟨s2, h, hl2, hρ, rfl⟩
  refine st_es hρ ?_
  refine st_if rfl h (fun h => ?_) (fun h => ?_)
  ·refine Z 4 rfl ?_
   refine st_ord [] _ rfl ?_
   obtain rfl := Eq.symm h
   exact st_ret (gs' := []) Tryd.func32 rfl (List.Sublist.refl _) hl2 ⟨rfl, rfl⟩
  ·refine Z 6 rfl ?_
   refine st_cut (fun ρ τ3 gs => ∃ (s3 : Int), ref21_Frames_j2 s3 r ∧ τ2.Le τ3 ∧ ESub ρ [(4, .int .i64 0), (5, .int .i64 s3)] ∧ gs = []) ?_ (fun hk3 => ?_)
   ·rintro ρ3 τ3 gs3 ⟨s3, h, hl3, hρ, rfl⟩
    refine st_es hρ ?_
    refine Z 5 rfl ?_
    obtain rfl := Eq.symm h
    exact st_ret (gs' := []) Tryd.func32 rfl (List.Sublist.refl _) (hl2.trans hl3) ⟨rfl, rfl⟩
   obtain ⟨e4, hL4, hA4⟩ := h
   refine st_loop hL4 (fun (s4 : Int × Int) ρ τ4 gs => τ2.Le τ4 ∧ ESub ρ [(1, .int .i64 s4.1), (2, .pointer (some ⟨b1, 0, none⟩)), (4, .int .i64 0), (5, .int .i64 s4.2)] ∧ gs = [[(b1, .cells #[.int .i64 a0.1, .int .i64 a0.2.1, .int .u32 a0.2.2] 43 (0, 0))]]) ⟨Sto.Le.refl _, rfl, rfl⟩ ?_
   rintro s4 o4 h he4 ρ4 τ4 gs4 ⟨hl4, hρ, rfl⟩ hn4
   refine st_es hρ ?_
   refine Z 6 rfl ?_
   refine st_if rfl h (fun h => ?_) (fun h => ?_)
   ·refine ZZ 6 [0] rfl rfl ?_
    obtain ⟨r5, hr6, h⟩ := h
    refine st_call (foot := []) rfl rfl rfl rfl rfl rfl (callV_fn z_en36 (ref21_Room_ok hr6 τ4)) ?_
    rintro vτ7 τ7 gsτ7 hl8 ⟨rfl, rfl⟩
    refine Z 9 rfl ?_
    exact hn4 _ _ _ _ h ⟨(hl4.trans hl8), rfl, rfl⟩
   ·refine st_exit rfl ?_
    obtain rfl := he4 _ h
    replace h := hA4
    refine st_ord [] _ rfl ?_
    exact hk3 _ _ _ ⟨s4.2, h, hl4, rfl, rfl⟩
 refine ZZ 2 [0] rfl rfl ?_
 obtain ⟨r10, hr11, h⟩ := h
 refine st_call (foot := []) rfl rfl rfl rfl rfl rfl (callV_fn z_en30 (ref21_Sender_ok hr11 σ)) ?_
 rintro vτ12 τ12 gsτ12 hl13 ⟨rfl, rfl⟩
 refine o_ibin (v := .bool (!(decide (r10 = 0)))) rfl rfl rfl rfl rfl rfl ?_
 refine o_mif rfl rfl rfl rfl h (fun h => ?_) (fun h => ?_)
 ·refine Z 8 rfl ?_
  exact hk2 _ _ _ ⟨true, h, hl13, rfl, rfl⟩
 ·refine Z 3 rfl ?_
  refine o_mif rfl rfl rfl rfl h (fun h => ?_) (fun h => ?_)
  ·refine Z 4 rfl ?_
   exact hk2 _ _ _ ⟨true, h, hl13, rfl, rfl⟩
  ·refine Z 4 rfl ?_
   exact hk2 _ _ _ ⟨(decide (192 < a1)), h, hl13, rfl, rfl⟩
theorem conf_Bytes_ok {a0 : Int × Int × Int} {a1 : Int} {r : Int} (h : conf_Bytes a0 a1 r) (σ : Sto)  :
    Does Tryd.prog 38 [.agg [.int .i64 a0.1, .int .i64 a0.2.1, .int .u32 a0.2.2].toArray, .int .i64 a1] σ [] (fun v τ gs => gs = [] ∧ .int .i64 r = v) := by
 refine call_of Tryd.func38 Tryd.ntmps38 rfl rfl (fun cs fs => ?_)
 refine Z 2 rfl ?_
 refine o_boxC rfl rfl rfl rfl rfl rfl (fun b1 => ?_)
 refine ZZ 5 [0] rfl rfl ?_
 obtain ⟨r2, hr3, h⟩ := h
 refine st_call (foot := []) rfl rfl rfl rfl rfl rfl (callV_fn z_en35 (conf_Room_ok hr3 σ)) ?_
 rintro vτ4 τ4 gsτ4 hl5 ⟨rfl, rfl⟩
 refine Z 4 rfl ?_
 refine st_cut (fun ρ τ6 gs => ∃ (s6 : Int), conf_Bytes_j1 s6 r ∧ τ4.Le τ6 ∧ ESub ρ [(4, .int .i64 0), (5, .int .i64 s6)] ∧ gs = []) ?_ (fun hk6 => ?_)
 ·rintro ρ6 τ6 gs6 ⟨s6, h, hl6, hρ, rfl⟩
  refine st_es hρ ?_
  refine Z 5 rfl ?_
  obtain rfl := Eq.symm h
  exact st_ret (gs' := []) Tryd.func38 rfl (List.Sublist.refl _) (hl5.trans hl6) ⟨rfl, rfl⟩
 refine ZZ 4 [0] rfl rfl ?_
 obtain ⟨r7, hr8, h⟩ := h
 refine st_call (foot := []) rfl rfl rfl rfl rfl rfl (callV_fn z_en37 (conf_Frames_ok hr8 τ4)) ?_
 rintro vτ9 τ9 gsτ9 hl10 ⟨rfl, rfl⟩
 refine Z 2 rfl ?_
 obtain ⟨e11, hL11, hA11⟩ := h
 refine st_ord [] _ rfl ?_
 refine st_loop hL11 (fun (s11 : Int × Int × Int) ρ τ11 gs => τ9.Le τ11 ∧ ESub ρ [(1, .int .i64 s11.1), (4, .int .i64 0), (5, .int .i64 s11.2.1), (6, .int .i64 r2), (7, .int .i64 s11.2.2)] ∧ gs = []) ⟨Sto.Le.refl _, rfl, rfl⟩ ?_
 rintro s11 o11 h he11 ρ11 τ11 gs11 ⟨hl11, hρ, rfl⟩ hn11
 refine st_es hρ ?_
 refine Z 6 rfl ?_
 refine st_if rfl h (fun h => ?_) (fun h => ?_)
 ·refine Z 14 rfl ?_
  obtain ⟨r12, hr13, h⟩ := h
  refine st_call (foot := []) rfl rfl rfl rfl rfl rfl (callV_fn z_en67 (frame_Wire_ok hr13 τ11)) ?_
  rintro vτ14 τ14 gsτ14 hl15 ⟨rfl, rfl⟩
  refine Z 15 rfl ?_
  exact hn11 _ _ _ _ h ⟨(hl11.trans hl15), rfl, rfl⟩
 ·refine st_exit rfl ?_
  obtain rfl := he11 _ h
  replace h := hA11
  exact hk6 _ _ _ ⟨s11.2.1, h, (hl10.trans hl11), rfl, rfl⟩
theorem conf_Bound_ok {a0 : Int × Int} {r : Int} (h : conf_Bound a0 r) (σ : Sto)  :
    Does Tryd.prog 39 [.agg [.int .u32 a0.1, .int .i64 a0.2].toArray] σ [] (fun v τ gs => gs = [] ∧ .int .i64 r = v) := by
 refine call_of Tryd.func39 Tryd.ntmps39 rfl rfl (fun cs fs => ?_)
 refine Z 2 rfl ?_
 refine o_boxC rfl rfl rfl rfl rfl rfl (fun b1 => ?_)
 refine ZZ 6 [0] rfl rfl ?_
 obtain ⟨r2, hr3, h⟩ := h
 refine st_call (foot := []) rfl rfl rfl rfl rfl rfl (callV_fn z_en34 (conf_CheckReceiver_ok hr3 σ)) ?_
 rintro vτ4 τ4 gsτ4 hl5 ⟨rfl, rfl⟩
 refine Z 2 rfl ?_
 refine st_if rfl h (fun h => ?_) (fun h => ?_)
 ·refine Z 4 rfl ?_
  refine st_ord [] _ rfl ?_
  obtain rfl := Eq.symm h
  exact st_ret (gs' := []) Tryd.func39 rfl (List.Sublist.refl _) hl5 ⟨rfl, rfl⟩
 ·refine ZZ 9 [0] rfl rfl ?_
  refine st_ord [] _ rfl ?_
  obtain rfl := Eq.symm h
  exact st_ret (gs' := []) Tryd.func39 rfl (List.Sublist.refl _) hl5 ⟨rfl, rfl⟩
theorem ref07_Digits_ok {a0 : Int} {r : ByteArray} (h : ref07_Digits a0 r) (σ : Sto)  :
    Does Tryd.prog 68 [.int .i64 a0] σ [] (fun v τ gs => gs = [] ∧ .string r = v) := by
 refine call_of Tryd.func68 Tryd.ntmps68 rfl rfl (fun cs fs => ?_)
 refine Z 2 rfl ?_
 refine o_assign rfl rfl rfl (ev_str z_str0) ?_
 refine Z 7 rfl ?_
 refine st_if rfl h (fun h => ?_) (fun h => ?_)
 ·refine Z 2 rfl ?_
  refine o_assign rfl rfl rfl (ev_str z_str0) ?_
  refine Z 2 rfl ?_
  refine st_cut (fun ρ τ1 gs => ∃ (s1 : Int × ByteArray), ref07_Digits_j1 s1 r ∧ σ.Le τ1 ∧ ESub ρ [(0, .int .i64 s1.1), (2, .string (bstr [])), (3, .string s1.2)] ∧ gs = []) ?_ (fun hk1 => ?_)
  ·rintro ρ1 τ1 gs1 ⟨s1, h, hl1, hρ, rfl⟩
   refine st_es hρ ?_
   refine Z 3 rfl ?_
   obtain ⟨hf2, h⟩ := h
   refine o_sadd rfl rfl rfl (ev_str z_str4) rfl hf2 ?_
   refine Z 2 rfl ?_
   obtain rfl := Eq.symm h
   exact st_ret (gs' := []) Tryd.func68 rfl (List.Sublist.refl _) hl1 ⟨rfl, rfl⟩
  obtain ⟨e3, hL3, hA3⟩ := h
  refine st_loop hL3 (fun (s3 : Int × ByteArray) ρ τ3 gs => σ.Le τ3 ∧ ESub ρ [(0, .int .i64 s3.1), (2, .string (bstr [])), (3, .string s3.2)] ∧ gs = []) ⟨Sto.Le.refl _, rfl, rfl⟩ ?_
  rintro s3 o3 h he3 ρ3 τ3 gs3 ⟨hl3, hρ, rfl⟩ hn3
  refine st_es hρ ?_
  refine Z 6 rfl ?_
  refine st_if rfl h (fun h => ?_) (fun h => ?_)
  ·refine Z 8 rfl ?_
   refine o_litE (eI .u8) [(IntKind.u8.wrap (IntKind.i64.wrap (48 - (s3.1.tmod 10))))] rfl rfl rfl z_slT22 z_zero5 ⟨rfl, ⟨_, rfl, rfl⟩, trivial⟩ rfl rfl rfl rfl (fun v4 g5 ho6 => ?_)
   refine st_freeze (fun τ7 hl8 hg9 => ?_)
   have hs10 := ho6.freeze hl8 hg9
   refine o_bstr (xs := [(IntKind.u8.wrap (IntKind.i64.wrap (48 - (s3.1.tmod 10))))]) rfl rfl rfl Tryd.underlying22 Tryd.underlying5 Tryd.underlying9 rfl hs10 ?_
   refine o_move rfl rfl rfl rfl ?_
   obtain ⟨hf11, h⟩ := h
   refine o_sadd rfl rfl rfl rfl rfl hf11 ?_
   refine Z 8 rfl ?_
   exact hn3 _ _ _ _ h ⟨(hl3.trans hl8), rfl, rfl⟩
  ·refine st_exit rfl ?_
   obtain rfl := he3 _ h
   replace h := hA3
   exact hk1 _ _ _ ⟨(s3.1, s3.2), h, hl3, rfl, rfl⟩
 ·refine Z 3 rfl ?_
  refine o_assign rfl rfl rfl (ev_str z_str0) ?_
  refine Z 2 rfl ?_
  refine st_cut (fun ρ τ13 gs => ∃ (s13 : Int × ByteArray), ref07_Digits_j3 s13 r ∧ σ.Le τ13 ∧ ESub ρ [(0, .int .i64 s13.1), (2, .string (bstr [])), (4, .string s13.2)] ∧ gs = []) ?_ (fun hk13 => ?_)
  ·rintro ρ13 τ13 gs13 ⟨s13, h, hl13, hρ, rfl⟩
   refine st_es hρ ?_
   refine Z 5 rfl ?_
   refine o_litE (eI .u8) [(IntKind.u8.wrap (IntKind.i64.wrap (48 + s13.1)))] rfl rfl rfl z_slT22 z_zero5 ⟨rfl, ⟨_, rfl, rfl⟩, trivial⟩ rfl rfl rfl rfl (fun v14 g15 ho16 => ?_)
   refine st_freeze (fun τ17 hl18 hg19 => ?_)
   have hs20 := ho16.freeze hl18 hg19
   refine o_bstr (xs := [(IntKind.u8.wrap (IntKind.i64.wrap (48 + s13.1)))]) rfl rfl rfl Tryd.underlying22 Tryd.underlying5 Tryd.underlying9 rfl hs20 ?_
   refine o_move rfl rfl rfl rfl ?_
   obtain ⟨hf21, h⟩ := h
   refine o_sadd rfl rfl rfl rfl rfl hf21 ?_
   refine Z 2 rfl ?_
   obtain rfl := Eq.symm h
   exact st_ret (gs' := []) Tryd.func68 rfl (List.Sublist.refl _) (hl13.trans hl18) ⟨rfl, rfl⟩
  obtain ⟨e22, hL22, hA22⟩ := h
  refine st_loop hL22 (fun (s22 : Int × ByteArray) ρ τ22 gs => σ.Le τ22 ∧ ESub ρ [(0, .int .i64 s22.1), (2, .string (bstr [])), (4, .string s22.2)] ∧ gs = []) ⟨Sto.Le.refl _, rfl, rfl⟩ ?_
  rintro s22 o22 h he22 ρ22 τ22 gs22 ⟨hl22, hρ, rfl⟩ hn22
  refine st_es hρ ?_
  refine Z 6 rfl ?_
  refine st_if rfl h (fun h => ?_) (fun h => ?_)
  ·refine Z 8 rfl ?_
   refine o_litE (eI .u8) [(IntKind.u8.wrap (IntKind.i64.wrap (48 + (s22.1.tmod 10))))] rfl rfl rfl z_slT22 z_zero5 ⟨rfl, ⟨_, rfl, rfl⟩, trivial⟩ rfl rfl rfl rfl (fun v23 g24 ho25 => ?_)
   refine st_freeze (fun τ26 hl27 hg28 => ?_)
   have hs29 := ho25.freeze hl27 hg28
   refine o_bstr (xs := [(IntKind.u8.wrap (IntKind.i64.wrap (48 + (s22.1.tmod 10))))]) rfl rfl rfl Tryd.underlying22 Tryd.underlying5 Tryd.underlying9 rfl hs29 ?_
   refine o_move rfl rfl rfl rfl ?_
   obtain ⟨hf30, h⟩ := h
   refine o_sadd rfl rfl rfl rfl rfl hf30 ?_
   refine Z 8 rfl ?_
   exact hn22 _ _ _ _ h ⟨(hl22.trans hl27), rfl, rfl⟩
  ·refine st_exit rfl ?_
   obtain rfl := he22 _ h
   replace h := hA22
   exact hk13 _ _ _ ⟨(s22.1, s22.2), h, hl22, rfl, rfl⟩
theorem ref21_Line_ok {a0 : Int × Int × Int} {a1 : Int × Int} {r : ByteArray} (h : ref21_Line a0 a1 r) (σ : Sto)  :
    Does Tryd.prog 40 [.agg [.int .i64 a0.1, .int .i64 a0.2.1, .int .u32 a0.2.2].toArray, .agg [.int .u32 a1.1, .int .i64 a1.2].toArray] σ [] (fun v τ gs => gs = [] ∧ .string r = v) := by
 refine call_of Tryd.func40 Tryd.ntmps40 rfl rfl (fun cs fs => ?_)
 refine Z 2 rfl ?_
 refine o_boxC rfl rfl rfl rfl rfl rfl (fun b1 => ?_)
 refine o_boxC rfl rfl rfl rfl rfl rfl (fun b2 => ?_)
 refine o_assign rfl rfl rfl (ev_str z_str0) ?_
 refine Z 3 rfl ?_
 refine st_cut (fun ρ τ3 gs => ∃ (s3 : Bool), ref21_Line_j1 a0 a1 s3 r ∧ σ.Le τ3 ∧ ESub ρ [(2, .pointer (some ⟨b1, 0, none⟩)), (3, .pointer (some ⟨b2, 0, none⟩)), (4, .string (bstr [])), (13, .bool s3)] ∧ gs = [[(b1, .cells #[.int .i64 a0.1, .int .i64 a0.2.1, .int .u32 a0.2.2] 43 (0, 0))], [(b2, .cells #[.int .u32 a1.1, .int .i64 a1.2] 44 (0, 0))]]) ?_ (fun hk3 => ?_)
 ·rintro ρ3 τ3 gs3 ⟨s3, h, hl3, hρ, rfl⟩
  refine st_es hρ ?_
  refine st_if rfl h (fun h => ?_) (fun h => ?_)
  ·refine Z 2 rfl ?_
   refine o_assign rfl rfl rfl (ev_str z_str0) ?_
   refine st_end ?_
   refine st_ord [] _ rfl ?_
   obtain rfl := Eq.symm h
   exact st_ret (gs' := []) Tryd.func40 rfl (List.Sublist.refl _) hl3 ⟨rfl, rfl⟩
  ·refine Z 2 rfl ?_
   obtain ⟨r4, hr5, hf8, r9, hr10, hf13, hf14, r15, hr16, hf19, h⟩ := h
   refine st_draw 14 (dl [.v (.pointer (some ⟨b1, 0, none⟩)), .v (.int .i64 a0.1), .v (.string r4), .v (.string (r4 ++ (bstr [32]))), .v (.pointer (some ⟨b1, 1, none⟩)), .v (.int .i64 a0.2.1), .v (.string r9), .v (.string ((r4 ++ (bstr [32])) ++ r9)), .v (.string (((r4 ++ (bstr [32])) ++ r9) ++ (bstr [32]))), .v (.pointer (some ⟨b1, 2, none⟩)), .v (.int .u32 a0.2.2), .v (.int .i64 (IntKind.i64.wrap a0.2.2)), .v (.string r15), .v (.string ((((r4 ++ (bstr [32])) ++ r9) ++ (bstr [32])) ++ r15))]) (fun _ _ => []) z_mix rfl (dl_mono trivial) (allB_cons (allB_cons (allB_cons (allB_cons (allB_cons (allB_cons (allB_cons (allB_cons (allB_cons (allB_cons (allB_cons (allB_cons (allB_cons (allB_cons allB_nil (p1 dA)) ?_) ?_) ?_) (p1 dA)) ?_) ?_) ?_) ?_) (p1 dA)) ?_) (p1 dA)) ?_) ?_) ?_
   ·intro ρ' τ pool rs hl hd hout hk
    obtain ⟨_, e0, rfl⟩ := hd 0 rfl
    refine o_load (j := 0) (v := .int .i64 a0.1) rfl rfl rfl z_sc3 e0 rfl rfl ?_
    exact st_addNil (hk _ _ (Sto.Le.refl _) rfl)
   ·intro ρ' τ pool rs hl hd hout hk
    obtain ⟨_, e1, rfl⟩ := hd 1 rfl
    refine st_call (foot := []) rfl rfl rfl rfl (evs_cons e1 rfl) rfl (callV_fn z_en68 (ref07_Digits_ok hr5 τ)) ?_
    rintro vτ6 τ6 gsτ6 hl7 ⟨rfl, rfl⟩
    exact st_addNil (hk _ _ hl7 rfl)
   ·intro ρ' τ pool rs hl hd hout hk
    obtain ⟨_, e2, rfl⟩ := hd 2 rfl
    refine o_sadd rfl rfl rfl e2 (ev_str z_str3) hf8 ?_
    exact st_addNil (hk _ _ (Sto.Le.refl _) rfl)
   ·intro ρ' τ pool rs hl hd hout hk
    obtain ⟨_, e4, rfl⟩ := hd 4 rfl
    refine o_load (j := 0) (v := .int .i64 a0.2.1) rfl rfl rfl z_sc3 e4 rfl rfl ?_
    exact st_addNil (hk _ _ (Sto.Le.refl _) rfl)
   ·intro ρ' τ pool rs hl hd hout hk
    obtain ⟨_, e5, rfl⟩ := hd 5 rfl
    refine st_call (foot := []) rfl rfl rfl rfl (evs_cons e5 rfl) rfl (callV_fn z_en68 (ref07_Digits_ok hr10 τ)) ?_
    rintro vτ11 τ11 gsτ11 hl12 ⟨rfl, rfl⟩
    exact st_addNil (hk _ _ hl12 rfl)
   ·intro ρ' τ pool rs hl hd hout hk
    obtain ⟨_, e3, rfl⟩ := hd 3 rfl
    obtain ⟨_, e6, rfl⟩ := hd 6 rfl
    refine o_sadd rfl rfl rfl e3 e6 hf13 ?_
    exact st_addNil (hk _ _ (Sto.Le.refl _) rfl)
   ·intro ρ' τ pool rs hl hd hout hk
    obtain ⟨_, e7, rfl⟩ := hd 7 rfl
    refine o_sadd rfl rfl rfl e7 (ev_str z_str3) hf14 ?_
    exact st_addNil (hk _ _ (Sto.Le.refl _) rfl)
   ·intro ρ' τ pool rs hl hd hout hk
    obtain ⟨_, e9, rfl⟩ := hd 9 rfl
    refine o_load (j := 0) (v := .int .u32 a0.2.2) rfl rfl rfl z_sc36 e9 rfl rfl ?_
    exact st_addNil (hk _ _ (Sto.Le.refl _) rfl)
   ·intro ρ' τ pool rs hl hd hout hk
    obtain ⟨_, e11, rfl⟩ := hd 11 rfl
    refine st_call (foot := []) rfl rfl rfl rfl (evs_cons e11 rfl) rfl (callV_fn z_en68 (ref07_Digits_ok hr16 τ)) ?_
    rintro vτ17 τ17 gsτ17 hl18 ⟨rfl, rfl⟩
    exact st_addNil (hk _ _ hl18 rfl)
   ·intro ρ' τ pool rs hl hd hout hk
    obtain ⟨_, e8, rfl⟩ := hd 8 rfl
    obtain ⟨_, e12, rfl⟩ := hd 12 rfl
    refine o_sadd rfl rfl rfl e8 e12 hf19 ?_
    exact st_addNil (hk _ _ (Sto.Le.refl _) rfl)
   intro ρ' τ20 vals hl20 hv hout
   refine st_ord [0, 0] _ rfl ?_
   refine st_env (ρ' := [(27, .string ((((r4 ++ (bstr [32])) ++ r9) ++ (bstr [32])) ++ r15)), (3, .pointer (some ⟨b2, 0, none⟩)), (4, .string (bstr []))]) ⟨(lv1 hv 13 rfl rfl), (hout 3 rfl).trans rfl, (hout 4 rfl).trans rfl, trivial⟩ ?_
   refine Z 3 rfl ?_
   obtain ⟨hf21, hf22, r23, hr24, hf27, hf28, r29, hr30, hf33, h⟩ := h
   refine st_draw 13 (dl [.v (.string ((((r4 ++ (bstr [32])) ++ r9) ++ (bstr [32])) ++ r15)), .v (.string ((bstr [108, 105, 110, 107, 32]) ++ ((((r4 ++ (bstr [32])) ++ r9) ++ (bstr [32])) ++ r15))), .v (.string (((bstr [108, 105, 110, 107, 32]) ++ ((((r4 ++ (bstr [32])) ++ r9) ++ (bstr [32])) ++ r15)) ++ (bstr [32]))), .v (.pointer (some ⟨b2, 0, none⟩)), .v (.int .u32 a1.1), .v (.int .i64 (IntKind.i64.wrap a1.1)), .v (.string r23), .v (.string ((((bstr [108, 105, 110, 107, 32]) ++ ((((r4 ++ (bstr [32])) ++ r9) ++ (bstr [32])) ++ r15)) ++ (bstr [32])) ++ r23)), .v (.string (((((bstr [108, 105, 110, 107, 32]) ++ ((((r4 ++ (bstr [32])) ++ r9) ++ (bstr [32])) ++ r15)) ++ (bstr [32])) ++ r23) ++ (bstr [32]))), .v (.pointer (some ⟨b2, 1, none⟩)), .v (.int .i64 a1.2), .v (.string r29), .v (.string ((((((bstr [108, 105, 110, 107, 32]) ++ ((((r4 ++ (bstr [32])) ++ r9) ++ (bstr [32])) ++ r15)) ++ (bstr [32])) ++ r23) ++ (bstr [32])) ++ r29))]) (fun _ _ => []) z_mix rfl (dl_mono trivial) (allB_cons (allB_cons (allB_cons (allB_cons (allB_cons (allB_cons (allB_cons (allB_cons (allB_cons (allB_cons (allB_cons (allB_cons (allB_cons allB_nil (p1 dA)) ?_) ?_) (p1 dA)) ?_) (p1 dA)) ?_) ?_) ?_) (p1 dA)) ?_) ?_) ?_) ?_
   ·intro ρ' τ pool rs hl hd hout hk
    obtain ⟨_, e0, rfl⟩ := hd 0 rfl
    refine o_sadd rfl rfl rfl (ev_str z_str35) e0 hf21 ?_
    exact st_addNil (hk _ _ (Sto.Le.refl _) rfl)
   ·intro ρ' τ pool rs hl hd hout hk
    obtain ⟨_, e1, rfl⟩ := hd 1 rfl
    refine o_sadd rfl rfl rfl e1 (ev_str z_str3) hf22 ?_
    exact st_addNil (hk _ _ (Sto.Le.refl _) rfl)
   ·intro ρ' τ pool rs hl hd hout hk
    obtain ⟨_, e3, rfl⟩ := hd 3 rfl
    refine o_load (j := 1) (v := .int .u32 a1.1) rfl rfl rfl z_sc36 e3 rfl rfl ?_
    exact st_addNil (hk _ _ (Sto.Le.refl _) rfl)
   ·intro ρ' τ pool rs hl hd hout hk
    obtain ⟨_, e5, rfl⟩ := hd 5 rfl
    refine st_call (foot := []) rfl rfl rfl rfl (evs_cons e5 rfl) rfl (callV_fn z_en68 (ref07_Digits_ok hr24 τ)) ?_
    rintro vτ25 τ25 gsτ25 hl26 ⟨rfl, rfl⟩
    exact st_addNil (hk _ _ hl26 rfl)
   ·intro ρ' τ pool rs hl hd hout hk
    obtain ⟨_, e2, rfl⟩ := hd 2 rfl
    obtain ⟨_, e6, rfl⟩ := hd 6 rfl
    refine o_sadd rfl rfl rfl e2 e6 hf27 ?_
    exact st_addNil (hk _ _ (Sto.Le.refl _) rfl)
   ·intro ρ' τ pool rs hl hd hout hk
    obtain ⟨_, e7, rfl⟩ := hd 7 rfl
    refine o_sadd rfl rfl rfl e7 (ev_str z_str3) hf28 ?_
    exact st_addNil (hk _ _ (Sto.Le.refl _) rfl)
   ·intro ρ' τ pool rs hl hd hout hk
    obtain ⟨_, e9, rfl⟩ := hd 9 rfl
    refine o_load (j := 1) (v := .int .i64 a1.2) rfl rfl rfl z_sc3 e9 rfl rfl ?_
    exact st_addNil (hk _ _ (Sto.Le.refl _) rfl)
   ·intro ρ' τ pool rs hl hd hout hk
    obtain ⟨_, e10, rfl⟩ := hd 10 rfl
    refine st_call (foot := []) rfl rfl rfl rfl (evs_cons e10 rfl) rfl (callV_fn z_en68 (ref07_Digits_ok hr30 τ)) ?_
    rintro vτ31 τ31 gsτ31 hl32 ⟨rfl, rfl⟩
    exact st_addNil (hk _ _ hl32 rfl)
   ·intro ρ' τ pool rs hl hd hout hk
    obtain ⟨_, e8, rfl⟩ := hd 8 rfl
    obtain ⟨_, e11, rfl⟩ := hd 11 rfl
    refine o_sadd rfl rfl rfl e8 e11 hf33 ?_
    exact st_addNil (hk _ _ (Sto.Le.refl _) rfl)
   intro ρ' τ34 vals hl34 hv hout
   refine st_ord [0, 0] _ rfl ?_
   refine st_env (ρ' := [(40, .string ((((((bstr [108, 105, 110, 107, 32]) ++ ((((r4 ++ (bstr [32])) ++ r9) ++ (bstr [32])) ++ r15)) ++ (bstr [32])) ++ r23) ++ (bstr [32])) ++ r29)), (4, .string (bstr []))]) ⟨(lv1 hv 12 rfl rfl), (hout 4 rfl).trans rfl, trivial⟩ ?_
   refine Z 2 rfl ?_
   refine st_ord [] _ rfl ?_
   obtain rfl := Eq.symm h
   exact st_ret (gs' := []) Tryd.func40 rfl (List.Sublist.refl _) ((hl3.trans hl20).trans hl34) ⟨rfl, rfl⟩
 refine ZZ 2 [1] rfl rfl ?_
 obtain ⟨r35, hr36, h⟩ := h
 refine st_call (foot := []) rfl rfl rfl rfl rfl rfl (callV_fn z_en30 (ref21_Sender_ok hr36 σ)) ?_
 rintro vτ37 τ37 gsτ37 hl38 ⟨rfl, rfl⟩
 refine o_ibin (v := .bool (!(decide (r35 = 0)))) rfl rfl rfl rfl rfl rfl ?_
 refine o_mif rfl rfl rfl rfl h (fun h => ?_) (fun h => ?_)
 ·refine Z 5 rfl ?_
  refine st_ord [1, 0] _ rfl ?_
  exact hk3 _ _ _ ⟨true, h, hl38, rfl, rfl⟩
 ·refine ZZ 1 [0] rfl rfl ?_
  obtain ⟨r39, hr40, h⟩ := h
  refine st_call (foot := []) rfl rfl rfl rfl rfl rfl (callV_fn z_en31 (ref21_Receiver_ok hr40 τ37)) ?_
  rintro vτ41 τ41 gsτ41 hl42 ⟨rfl, rfl⟩
  refine Z 3 rfl ?_
  refine st_ord [1, 0] _ rfl ?_
  exact hk3 _ _ _ ⟨(!(decide (r39 = 0))), h, (hl38.trans hl42), rfl, rfl⟩
theorem law21_ConfTells_ok {a0 : Int × Int × Int} {a1 : Int × Int} {a2 : Int} {r : Bool} (h : law21_ConfTells a0 a1 a2 r) (σ : Sto) (hT : Tab Tryd.prog σ) (hE : Errs Tryd.prog σ) :
    Does Tryd.prog 7 [.agg [.int .i64 a0.1, .int .i64 a0.2.1, .int .u32 a0.2.2].toArray, .agg [.int .u32 a1.1, .int .i64 a1.2].toArray, .int .i64 a2] σ [] (fun v τ gs => gs = [] ∧ .bool r = v) := by
 refine call_of Tryd.func7 Tryd.ntmps7 rfl rfl (fun cs fs => ?_)
 refine Z 2 rfl ?_
 refine o_boxC rfl rfl rfl rfl rfl rfl (fun b1 => ?_)
 refine o_boxC rfl rfl rfl rfl rfl rfl (fun b2 => ?_)
 refine Z 3 rfl ?_
 obtain ⟨r3, hr4, r7, hr8, h⟩ := h
 refine st_draw 5 (dl [.v (.agg #[.int .i64 a0.1, .int .i64 a0.2.1, .int .u32 a0.2.2]), .v (.int .i64 r3), .v (.agg #[.int .u32 a1.1, .int .i64 a1.2]), .v (.int .i64 r7), .v (.int .i64 r3)]) (fun _ _ => []) z_mix rfl (dl_mono trivial) (allB_cons (allB_cons (allB_cons (allB_cons (allB_cons allB_nil ?_) ?_) ?_) ?_) (p1 dA)) ?_
 ·intro ρ' τ pool rs hl hd hout hk
  refine o_loadN (j := 1) (vs := [.int .i64 a0.1, .int .i64 a0.2.1, .int .u32 a0.2.2]) rfl rfl rfl z_agg38 ((hout 3 rfl).trans rfl) rfl rfl ?_
  exact st_addNil (hk _ _ (Sto.Le.refl _) rfl)
 ·intro ρ' τ pool rs hl hd hout hk
  obtain ⟨_, e0, rfl⟩ := hd 0 rfl
  refine st_call (foot := []) rfl rfl rfl rfl (evs_cons e0 rfl) rfl (callV_fn z_en30 (ref21_Sender_ok hr4 τ)) ?_
  rintro vτ5 τ5 gsτ5 hl6 ⟨rfl, rfl⟩
  exact st_addNil (hk _ _ hl6 rfl)
 ·intro ρ' τ pool rs hl hd hout hk
  refine o_loadN (j := 0) (vs := [.int .u32 a1.1, .int .i64 a1.2]) rfl rfl rfl z_agg40 ((hout 4 rfl).trans rfl) rfl rfl ?_
  exact st_addNil (hk _ _ (Sto.Le.refl _) rfl)
 ·intro ρ' τ pool rs hl hd hout hk
  obtain ⟨_, e2, rfl⟩ := hd 2 rfl
  refine st_call (foot := []) rfl rfl rfl rfl (evs_cons e2 rfl) rfl (callV_fn z_en31 (ref21_Receiver_ok hr8 τ)) ?_
  rintro vτ9 τ9 gsτ9 hl10 ⟨rfl, rfl⟩
  exact st_addNil (hk _ _ hl10 rfl)
 intro ρ' τ11 vals hl11 hv hout
 refine st_ord [0, 0] _ rfl ?_
 refine st_env (ρ' := [(19, .int .i64 r7), (7, .int .i64 r3), (2, .int .i64 a2), (3, .pointer (some ⟨b1, 0, none⟩)), (4, .pointer (some ⟨b2, 0, none⟩)), (6, .bool false)]) ⟨(lv1 hv 3 rfl rfl), (lv1 hv 4 rfl rfl), (hout 2 rfl).trans rfl, (hout 3 rfl).trans rfl, (hout 4 rfl).trans rfl, (hout 6 rfl).trans rfl, trivial⟩ ?_
 refine ZZ 6 [1] rfl rfl ?_
 obtain ⟨r12, hr13, h⟩ := h
 refine st_call (foot := []) rfl rfl rfl rfl rfl rfl (callV_fn z_en32 (ref21_Frames_ok hr13 τ11)) ?_
 rintro vτ14 τ14 gsτ14 hl15 ⟨rfl, rfl⟩
 refine Z 8 rfl ?_
 refine st_cut (fun ρ τ16 gs => ∃ (s16 : Int), law21_ConfTells_j1 a0 a1 a2 r3 r7 r12 s16 r ∧ τ14.Le τ16 ∧ ESub ρ [(7, .int .i64 r3), (2, .int .i64 a2), (3, .pointer (some ⟨b1, 0, none⟩)), (4, .pointer (some ⟨b2, 0, none⟩)), (6, .bool false), (8, .int .i64 r7), (9, .int .i64 r12), (10, .int .i64 s16), (11, .int .i64 0)] ∧ gs = [[(b1, .cells #[.int .i64 a0.1, .int .i64 a0.2.1, .int .u32 a0.2.2] 38 (0, 0))], [(b2, .cells #[.int .u32 a1.1, .int .i64 a1.2] 40 (0, 0))]]) ?_ (fun hk16 => ?_)
 ·rintro ρ16 τ16 gs16 ⟨s16, h, hl16, hρ, rfl⟩
  refine st_es hρ ?_
  refine st_seq ?_
  refine st_cut (fun ρ τ17 gs => ∃ (s17 : Int), law21_ConfTells_j2 a0 a1 a2 r3 r7 r12 s16 s17 r ∧ τ16.Le τ17 ∧ ESub ρ [(7, .int .i64 r3), (2, .int .i64 a2), (3, .pointer (some ⟨b1, 0, none⟩)), (4, .pointer (some ⟨b2, 0, none⟩)), (6, .bool false), (8, .int .i64 r7), (9, .int .i64 r12), (10, .int .i64 s16), (11, .int .i64 s17)] ∧ gs = [[(b1, .cells #[.int .i64 a0.1, .int .i64 a0.2.1, .int .u32 a0.2.2] 38 (0, 0))], [(b2, .cells #[.int .u32 a1.1, .int .i64 a1.2] 40 (0, 0))]]) ?_ (fun hk17 => ?_)
  ·rintro ρ17 τ17 gs17 ⟨s17, h, hl17, hρ, rfl⟩
   refine st_es hρ ?_
   refine ZZ 4 [0, 1] rfl rfl ?_
   obtain ⟨r18, hr19, h⟩ := h
   refine st_call (foot := []) rfl rfl rfl rfl rfl rfl (callV_fn z_en19 (conf_Line_ok hr19 τ17 (hT.up (((hl11.trans hl15).trans hl16).trans hl17)))) ?_
   rintro vτ20 τ20 gsτ20 hl21 ⟨rfl, rfl⟩
   refine Z 4 rfl ?_
   obtain ⟨r22, hr23, r27, hr28, r32, hr33, r36, hr37, r41, hr42, r46, hr47, r51, hr52, r56, hr57, h⟩ := h
   let cc26 : Prop := (!(decide (r22 = r3))) = false
   let cc31 : Prop := ((!(decide (r22 = r3))) || (!(decide (r27 = r7)))) = false
   let cc40 : Prop := (((!(decide (r22 = r3))) || (!(decide (r27 = r7)))) || (!(decide (r32 = r36)))) = false
   let cc45 : Prop := ((((!(decide (r22 = r3))) || (!(decide (r27 = r7)))) || (!(decide (r32 = r36)))) || (!(decide (r41 = r12)))) = false
   let cc50 : Prop := (((((!(decide (r22 = r3))) || (!(decide (r27 = r7)))) || (!(decide (r32 = r36)))) || (!(decide (r41 = r12)))) || (!(decide (r46 = s16)))) = false
   let cc55 : Prop := ((((((!(decide (r22 = r3))) || (!(decide (r27 = r7)))) || (!(decide (r32 = r36)))) || (!(decide (r41 = r12)))) || (!(decide (r46 = s16)))) || (!(decide (r51 = s17)))) = false
   refine st_draw 44 (dl [.v (.agg #[.int .i64 a0.1, .int .i64 a0.2.1, .int .u32 a0.2.2]), .v (.int .i64 r22), .v (.int .i64 r3), .v (.bool (!(decide (r22 = r3)))), .v (.bool (!(decide (r22 = r3)))), .g cc26 (.agg #[.int .u32 a1.1, .int .i64 a1.2]), .g cc26 (.int .i64 r27), .g cc26 (.int .i64 r7), .g cc26 (.bool (!(decide (r27 = r7)))), .v (.bool ((!(decide (r22 = r3))) || (!(decide (r27 = r7))))), .v (.bool ((!(decide (r22 = r3))) || (!(decide (r27 = r7))))), .g cc31 (.agg #[.int .i64 a0.1, .int .i64 a0.2.1, .int .u32 a0.2.2]), .g cc31 (.int .i64 r32), .g cc31 (.agg #[.int .i64 a0.1, .int .i64 a0.2.1, .int .u32 a0.2.2]), .g cc31 (.int .i64 r36), .g cc31 (.bool (!(decide (r32 = r36)))), .v (.bool (((!(decide (r22 = r3))) || (!(decide (r27 = r7)))) || (!(decide (r32 = r36))))), .v (.bool (((!(decide (r22 = r3))) || (!(decide (r27 = r7)))) || (!(decide (r32 = r36))))), .g cc40 (.agg #[.int .i64 a0.1, .int .i64 a0.2.1, .int .u32 a0.2.2]), .g cc40 (.int .i64 a2), .g cc40 (.int .i64 r41), .g cc40 (.int .i64 r12), .g cc40 (.bool (!(decide (r41 = r12)))), .v (.bool ((((!(decide (r22 = r3))) || (!(decide (r27 = r7)))) || (!(decide (r32 = r36)))) || (!(decide (r41 = r12))))), .v (.bool ((((!(decide (r22 = r3))) || (!(decide (r27 = r7)))) || (!(decide (r32 = r36)))) || (!(decide (r41 = r12))))), .g cc45 (.agg #[.int .i64 a0.1, .int .i64 a0.2.1, .int .u32 a0.2.2]), .g cc45 (.int .i64 a2), .g cc45 (.int .i64 r46), .g cc45 (.int .i64 s16), .g cc45 (.bool (!(decide (r46 = s16)))), .v (.bool (((((!(decide (r22 = r3))) || (!(decide (r27 = r7)))) || (!(decide (r32 = r36)))) || (!(decide (r41 = r12)))) || (!(decide (r46 = s16))))), .v (.bool (((((!(decide (r22 = r3))) || (!(decide (r27 = r7)))) || (!(decide (r32 = r36)))) || (!(decide (r41 = r12)))) || (!(decide (r46 = s16))))), .g cc50 (.agg #[.int .u32 a1.1, .int .i64 a1.2]), .g cc50 (.int .i64 r51), .g cc50 (.int .i64 s17), .g cc50 (.bool (!(decide (r51 = s17)))), .v (.bool ((((((!(decide (r22 = r3))) || (!(decide (r27 = r7)))) || (!(decide (r32 = r36)))) || (!(decide (r41 = r12)))) || (!(decide (r46 = s16)))) || (!(decide (r51 = s17))))), .v (.bool ((((((!(decide (r22 = r3))) || (!(decide (r27 = r7)))) || (!(decide (r32 = r36)))) || (!(decide (r41 = r12)))) || (!(decide (r46 = s16)))) || (!(decide (r51 = s17))))), .g cc55 (.string r18), .g cc55 (.agg #[.int .i64 a0.1, .int .i64 a0.2.1, .int .u32 a0.2.2]), .g cc55 (.agg #[.int .u32 a1.1, .int .i64 a1.2]), .g cc55 (.string r56), .g cc55 (.bool (!(decide (r18 = r56)))), .v (.bool (((((((!(decide (r22 = r3))) || (!(decide (r27 = r7)))) || (!(decide (r32 = r36)))) || (!(decide (r41 = r12)))) || (!(decide (r46 = s16)))) || (!(decide (r51 = s17)))) || (!(decide (r18 = r56)))))]) (fun _ _ => []) z_mix rfl (dl_mono (by exact trivial)) (allB_cons (allB_cons (allB_cons (allB_cons (allB_cons (allB_cons (allB_cons (allB_cons (allB_cons (allB_cons (allB_cons (allB_cons (allB_cons (allB_cons (allB_cons (allB_cons (allB_cons (allB_cons (allB_cons (allB_cons (allB_cons (allB_cons (allB_cons (allB_cons (allB_cons (allB_cons (allB_cons (allB_cons (allB_cons (allB_cons (allB_cons (allB_cons (allB_cons (allB_cons (allB_cons (allB_cons (allB_cons (allB_cons (allB_cons (allB_cons (allB_cons (allB_cons (allB_cons (allB_cons allB_nil ?_) ?_) (p1 dA)) (p1 dA)) (p1 dA)) ?_) ?_) (p1 (dG []))) (p1 (dG [6, 7]))) (p1 dO)) (p1 dA)) ?_) ?_) ?_) ?_) (p1 (dG [12, 14]))) (p1 dO)) (p1 dA)) ?_) (p1 (dG []))) ?_) (p1 (dG []))) (p1 (dG [20, 21]))) (p1 dO)) (p1 dA)) ?_) (p1 (dG []))) ?_) (p1 (dG []))) (p1 (dG [27, 28]))) (p1 dO)) (p1 dA)) ?_) ?_) (p1 (dG []))) (p1 (dG [33, 34]))) (p1 dO)) (p1 dA)) (p1 (dG []))) ?_) ?_) ?_) (p1 (dG [38, 41]))) (p1 dO)) ?_
   ·intro ρ' τ pool rs hl hd hout hk
    refine o_loadN (j := 0) (vs := [.int .i64 a0.1, .int .i64 a0.2.1, .int .u32 a0.2.2]) rfl rfl rfl z_agg38 ((hout 3 rfl).trans rfl) rfl rfl ?_
    exact st_addNil (hk _ _ (Sto.Le.refl _) rfl)
   ·intro ρ' τ pool rs hl hd hout hk
    obtain ⟨_, e0, rfl⟩ := hd 0 rfl
    refine st_call (foot := []) rfl rfl rfl rfl (evs_cons e0 rfl) rfl (callV_fn z_en33 (conf_CheckSender_ok hr23 τ)) ?_
    rintro vτ24 τ24 gsτ24 hl25 ⟨rfl, rfl⟩
    exact st_addNil (hk _ _ hl25 rfl)
   ·intro ρ' τ pool rs hl hd hout hk
    obtain ⟨_, e4, rfl⟩ := hd 4 rfl
    by_cases hG : (!(decide (r22 = r3))) = false
    ·have hC := hG
     refine o_loadN (j := 1) (vs := [.int .u32 a1.1, .int .i64 a1.2]) rfl (wants_of rfl e4 hG) rfl z_agg40 ((hout 4 rfl).trans rfl) rfl rfl ?_
     exact st_addNil (hk _ _ (Sto.Le.refl _) ⟨fun _ => rfl, fun hn => absurd hC hn⟩)
    ·refine st_pass rfl rfl rfl e4 (beq_off hG) rfl ?_
     exact st_addNil (hk _ _ (Sto.Le.refl _) ⟨fun h => absurd h hG, fun _ => rfl⟩)
   ·intro ρ' τ pool rs hl hd hout hk
    obtain ⟨_, e4, rfl⟩ := hd 4 rfl
    obtain ⟨w5, e5, t5⟩ := hd 5 rfl
    by_cases hG : (!(decide (r22 = r3))) = false
    ·have hC := hG
     replace hr28 := hr28 hC
     obtain ⟨rfl⟩ := t5.1 hC
     refine st_call (foot := []) rfl (wants_of rfl e4 hG) rfl rfl (evs_cons e5 rfl) rfl (callV_fn z_en34 (conf_CheckReceiver_ok hr28 τ)) ?_
     rintro vτ29 τ29 gsτ29 hl30 ⟨rfl, rfl⟩
     exact st_addNil (hk _ _ hl30 ⟨fun _ => rfl, fun hn => absurd hC hn⟩)
    ·refine st_pass rfl rfl rfl e4 (beq_off hG) rfl ?_
     exact st_addNil (hk _ _ (Sto.Le.refl _) ⟨fun h => absurd h hG, fun _ => rfl⟩)
   ·intro ρ' τ pool rs hl hd hout hk
    obtain ⟨_, e10, rfl⟩ := hd 10 rfl
    by_cases hG : ((!(decide (r22 = r3))) || (!(decide (r27 = r7)))) = false
    ·have hC := hG
     refine o_loadN (j := 0) (vs := [.int .i64 a0.1, .int .i64 a0.2.1, .int .u32 a0.2.2]) rfl (wants_of rfl e10 hG) rfl z_agg38 ((hout 3 rfl).trans rfl) rfl rfl ?_
     exact st_addNil (hk _ _ (Sto.Le.refl _) ⟨fun _ => rfl, fun hn => absurd hC hn⟩)
    ·refine st_pass rfl rfl rfl e10 (beq_off hG) rfl ?_
     exact st_addNil (hk _ _ (Sto.Le.refl _) ⟨fun h => absurd h hG, fun _ => rfl⟩)
   ·intro ρ' τ pool rs hl hd hout hk
    obtain ⟨_, e10, rfl⟩ := hd 10 rfl
    obtain ⟨w11, e11, t11⟩ := hd 11 rfl
    by_cases hG : ((!(decide (r22 = r3))) || (!(decide (r27 = r7)))) = false
    ·have hC := hG
     replace hr33 := hr33 hC
     obtain ⟨rfl⟩ := t11.1 hC
     refine st_call (foot := []) rfl (wants_of rfl e10 hG) rfl rfl (evs_cons e11 rfl) rfl (callV_fn z_en35 (conf_Room_ok hr33 τ)) ?_
     rintro vτ34 τ34 gsτ34 hl35 ⟨rfl, rfl⟩
     exact st_addNil (hk _ _ hl35 ⟨fun _ => rfl, fun hn => absurd hC hn⟩)
    ·refine st_pass rfl rfl rfl e10 (beq_off hG) rfl ?_
     exact st_addNil (hk _ _ (Sto.Le.refl _) ⟨fun h => absurd h hG, fun _ => rfl⟩)
   ·intro ρ' τ pool rs hl hd hout hk
    obtain ⟨_, e10, rfl⟩ := hd 10 rfl
    by_cases hG : ((!(decide (r22 = r3))) || (!(decide (r27 = r7)))) = false
    ·have hC := hG
     refine o_loadN (j := 0) (vs := [.int .i64 a0.1, .int .i64 a0.2.1, .int .u32 a0.2.2]) rfl (wants_of rfl e10 hG) rfl z_agg38 ((hout 3 rfl).trans rfl) rfl rfl ?_
     exact st_addNil (hk _ _ (Sto.Le.refl _) ⟨fun _ => rfl, fun hn => absurd hC hn⟩)
    ·refine st_pass rfl rfl rfl e10 (beq_off hG) rfl ?_
     exact st_addNil (hk _ _ (Sto.Le.refl _) ⟨fun h => absurd h hG, fun _ => rfl⟩)
   ·intro ρ' τ pool rs hl hd hout hk
    obtain ⟨_, e10, rfl⟩ := hd 10 rfl
    obtain ⟨w13, e13, t13⟩ := hd 13 rfl
    by_cases hG : ((!(decide (r22 = r3))) || (!(decide (r27 = r7)))) = false
    ·have hC := hG
     replace hr37 := hr37 hC
     obtain ⟨rfl⟩ := t13.1 hC
     refine st_call (foot := []) rfl (wants_of rfl e10 hG) rfl rfl (evs_cons e13 rfl) rfl (callV_fn z_en36 (ref21_Room_ok hr37 τ)) ?_
     rintro vτ38 τ38 gsτ38 hl39 ⟨rfl, rfl⟩
     exact st_addNil (hk _ _ hl39 ⟨fun _ => rfl, fun hn => absurd hC hn⟩)
    ·refine st_pass rfl rfl rfl e10 (beq_off hG) rfl ?_
     exact st_addNil (hk _ _ (Sto.Le.refl _) ⟨fun h => absurd h hG, fun _ => rfl⟩)
   ·intro ρ' τ pool rs hl hd hout hk
    obtain ⟨_, e17, rfl⟩ := hd 17 rfl
    by_cases hG : (((!(decide (r22 = r3))) || (!(decide (r27 = r7)))) || (!(decide (r32 = r36)))) = false
    ·have hC := hG
     refine o_loadN (j := 0) (vs := [.int .i64 a0.1, .int .i64 a0.2.1, .int .u32 a0.2.2]) rfl (wants_of rfl e17 hG) rfl z_agg38 ((hout 3 rfl).trans rfl) rfl rfl ?_
     exact st_addNil (hk _ _ (Sto.Le.refl _) ⟨fun _ => rfl, fun hn => absurd hC hn⟩)
    ·refine st_pass rfl rfl rfl e17 (beq_off hG) rfl ?_
     exact st_addNil (hk _ _ (Sto.Le.refl _) ⟨fun h => absurd h hG, fun _ => rfl⟩)
   ·intro ρ' τ pool rs hl hd hout hk
    obtain ⟨_, e17, rfl⟩ := hd 17 rfl
    obtain ⟨w18, e18, t18⟩ := hd 18 rfl
    obtain ⟨w19, e19, t19⟩ := hd 19 rfl
    by_cases hG : (((!(decide (r22 = r3))) || (!(decide (r27 = r7)))) || (!(decide (r32 = r36)))) = false
    ·have hC := hG
     replace hr42 := hr42 hC
     obtain ⟨rfl⟩ := t18.1 hC
     obtain ⟨rfl⟩ := t19.1 hC
     refine st_call (foot := []) rfl (wants_of rfl e17 hG) rfl rfl (evs_cons e18 (evs_cons e19 rfl)) rfl (callV_fn z_en37 (conf_Frames_ok hr42 τ)) ?_
     rintro vτ43 τ43 gsτ43 hl44 ⟨rfl, rfl⟩
     exact st_addNil (hk _ _ hl44 ⟨fun _ => rfl, fun hn => absurd hC hn⟩)
    ·refine st_pass rfl rfl rfl e17 (beq_off hG) rfl ?_
     exact st_addNil (hk _ _ (Sto.Le.refl _) ⟨fun h => absurd h hG, fun _ => rfl⟩)
   ·intro ρ' τ pool rs hl hd hout hk
    obtain ⟨_, e24, rfl⟩ := hd 24 rfl
    by_cases hG : ((((!(decide (r22 = r3))) || (!(decide (r27 = r7)))) || (!(decide (r32 = r36)))) || (!(decide (r41 = r12)))) = false
    ·have hC := hG
     refine o_loadN (j := 0) (vs := [.int .i64 a0.1, .int .i64 a0.2.1, .int .u32 a0.2.2]) rfl (wants_of rfl e24 hG) rfl z_agg38 ((hout 3 rfl).trans rfl) rfl rfl ?_
     exact st_addNil (hk _ _ (Sto.Le.refl _) ⟨fun _ => rfl, fun hn => absurd hC hn⟩)
    ·refine st_pass rfl rfl rfl e24 (beq_off hG) rfl ?_
     exact st_addNil (hk _ _ (Sto.Le.refl _) ⟨fun h => absurd h hG, fun _ => rfl⟩)
   ·intro ρ' τ pool rs hl hd hout hk
    obtain ⟨_, e24, rfl⟩ := hd 24 rfl
    obtain ⟨w25, e25, t25⟩ := hd 25 rfl
    obtain ⟨w26, e26, t26⟩ := hd 26 rfl
    by_cases hG : ((((!(decide (r22 = r3))) || (!(decide (r27 = r7)))) || (!(decide (r32 = r36)))) || (!(decide (r41 = r12)))) = false
    ·have hC := hG
     replace hr47 := hr47 hC
     obtain ⟨rfl⟩ := t26.1 hC
     obtain ⟨rfl⟩ := t25.1 hC
     refine st_call (foot := []) rfl (wants_of rfl e24 hG) rfl rfl (evs_cons e25 (evs_cons e26 rfl)) rfl (callV_fn z_en38 (conf_Bytes_ok hr47 τ)) ?_
     rintro vτ48 τ48 gsτ48 hl49 ⟨rfl, rfl⟩
     exact st_addNil (hk _ _ hl49 ⟨fun _ => rfl, fun hn => absurd hC hn⟩)
    ·refine st_pass rfl rfl rfl e24 (beq_off hG) rfl ?_
     exact st_addNil (hk _ _ (Sto.Le.refl _) ⟨fun h => absurd h hG, fun _ => rfl⟩)
   ·intro ρ' τ pool rs hl hd hout hk
    obtain ⟨_, e31, rfl⟩ := hd 31 rfl
    by_cases hG : (((((!(decide (r22 = r3))) || (!(decide (r27 = r7)))) || (!(decide (r32 = r36)))) || (!(decide (r41 = r12)))) || (!(decide (r46 = s16)))) = false
    ·have hC := hG
     refine o_loadN (j := 1) (vs := [.int .u32 a1.1, .int .i64 a1.2]) rfl (wants_of rfl e31 hG) rfl z_agg40 ((hout 4 rfl).trans rfl) rfl rfl ?_
     exact st_addNil (hk _ _ (Sto.Le.refl _) ⟨fun _ => rfl, fun hn => absurd hC hn⟩)
    ·refine st_pass rfl rfl rfl e31 (beq_off hG) rfl ?_
     exact st_addNil (hk _ _ (Sto.Le.refl _) ⟨fun h => absurd h hG, fun _ => rfl⟩)
   ·intro ρ' τ pool rs hl hd hout hk
    obtain ⟨_, e31, rfl⟩ := hd 31 rfl
    obtain ⟨w32, e32, t32⟩ := hd 32 rfl
    by_cases hG : (((((!(decide (r22 = r3))) || (!(decide (r27 = r7)))) || (!(decide (r32 = r36)))) || (!(decide (r41 = r12)))) || (!(decide (r46 = s16)))) = false
    ·have hC := hG
     replace hr52 := hr52 hC
     obtain ⟨rfl⟩ := t32.1 hC
     refine st_call (foot := []) rfl (wants_of rfl e31 hG) rfl rfl (evs_cons e32 rfl) rfl (callV_fn z_en39 (conf_Bound_ok hr52 τ)) ?_
     rintro vτ53 τ53 gsτ53 hl54 ⟨rfl, rfl⟩
     exact st_addNil (hk _ _ hl54 ⟨fun _ => rfl, fun hn => absurd hC hn⟩)
    ·refine st_pass rfl rfl rfl e31 (beq_off hG) rfl ?_
     exact st_addNil (hk _ _ (Sto.Le.refl _) ⟨fun h => absurd h hG, fun _ => rfl⟩)
   ·intro ρ' τ pool rs hl hd hout hk
    obtain ⟨_, e37, rfl⟩ := hd 37 rfl
    by_cases hG : ((((((!(decide (r22 = r3))) || (!(decide (r27 = r7)))) || (!(decide (r32 = r36)))) || (!(decide (r41 = r12)))) || (!(decide (r46 = s16)))) || (!(decide (r51 = s17)))) = false
    ·have hC := hG
     refine o_loadN (j := 0) (vs := [.int .i64 a0.1, .int .i64 a0.2.1, .int .u32 a0.2.2]) rfl (wants_of rfl e37 hG) rfl z_agg38 ((hout 3 rfl).trans rfl) rfl rfl ?_
     exact st_addNil (hk _ _ (Sto.Le.refl _) ⟨fun _ => rfl, fun hn => absurd hC hn⟩)
    ·refine st_pass rfl rfl rfl e37 (beq_off hG) rfl ?_
     exact st_addNil (hk _ _ (Sto.Le.refl _) ⟨fun h => absurd h hG, fun _ => rfl⟩)
   ·intro ρ' τ pool rs hl hd hout hk
    obtain ⟨_, e37, rfl⟩ := hd 37 rfl
    by_cases hG : ((((((!(decide (r22 = r3))) || (!(decide (r27 = r7)))) || (!(decide (r32 = r36)))) || (!(decide (r41 = r12)))) || (!(decide (r46 = s16)))) || (!(decide (r51 = s17)))) = false
    ·have hC := hG
     refine o_loadN (j := 1) (vs := [.int .u32 a1.1, .int .i64 a1.2]) rfl (wants_of rfl e37 hG) rfl z_agg40 ((hout 4 rfl).trans rfl) rfl rfl ?_
     exact st_addNil (hk _ _ (Sto.Le.refl _) ⟨fun _ => rfl, fun hn => absurd hC hn⟩)
    ·refine st_pass rfl rfl rfl e37 (beq_off hG) rfl ?_
     exact st_addNil (hk _ _ (Sto.Le.refl _) ⟨fun h => absurd h hG, fun _ => rfl⟩)
   ·intro ρ' τ pool rs hl hd hout hk
    obtain ⟨_, e37, rfl⟩ := hd 37 rfl
    obtain ⟨w39, e39, t39⟩ := hd 39 rfl
    obtain ⟨w40, e40, t40⟩ := hd 40 rfl
    by_cases hG : ((((((!(decide (r22 = r3))) || (!(decide (r27 = r7)))) || (!(decide (r32 = r36)))) || (!(decide (r41 = r12)))) || (!(decide (r46 = s16)))) || (!(decide (r51 = s17)))) = false
    ·have hC := hG
     replace hr57 := hr57 hC
     obtain ⟨rfl⟩ := t39.1 hC
     obtain ⟨rfl⟩ := t40.1 hC
     refine st_call (foot := []) rfl (wants_of rfl e37 hG) rfl rfl (evs_cons e39 (evs_cons e40 rfl)) rfl (callV_fn z_en40 (ref21_Line_ok hr57 τ)) ?_
     rintro vτ58 τ58 gsτ58 hl59 ⟨rfl, rfl⟩
     exact st_addNil (hk _ _ hl59 ⟨fun _ => rfl, fun hn => absurd hC hn⟩)
    ·refine st_pass rfl rfl rfl e37 (beq_off hG) rfl ?_
     exact st_addNil (hk _ _ (Sto.Le.refl _) ⟨fun h => absurd h hG, fun _ => rfl⟩)
   intro ρ' τ60 vals hl60 hv hout
   refine st_ord [0, 0] _ rfl ?_
   refine st_env (ρ' := [(81, .bool (((((((!(decide (r22 = r3))) || (!(decide (r27 = r7)))) || (!(decide (r32 = r36)))) || (!(decide (r41 = r12)))) || (!(decide (r46 = s16)))) || (!(decide (r51 = s17)))) || (!(decide (r18 = r56))))), (7, .int .i64 r3), (3, .pointer (some ⟨b1, 0, none⟩)), (4, .pointer (some ⟨b2, 0, none⟩)), (6, .bool false), (8, .int .i64 r7), (12, .string r18)]) ⟨(lv1 hv 43 rfl rfl), (hout 7 rfl).trans rfl, (hout 3 rfl).trans rfl, (hout 4 rfl).trans rfl, (hout 6 rfl).trans rfl, (hout 8 rfl).trans rfl, (hout 12 rfl).trans rfl, trivial⟩ ?_
   refine st_end ?_
   refine st_if rfl h (fun h => ?_) (fun h => ?_)
   ·refine Z 4 rfl ?_
    refine st_ord [] _ rfl ?_
    obtain rfl := Eq.symm h
    exact st_ret (gs' := []) Tryd.func7 rfl (List.Sublist.refl _) (((((hl11.trans hl15).trans hl16).trans hl17).trans hl21).trans hl60) ⟨rfl, rfl⟩
   ·refine Z 4 rfl ?_
    obtain ⟨r61, hr62, h⟩ := h
    refine st_call (foot := []) rfl rfl rfl rfl rfl rfl (callV_fn z_en16 (conf_Parse_ok hr62 τ60 (hE.up (((((hl11.trans hl15).trans hl16).trans hl17).trans hl21).trans hl60)))) ?_
    rintro vτ63 τ63 gsτ63 hl64 ⟨rfl, rfl⟩
    refine Z 4 rfl ?_
    refine o_alloc rfl rfl rfl z_zero38 (fun b65 => ?_)
    refine o_alloc rfl rfl rfl z_zero40 (fun b66 => ?_)
    refine ZZ 6 [1, 0] rfl rfl ?_
    refine st_cut (fun ρ τ67 gs => ∃ (s67 : Bool), law21_ConfTells_j3 a0 a1 r61 s67 r ∧ τ63.Le τ67 ∧ ESub ρ [(3, .pointer (some ⟨b1, 0, none⟩)), (4, .pointer (some ⟨b2, 0, none⟩)), (6, .bool false), (13, .pointer (some ⟨b65, 0, none⟩)), (14, .pointer (some ⟨b66, 0, none⟩)), (15, .int .i64 r61.2.2), (93, .bool s67)] ∧ gs = [[(b1, .cells #[.int .i64 a0.1, .int .i64 a0.2.1, .int .u32 a0.2.2] 38 (0, 0))], [(b2, .cells #[.int .u32 a1.1, .int .i64 a1.2] 40 (0, 0))], [(b65, .cells #[.int .i64 r61.1.1, .int .i64 r61.1.2.1, .int .u32 r61.1.2.2] 38 (0, 0))], [(b66, .cells #[.int .u32 r61.2.1.1, .int .i64 r61.2.1.2] 40 (0, 0))]]) ?_ (fun hk67 => ?_)
    ·rintro ρ67 τ67 gs67 ⟨s67, h, hl67, hρ, rfl⟩
     refine st_es hρ ?_
     refine st_if rfl h (fun h => ?_) (fun h => ?_)
     ·refine st_seq ?_
      refine st_cut (fun ρ τ68 gs => ∃ (s68 : Bool), law21_ConfTells_j4 s68 r ∧ τ67.Le τ68 ∧ ESub ρ [(3, .pointer (some ⟨b1, 0, none⟩)), (4, .pointer (some ⟨b2, 0, none⟩)), (6, .bool s68), (13, .pointer (some ⟨b65, 0, none⟩)), (14, .pointer (some ⟨b66, 0, none⟩)), (15, .int .i64 r61.2.2)] ∧ gs = [[(b1, .cells #[.int .i64 a0.1, .int .i64 a0.2.1, .int .u32 a0.2.2] 38 (0, 0))], [(b2, .cells #[.int .u32 a1.1, .int .i64 a1.2] 40 (0, 0))], [(b65, .cells #[.int .i64 r61.1.1, .int .i64 r61.1.2.1, .int .u32 r61.1.2.2] 38 (0, 0))], [(b66, .cells #[.int .u32 r61.2.1.1, .int .i64 r61.2.1.2] 40 (0, 0))]]) ?_ (fun hk68 => ?_)
      ·rintro ρ68 τ68 gs68 ⟨s68, h, hl68, hρ, rfl⟩
       refine st_es hρ ?_
       refine st_ord [] _ rfl ?_
       obtain rfl := Eq.symm h
       exact st_ret (gs' := []) Tryd.func7 rfl (List.Sublist.refl _) ((((((((hl11.trans hl15).trans hl16).trans hl17).trans hl21).trans hl60).trans hl64).trans hl67).trans hl68) ⟨rfl, rfl⟩
      refine st_region ?_
      obtain ⟨r69, hr70, h⟩ := h
      refine st_call (foot := []) rfl rfl rfl rfl rfl rfl (callV_fn z_en18 (law21_known_ok hr70 τ67 (hT.up (((((((hl11.trans hl15).trans hl16).trans hl17).trans hl21).trans hl60).trans hl64).trans hl67)))) ?_
      rintro vτ71 τ71 gsτ71 hl72 ⟨rfl, rfl⟩
      refine o_mif rfl rfl rfl rfl h (fun h => ?_) (fun h => ?_)
      ·refine Z 5 rfl ?_
       exact hk68 _ _ _ ⟨(decide (r61.2.2 = 3)), h, hl72, rfl, rfl⟩
      ·refine Z 5 rfl ?_
       exact hk68 _ _ _ ⟨false, h, hl72, rfl, rfl⟩
     ·refine Z 2 rfl ?_
      refine st_cut (fun ρ τ73 gs => ∃ (s73 : Bool), law21_ConfTells_j5 s73 r ∧ τ67.Le τ73 ∧ ESub ρ [(6, .bool s73)] ∧ gs = []) ?_ (fun hk73 => ?_)
      ·rintro ρ73 τ73 gs73 ⟨s73, h, hl73, hρ, rfl⟩
       refine st_es hρ ?_
       obtain rfl := Eq.symm h
       exact st_ret (gs' := []) Tryd.func7 rfl (List.Sublist.refl _) ((((((((hl11.trans hl15).trans hl16).trans hl17).trans hl21).trans hl60).trans hl64).trans hl67).trans hl73) ⟨rfl, rfl⟩
      refine st_region ?_
      obtain ⟨r74, hr75, h⟩ := h
      refine st_call (foot := []) rfl rfl rfl rfl rfl rfl (callV_fn z_en18 (law21_known_ok hr75 τ67 (hT.up (((((((hl11.trans hl15).trans hl16).trans hl17).trans hl21).trans hl60).trans hl64).trans hl67)))) ?_
      rintro vτ76 τ76 gsτ76 hl77 ⟨rfl, rfl⟩
      refine o_mif rfl rfl rfl rfl h (fun h => ?_) (fun h => ?_)
      ·refine Z 3 rfl ?_
       refine o_mif rfl rfl rfl rfl h (fun h => ?_) (fun h => ?_)
       ·refine ZZ 2 [2, 0] rfl rfl ?_
        refine o_aggEq (b := ((decide (r61.1.1 = a0.1)) && ((decide (r61.1.2.1 = a0.2.1)) && ((decide (r61.1.2.2 = a0.2.2)) && true)))) (e := ((decide (r61.1.1 = a0.1)) && ((decide (r61.1.2.1 = a0.2.1)) && ((decide (r61.1.2.2 = a0.2.2)) && true)))) rfl rfl rfl z_eqg38 rfl rfl (fun w => by refine eq_struct Tryd.underlying38 z_held38 ?_; refine eqf_cons (r := (decide (r61.1.1 = a0.1))) (r' := ((decide (r61.1.2.1 = a0.2.1)) && ((decide (r61.1.2.2 = a0.2.2)) && true))) rfl (part_one z_sc3 rfl) (part_one z_sc3 rfl) (by exact eq_int Tryd.underlying3 _ _) ?_; refine eqf_cons (r := (decide (r61.1.2.1 = a0.2.1))) (r' := ((decide (r61.1.2.2 = a0.2.2)) && true)) rfl (part_one z_sc3 rfl) (part_one z_sc3 rfl) (by exact eq_int Tryd.underlying3 _ _) ?_; refine eqf_cons (r := (decide (r61.1.2.2 = a0.2.2))) (r' := true) rfl (part_one z_sc36 rfl) (part_one z_sc36 rfl) (by exact eq_int Tryd.underlying36 _ _) ?_; exact eqf_nil _ _ _ _) rfl ?_
        refine o_pick rfl rfl rfl rfl rfl ?_
        refine o_mif rfl rfl rfl rfl h (fun h => ?_) (fun h => ?_)
        ·refine ZZ 2 [3, 1] rfl rfl ?_
         refine o_aggEq (b := ((decide (r61.2.1.1 = a1.1)) && ((decide (r61.2.1.2 = a1.2)) && true))) (e := ((decide (r61.2.1.1 = a1.1)) && ((decide (r61.2.1.2 = a1.2)) && true))) rfl rfl rfl z_eqg40 rfl rfl (fun w => by refine eq_struct Tryd.underlying40 z_held40 ?_; refine eqf_cons (r := (decide (r61.2.1.1 = a1.1))) (r' := ((decide (r61.2.1.2 = a1.2)) && true)) rfl (part_one z_sc36 rfl) (part_one z_sc36 rfl) (by exact eq_int Tryd.underlying36 _ _) ?_; refine eqf_cons (r := (decide (r61.2.1.2 = a1.2))) (r' := true) rfl (part_one z_sc3 rfl) (part_one z_sc3 rfl) (by exact eq_int Tryd.underlying3 _ _) ?_; exact eqf_nil _ _ _ _) rfl ?_
         refine Z 3 rfl ?_
         refine st_ord [] _ rfl ?_
         exact hk73 _ _ _ ⟨((decide (r61.2.1.1 = a1.1)) && ((decide (r61.2.1.2 = a1.2)) && true)), h, hl77, rfl, rfl⟩
        ·refine Z 6 rfl ?_
         refine st_ord [] _ rfl ?_
         exact hk73 _ _ _ ⟨false, h, hl77, rfl, rfl⟩
       ·refine Z 11 rfl ?_
        refine st_ord [] _ rfl ?_
        exact hk73 _ _ _ ⟨false, h, hl77, rfl, rfl⟩
      ·refine Z 15 rfl ?_
       refine st_ord [] _ rfl ?_
       exact hk73 _ _ _ ⟨false, h, hl77, rfl, rfl⟩
    refine Z 3 rfl ?_
    refine o_mif rfl rfl rfl rfl h (fun h => ?_) (fun h => ?_)
    ·refine Z 4 rfl ?_
     refine st_ord [2, 2, 1, 0] _ rfl ?_
     exact hk67 _ _ _ ⟨true, h, (Sto.Le.refl _), rfl, rfl⟩
    ·refine Z 4 rfl ?_
     refine st_ord [2, 2, 1, 0] _ rfl ?_
     exact hk67 _ _ _ ⟨(!(decide (r7 = 0))), h, (Sto.Le.refl _), rfl, rfl⟩
  refine Z 5 rfl ?_
  refine st_if rfl h (fun h => ?_) (fun h => ?_)
  ·refine ZZ 7 [1] rfl rfl ?_
   exact hk17 _ _ _ ⟨(IntKind.i64.wrap (255 + (IntKind.i64.wrap (192 * a1.2)))), h, (Sto.Le.refl _), rfl, rfl⟩
  ·refine st_skip ?_
   exact hk17 _ _ _ ⟨0, h, (Sto.Le.refl _), rfl, rfl⟩
 refine Z 5 rfl ?_
 refine st_if rfl h (fun h => ?_) (fun h => ?_)
 ·refine Z 7 rfl ?_
  refine st_ord [1, 0] _ rfl ?_
  exact hk16 _ _ _ ⟨(IntKind.i64.wrap (a2 + (IntKind.i64.wrap (15 * r12)))), h, (Sto.Le.refl _), rfl, rfl⟩
 ·refine st_skip ?_
  refine st_ord [1, 0] _ rfl ?_
  exact hk16 _ _ _ ⟨0, h, (Sto.Le.refl _), rfl, rfl⟩
end Go.Rel
