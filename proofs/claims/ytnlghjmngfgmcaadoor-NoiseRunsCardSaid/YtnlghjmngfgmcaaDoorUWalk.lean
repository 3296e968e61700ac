import Derived.Test.YtnlghjmngfgmcaaDoorURel
import Derived.Test.YtnlghjmngfgmcaaDoorUFacts
/-! The walks. -/
set_option linter.unusedVariables false
set_option linter.unusedSimpArgs false
set_option maxRecDepth 4000
set_option maxHeartbeats 4000000
namespace Go.Rel
open Go Go.Eng Go.Proofs
theorem strings_IndexByte_ok {a0 : ByteArray} {a1 : Int} {r : Int} (h : strings_IndexByte a0 a1 r) (σ : Sto) :
    Does Tryd.prog 73 [.string a0, .int .u8 a1] σ [] (fun v τ gs => gs = [] ∧ .int .i64 r = v) := by
 obtain ⟨hc, rfl⟩ := h
 exact indexByte_does Tryd.strings_IndexByte hc
theorem unicode_utf8_DecodeRuneInString_ok {a0 : ByteArray} {r : Int × Int} (h : unicode_utf8_DecodeRuneInString a0 r) (σ : Sto) :
    Does Tryd.prog 111 [.string a0] σ [] (fun v τ gs => gs = [] ∧ .tuple [.int .i32 r.1, .int .i64 r.2].toArray = v) := by
 obtain ⟨hf, _⟩ := h
 exact hf.elim
theorem strings_Index_ok {a0 : ByteArray} {a1 : ByteArray} {r : Int} (h : strings_Index a0 a1 r) (σ : Sto) :
    Does Tryd.prog 112 [.string a0, .string a1] σ [] (fun v τ gs => gs = [] ∧ .int .i64 r = v) := by
 obtain ⟨c, hc, rfl⟩ := h
 exact index_does Tryd.strings_Index_one hc
theorem strings_splitSeq_1_ok {c0 : ByteArray} {c2 : Int} {c1 : ByteArray} {bc0 : Nat} {bc1 : Nat} {bc2 : Nat} {σ0 : Sto} (hc0_0 : Cel σ0 ⟨bc0, 0, none⟩ (.string c0)) (hc2_0 : Cel σ0 ⟨bc2, 0, none⟩ (.int .i64 c2)) :
    IterV Tryd.prog (fun _ x vx => vx = [.string x]) (.func (.func 110) #[] [.pointer (some ⟨bc0, 0, none⟩), .pointer (some ⟨bc1, 0, none⟩), .pointer (some ⟨bc2, 0, none⟩)].toArray) σ0 [(bc1, .cells [.string c1].toArray 9 (0, 0))] (fun (oo : ByteArray) υ f => f = [(bc1, .cells [.string oo].toArray 9 (0, 0))]) (strings_splitSeq_1 c0 c2 c1) := by
 intro S Y I y hyc hyo hIm hY s s' o hR σ g hle hIg
 obtain ⟨r, hr0⟩ : ∃ r, r = (s', o) := ⟨_, rfl⟩
 rw [← hr0] at hR
 have h := hR
 refine callV_of (caps := [.pointer (some ⟨bc0, 0, none⟩), .pointer (some ⟨bc1, 0, none⟩), .pointer (some ⟨bc2, 0, none⟩)]) z_en110 ?_
 refine call_of Tryd.func110 Tryd.ntmps110 rfl rfl (fun cs fs => ?_)
 refine st_perm (gs' := [g, [(bc1, .cells #[.string c1] 9 (0, 0))]]) (by simp) ?_
 refine Z 3 rfl ?_
 refine o_loadI (v := .string c0) rfl rfl rfl z_sc9 rfl (Cel.up hc0_0 hle) ?_
 refine Z 3 rfl ?_
 refine st_if rfl h (fun h => ?_) (fun h => ?_)
 ·refine st_seq ?_
  refine st_cut (fun ρ τ1 gs => ∃ (s1 : S × ByteArray) (g2 : Grp), strings_splitSeq_1_j1 S Y s1 r ∧ σ.Le τ1 ∧ ESub ρ [(0, y), (1, .pointer (some ⟨bc0, 0, none⟩)), (2, .pointer (some ⟨bc1, 0, none⟩)), (3, .pointer (some ⟨bc2, 0, none⟩))] ∧ gs = [[(bc1, .cells #[.string s1.2] 9 (0, 0))], g2] ∧ I s1.1 τ1 g2) ?_ (fun hk1 => ?_)
  ·rintro ρ1 τ1 gs1 ⟨s1, g2, h, hl1, hρ, rfl, hI3⟩
   refine st_es hρ ?_
   refine st_ord [1, 0] _ rfl ?_
   obtain rfl := Eq.symm h
   cases hr0
   exact st_ret (gs' := [g2, [(bc1, .cells #[.string s1.2] 9 (0, 0))]]) Tryd.func110 rfl (by simp) hl1 ⟨g2, _, rfl, hI3, rfl⟩
  obtain ⟨e4, hL4, hA4⟩ := h
  refine st_ord [1, 0] _ rfl ?_
  refine st_loop hL4 (fun (s4 : S × ByteArray) ρ τ4 gs => σ.Le τ4 ∧ ∃ (g5 : Grp), ESub ρ [(0, y), (1, .pointer (some ⟨bc0, 0, none⟩)), (2, .pointer (some ⟨bc1, 0, none⟩)), (3, .pointer (some ⟨bc2, 0, none⟩))] ∧ gs = [[(bc1, .cells #[.string s4.2] 9 (0, 0))], g5] ∧ I s4.1 τ4 g5) ⟨Sto.Le.refl _, g, rfl, rfl, hIg⟩ ?_
  rintro s4 o4 h he4 ρ4 τ4 gs4 ⟨hl4, g5, hρ, rfl, hI6⟩ hn4
  refine st_es hρ ?_
  refine ZZ 7 [0] rfl rfl ?_
  refine st_if rfl h (fun h => ?_) (fun h => ?_)
  ·refine ZZ 5 [0] rfl rfl ?_
   obtain ⟨r7, hr8, h⟩ := h
   refine st_call (foot := []) rfl rfl rfl rfl rfl rfl (callV_fn z_en111 (unicode_utf8_DecodeRuneInString_ok hr8 τ4)) ?_
   rintro vτ9 τ9 gsτ9 hl10 ⟨rfl, rfl⟩
   refine ZZ 12 [0] rfl rfl ?_
   obtain ⟨hf11, hf12, h⟩ := h
   refine o_sliceSh rfl rfl rfl Tryd.underlying9 rfl rfl hf11 hf12 ?_
   obtain ⟨y13, u14, hy15, h⟩ := h
   refine st_ord [1, 0] _ rfl ?_
   refine st_call (foot := [g5]) rfl rfl rfl rfl rfl rfl (hY (s4.2.extract 0 r7.2.toNat) s4.1 _ _ _ _ _ (hle.trans (hl4.trans hl10)) hy15 rfl (hIm _ _ _ _ hl10 hI6)) ?_
   rintro vτ16 τ16 gsτ16 hl17 ⟨rfl, g18, rfl, hI19⟩
   refine Z 2 rfl ?_
   refine st_if rfl h (fun h => ?_) (fun h => ?_)
   ·obtain rfl := he4 _ h
    replace h := hA4
    obtain rfl := Eq.symm h
    cases hr0
    exact st_ret (gs' := [g18, [(bc1, .cells #[.string s4.2] 9 (0, 0))]]) Tryd.func110 rfl (by simp) ((hl4.trans hl10).trans hl17) ⟨g18, _, rfl, hI19, rfl⟩
   ·refine ZZ 4 [1] rfl rfl ?_
    obtain ⟨hf20, hf21, h⟩ := h
    refine o_sliceSl rfl rfl rfl Tryd.underlying9 rfl rfl hf20 hf21 ?_
    refine ZZ 3 [1] rfl rfl ?_
    refine st_ord [1, 0] _ rfl ?_
    exact hn4 _ _ _ _ h ⟨((hl4.trans hl10).trans hl17), g18, rfl, rfl, hI19⟩
  ·refine st_exit rfl ?_
   obtain rfl := he4 _ h
   replace h := hA4
   exact hk1 _ _ _ ⟨(s4.1, s4.2), g5, h, hl4, rfl, rfl, hI6⟩
 ·refine Z 2 rfl ?_
  refine st_cut (fun ρ τ24 gs => ∃ (s24 : S × ByteArray) (g25 : Grp), strings_splitSeq_1_j3 S Y s24 r ∧ σ.Le τ24 ∧ ESub ρ [(0, y), (2, .pointer (some ⟨bc1, 0, none⟩))] ∧ gs = [[(bc1, .cells #[.string s24.2] 9 (0, 0))], g25] ∧ I s24.1 τ24 g25) ?_ (fun hk24 => ?_)
  ·rintro ρ24 τ24 gs24 ⟨s24, g25, h, hl24, hρ, rfl, hI26⟩
   refine st_es hρ ?_
   refine ZZ 3 [0] rfl rfl ?_
   obtain ⟨y27, u28, hy29, h⟩ := h
   refine st_ord [1, 0] _ rfl ?_
   refine st_call (foot := [g25]) rfl rfl rfl rfl rfl rfl (hY s24.2 s24.1 _ _ _ _ _ (hle.trans hl24) hy29 rfl hI26) ?_
   rintro vτ30 τ30 gsτ30 hl31 ⟨rfl, g32, rfl, hI33⟩
   refine st_end ?_
   obtain rfl := Eq.symm h
   cases hr0
   exact st_fin (gs' := [g32, [(bc1, .cells #[.string s24.2] 9 (0, 0))]]) Tryd.func110 rfl (by simp) (hl24.trans hl31) ⟨g32, _, rfl, hI33, rfl⟩
  obtain ⟨e34, hL34, hA34⟩ := h
  refine st_ord [1, 0] _ rfl ?_
  refine st_loop hL34 (fun (s34 : S × ByteArray) ρ τ34 gs => σ.Le τ34 ∧ ∃ (g35 : Grp), ESub ρ [(0, y), (1, .pointer (some ⟨bc0, 0, none⟩)), (2, .pointer (some ⟨bc1, 0, none⟩)), (3, .pointer (some ⟨bc2, 0, none⟩))] ∧ gs = [[(bc1, .cells #[.string s34.2] 9 (0, 0))], g35] ∧ I s34.1 τ34 g35) ⟨Sto.Le.refl _, g, rfl, rfl, hIg⟩ ?_
  rintro s34 o34 h he34 ρ34 τ34 gs34 ⟨hl34, g35, hρ, rfl, hI36⟩ hn34
  refine st_es hρ ?_
  refine ZZ 4 [0] rfl rfl ?_
  refine o_loadI (v := .string c0) rfl rfl rfl z_sc9 rfl (Cel.up hc0_0 (hle.trans hl34)) ?_
  obtain ⟨r37, hr38, h⟩ := h
  refine st_call (foot := []) rfl rfl rfl rfl rfl rfl (callV_fn z_en112 (strings_Index_ok hr38 τ34)) ?_
  rintro vτ39 τ39 gsτ39 hl40 ⟨rfl, rfl⟩
  refine Z 8 rfl ?_
  refine st_if rfl h (fun h => ?_) (fun h => ?_)
  ·refine st_exit rfl ?_
   obtain rfl := he34 _ h
   replace h := hA34
   exact hk24 _ _ _ ⟨(s34.1, s34.2), g35, h, (hl34.trans hl40), rfl, rfl, (hIm _ _ _ _ hl40 hI36)⟩
  ·refine ZZ 5 [0] rfl rfl ?_
   refine o_loadI (v := .int .i64 c2) rfl rfl rfl z_sc3 rfl (Cel.up hc2_0 ((hle.trans hl34).trans hl40)) ?_
   refine o_ibin (v := .int .i64 (IntKind.i64.wrap (r37 + c2))) rfl rfl rfl rfl rfl rfl ?_
   obtain ⟨hf41, hf42, h⟩ := h
   refine o_sliceSh rfl rfl rfl Tryd.underlying9 rfl rfl hf41 hf42 ?_
   refine Z 7 rfl ?_
   obtain ⟨y43, u44, hy45, h⟩ := h
   refine st_ord [1, 0] _ rfl ?_
   refine st_call (foot := [g35]) rfl rfl rfl rfl rfl rfl (hY (s34.2.extract 0 (IntKind.i64.wrap (r37 + c2)).toNat) s34.1 _ _ _ _ _ (hle.trans (hl34.trans hl40)) hy45 rfl (hIm _ _ _ _ hl40 hI36)) ?_
   rintro vτ46 τ46 gsτ46 hl47 ⟨rfl, g48, rfl, hI49⟩
   refine Z 2 rfl ?_
   refine st_if rfl h (fun h => ?_) (fun h => ?_)
   ·obtain rfl := he34 _ h
    replace h := hA34
    obtain rfl := Eq.symm h
    cases hr0
    exact st_ret (gs' := [g48, [(bc1, .cells #[.string s34.2] 9 (0, 0))]]) Tryd.func110 rfl (by simp) ((hl34.trans hl40).trans hl47) ⟨g48, _, rfl, hI49, rfl⟩
   ·refine ZZ 4 [1] rfl rfl ?_
    refine o_loadI (v := .string c0) rfl rfl rfl z_sc9 rfl (Cel.up hc0_0 (((hle.trans hl34).trans hl40).trans hl47)) ?_
    refine Z 2 rfl ?_
    obtain ⟨hf50, hf51, h⟩ := h
    refine o_sliceSl rfl rfl rfl Tryd.underlying9 rfl rfl hf50 hf51 ?_
    refine ZZ 3 [1] rfl rfl ?_
    refine st_ord [1, 0] _ rfl ?_
    exact hn34 _ _ _ _ h ⟨((hl34.trans hl40).trans hl47), g48, rfl, rfl, hI49⟩
theorem strings_splitSeq_ok {a0 : ByteArray} {a1 : ByteArray} {a2 : Int} {r : ((ByteArray → (S : Type) → (ByteArray → S → Bool × S → Prop) → S → S × ByteArray → Prop)) × ByteArray} (h : strings_splitSeq a0 a1 a2 r) (σ : Sto)  :
    Does Tryd.prog 90 [.string a0, .string a1, .int .i64 a2] σ [] (fun v τ gs => ∃ (f11 : Nat) (q12 : Array Value) (b14 : Nat), gs = [[(b14, .cells [.string r.2].toArray 9 (0, 0))]] ∧ .func (.func f11) #[] q12 = v ∧ ∀ (x16 : ByteArray) (σ15 : Sto), τ.Le σ15 → IterV Tryd.prog (fun _ x vx => vx = [.string x]) (.func (.func f11) #[] q12) σ15 [(b14, .cells [.string x16].toArray 9 (0, 0))] (fun (o17 : ByteArray) υ f => f = [(b14, .cells [.string o17].toArray 9 (0, 0))]) (r.1 x16)) := by
 refine call_of Tryd.func90 Tryd.ntmps90 rfl rfl (fun cs fs => ?_)
 refine Z 2 rfl ?_
 refine o_boxC rfl rfl rfl rfl rfl rfl (fun b1 => ?_)
 refine o_boxC rfl rfl rfl rfl rfl rfl (fun b2 => ?_)
 refine o_boxC rfl rfl rfl rfl rfl rfl (fun b3 => ?_)
 refine Z 4 rfl ?_
 refine st_ord [1, 0, 0] _ rfl ?_
 refine st_freeze (fun τ4 hl5 hg6 => ?_)
 refine st_freeze (fun τ7 hl8 hg9 => ?_)
 refine Z 3 rfl ?_
 obtain rfl := Eq.symm h
 exact st_ret (gs' := [[(b1, .cells #[.string a0] 9 (0, 0))]]) Tryd.func90 rfl (List.Sublist.refl _) (hl5.trans hl8) ⟨_, _, _, rfl, rfl, (fun _ _ hl  => strings_splitSeq_1_ok ((Cel.up (cel_of hg6 rfl) hl8).up hl) ((cel_of hg9 rfl).up hl))⟩
theorem strings_SplitSeq_ok {a0 : ByteArray} {a1 : ByteArray} {r : ((ByteArray → (S : Type) → (ByteArray → S → Bool × S → Prop) → S → S × ByteArray → Prop)) × ByteArray} (h : strings_SplitSeq a0 a1 r) (σ : Sto)  :
    Does Tryd.prog 77 [.string a0, .string a1] σ [] (fun v τ gs => ∃ (f13 : Nat) (q14 : Array Value) (b16 : Nat), gs = [[(b16, .cells [.string r.2].toArray 9 (0, 0))]] ∧ .func (.func f13) #[] q14 = v ∧ ∀ (x18 : ByteArray) (σ17 : Sto), τ.Le σ17 → IterV Tryd.prog (fun _ x vx => vx = [.string x]) (.func (.func f13) #[] q14) σ17 [(b16, .cells [.string x18].toArray 9 (0, 0))] (fun (o19 : ByteArray) υ f => f = [(b16, .cells [.string o19].toArray 9 (0, 0))]) (r.1 x18)) := by
 refine call_of Tryd.func77 Tryd.ntmps77 rfl rfl (fun cs fs => ?_)
 refine Z 8 rfl ?_
 obtain ⟨r1, hr2, h⟩ := h
 refine st_call (foot := []) rfl rfl rfl rfl rfl rfl (callV_fn z_en90 (strings_splitSeq_ok hr2 σ)) ?_
 rintro vτ3 τ3 gsτ3 hl4 ⟨f5, q6, b8, rfl, rfl, hit7⟩
 refine Z 2 rfl ?_
 obtain rfl := Eq.symm h
 exact st_ret (gs' := [[(b8, .cells #[.string r1.2] 9 (0, 0))]]) Tryd.func77 rfl (List.Sublist.refl _) hl4 ⟨_, _, _, rfl, rfl, (fun x0_ σ9 hl9 => hit7 x0_ σ9 ((Sto.Le.refl _).trans hl9))⟩
theorem ref01_Same_ok {a0 : List Int} {a1 : List Int} {v1 : Value} {v3 : Value} {r : Bool} (h : ref01_Same a0 a1 r) (σ : Sto) (hs2 : Sl (kI .u8) σ v1 a0) (hs4 : Sl (kI .u8) σ v3 a1) :
    Does Tryd.prog 12 [v1, v3] σ [] (fun v τ gs => gs = [] ∧ .bool r = v) := by
 refine call_of Tryd.func12 Tryd.ntmps12 rfl rfl (fun cs fs => ?_)
 refine Z 8 rfl ?_
 refine o_lenI rfl rfl rfl z_slT22 rfl hs2 ?_
 refine o_move rfl rfl rfl rfl ?_
 refine o_lenI rfl rfl rfl z_slT22 rfl hs4 ?_
 refine Z 2 rfl ?_
 refine st_if rfl h (fun h => ?_) (fun h => ?_)
 ·refine Z 4 rfl ?_
  obtain rfl := Eq.symm h
  exact st_ret (gs' := []) Tryd.func12 rfl (List.Sublist.refl _) (Sto.Le.refl _) ⟨rfl, rfl⟩
 ·refine Z 2 rfl ?_
  refine st_cut (fun ρ τ5 gs => ∃ (s5 : Unit), ref01_Same_j1 s5 r ∧ σ.Le τ5 ∧ ESub ρ [(4, .bool false)] ∧ gs = []) ?_ (fun hk5 => ?_)
  ·rintro ρ5 τ5 gs5 ⟨s5, h, hl5, hρ, rfl⟩
   refine st_es hρ ?_
   refine Z 4 rfl ?_
   obtain rfl := Eq.symm h
   exact st_ret (gs' := []) Tryd.func12 rfl (List.Sublist.refl _) hl5 ⟨rfl, rfl⟩
  refine Z 4 rfl ?_
  obtain ⟨e6, hL6, hA6⟩ := h
  refine st_loop hL6 (fun (s6 : Int) ρ τ6 gs => σ.Le τ6 ∧ ESub ρ [(0, v1), (1, v3), (4, .bool false), (5, .int .i64 s6)] ∧ gs = []) ⟨Sto.Le.refl _, rfl, rfl⟩ ?_
  rintro s6 o6 h he6 ρ6 τ6 gs6 ⟨hl6, hρ, rfl⟩ hn6
  refine st_es hρ ?_
  refine Z 5 rfl ?_
  refine o_lenI rfl rfl rfl z_slT22 rfl (hs2.up hl6) ?_
  refine Z 2 rfl ?_
  refine st_if rfl h (fun h => ?_) (fun h => ?_)
  ·refine Z 4 rfl ?_
   obtain ⟨q7, hf8, q12, hf13, h⟩ := h
   refine st_draw 9 (dl [.v (v1), .v (.int .i64 s6), .t fun τ v => ∃ (b9 : Nat) (of10 : Nat) (vsb9 : List Value), (.pointer (some ⟨b9, of10, none⟩) : Value) = v ∧ CelN τ ⟨b9, of10, none⟩ vsb9 ∧ (kI .u8).rep τ vsb9 q7, .v (.int .u8 q7), .v (v3), .v (.int .i64 s6), .t fun τ v => ∃ (b14 : Nat) (of15 : Nat) (vsb14 : List Value), (.pointer (some ⟨b14, of15, none⟩) : Value) = v ∧ CelN τ ⟨b14, of15, none⟩ vsb14 ∧ (kI .u8).rep τ vsb14 q12, .v (.int .u8 q12), .v (.bool (!(decide (q7 = q12))))]) (fun _ _ => []) z_mix rfl (dl_mono ⟨fun _ _ _ hl ⟨b9, of10, vsb9, hv, hc11, hrepb9⟩ => ⟨b9, of10, vsb9, hv, hc11.up hl, Kd.mono _ hl hrepb9⟩, ⟨fun _ _ _ hl ⟨b14, of15, vsb14, hv, hc16, hrepb14⟩ => ⟨b14, of15, vsb14, hv, hc16.up hl, Kd.mono _ hl hrepb14⟩, trivial⟩⟩) (allB_cons (allB_cons (allB_cons (allB_cons (allB_cons (allB_cons (allB_cons (allB_cons (allB_cons allB_nil (p1 dA)) (p1 dA)) ?_) ?_) (p1 dA)) (p1 dA)) ?_) ?_) (p1 dA)) ?_
   ·intro ρ' τ pool rs hl hd hout hk
    obtain ⟨_, e0, rfl⟩ := hd 0 rfl
    obtain ⟨_, e1, rfl⟩ := hd 1 rfl
    refine o_index rfl rfl rfl z_slT22 rfl e0 (hs2.up (hl6.trans hl)) e1 hf8 (fun b9 of10 vsb9 hc11 hrepb9 => ?_)
    exact st_addNil (hk _ _ (Sto.Le.refl _) ⟨b9, of10, _, rfl, hc11, hrepb9⟩)
   ·intro ρ' τ pool rs hl hd hout hk
    obtain ⟨_, e2, b9, of10, vsb9, rfl, hc11, hrepb9⟩ := hd 2 rfl
    have hrepb9 := hrepb9
    obtain rfl := hrepb9
    refine o_loadI (v := .int .u8 q7) rfl rfl rfl z_sc5 e2 (hc11 0 _ rfl) ?_
    exact st_addNil (hk _ _ (Sto.Le.refl _) rfl)
   ·intro ρ' τ pool rs hl hd hout hk
    obtain ⟨_, e4, rfl⟩ := hd 4 rfl
    obtain ⟨_, e5, rfl⟩ := hd 5 rfl
    refine o_index rfl rfl rfl z_slT22 rfl e4 (hs4.up (hl6.trans hl)) e5 hf13 (fun b14 of15 vsb14 hc16 hrepb14 => ?_)
    exact st_addNil (hk _ _ (Sto.Le.refl _) ⟨b14, of15, _, rfl, hc16, hrepb14⟩)
   ·intro ρ' τ pool rs hl hd hout hk
    obtain ⟨_, e6, b14, of15, vsb14, rfl, hc16, hrepb14⟩ := hd 6 rfl
    have hrepb14 := hrepb14
    obtain rfl := hrepb14
    refine o_loadI (v := .int .u8 q12) rfl rfl rfl z_sc5 e6 (hc16 0 _ rfl) ?_
    exact st_addNil (hk _ _ (Sto.Le.refl _) rfl)
   intro ρ' τ17 vals hl17 hv hout
   refine st_ord [] _ rfl ?_
   refine st_env (ρ' := [(25, .bool (!(decide (q7 = q12)))), (0, v1), (1, v3), (4, .bool false), (5, .int .i64 s6)]) ⟨(lv1 hv 8 rfl rfl), (hout 0 rfl).trans rfl, (hout 1 rfl).trans rfl, (hout 4 rfl).trans rfl, (hout 5 rfl).trans rfl, trivial⟩ ?_
   refine st_end ?_
   refine st_if rfl h (fun h => ?_) (fun h => ?_)
   ·refine Z 4 rfl ?_
    obtain rfl := he6 _ h
    replace h := hA6
    obtain rfl := Eq.symm h
    exact st_ret (gs' := []) Tryd.func12 rfl (List.Sublist.refl _) (hl6.trans hl17) ⟨rfl, rfl⟩
   ·refine Z 7 rfl ?_
    exact hn6 _ _ _ _ h ⟨(hl6.trans hl17), rfl, rfl⟩
  ·refine st_exit rfl ?_
   obtain rfl := he6 _ h
   replace h := hA6
   exact hk5 _ _ _ ⟨(), h, hl6, rfl, rfl⟩
theorem say_Words_1_ok {c0 : ByteArray} {bc0 : Nat} {σ0 : Sto} (hc0_0 : Cel σ0 ⟨bc0, 0, none⟩ (.string c0)) :
    IterV Tryd.prog (fun _ x vx => vx = [.int .i64 x.1, .string x.2]) (.func (.func 80) #[] [.pointer (some ⟨bc0, 0, none⟩)].toArray) σ0 [] (fun (_ : Unit) _ f => f = []) (say_Words_1 c0) := by
 intro S Y I y hyc hyo hIm hY s s' o hR σ g hle hIg
 obtain ⟨r, hr0⟩ : ∃ r, r = (s', o) := ⟨_, rfl⟩
 rw [← hr0] at hR
 have h := hR
 refine callV_of (caps := [.pointer (some ⟨bc0, 0, none⟩)]) z_en80 ?_
 refine call_of Tryd.func80 Tryd.ntmps80 rfl rfl (fun cs fs => ?_)
 refine st_ord [0] _ rfl ?_
 refine Z 2 rfl ?_
 refine o_box (cs := [y]) rfl rfl rfl rfl hyc (fun b1 => ?_)
 refine Z 3 rfl ?_
 refine o_alloc rfl rfl rfl z_zero3 (fun b2 => ?_)
 refine ZZ 4 [0] rfl rfl ?_
 refine o_loadI (v := .string c0) rfl rfl rfl z_sc9 rfl (Cel.up hc0_0 hle) ?_
 obtain ⟨r3, hr4, h⟩ := h
 refine st_call (foot := []) rfl rfl rfl rfl (evs_cons rfl (evs_cons (ev_str z_str3) rfl)) rfl (callV_fn z_en77 (strings_SplitSeq_ok hr4 σ)) ?_
 rintro vτ5 τ5 gsτ5 hl6 ⟨f7, q8, b10, rfl, rfl, hit9⟩
 refine Z 2 rfl ?_
 obtain ⟨t14, w14, hR14, hA14⟩ := h
 refine st_env (ρ' := [(2, .pointer (some ⟨b1, 0, none⟩)), (3, .pointer (some ⟨b2, 0, none⟩)), (6, .func (.func f7) #[] q8)]) ⟨rfl, rfl, rfl, trivial⟩ ?_
 refine st_ord [0, 1, 0, 0] _ rfl ?_
 refine st_range (B := say_Words_1_l1 S Y) (s0 := (s, 0)) ranges_fctx rfl (hit9 r3.2 τ5 (Sto.Le.refl _)) (Sto.Le.refl _) hR14 rfl (fun _ _ _ h => by cases h; rfl) (fun (s14 : S × Int) τ14 gs => τ5.Le τ14 ∧ ∃ (g15 : Grp), gs = [[(b1, .cells #[y] 126 (0, 0))], [(b2, .cells #[.int .i64 s14.2] 3 (0, 0))], g15] ∧ I s14.1 τ14 g15) (fun (p24 : S × Int) cd τ25 gs => cd = .ret ∧ τ5.Le τ25 ∧ ∃ (g27 : Grp), gs = [[(b1, .cells #[y] 126 (0, 0))], [(b2, .cells #[.int .i64 p24.2] 3 (0, 0))], g27] ∧ I p24.1 τ25 g27) (fun _ _ _ _ hl ⟨hb, g15, hg, hI16⟩ => ⟨hb.trans hl, g15, hg, hIm _ _ _ _ hl hI16⟩) (fun _ _ _ _ _ hl ⟨hc, hb, g27, hg, hI28⟩ => ⟨hc, hb.trans hl, g27, hg, hIm _ _ _ _ hl hI28⟩) ⟨Sto.Le.refl _, g, rfl, (hIm _ _ _ _ hl6 hIg)⟩ ?_ ?_ ?_
 ·rintro x14 s14 o14 τ14 gs14 vx14 hl14 h rfl ⟨hb14, g15, rfl, hI16⟩ l14 rc14 caller14 cs14 fs14
  refine Z 3 rfl ?_
  refine st_begin ?_
  refine ZZ 7 [0, 1] rfl rfl ?_
  obtain ⟨y17, u18, hy19, h⟩ := h
  refine st_ord [2, 0, 0] _ rfl ?_
  refine st_call (foot := [g15]) rfl rfl rfl rfl rfl rfl (hY (s14.2, x14) s14.1 _ _ _ _ _ (hle.trans (hl6.trans hl14)) hy19 rfl hI16) ?_
  rintro vτ20 τ20 gsτ20 hl21 ⟨rfl, g22, rfl, hI23⟩
  refine Z 2 rfl ?_
  refine st_if rfl h (fun h => ?_) (fun h => ?_)
  ·refine st_ord [1, 1, 0] _ rfl ?_
   exact st_rret (List.Sublist.refl _) hl21 ⟨_, h, rfl, (hl14.trans hl21), g22, rfl, hI23⟩
  ·refine ZZ 10 [2, 2] rfl rfl ?_
   refine st_ord [1, 1, 0] _ rfl ?_
   exact st_rend (List.Sublist.refl _) hl21 ⟨_, h, (hl14.trans hl21), g22, rfl, hI23⟩
 ·rintro p30 τ31 gs14 f14 ht hl32 ⟨hb, g33, rfl, hI34⟩ rfl
  subst ht
  replace h := hA14
  refine st_gs [[(b10, .cells #[.string w14] 9 (0, 0))], [(b1, .cells #[y] 126 (0, 0))], [(b2, .cells #[.int .i64 p30.2] 3 (0, 0))], g33] rfl ?_
  refine st_inBlock ?_
  refine st_ord [3] _ rfl ?_
  obtain rfl := Eq.symm h
  cases hr0
  exact st_fin (gs' := [g33, []]) Tryd.func80 rfl (by simp) (hl6.trans hl32) ⟨g33, _, rfl, hI34, rfl⟩
 ·rintro p24 cd14 τ25 gs14 f14 ht hl26 ⟨rfl, hb, g27, rfl, hI28⟩ rfl
  subst ht
  replace h := hA14
  refine st_gs [[(b10, .cells #[.string w14] 9 (0, 0))], [(b1, .cells #[y] 126 (0, 0))], [(b2, .cells #[.int .i64 p24.2] 3 (0, 0))], g27] rfl ?_
  refine st_ord [3] _ rfl ?_
  obtain rfl := Eq.symm h
  cases hr0
  exact st_ret (gs' := [g27, []]) Tryd.func80 rfl (by simp) (hl6.trans hl26) ⟨g27, _, rfl, hI28, rfl⟩
theorem say_Words_ok {a0 : ByteArray} {r : (((S : Type) → ((Int × ByteArray) → S → Bool × S → Prop) → S → S × Unit → Prop))} (h : say_Words a0 r) (σ : Sto)  :
    Does Tryd.prog 58 [.string a0] σ [] (fun v τ gs => ∃ (f5 : Nat) (q6 : Array Value), gs = [] ∧ .func (.func f5) #[] q6 = v ∧ IterV Tryd.prog (fun _ x vx => vx = [.int .i64 x.1, .string x.2]) (.func (.func f5) #[] q6) τ [] (fun (_ : Unit) _ f => f = []) r) := by
 refine call_of Tryd.func58 Tryd.ntmps58 rfl rfl (fun cs fs => ?_)
 refine Z 2 rfl ?_
 refine o_boxC rfl rfl rfl rfl rfl rfl (fun b1 => ?_)
 refine Z 4 rfl ?_
 refine st_freeze (fun τ2 hl3 hg4 => ?_)
 refine Z 3 rfl ?_
 obtain rfl := Eq.symm h
 exact st_ret (gs' := []) Tryd.func58 rfl (List.Sublist.refl _) hl3 ⟨_, _, rfl, rfl, (say_Words_1_ok (cel_of hg4 rfl))⟩
theorem strconv_ParseInt_ok {a0 : ByteArray} {a1 : Int} {a2 : Int} {r : Int × Bool} (h : strconv_ParseInt a0 a1 a2 r) (σ : Sto) (hE : Errs Tryd.prog σ) :
    Does Tryd.prog 81 [.string a0, .int .i64 a1, .int .i64 a2] σ [] (fun v τ gs => ∃ (v1 : Value), gs = [] ∧ .tuple [.int .i64 r.1, v1].toArray = v ∧ IfB v1 r.2) := by
 obtain ⟨rfl, rfl, hs, rfl⟩ := h
 exact parse_does Tryd.strconv_ParseInt_10_at64_ok Tryd.strconv_ParseInt_10_at64_syntax_var Tryd.strconv_ParseInt_10_at64_range_var hE hs
theorem internal_stringslite_HasPrefix_ok {a0 : ByteArray} {a1 : ByteArray} {r : Bool} (h : internal_stringslite_HasPrefix a0 a1 r) (σ : Sto)  :
    Does Tryd.prog 124 [.string a0, .string a1] σ [] (fun v τ gs => gs = [] ∧ .bool r = v) := by
 refine call_of Tryd.func124 Tryd.ntmps124 rfl rfl (fun cs fs => ?_)
 refine Z 5 rfl ?_
 refine st_cut (fun ρ τ1 gs => ∃ (s1 : Bool), internal_stringslite_HasPrefix_j1 s1 r ∧ σ.Le τ1 ∧ ESub ρ [(4, .bool s1)] ∧ gs = []) ?_ (fun hk1 => ?_)
 ·rintro ρ1 τ1 gs1 ⟨s1, h, hl1, hρ, rfl⟩
  refine st_es hρ ?_
  obtain rfl := Eq.symm h
  exact st_ret (gs' := []) Tryd.func124 rfl (List.Sublist.refl _) hl1 ⟨rfl, rfl⟩
 refine Z 6 rfl ?_
 refine o_mif rfl rfl rfl rfl h (fun h => ?_) (fun h => ?_)
 ·refine Z 3 rfl ?_
  obtain ⟨hf2, hf3, h⟩ := h
  refine o_sliceSh rfl rfl rfl Tryd.underlying9 rfl rfl hf2 hf3 ?_
  refine Z 5 rfl ?_
  exact hk1 _ _ _ ⟨(decide ((a0.extract 0 (a1.size : Int).toNat) = a1)), h, (Sto.Le.refl _), rfl, rfl⟩
 ·refine Z 9 rfl ?_
  exact hk1 _ _ _ ⟨false, h, (Sto.Le.refl _), rfl, rfl⟩
theorem internal_stringslite_TrimPrefix_ok {a0 : ByteArray} {a1 : ByteArray} {r : ByteArray} (h : internal_stringslite_TrimPrefix a0 a1 r) (σ : Sto)  :
    Does Tryd.prog 99 [.string a0, .string a1] σ [] (fun v τ gs => gs = [] ∧ .string r = v) := by
 refine call_of Tryd.func99 Tryd.ntmps99 rfl rfl (fun cs fs => ?_)
 refine Z 2 rfl ?_
 refine o_assign rfl rfl rfl (ev_str z_str0) ?_
 refine Z 6 rfl ?_
 obtain ⟨r1, hr2, h⟩ := h
 refine st_call (foot := []) rfl rfl rfl rfl rfl rfl (callV_fn z_en124 (internal_stringslite_HasPrefix_ok hr2 σ)) ?_
 rintro vτ3 τ3 gsτ3 hl4 ⟨rfl, rfl⟩
 refine st_end ?_
 refine st_if rfl h (fun h => ?_) (fun h => ?_)
 ·refine Z 5 rfl ?_
  obtain ⟨hf5, hf6, h⟩ := h
  refine o_sliceSl rfl rfl rfl Tryd.underlying9 rfl rfl hf5 hf6 ?_
  refine Z 2 rfl ?_
  obtain rfl := Eq.symm h
  exact st_ret (gs' := []) Tryd.func99 rfl (List.Sublist.refl _) hl4 ⟨rfl, rfl⟩
 ·refine Z 6 rfl ?_
  obtain rfl := Eq.symm h
  exact st_ret (gs' := []) Tryd.func99 rfl (List.Sublist.refl _) hl4 ⟨rfl, rfl⟩
theorem strings_TrimPrefix_ok {a0 : ByteArray} {a1 : ByteArray} {r : ByteArray} (h : strings_TrimPrefix a0 a1 r) (σ : Sto)  :
    Does Tryd.prog 82 [.string a0, .string a1] σ [] (fun v τ gs => gs = [] ∧ .string r = v) := by
 refine call_of Tryd.func82 Tryd.ntmps82 rfl rfl (fun cs fs => ?_)
 refine Z 2 rfl ?_
 refine o_assign rfl rfl rfl (ev_str z_str0) ?_
 refine Z 5 rfl ?_
 obtain ⟨r1, hr2, h⟩ := h
 refine st_call (foot := []) rfl rfl rfl rfl rfl rfl (callV_fn z_en99 (internal_stringslite_TrimPrefix_ok hr2 σ)) ?_
 rintro vτ3 τ3 gsτ3 hl4 ⟨rfl, rfl⟩
 refine Z 2 rfl ?_
 obtain rfl := Eq.symm h
 exact st_ret (gs' := []) Tryd.func82 rfl (List.Sublist.refl _) hl4 ⟨rfl, rfl⟩
theorem strings_trimRightByte_ok {a0 : ByteArray} {a1 : Int} {r : ByteArray} (h : strings_trimRightByte a0 a1 r) (σ : Sto)  :
    Does Tryd.prog 101 [.string a0, .int .u8 a1] σ [] (fun v τ gs => gs = [] ∧ .string r = v) := by
 refine call_of Tryd.func101 Tryd.ntmps101 rfl rfl (fun cs fs => ?_)
 refine Z 2 rfl ?_
 refine o_assign rfl rfl rfl (ev_str z_str0) ?_
 refine Z 2 rfl ?_
 refine st_cut (fun ρ τ1 gs => ∃ (s1 : ByteArray), strings_trimRightByte_j1 s1 r ∧ σ.Le τ1 ∧ ESub ρ [(0, .string s1), (4, .string (bstr []))] ∧ gs = []) ?_ (fun hk1 => ?_)
 ·rintro ρ1 τ1 gs1 ⟨s1, h, hl1, hρ, rfl⟩
  refine st_es hρ ?_
  refine Z 5 rfl ?_
  obtain rfl := Eq.symm h
  exact st_ret (gs' := []) Tryd.func101 rfl (List.Sublist.refl _) hl1 ⟨rfl, rfl⟩
 obtain ⟨e2, hL2, hA2⟩ := h
 refine st_loop hL2 (fun (s2 : ByteArray) ρ τ2 gs => σ.Le τ2 ∧ ESub ρ [(0, .string s2), (1, .int .u8 a1), (4, .string (bstr []))] ∧ gs = []) ⟨Sto.Le.refl _, rfl, rfl⟩ ?_
 rintro s2 o2 h he2 ρ2 τ2 gs2 ⟨hl2, hρ, rfl⟩ hn2
 refine st_es hρ ?_
 refine Z 2 rfl ?_
 refine st_cut (fun ρ τ3 gs => ∃ (s3 : Bool), strings_trimRightByte_j3 s2 s3 o2 ∧ τ2.Le τ3 ∧ ESub ρ [(0, .string s2), (1, .int .u8 a1), (4, .string (bstr [])), (16, .bool s3)] ∧ gs = []) ?_ (fun hk3 => ?_)
 ·rintro ρ3 τ3 gs3 ⟨s3, h, hl3, hρ, rfl⟩
  refine st_es hρ ?_
  refine st_if rfl h (fun h => ?_) (fun h => ?_)
  ·refine Z 7 rfl ?_
   obtain ⟨hf4, hf5, h⟩ := h
   refine o_sliceSh rfl rfl rfl Tryd.underlying9 rfl rfl hf4 hf5 ?_
   refine Z 3 rfl ?_
   exact hn2 _ _ _ _ h ⟨(hl2.trans hl3), rfl, rfl⟩
  ·refine st_exit rfl ?_
   obtain rfl := he2 _ h
   replace h := hA2
   exact hk1 _ _ _ ⟨s2, h, (hl2.trans hl3), rfl, rfl⟩
 refine Z 4 rfl ?_
 refine o_mif rfl rfl rfl rfl h (fun h => ?_) (fun h => ?_)
 ·refine Z 4 rfl ?_
  obtain ⟨q6, hf7, h⟩ := h
  refine o_indexS rfl rfl rfl Tryd.underlying9 rfl rfl hf7 ?_
  refine Z 4 rfl ?_
  exact hk3 _ _ _ ⟨(decide (q6 = a1)), h, (Sto.Le.refl _), rfl, rfl⟩
 ·refine Z 9 rfl ?_
  exact hk3 _ _ _ ⟨false, h, (Sto.Le.refl _), rfl, rfl⟩
theorem strings_trimLeftByte_ok {a0 : ByteArray} {a1 : Int} {r : ByteArray} (h : strings_trimLeftByte a0 a1 r) (σ : Sto)  :
    Does Tryd.prog 100 [.string a0, .int .u8 a1] σ [] (fun v τ gs => gs = [] ∧ .string r = v) := by
 refine call_of Tryd.func100 Tryd.ntmps100 rfl rfl (fun cs fs => ?_)
 refine Z 2 rfl ?_
 refine o_assign rfl rfl rfl (ev_str z_str0) ?_
 refine Z 2 rfl ?_
 refine st_cut (fun ρ τ1 gs => ∃ (s1 : ByteArray), strings_trimLeftByte_j1 s1 r ∧ σ.Le τ1 ∧ ESub ρ [(0, .string s1), (4, .string (bstr []))] ∧ gs = []) ?_ (fun hk1 => ?_)
 ·rintro ρ1 τ1 gs1 ⟨s1, h, hl1, hρ, rfl⟩
  refine st_es hρ ?_
  refine Z 5 rfl ?_
  obtain rfl := Eq.symm h
  exact st_ret (gs' := []) Tryd.func100 rfl (List.Sublist.refl _) hl1 ⟨rfl, rfl⟩
 obtain ⟨e2, hL2, hA2⟩ := h
 refine st_loop hL2 (fun (s2 : ByteArray) ρ τ2 gs => σ.Le τ2 ∧ ESub ρ [(0, .string s2), (1, .int .u8 a1), (4, .string (bstr []))] ∧ gs = []) ⟨Sto.Le.refl _, rfl, rfl⟩ ?_
 rintro s2 o2 h he2 ρ2 τ2 gs2 ⟨hl2, hρ, rfl⟩ hn2
 refine st_es hρ ?_
 refine Z 2 rfl ?_
 refine st_cut (fun ρ τ3 gs => ∃ (s3 : Bool), strings_trimLeftByte_j3 s2 s3 o2 ∧ τ2.Le τ3 ∧ ESub ρ [(0, .string s2), (1, .int .u8 a1), (4, .string (bstr [])), (13, .bool s3)] ∧ gs = []) ?_ (fun hk3 => ?_)
 ·rintro ρ3 τ3 gs3 ⟨s3, h, hl3, hρ, rfl⟩
  refine st_es hρ ?_
  refine st_if rfl h (fun h => ?_) (fun h => ?_)
  ·refine Z 4 rfl ?_
   obtain ⟨hf4, h⟩ := h
   refine o_sliceSl rfl rfl rfl Tryd.underlying9 rfl rfl (by decide) hf4 ?_
   refine Z 3 rfl ?_
   exact hn2 _ _ _ _ h ⟨(hl2.trans hl3), rfl, rfl⟩
  ·refine st_exit rfl ?_
   obtain rfl := he2 _ h
   replace h := hA2
   exact hk1 _ _ _ ⟨s2, h, (hl2.trans hl3), rfl, rfl⟩
 refine Z 4 rfl ?_
 refine o_mif rfl rfl rfl rfl h (fun h => ?_) (fun h => ?_)
 ·refine o_move rfl rfl rfl rfl ?_
  obtain ⟨q5, hf6, h⟩ := h
  refine o_indexS rfl rfl rfl Tryd.underlying9 rfl rfl hf6 ?_
  refine Z 4 rfl ?_
  exact hk3 _ _ _ ⟨(decide (q5 = a1)), h, (Sto.Le.refl _), rfl, rfl⟩
 ·refine Z 6 rfl ?_
  exact hk3 _ _ _ ⟨false, h, (Sto.Le.refl _), rfl, rfl⟩
theorem strings_makeASCIISet_ok {a0 : ByteArray} {r : List Bool × Bool} (h : strings_makeASCIISet a0 r) (σ : Sto)  :
    Does Tryd.prog 102 [.string a0] σ [] (fun v τ gs => gs = [] ∧ .tuple [.agg (cellsN Value.bool false 256 r.1).toArray, .bool r.2].toArray = v) := by
 refine call_of Tryd.func102 Tryd.ntmps102 rfl rfl (fun cs fs => ?_)
 refine Z 2 rfl ?_
 refine o_alloc rfl rfl rfl z_zero148 (fun b1 => ?_)
 refine Z 3 rfl ?_
 refine st_cut (fun ρ τ2 gs => ∃ (s2 : List Bool), strings_makeASCIISet_j1 s2 r ∧ σ.Le τ2 ∧ ESub ρ [(2, .pointer (some ⟨b1, 0, none⟩)), (3, .bool false)] ∧ gs = [[(b1, .cells (cellsN Value.bool false 256 s2).toArray 148 (0, 0))]]) ?_ (fun hk2 => ?_)
 ·rintro ρ2 τ2 gs2 ⟨s2, h, hl2, hρ, rfl⟩
  refine st_es hρ ?_
  refine Z 2 rfl ?_
  refine o_loadN (j := 0) (vs := (cellsN Value.bool false 256 s2)) rfl rfl rfl z_agg148 rfl rfl rfl ?_
  refine o_store (j := 0) (vs := (cellsN Value.bool false 256 s2)) (cs' := (cellsN Value.bool false 256 s2)) rfl rfl rfl z_size148 rfl rfl rfl ones_cellsNB rfl rfl rfl ?_
  refine st_gs [[(b1, .cells (cellsN Value.bool false 256 s2).toArray 148 (0, 0))]] rfl ?_
  refine Z 2 rfl ?_
  obtain rfl := Eq.symm h
  exact st_retC (gs' := []) [.agg (cellsN Value.bool false 256 s2).toArray, .bool true] Tryd.func102 ⟨⟨_, _, _, _, rfl, mem_flat 0 rfl, fun w hw => cellOfN (vs := (cellsN Value.bool false 256 s2)) z_agg148 rfl w hw⟩, rfl, trivial⟩ (by simp) hl2 ⟨rfl, rfl⟩
 refine Z 4 rfl ?_
 obtain ⟨e3, hL3, hA3⟩ := h
 refine st_loop hL3 (fun (s3 : Int × List Bool) ρ τ3 gs => σ.Le τ3 ∧ ESub ρ [(0, .string a0), (2, .pointer (some ⟨b1, 0, none⟩)), (3, .bool false), (4, .int .i64 s3.1)] ∧ gs = [[(b1, .cells (cellsN Value.bool false 256 s3.2).toArray 148 (0, 0))]]) ⟨Sto.Le.refl _, rfl, rfl⟩ ?_
 rintro s3 o3 h he3 ρ3 τ3 gs3 ⟨hl3, hρ, rfl⟩ hn3
 refine st_es hρ ?_
 refine Z 8 rfl ?_
 refine st_if rfl h (fun h => ?_) (fun h => ?_)
 ·refine Z 7 rfl ?_
  obtain ⟨q4, hf5, h⟩ := h
  refine o_indexS rfl rfl rfl Tryd.underlying9 rfl rfl hf5 ?_
  refine Z 8 rfl ?_
  refine st_if rfl h (fun h => ?_) (fun h => ?_)
  ·refine Z 2 rfl ?_
   refine o_loadN (j := 0) (vs := (cellsN Value.bool false 256 s3.2)) rfl rfl rfl z_agg148 rfl rfl rfl ?_
   refine o_store (j := 0) (vs := (cellsN Value.bool false 256 s3.2)) (cs' := (cellsN Value.bool false 256 s3.2)) rfl rfl rfl z_size148 rfl rfl rfl ones_cellsNB rfl rfl rfl ?_
   refine st_gs [[(b1, .cells (cellsN Value.bool false 256 s3.2).toArray 148 (0, 0))]] rfl ?_
   refine Z 2 rfl ?_
   obtain rfl := he3 _ h
   replace h := hA3
   obtain rfl := Eq.symm h
   exact st_retC (gs' := []) [.agg (cellsN Value.bool false 256 s3.2).toArray, .bool false] Tryd.func102 ⟨⟨_, _, _, _, rfl, mem_flat 0 rfl, fun w hw => cellOfN (vs := (cellsN Value.bool false 256 s3.2)) z_agg148 rfl w hw⟩, rfl, trivial⟩ (by simp) hl3 ⟨rfl, rfl⟩
  ·refine Z 3 rfl ?_
   obtain ⟨hf6, hf7, h⟩ := h
   refine o_indexA rfl rfl rfl z_arr148 rfl rfl hf6 hf7 ?_
   refine o_storeB (j := 0) (q := q4.toNat) (f := Value.bool) (zz := false) (a := true) (l := 256) (xs := s3.2) rfl rfl rfl z_size4 rfl rfl rfl rfl rfl (by omega) (by omega) ?_
   refine st_gs [[(b1, .cells (cellsN Value.bool false 256 (putN 256 false s3.2 q4.toNat true)).toArray 148 (0, 0))]] rfl ?_
   refine Z 7 rfl ?_
   exact hn3 _ _ _ _ h ⟨hl3, rfl, rfl⟩
 ·refine st_exit rfl ?_
  obtain rfl := he3 _ h
  replace h := hA3
  exact hk2 _ _ _ ⟨s3.2, h, hl3, rfl, rfl⟩
theorem strings_asciiSet_contains_ok {a0 : List Bool} {a1 : Int} {ba0 : Nat} {r : Bool} (h : strings_asciiSet_contains a0 a1 r) (σ : Sto)  :
    Does Tryd.prog 125 [.pointer (some ⟨ba0, 0, none⟩), .int .u8 a1] σ [[(ba0, .cells (cellsN Value.bool false 256 a0).toArray 148 (0, 0))]] (fun v τ gs => gs = [[(ba0, .cells (cellsN Value.bool false 256 a0).toArray 148 (0, 0))]] ∧ .bool r = v) := by
 refine call_of Tryd.func125 Tryd.ntmps125 rfl rfl (fun cs fs => ?_)
 refine Z 9 rfl ?_
 obtain ⟨hf1, hf2, h⟩ := h
 refine o_indexA rfl rfl rfl z_arr148 rfl rfl hf1 hf2 ?_
 refine o_loadB (j := 0) (q := a1.toNat) (f := Value.bool) (zz := false) (l := 256) (xs := a0) rfl rfl rfl z_sc4 rfl rfl (by omega) (by omega) ?_
 refine Z 2 rfl ?_
 obtain rfl := Eq.symm h
 exact st_ret (gs' := [[(ba0, .cells (cellsN Value.bool false 256 a0).toArray 148 (0, 0))]]) Tryd.func125 rfl (List.Sublist.refl _) (Sto.Le.refl _) ⟨rfl, rfl⟩
theorem strings_trimRightASCII_ok {a0 : ByteArray} {a1 : List Bool} {ba1 : Nat} {r : ByteArray} (h : strings_trimRightASCII a0 a1 r) (σ : Sto)  :
    Does Tryd.prog 104 [.string a0, .pointer (some ⟨ba1, 0, none⟩)] σ [[(ba1, .cells (cellsN Value.bool false 256 a1).toArray 148 (0, 0))]] (fun v τ gs => gs = [[(ba1, .cells (cellsN Value.bool false 256 a1).toArray 148 (0, 0))]] ∧ .string r = v) := by
 refine call_of Tryd.func104 Tryd.ntmps104 rfl rfl (fun cs fs => ?_)
 refine Z 2 rfl ?_
 refine o_assign rfl rfl rfl (ev_str z_str0) ?_
 refine Z 2 rfl ?_
 refine st_cut (fun ρ τ1 gs => ∃ (s1 : ByteArray), strings_trimRightASCII_j1 s1 r ∧ σ.Le τ1 ∧ ESub ρ [(0, .string s1), (4, .string (bstr []))] ∧ gs = [[(ba1, .cells (cellsN Value.bool false 256 a1).toArray 148 (0, 0))]]) ?_ (fun hk1 => ?_)
 ·rintro ρ1 τ1 gs1 ⟨s1, h, hl1, hρ, rfl⟩
  refine st_es hρ ?_
  refine Z 5 rfl ?_
  obtain rfl := Eq.symm h
  exact st_ret (gs' := [[(ba1, .cells (cellsN Value.bool false 256 a1).toArray 148 (0, 0))]]) Tryd.func104 rfl (List.Sublist.refl _) hl1 ⟨rfl, rfl⟩
 obtain ⟨e2, hL2, hA2⟩ := h
 refine st_loop hL2 (fun (s2 : ByteArray) ρ τ2 gs => σ.Le τ2 ∧ ESub ρ [(0, .string s2), (1, .pointer (some ⟨ba1, 0, none⟩)), (4, .string (bstr []))] ∧ gs = [[(ba1, .cells (cellsN Value.bool false 256 a1).toArray 148 (0, 0))]]) ⟨Sto.Le.refl _, rfl, rfl⟩ ?_
 rintro s2 o2 h he2 ρ2 τ2 gs2 ⟨hl2, hρ, rfl⟩ hn2
 refine st_es hρ ?_
 refine Z 7 rfl ?_
 refine st_if rfl h (fun h => ?_) (fun h => ?_)
 ·refine Z 10 rfl ?_
  obtain ⟨q3, hf4, h⟩ := h
  refine o_indexS rfl rfl rfl Tryd.underlying9 rfl rfl hf4 ?_
  obtain ⟨r5, hr6, h⟩ := h
  refine st_call (foot := [[(ba1, .cells (cellsN Value.bool false 256 a1).toArray 148 (0, 0))]]) rfl rfl rfl rfl rfl rfl (callV_fn z_en125 (strings_asciiSet_contains_ok hr6 τ2)) ?_
  rintro vτ7 τ7 gsτ7 hl8 ⟨rfl, rfl⟩
  refine Z 2 rfl ?_
  refine st_if rfl h (fun h => ?_) (fun h => ?_)
  ·refine st_exit rfl ?_
   obtain rfl := he2 _ h
   replace h := hA2
   exact hk1 _ _ _ ⟨s2, h, (hl2.trans hl8), rfl, rfl⟩
  ·refine Z 6 rfl ?_
   obtain ⟨hf9, hf10, h⟩ := h
   refine o_sliceSh rfl rfl rfl Tryd.underlying9 rfl rfl hf9 hf10 ?_
   refine Z 3 rfl ?_
   exact hn2 _ _ _ _ h ⟨(hl2.trans hl8), rfl, rfl⟩
 ·refine st_exit rfl ?_
  obtain rfl := he2 _ h
  replace h := hA2
  exact hk1 _ _ _ ⟨s2, h, hl2, rfl, rfl⟩
theorem strings_trimLeftASCII_ok {a0 : ByteArray} {a1 : List Bool} {ba1 : Nat} {r : ByteArray} (h : strings_trimLeftASCII a0 a1 r) (σ : Sto)  :
    Does Tryd.prog 103 [.string a0, .pointer (some ⟨ba1, 0, none⟩)] σ [[(ba1, .cells (cellsN Value.bool false 256 a1).toArray 148 (0, 0))]] (fun v τ gs => gs = [[(ba1, .cells (cellsN Value.bool false 256 a1).toArray 148 (0, 0))]] ∧ .string r = v) := by
 refine call_of Tryd.func103 Tryd.ntmps103 rfl rfl (fun cs fs => ?_)
 refine Z 2 rfl ?_
 refine o_assign rfl rfl rfl (ev_str z_str0) ?_
 refine Z 2 rfl ?_
 refine st_cut (fun ρ τ1 gs => ∃ (s1 : ByteArray), strings_trimLeftASCII_j1 s1 r ∧ σ.Le τ1 ∧ ESub ρ [(0, .string s1), (4, .string (bstr []))] ∧ gs = [[(ba1, .cells (cellsN Value.bool false 256 a1).toArray 148 (0, 0))]]) ?_ (fun hk1 => ?_)
 ·rintro ρ1 τ1 gs1 ⟨s1, h, hl1, hρ, rfl⟩
  refine st_es hρ ?_
  refine Z 5 rfl ?_
  obtain rfl := Eq.symm h
  exact st_ret (gs' := [[(ba1, .cells (cellsN Value.bool false 256 a1).toArray 148 (0, 0))]]) Tryd.func103 rfl (List.Sublist.refl _) hl1 ⟨rfl, rfl⟩
 obtain ⟨e2, hL2, hA2⟩ := h
 refine st_loop hL2 (fun (s2 : ByteArray) ρ τ2 gs => σ.Le τ2 ∧ ESub ρ [(0, .string s2), (1, .pointer (some ⟨ba1, 0, none⟩)), (4, .string (bstr []))] ∧ gs = [[(ba1, .cells (cellsN Value.bool false 256 a1).toArray 148 (0, 0))]]) ⟨Sto.Le.refl _, rfl, rfl⟩ ?_
 rintro s2 o2 h he2 ρ2 τ2 gs2 ⟨hl2, hρ, rfl⟩ hn2
 refine st_es hρ ?_
 refine Z 7 rfl ?_
 refine st_if rfl h (fun h => ?_) (fun h => ?_)
 ·refine Z 7 rfl ?_
  obtain ⟨q3, hf4, h⟩ := h
  refine o_indexS rfl rfl rfl Tryd.underlying9 rfl rfl hf4 ?_
  obtain ⟨r5, hr6, h⟩ := h
  refine st_call (foot := [[(ba1, .cells (cellsN Value.bool false 256 a1).toArray 148 (0, 0))]]) rfl rfl rfl rfl rfl rfl (callV_fn z_en125 (strings_asciiSet_contains_ok hr6 τ2)) ?_
  rintro vτ7 τ7 gsτ7 hl8 ⟨rfl, rfl⟩
  refine Z 2 rfl ?_
  refine st_if rfl h (fun h => ?_) (fun h => ?_)
  ·refine st_exit rfl ?_
   obtain rfl := he2 _ h
   replace h := hA2
   exact hk1 _ _ _ ⟨s2, h, (hl2.trans hl8), rfl, rfl⟩
  ·refine Z 3 rfl ?_
   obtain ⟨hf9, h⟩ := h
   refine o_sliceSl rfl rfl rfl Tryd.underlying9 rfl rfl (by decide) hf9 ?_
   refine Z 3 rfl ?_
   exact hn2 _ _ _ _ h ⟨(hl2.trans hl8), rfl, rfl⟩
 ·refine st_exit rfl ?_
  obtain rfl := he2 _ h
  replace h := hA2
  exact hk1 _ _ _ ⟨s2, h, hl2, rfl, rfl⟩
theorem unicode_utf8_RuneStart_ok {a0 : Int} {r : Bool} (h : unicode_utf8_RuneStart a0 r) (σ : Sto)  :
    Does Tryd.prog 147 [.int .u8 a0] σ [] (fun v τ gs => gs = [] ∧ .bool r = v) := by
 refine call_of Tryd.func147 Tryd.ntmps147 rfl rfl (fun cs fs => ?_)
 refine Z 11 rfl ?_
 obtain rfl := Eq.symm h
 exact st_ret (gs' := []) Tryd.func147 rfl (List.Sublist.refl _) (Sto.Le.refl _) ⟨rfl, rfl⟩
theorem unicode_utf8_DecodeLastRuneInString_ok {a0 : ByteArray} {r : Int × Int} (h : unicode_utf8_DecodeLastRuneInString a0 r) (σ : Sto)  :
    Does Tryd.prog 127 [.string a0] σ [] (fun v τ gs => gs = [] ∧ .tuple [.int .i32 r.1, .int .i64 r.2].toArray = v) := by
 refine call_of Tryd.func127 Tryd.ntmps127 rfl rfl (fun cs fs => ?_)
 refine Z 17 rfl ?_
 refine st_if rfl h (fun h => ?_) (fun h => ?_)
 ·refine Z 5 rfl ?_
  obtain rfl := Eq.symm h
  exact st_ret (gs' := []) Tryd.func127 rfl (List.Sublist.refl _) (Sto.Le.refl _) ⟨rfl, rfl⟩
 ·refine Z 11 rfl ?_
  obtain ⟨q1, hf2, h⟩ := h
  refine o_indexS rfl rfl rfl Tryd.underlying9 rfl rfl hf2 ?_
  refine Z 9 rfl ?_
  refine st_if rfl h (fun h => ?_) (fun h => ?_)
  ·refine Z 6 rfl ?_
   obtain rfl := Eq.symm h
   exact st_ret (gs' := []) Tryd.func127 rfl (List.Sublist.refl _) (Sto.Le.refl _) ⟨rfl, rfl⟩
  ·refine Z 9 rfl ?_
   refine st_cut (fun ρ τ3 gs => ∃ (s3 : Int), unicode_utf8_DecodeLastRuneInString_j1 a0 s3 r ∧ σ.Le τ3 ∧ ESub ρ [(0, .string a0), (2, .int .i32 (IntKind.i32.wrap q1)), (3, .int .i64 0), (4, .int .i64 (a0.size : Int)), (5, .int .i64 s3)] ∧ gs = []) ?_ (fun hk3 => ?_)
   ·rintro ρ3 τ3 gs3 ⟨s3, h, hl3, hρ, rfl⟩
    refine st_es hρ ?_
    refine st_seq ?_
    refine st_cut (fun ρ τ4 gs => ∃ (s4 : Int), unicode_utf8_DecodeLastRuneInString_j2 a0 s4 r ∧ τ3.Le τ4 ∧ ESub ρ [(0, .string a0), (2, .int .i32 (IntKind.i32.wrap q1)), (3, .int .i64 0), (4, .int .i64 (a0.size : Int)), (5, .int .i64 s4)] ∧ gs = []) ?_ (fun hk4 => ?_)
    ·rintro ρ4 τ4 gs4 ⟨s4, h, hl4, hρ, rfl⟩
     refine st_es hρ ?_
     refine Z 5 rfl ?_
     obtain ⟨hf5, hf6, hf7, h⟩ := h
     refine o_sliceS rfl rfl rfl Tryd.underlying9 rfl rfl rfl hf5 hf6 hf7 ?_
     obtain ⟨r8, hr9, h⟩ := h
     refine st_call (foot := []) rfl rfl rfl rfl rfl rfl (callV_fn z_en111 (unicode_utf8_DecodeRuneInString_ok hr9 τ4)) ?_
     rintro vτ10 τ10 gsτ10 hl11 ⟨rfl, rfl⟩
     refine Z 15 rfl ?_
     refine st_if rfl h (fun h => ?_) (fun h => ?_)
     ·refine Z 5 rfl ?_
      obtain rfl := Eq.symm h
      exact st_ret (gs' := []) Tryd.func127 rfl (List.Sublist.refl _) ((hl3.trans hl4).trans hl11) ⟨rfl, rfl⟩
     ·refine Z 8 rfl ?_
      obtain rfl := Eq.symm h
      exact st_ret (gs' := []) Tryd.func127 rfl (List.Sublist.refl _) ((hl3.trans hl4).trans hl11) ⟨rfl, rfl⟩
    refine Z 5 rfl ?_
    refine st_if rfl h (fun h => ?_) (fun h => ?_)
    ·refine Z 3 rfl ?_
     exact hk4 _ _ _ ⟨0, h, (Sto.Le.refl _), rfl, rfl⟩
    ·refine st_skip ?_
     exact hk4 _ _ _ ⟨s3, h, (Sto.Le.refl _), rfl, rfl⟩
   refine Z 6 rfl ?_
   obtain ⟨e12, hL12, hA12⟩ := h
   refine st_loop hL12 (fun (s12 : Int) ρ τ12 gs => σ.Le τ12 ∧ ESub ρ [(0, .string a0), (2, .int .i32 (IntKind.i32.wrap q1)), (3, .int .i64 0), (4, .int .i64 (a0.size : Int)), (5, .int .i64 s12), (6, .int .i64 (max (IntKind.i64.wrap ((a0.size : Int) - 4)) 0))] ∧ gs = []) ⟨Sto.Le.refl _, rfl, rfl⟩ ?_
   rintro s12 o12 h he12 ρ12 τ12 gs12 ⟨hl12, hρ, rfl⟩ hn12
   refine st_es hρ ?_
   refine Z 7 rfl ?_
   refine st_if rfl h (fun h => ?_) (fun h => ?_)
   ·refine Z 7 rfl ?_
    obtain ⟨q13, hf14, h⟩ := h
    refine o_indexS rfl rfl rfl Tryd.underlying9 rfl rfl hf14 ?_
    obtain ⟨r15, hr16, h⟩ := h
    refine st_call (foot := []) rfl rfl rfl rfl rfl rfl (callV_fn z_en147 (unicode_utf8_RuneStart_ok hr16 τ12)) ?_
    rintro vτ17 τ17 gsτ17 hl18 ⟨rfl, rfl⟩
    refine st_end ?_
    refine st_if rfl h (fun h => ?_) (fun h => ?_)
    ·refine st_exit rfl ?_
     obtain rfl := he12 _ h
     replace h := hA12
     exact hk3 _ _ _ ⟨s12, h, (hl12.trans hl18), rfl, rfl⟩
    ·refine Z 7 rfl ?_
     exact hn12 _ _ _ _ h ⟨(hl12.trans hl18), rfl, rfl⟩
   ·refine st_exit rfl ?_
    obtain rfl := he12 _ h
    replace h := hA12
    exact hk3 _ _ _ ⟨s12, h, hl12, rfl, rfl⟩
theorem unicode_utf8_ValidRune_ok {a0 : Int} {r : Bool} (h : unicode_utf8_ValidRune a0 r) (σ : Sto)  :
    Does Tryd.prog 161 [.int .i32 a0] σ [] (fun v τ gs => gs = [] ∧ .bool r = v) := by
 refine call_of Tryd.func161 Tryd.ntmps161 rfl rfl (fun cs fs => ?_)
 refine Z 7 rfl ?_
 refine st_cut (fun ρ τ1 gs => ∃ (s1 : Bool), unicode_utf8_ValidRune_j1 a0 s1 r ∧ σ.Le τ1 ∧ ESub ρ [(0, .int .i32 a0), (2, .bool false), (3, .bool s1)] ∧ gs = []) ?_ (fun hk1 => ?_)
 ·rintro ρ1 τ1 gs1 ⟨s1, h, hl1, hρ, rfl⟩
  refine st_es hρ ?_
  refine st_if rfl h (fun h => ?_) (fun h => ?_)
  ·refine Z 4 rfl ?_
   obtain rfl := Eq.symm h
   exact st_ret (gs' := []) Tryd.func161 rfl (List.Sublist.refl _) hl1 ⟨rfl, rfl⟩
  ·refine st_seq ?_
   refine st_cut (fun ρ τ2 gs => ∃ (s2 : Bool), unicode_utf8_ValidRune_j2 s2 r ∧ τ1.Le τ2 ∧ ESub ρ [(2, .bool false), (10, .bool s2)] ∧ gs = []) ?_ (fun hk2 => ?_)
   ·rintro ρ2 τ2 gs2 ⟨s2, h, hl2, hρ, rfl⟩
    refine st_es hρ ?_
    refine st_if rfl h (fun h => ?_) (fun h => ?_)
    ·refine Z 4 rfl ?_
     obtain rfl := Eq.symm h
     exact st_ret (gs' := []) Tryd.func161 rfl (List.Sublist.refl _) (hl1.trans hl2) ⟨rfl, rfl⟩
    ·refine Z 6 rfl ?_
     obtain rfl := Eq.symm h
     exact st_ret (gs' := []) Tryd.func161 rfl (List.Sublist.refl _) (hl1.trans hl2) ⟨rfl, rfl⟩
   refine Z 3 rfl ?_
   refine o_mif rfl rfl rfl rfl h (fun h => ?_) (fun h => ?_)
   ·refine Z 5 rfl ?_
    exact hk2 _ _ _ ⟨(decide (a0 ≤ 1114111)), h, (Sto.Le.refl _), rfl, rfl⟩
   ·refine Z 5 rfl ?_
    exact hk2 _ _ _ ⟨false, h, (Sto.Le.refl _), rfl, rfl⟩
 refine Z 3 rfl ?_
 refine o_mif rfl rfl rfl rfl h (fun h => ?_) (fun h => ?_)
 ·refine Z 5 rfl ?_
  exact hk1 _ _ _ ⟨(decide (a0 < 55296)), h, (Sto.Le.refl _), rfl, rfl⟩
 ·refine Z 5 rfl ?_
  exact hk1 _ _ _ ⟨false, h, (Sto.Le.refl _), rfl, rfl⟩
theorem strings_IndexRune_ok {a0 : ByteArray} {a1 : Int} {r : Int} (h : strings_IndexRune a0 a1 r) (σ : Sto)  :
    Does Tryd.prog 146 [.string a0, .int .i32 a1] σ [] (fun v τ gs => gs = [] ∧ .int .i64 r = v) := by
 refine call_of Tryd.func146 Tryd.ntmps146 rfl rfl (fun cs fs => ?_)
 refine Z 6 rfl ?_
 refine st_cut (fun ρ τ1 gs => ∃ (s1 : Bool), strings_IndexRune_j1 a0 a1 s1 r ∧ σ.Le τ1 ∧ ESub ρ [(0, .string a0), (1, .int .i32 a1), (4, .int .i64 0), (160, .bool s1)] ∧ gs = []) ?_ (fun hk1 => ?_)
 ·rintro ρ1 τ1 gs1 ⟨s1, h, hl1, hρ, rfl⟩
  refine st_es hρ ?_
  refine st_if rfl h (fun h => ?_) (fun h => ?_)
  ·refine Z 5 rfl ?_
   obtain ⟨r2, hr3, h⟩ := h
   refine st_call (foot := []) rfl rfl rfl rfl rfl rfl (callV_fn z_en73 (strings_IndexByte_ok hr3 τ1)) ?_
   rintro vτ4 τ4 gsτ4 hl5 ⟨rfl, rfl⟩
   refine Z 2 rfl ?_
   obtain rfl := Eq.symm h
   exact st_ret (gs' := []) Tryd.func146 rfl (List.Sublist.refl _) (hl1.trans hl5) ⟨rfl, rfl⟩
  ·refine Z 6 rfl ?_
   refine st_if rfl h (fun h => ?_) (fun h => ?_)
   ·refine Z 4 rfl ?_
    exact h.elim
   ·refine Z 3 rfl ?_
    obtain ⟨r6, hr7, h⟩ := h
    refine st_call (foot := []) rfl rfl rfl rfl rfl rfl (callV_fn z_en161 (unicode_utf8_ValidRune_ok hr7 τ1)) ?_
    rintro vτ8 τ8 gsτ8 hl9 ⟨rfl, rfl⟩
    refine Z 3 rfl ?_
    refine st_if rfl h (fun h => ?_) (fun h => ?_)
    ·refine Z 4 rfl ?_
     obtain rfl := Eq.symm h
     exact st_ret (gs' := []) Tryd.func146 rfl (List.Sublist.refl _) (hl1.trans hl9) ⟨rfl, rfl⟩
    ·refine Z 4 rfl ?_
     exact h.elim
 refine Z 3 rfl ?_
 refine o_mif rfl rfl rfl rfl h (fun h => ?_) (fun h => ?_)
 ·refine Z 5 rfl ?_
  exact hk1 _ _ _ ⟨(decide (a1 < 128)), h, (Sto.Le.refl _), rfl, rfl⟩
 ·refine Z 5 rfl ?_
  exact hk1 _ _ _ ⟨false, h, (Sto.Le.refl _), rfl, rfl⟩
theorem strings_ContainsRune_ok {a0 : ByteArray} {a1 : Int} {r : Bool} (h : strings_ContainsRune a0 a1 r) (σ : Sto)  :
    Does Tryd.prog 126 [.string a0, .int .i32 a1] σ [] (fun v τ gs => gs = [] ∧ .bool r = v) := by
 refine call_of Tryd.func126 Tryd.ntmps126 rfl rfl (fun cs fs => ?_)
 refine Z 8 rfl ?_
 obtain ⟨r1, hr2, h⟩ := h
 refine st_call (foot := []) rfl rfl rfl rfl rfl rfl (callV_fn z_en146 (strings_IndexRune_ok hr2 σ)) ?_
 rintro vτ3 τ3 gsτ3 hl4 ⟨rfl, rfl⟩
 refine Z 3 rfl ?_
 obtain rfl := Eq.symm h
 exact st_ret (gs' := []) Tryd.func126 rfl (List.Sublist.refl _) hl4 ⟨rfl, rfl⟩
theorem strings_trimRightUnicode_ok {a0 : ByteArray} {a1 : ByteArray} {r : ByteArray} (h : strings_trimRightUnicode a0 a1 r) (σ : Sto)  :
    Does Tryd.prog 106 [.string a0, .string a1] σ [] (fun v τ gs => gs = [] ∧ .string r = v) := by
 refine call_of Tryd.func106 Tryd.ntmps106 rfl rfl (fun cs fs => ?_)
 refine Z 2 rfl ?_
 refine o_assign rfl rfl rfl (ev_str z_str0) ?_
 refine Z 2 rfl ?_
 refine st_cut (fun ρ τ1 gs => ∃ (s1 : ByteArray), strings_trimRightUnicode_j1 s1 r ∧ σ.Le τ1 ∧ ESub ρ [(0, .string s1), (4, .string (bstr []))] ∧ gs = []) ?_ (fun hk1 => ?_)
 ·rintro ρ1 τ1 gs1 ⟨s1, h, hl1, hρ, rfl⟩
  refine st_es hρ ?_
  refine Z 5 rfl ?_
  obtain rfl := Eq.symm h
  exact st_ret (gs' := []) Tryd.func106 rfl (List.Sublist.refl _) hl1 ⟨rfl, rfl⟩
 obtain ⟨e2, hL2, hA2⟩ := h
 refine st_loop hL2 (fun (s2 : ByteArray) ρ τ2 gs => σ.Le τ2 ∧ ESub ρ [(0, .string s2), (1, .string a1), (4, .string (bstr []))] ∧ gs = []) ⟨Sto.Le.refl _, rfl, rfl⟩ ?_
 rintro s2 o2 h he2 ρ2 τ2 gs2 ⟨hl2, hρ, rfl⟩ hn2
 refine st_es hρ ?_
 refine Z 7 rfl ?_
 refine st_if rfl h (fun h => ?_) (fun h => ?_)
 ·refine Z 8 rfl ?_
  obtain ⟨q3, hf4, h⟩ := h
  refine o_indexS rfl rfl rfl Tryd.underlying9 rfl rfl hf4 ?_
  refine Z 5 rfl ?_
  refine st_cut (fun ρ τ5 gs => ∃ (s5 : Int × Int), strings_trimRightUnicode_j3 a1 s2 s5 o2 ∧ τ2.Le τ5 ∧ ESub ρ [(0, .string s2), (1, .string a1), (4, .string (bstr [])), (5, .int .i32 s5.1), (6, .int .i64 s5.2)] ∧ gs = []) ?_ (fun hk5 => ?_)
  ·rintro ρ5 τ5 gs5 ⟨s5, h, hl5, hρ, rfl⟩
   refine st_es hρ ?_
   refine Z 5 rfl ?_
   obtain ⟨r6, hr7, h⟩ := h
   refine st_call (foot := []) rfl rfl rfl rfl rfl rfl (callV_fn z_en126 (strings_ContainsRune_ok hr7 τ5)) ?_
   rintro vτ8 τ8 gsτ8 hl9 ⟨rfl, rfl⟩
   refine Z 2 rfl ?_
   refine st_if rfl h (fun h => ?_) (fun h => ?_)
   ·refine st_exit rfl ?_
    obtain rfl := he2 _ h
    replace h := hA2
    exact hk1 _ _ _ ⟨s2, h, ((hl2.trans hl5).trans hl9), rfl, rfl⟩
   ·refine Z 7 rfl ?_
    obtain ⟨hf10, hf11, h⟩ := h
    refine o_sliceSh rfl rfl rfl Tryd.underlying9 rfl rfl hf10 hf11 ?_
    refine Z 3 rfl ?_
    exact hn2 _ _ _ _ h ⟨((hl2.trans hl5).trans hl9), rfl, rfl⟩
  refine Z 5 rfl ?_
  refine st_if rfl h (fun h => ?_) (fun h => ?_)
  ·refine Z 2 rfl ?_
   obtain ⟨r12, hr13, h⟩ := h
   refine st_call (foot := []) rfl rfl rfl rfl rfl rfl (callV_fn z_en127 (unicode_utf8_DecodeLastRuneInString_ok hr13 τ2)) ?_
   rintro vτ14 τ14 gsτ14 hl15 ⟨rfl, rfl⟩
   refine Z 6 rfl ?_
   exact hk5 _ _ _ ⟨(r12.1, r12.2), h, hl15, rfl, rfl⟩
  ·refine st_skip ?_
   exact hk5 _ _ _ ⟨((IntKind.i32.wrap q3), 1), h, (Sto.Le.refl _), rfl, rfl⟩
 ·refine st_exit rfl ?_
  obtain rfl := he2 _ h
  replace h := hA2
  exact hk1 _ _ _ ⟨s2, h, hl2, rfl, rfl⟩
theorem strings_trimLeftUnicode_ok {a0 : ByteArray} {a1 : ByteArray} {r : ByteArray} (h : strings_trimLeftUnicode a0 a1 r) (σ : Sto)  :
    Does Tryd.prog 105 [.string a0, .string a1] σ [] (fun v τ gs => gs = [] ∧ .string r = v) := by
 refine call_of Tryd.func105 Tryd.ntmps105 rfl rfl (fun cs fs => ?_)
 refine Z 2 rfl ?_
 refine o_assign rfl rfl rfl (ev_str z_str0) ?_
 refine Z 2 rfl ?_
 refine st_cut (fun ρ τ1 gs => ∃ (s1 : ByteArray), strings_trimLeftUnicode_j1 s1 r ∧ σ.Le τ1 ∧ ESub ρ [(0, .string s1), (4, .string (bstr []))] ∧ gs = []) ?_ (fun hk1 => ?_)
 ·rintro ρ1 τ1 gs1 ⟨s1, h, hl1, hρ, rfl⟩
  refine st_es hρ ?_
  refine Z 5 rfl ?_
  obtain rfl := Eq.symm h
  exact st_ret (gs' := []) Tryd.func105 rfl (List.Sublist.refl _) hl1 ⟨rfl, rfl⟩
 obtain ⟨e2, hL2, hA2⟩ := h
 refine st_loop hL2 (fun (s2 : ByteArray) ρ τ2 gs => σ.Le τ2 ∧ ESub ρ [(0, .string s2), (1, .string a1), (4, .string (bstr []))] ∧ gs = []) ⟨Sto.Le.refl _, rfl, rfl⟩ ?_
 rintro s2 o2 h he2 ρ2 τ2 gs2 ⟨hl2, hρ, rfl⟩ hn2
 refine st_es hρ ?_
 refine Z 7 rfl ?_
 refine st_if rfl h (fun h => ?_) (fun h => ?_)
 ·refine Z 5 rfl ?_
  obtain ⟨r3, hr4, h⟩ := h
  refine st_call (foot := []) rfl rfl rfl rfl rfl rfl (callV_fn z_en111 (unicode_utf8_DecodeRuneInString_ok hr4 τ2)) ?_
  rintro vτ5 τ5 gsτ5 hl6 ⟨rfl, rfl⟩
  refine Z 11 rfl ?_
  obtain ⟨r7, hr8, h⟩ := h
  refine st_call (foot := []) rfl rfl rfl rfl rfl rfl (callV_fn z_en126 (strings_ContainsRune_ok hr8 τ5)) ?_
  rintro vτ9 τ9 gsτ9 hl10 ⟨rfl, rfl⟩
  refine Z 2 rfl ?_
  refine st_if rfl h (fun h => ?_) (fun h => ?_)
  ·refine st_exit rfl ?_
   obtain rfl := he2 _ h
   replace h := hA2
   exact hk1 _ _ _ ⟨s2, h, ((hl2.trans hl6).trans hl10), rfl, rfl⟩
  ·refine Z 4 rfl ?_
   obtain ⟨hf11, hf12, h⟩ := h
   refine o_sliceSl rfl rfl rfl Tryd.underlying9 rfl rfl hf11 hf12 ?_
   refine Z 3 rfl ?_
   exact hn2 _ _ _ _ h ⟨((hl2.trans hl6).trans hl10), rfl, rfl⟩
 ·refine st_exit rfl ?_
  obtain rfl := he2 _ h
  replace h := hA2
  exact hk1 _ _ _ ⟨s2, h, hl2, rfl, rfl⟩
theorem strings_Trim_ok {a0 : ByteArray} {a1 : ByteArray} {r : ByteArray} (h : strings_Trim a0 a1 r) (σ : Sto)  :
    Does Tryd.prog 83 [.string a0, .string a1] σ [] (fun v τ gs => gs = [] ∧ .string r = v) := by
 refine call_of Tryd.func83 Tryd.ntmps83 rfl rfl (fun cs fs => ?_)
 refine Z 2 rfl ?_
 refine o_assign rfl rfl rfl (ev_str z_str0) ?_
 refine Z 3 rfl ?_
 refine st_cut (fun ρ τ1 gs => ∃ (s1 : Bool), strings_Trim_j1 a0 a1 s1 r ∧ σ.Le τ1 ∧ ESub ρ [(0, .string a0), (1, .string a1), (4, .string (bstr [])), (12, .bool s1)] ∧ gs = []) ?_ (fun hk1 => ?_)
 ·rintro ρ1 τ1 gs1 ⟨s1, h, hl1, hρ, rfl⟩
  refine st_es hρ ?_
  refine st_if rfl h (fun h => ?_) (fun h => ?_)
  ·refine Z 5 rfl ?_
   obtain rfl := Eq.symm h
   exact st_ret (gs' := []) Tryd.func83 rfl (List.Sublist.refl _) hl1 ⟨rfl, rfl⟩
  ·refine Z 3 rfl ?_
   refine st_cut (fun ρ τ2 gs => ∃ (s2 : Bool), strings_Trim_j2 a0 a1 s2 r ∧ τ1.Le τ2 ∧ ESub ρ [(0, .string a0), (1, .string a1), (4, .string (bstr [])), (21, .bool s2)] ∧ gs = []) ?_ (fun hk2 => ?_)
   ·rintro ρ2 τ2 gs2 ⟨s2, h, hl2, hρ, rfl⟩
    refine st_es hρ ?_
    refine st_if rfl h (fun h => ?_) (fun h => ?_)
    ·refine st_seq ?_
     obtain ⟨q3, hf4, r5, hr6, q9, hf10, r11, hr12, h⟩ := h
     refine st_draw 7 (dl [.v (.string a0), .v (.string a1), .v (.int .u8 q3), .v (.string r5), .v (.string a1), .v (.int .u8 q9), .v (.string r11)]) (fun _ _ => []) z_mix rfl (dl_mono trivial) (allB_cons (allB_cons (allB_cons (allB_cons (allB_cons (allB_cons (allB_cons allB_nil (p1 dA)) (p1 dA)) ?_) ?_) (p1 dA)) ?_) ?_) ?_
     ·intro ρ' τ pool rs hl hd hout hk
      obtain ⟨_, e1, rfl⟩ := hd 1 rfl
      refine o_indexS rfl rfl rfl Tryd.underlying9 e1 rfl hf4 ?_
      exact st_addNil (hk _ _ (Sto.Le.refl _) rfl)
     ·intro ρ' τ pool rs hl hd hout hk
      obtain ⟨_, e0, rfl⟩ := hd 0 rfl
      obtain ⟨_, e2, rfl⟩ := hd 2 rfl
      refine st_call (foot := []) rfl rfl rfl rfl (evs_cons e0 (evs_cons e2 rfl)) rfl (callV_fn z_en101 (strings_trimRightByte_ok hr6 τ)) ?_
      rintro vτ7 τ7 gsτ7 hl8 ⟨rfl, rfl⟩
      exact st_addNil (hk _ _ hl8 rfl)
     ·intro ρ' τ pool rs hl hd hout hk
      obtain ⟨_, e4, rfl⟩ := hd 4 rfl
      refine o_indexS rfl rfl rfl Tryd.underlying9 e4 rfl hf10 ?_
      exact st_addNil (hk _ _ (Sto.Le.refl _) rfl)
     ·intro ρ' τ pool rs hl hd hout hk
      obtain ⟨_, e3, rfl⟩ := hd 3 rfl
      obtain ⟨_, e5, rfl⟩ := hd 5 rfl
      refine st_call (foot := []) rfl rfl rfl rfl (evs_cons e3 (evs_cons e5 rfl)) rfl (callV_fn z_en100 (strings_trimLeftByte_ok hr12 τ)) ?_
      rintro vτ13 τ13 gsτ13 hl14 ⟨rfl, rfl⟩
      exact st_addNil (hk _ _ hl14 rfl)
     intro ρ' τ15 vals hl15 hv hout
     refine st_ord [] _ rfl ?_
     refine st_env (ρ' := [(28, .string r11), (0, .string a0), (1, .string a1), (4, .string (bstr []))]) ⟨(lv1 hv 6 rfl rfl), (hout 0 rfl).trans rfl, (hout 1 rfl).trans rfl, (hout 4 rfl).trans rfl, trivial⟩ ?_
     refine Z 2 rfl ?_
     obtain rfl := Eq.symm h
     exact st_ret (gs' := []) Tryd.func83 rfl (List.Sublist.refl _) ((hl1.trans hl2).trans hl15) ⟨rfl, rfl⟩
    ·refine Z 5 rfl ?_
     obtain ⟨r16, hr17, h⟩ := h
     refine st_call (foot := []) rfl rfl rfl rfl rfl rfl (callV_fn z_en102 (strings_makeASCIISet_ok hr17 τ2)) ?_
     rintro vτ18 τ18 gsτ18 hl19 ⟨rfl, rfl⟩
     refine Z 3 rfl ?_
     refine o_alloc rfl rfl rfl z_zero148 (fun b20 => ?_)
     refine o_store (j := 0) (vs := (cellsN Value.bool false 256 r16.1)) (cs' := (cellsN Value.bool false 256 r16.1)) rfl rfl rfl z_size148 rfl rfl rfl ones_cellsNB rfl rfl rfl ?_
     refine st_gs [[(b20, .cells (cellsN Value.bool false 256 r16.1).toArray 148 (0, 0))]] rfl ?_
     refine Z 6 rfl ?_
     refine st_if rfl h (fun h => ?_) (fun h => ?_)
     ·refine Z 3 rfl ?_
      obtain ⟨r21, hr22, h⟩ := h
      refine st_call (foot := [[(b20, .cells (cellsN Value.bool false 256 r16.1).toArray 148 (0, 0))]]) rfl rfl rfl rfl rfl rfl (callV_fn z_en104 (strings_trimRightASCII_ok hr22 τ18)) ?_
      rintro vτ23 τ23 gsτ23 hl24 ⟨rfl, rfl⟩
      obtain ⟨r25, hr26, h⟩ := h
      refine st_call (foot := [[(b20, .cells (cellsN Value.bool false 256 r16.1).toArray 148 (0, 0))]]) rfl rfl rfl rfl rfl rfl (callV_fn z_en103 (strings_trimLeftASCII_ok hr26 τ23)) ?_
      rintro vτ27 τ27 gsτ27 hl28 ⟨rfl, rfl⟩
      refine Z 2 rfl ?_
      refine st_ord [] _ rfl ?_
      obtain rfl := Eq.symm h
      exact st_ret (gs' := []) Tryd.func83 rfl (List.Sublist.refl _) ((((hl1.trans hl2).trans hl19).trans hl24).trans hl28) ⟨rfl, rfl⟩
     ·refine Z 5 rfl ?_
      obtain ⟨r29, hr30, h⟩ := h
      refine st_call (foot := []) rfl rfl rfl rfl rfl rfl (callV_fn z_en106 (strings_trimRightUnicode_ok hr30 τ18)) ?_
      rintro vτ31 τ31 gsτ31 hl32 ⟨rfl, rfl⟩
      refine o_move rfl rfl rfl rfl ?_
      obtain ⟨r33, hr34, h⟩ := h
      refine st_call (foot := []) rfl rfl rfl rfl rfl rfl (callV_fn z_en105 (strings_trimLeftUnicode_ok hr34 τ31)) ?_
      rintro vτ35 τ35 gsτ35 hl36 ⟨rfl, rfl⟩
      refine Z 2 rfl ?_
      refine st_ord [] _ rfl ?_
      obtain rfl := Eq.symm h
      exact st_ret (gs' := []) Tryd.func83 rfl (List.Sublist.refl _) ((((hl1.trans hl2).trans hl19).trans hl32).trans hl36) ⟨rfl, rfl⟩
   refine Z 4 rfl ?_
   refine o_mif rfl rfl rfl rfl h (fun h => ?_) (fun h => ?_)
   ·refine o_move rfl rfl rfl rfl ?_
    obtain ⟨q37, hf38, h⟩ := h
    refine o_indexS rfl rfl rfl Tryd.underlying9 rfl rfl hf38 ?_
    refine Z 3 rfl ?_
    exact hk2 _ _ _ ⟨(decide (q37 < 128)), h, (Sto.Le.refl _), rfl, rfl⟩
   ·refine Z 5 rfl ?_
    exact hk2 _ _ _ ⟨false, h, (Sto.Le.refl _), rfl, rfl⟩
 refine Z 2 rfl ?_
 refine o_sbin (v := .bool (decide (a0 = (bstr [])))) rfl rfl rfl rfl (ev_str z_str0) rfl ?_
 refine o_mif rfl rfl rfl rfl h (fun h => ?_) (fun h => ?_)
 ·refine Z 4 rfl ?_
  exact hk1 _ _ _ ⟨true, h, (Sto.Le.refl _), rfl, rfl⟩
 ·refine o_move rfl rfl rfl rfl ?_
  refine o_sbin (v := .bool (decide (a1 = (bstr [])))) rfl rfl rfl rfl (ev_str z_str0) rfl ?_
  refine Z 2 rfl ?_
  exact hk1 _ _ _ ⟨(decide (a1 = (bstr []))), h, (Sto.Le.refl _), rfl, rfl⟩
theorem say_Read_ok {a0 : ByteArray} {r : Int × Int} (h : say_Read a0 r) (σ : Sto) (hE : Errs Tryd.prog σ) :
    Does Tryd.prog 59 [.string a0] σ [] (fun v τ gs => gs = [] ∧ .tuple [.int .i64 r.1, .int .i64 r.2].toArray = v) := by
 refine call_of Tryd.func59 Tryd.ntmps59 rfl rfl (fun cs fs => ?_)
 refine Z 8 rfl ?_
 obtain ⟨r1, hr2, h⟩ := h
 refine st_call (foot := []) rfl rfl rfl rfl rfl rfl (callV_fn z_en81 (strconv_ParseInt_ok hr2 σ hE)) ?_
 rintro vτ3 τ3 gsτ3 hl4 ⟨v5, rfl, rfl, hi6⟩
 refine Z 9 rfl ?_
 obtain ⟨r7, hr8, h⟩ := h
 refine st_call (foot := []) rfl rfl rfl rfl (evs_cons rfl (evs_cons (ev_str z_str4) rfl)) rfl (callV_fn z_en82 (strings_TrimPrefix_ok hr8 τ3)) ?_
 rintro vτ9 τ9 gsτ9 hl10 ⟨rfl, rfl⟩
 refine Z 5 rfl ?_
 refine st_cut (fun ρ τ11 gs => ∃ (s11 : Bool), say_Read_j1 r1 s11 r ∧ τ9.Le τ11 ∧ ESub ρ [(2, .int .i64 0), (3, .int .i64 0), (4, .int .i64 r1.1), (5, v5), (14, .bool s11)] ∧ gs = []) ?_ (fun hk11 => ?_)
 ·rintro ρ11 τ11 gs11 ⟨s11, h, hl11, hρ, rfl⟩
  refine st_es hρ ?_
  refine st_if rfl h (fun h => ?_) (fun h => ?_)
  ·refine Z 5 rfl ?_
   obtain rfl := Eq.symm h
   exact st_ret (gs' := []) Tryd.func59 rfl (List.Sublist.refl _) ((hl4.trans hl10).trans hl11) ⟨rfl, rfl⟩
  ·refine Z 3 rfl ?_
   refine o_ifNil rfl rfl rfl Tryd.underlying85 rfl (hi6.up (hl10.trans hl11)) rfl ?_
   refine Z 2 rfl ?_
   refine st_if rfl h (fun h => ?_) (fun h => ?_)
   ·refine Z 5 rfl ?_
    obtain rfl := Eq.symm h
    exact st_ret (gs' := []) Tryd.func59 rfl (List.Sublist.refl _) ((hl4.trans hl10).trans hl11) ⟨rfl, rfl⟩
   ·refine Z 8 rfl ?_
    obtain rfl := Eq.symm h
    exact st_ret (gs' := []) Tryd.func59 rfl (List.Sublist.refl _) ((hl4.trans hl10).trans hl11) ⟨rfl, rfl⟩
 refine Z 2 rfl ?_
 refine o_sbin (v := .bool (decide (r7 = (bstr [])))) rfl rfl rfl rfl (ev_str z_str0) rfl ?_
 refine o_mif rfl rfl rfl rfl h (fun h => ?_) (fun h => ?_)
 ·refine Z 15 rfl ?_
  exact hk11 _ _ _ ⟨true, h, (Sto.Le.refl _), rfl, rfl⟩
 ·refine o_move rfl rfl rfl rfl ?_
  obtain ⟨r12, hr13, h⟩ := h
  refine st_call (foot := []) rfl rfl rfl rfl (evs_cons rfl (evs_cons (ev_str z_str27) rfl)) rfl (callV_fn z_en83 (strings_Trim_ok hr13 τ9)) ?_
  rintro vτ14 τ14 gsτ14 hl15 ⟨rfl, rfl⟩
  refine o_sbin (v := .bool (!(decide (r12 = (bstr []))))) rfl rfl rfl rfl (ev_str z_str0) rfl ?_
  refine o_pick rfl rfl rfl rfl rfl ?_
  refine o_mif rfl rfl rfl rfl h (fun h => ?_) (fun h => ?_)
  ·refine Z 10 rfl ?_
   exact hk11 _ _ _ ⟨true, h, hl15, rfl, rfl⟩
  ·refine o_move rfl rfl rfl rfl ?_
   obtain ⟨q16, hf17, h⟩ := h
   refine o_indexS rfl rfl rfl Tryd.underlying9 rfl rfl hf17 ?_
   refine o_ibin (v := .bool (decide (q16 = 48))) rfl rfl rfl rfl rfl rfl ?_
   refine o_mif rfl rfl rfl rfl h (fun h => ?_) (fun h => ?_)
   ·refine o_move rfl rfl rfl rfl ?_
    refine o_sbin (v := .bool (!(decide (a0 = (bstr [48]))))) rfl rfl rfl rfl (ev_str z_str28) rfl ?_
    refine Z 4 rfl ?_
    exact hk11 _ _ _ ⟨(!(decide (a0 = (bstr [48])))), h, hl15, rfl, rfl⟩
   ·refine Z 6 rfl ?_
    exact hk11 _ _ _ ⟨false, h, hl15, rfl, rfl⟩
theorem law26_Rows_ok {a0 : List (List Int)} {v1 : Value} {r : List (List Int)} (h : law26_Rows a0 r) (σ : Sto) (hs2 : Sl (kSl (kI .u8)) σ v1 a0) :
    Does Tryd.prog 20 [v1] σ [] (fun v τ gs => ∃ (v55 : Value), gs = [] ∧ v55 = v ∧ Sl (kSl (kI .u8)) τ v55 r) := by
 refine call_of Tryd.func20 Tryd.ntmps20 rfl rfl (fun cs fs => ?_)
 refine Z 9 rfl ?_
 refine st_cut (fun ρ τ3 gs => ∃ (s3 : List (List Int)) (v4 : Value) (g5 : Grp), law26_Rows_j1 s3 r ∧ σ.Le τ3 ∧ ESub ρ [(2, .slice none 0 0), (3, v4)] ∧ gs = [g5] ∧ Ow (kSl (kI .u8)) 22 τ3 v4 s3 g5) ?_ (fun hk3 => ?_)
 ·rintro ρ3 τ3 gs3 ⟨s3, v4, g5, h, hl3, hρ, rfl, ho6⟩
  refine st_es hρ ?_
  refine Z 5 rfl ?_
  refine st_freeze (fun τ7 hl8 hg9 => ?_)
  have hs10 := ho6.freeze hl8 hg9
  obtain rfl := Eq.symm h
  exact st_ret (gs' := []) Tryd.func20 rfl (List.Sublist.refl _) (hl3.trans hl8) ⟨_, rfl, rfl, hs10⟩
 refine Z 4 rfl ?_
 obtain ⟨e13, hL13, hA13⟩ := h
 refine st_addNil ?_
 refine st_loop hL13 (fun (s13 : List (List Int) × Int) ρ τ13 gs => σ.Le τ13 ∧ ∃ (v14 : Value) (g15 : Grp), ESub ρ [(0, v1), (2, .slice none 0 0), (3, v14), (4, .int .i64 s13.2)] ∧ gs = [g15] ∧ Ow (kSl (kI .u8)) 22 τ13 v14 s13.1 g15) ⟨Sto.Le.refl _, _, _, rfl, rfl, Ow.nil⟩ ?_
 rintro s13 o13 h he13 ρ13 τ13 gs13 ⟨hl13, v14, g15, hρ, rfl, ho16⟩ hn13
 refine st_es hρ ?_
 refine Z 2 rfl ?_
 refine st_cut (fun ρ τ17 gs => ∃ (s17 : Bool), law26_Rows_j3 a0 s13 s17 o13 ∧ τ13.Le τ17 ∧ ESub ρ [(0, v1), (2, .slice none 0 0), (3, v14), (4, .int .i64 s13.2), (12, .bool s17)] ∧ gs = [g15]) ?_ (fun hk17 => ?_)
 ·rintro ρ17 τ17 gs17 ⟨s17, h, hl17, hρ, rfl⟩
  refine st_es hρ ?_
  refine st_if rfl h (fun h => ?_) (fun h => ?_)
  ·refine Z 3 rfl ?_
   obtain ⟨q18, hf19, q26, hf27, hf34, hf35, hf48, hf49, h⟩ := h
   refine st_d41 [] [g15] 14 1 [none, none, none, none, none, none, none, none, none, none, none, none, none, some (0, 0)] [none, none, none, none, none, none, none, none, none, none, none, none, none, none] [[none, some 28]] [.v (v14), .v (v1), .v (.int .i64 s13.2), .t fun τ v => ∃ (b20 : Nat) (of21 : Nat) (vsb20 : List Value), (.pointer (some ⟨b20, of21, none⟩) : Value) = v ∧ CelN τ ⟨b20, of21, none⟩ vsb20 ∧ (kSl (kI .u8)).rep τ vsb20 q18, .t fun τ v => ∃ (v22 : Value), (v22 : Value) = v ∧ Sl (kI .u8) τ v22 q18, .v (v1), .v (.int .i64 s13.2), .t fun τ v => ∃ (b28 : Nat) (of29 : Nat) (vsb28 : List Value), (.pointer (some ⟨b28, of29, none⟩) : Value) = v ∧ CelN τ ⟨b28, of29, none⟩ vsb28 ∧ (kSl (kI .u8)).rep τ vsb28 q26, .t fun τ v => ∃ (v30 : Value), (v30 : Value) = v ∧ Sl (kI .u8) τ v30 q26, .v (.int .i64 (q26.length : Int)), .v (.int .i64 (min (q26.length : Int) 300)), .t fun τ v => ∃ (v36 : Value), (v36 : Value) = v ∧ Sl (kI .u8) τ v36 ((q18.drop (0 : Int).toNat).take (((min (q26.length : Int) 300) : Int) - 0).toNat), .t fun τ v => ∃ (v38 : Value), (v38 : Value) = v ∧ Sl (kSl (kI .u8)) τ v38 [((q18.drop (0 : Int).toNat).take (((min (q26.length : Int) 300) : Int) - 0).toNat)], .t fun _ _ => True] [[fun τ u F => F = [g15], fun τ u F => ∃ (v50 : Value) (g51 : Grp), F = [g51] ∧ v50 = u ∧ Ow (kSl (kI .u8)) 22 τ v50 (s13.1 ++ [((q18.drop (0 : Int).toNat).take (((min (q26.length : Int) 300) : Int) - 0).toNat)]) g51]] rfl z_mix rfl ⟨fun _ _ _ hl ⟨b20, of21, vsb20, hv, hc23, hrepb20⟩ => ⟨b20, of21, vsb20, hv, hc23.up hl, Kd.mono _ hl hrepb20⟩, ⟨fun _ _ _ hl ⟨v22, hv, hs25⟩ => ⟨v22, hv, hs25.up hl⟩, ⟨fun _ _ _ hl ⟨b28, of29, vsb28, hv, hc31, hrepb28⟩ => ⟨b28, of29, vsb28, hv, hc31.up hl, Kd.mono _ hl hrepb28⟩, ⟨fun _ _ _ hl ⟨v30, hv, hs33⟩ => ⟨v30, hv, hs33.up hl⟩, ⟨fun _ _ _ hl ⟨v36, hv, hs37⟩ => ⟨v36, hv, hs37.up hl⟩, ⟨fun _ _ _ hl ⟨v38, hv, hs44⟩ => ⟨v38, hv, hs44.up hl⟩, ⟨fun _ _ _ _ _ => trivial, trivial⟩⟩⟩⟩⟩⟩⟩ ⟨⟨fun _ _ _ _ hl h => h, ⟨fun _ _ _ _ hl h => (let ⟨v50, g51, hF, hU, ho52⟩ := h; ⟨v50, g51, hF, hU, ho52.up hl⟩), trivial⟩⟩, trivial⟩ rfl rfl ?_ (allB_cons (allB_cons (allB_cons (allB_cons (allB_cons (allB_cons (allB_cons (allB_cons (allB_cons (allB_cons (allB_cons (allB_cons (allB_cons (allB_cons allB_nil (p4 dA)) (p4 dA)) (p4 dA)) ?_) ?_) (p4 dA)) (p4 dA)) ?_) ?_) ?_) (p4 dA)) ?_) ?_) ?_) ?_
   ·exact rfl
   ·intro ρ' τ pool rs hl hd hout hw hk
    obtain ⟨_, e1, rfl⟩ := hd 1 rfl _ rfl
    obtain ⟨_, e2, rfl⟩ := hd 2 rfl _ rfl
    refine o_index rfl rfl rfl z_slT48 rfl e1 (hs2.up ((hl13.trans hl17).trans hl)) e2 hf19 (fun b20 of21 vsb20 hc23 hrepb20 => ?_)
    exact hk _ _ (Sto.Le.refl _) ⟨b20, of21, _, rfl, hc23, hrepb20⟩
   ·intro ρ' τ pool rs hl hd hout hw hk
    obtain ⟨_, e3, b20, of21, vsb20, rfl, hc23, hrepb20⟩ := hd 3 rfl _ rfl
    have hrepb20 := hrepb20
    obtain ⟨v22, rfl, hs25⟩ := hrepb20
    refine o_loadI (v := v22) rfl rfl rfl z_sc22 e3 (hc23 0 _ rfl) ?_
    exact hk _ _ (Sto.Le.refl _) ⟨v22, rfl, hs25⟩
   ·intro ρ' τ pool rs hl hd hout hw hk
    obtain ⟨_, e5, rfl⟩ := hd 5 rfl _ rfl
    obtain ⟨_, e6, rfl⟩ := hd 6 rfl _ rfl
    refine o_index rfl rfl rfl z_slT48 rfl e5 (hs2.up ((hl13.trans hl17).trans hl)) e6 hf27 (fun b28 of29 vsb28 hc31 hrepb28 => ?_)
    exact hk _ _ (Sto.Le.refl _) ⟨b28, of29, _, rfl, hc31, hrepb28⟩
   ·intro ρ' τ pool rs hl hd hout hw hk
    obtain ⟨_, e7, b28, of29, vsb28, rfl, hc31, hrepb28⟩ := hd 7 rfl _ rfl
    have hrepb28 := hrepb28
    obtain ⟨v30, rfl, hs33⟩ := hrepb28
    refine o_loadI (v := v30) rfl rfl rfl z_sc22 e7 (hc31 0 _ rfl) ?_
    exact hk _ _ (Sto.Le.refl _) ⟨v30, rfl, hs33⟩
   ·intro ρ' τ pool rs hl hd hout hw hk
    obtain ⟨_, e8, v30, rfl, hs33⟩ := hd 8 rfl _ rfl
    refine o_lenI rfl rfl rfl z_slT22 e8 hs33 ?_
    exact hk _ _ (Sto.Le.refl _) rfl
   ·intro ρ' τ pool rs hl hd hout hw hk
    obtain ⟨_, e4, v22, rfl, hs25⟩ := hd 4 rfl _ rfl
    obtain ⟨_, e10, rfl⟩ := hd 10 rfl _ rfl
    refine o_slice (L := 0) (H := (min (q26.length : Int) 300)) rfl rfl rfl z_slT22 rfl e4 hs25 rfl ⟨_, e10⟩ (by decide) hf34 hf35 trivial (by simp) (fun v36 hs37 => ?_)
    exact hk _ _ (Sto.Le.refl _) ⟨v36, rfl, hs37⟩
   ·intro ρ' τ pool rs hl hd hout hw hk
    obtain ⟨_, e11, v36, rfl, hs37⟩ := hd 11 rfl _ rfl
    refine o_lit (dk := (kSl (kI .u8))) (xs := [((q18.drop (0 : Int).toNat).take (((min (q26.length : Int) 300) : Int) - 0).toNat)]) (ps := [(0, [v36])]) (cs := [v36]) rfl rfl rfl z_slT48 z_zero22 ⟨rfl, ⟨_, e11, (oneL_sl hs37)⟩, trivial⟩ rfl rfl rfl rfl (Kd.Many.cons (d := (kSl (kI .u8))) (x := ((q18.drop (0 : Int).toNat).take (((min (q26.length : Int) 300) : Int) - 0).toNat)) (a := [v36]) ⟨_, rfl, hs37⟩ Kd.Many.nil) (fun v38 g39 ho40 => ?_)
    refine st_freeze (fun τ41 hl42 hg43 => ?_)
    have hs44 := ho40.freeze hl42 hg43
    exact hk _ _ hl42 ⟨v38, rfl, hs44⟩
   ·intro ρ' τ u Fv pool rs hl hI hu hd hout hw hk
    obtain ⟨_, e0, rfl⟩ := hd 0 rfl _ rfl
    obtain ⟨_, e12, v38, rfl, hs44⟩ := hd 12 rfl _ rfl
    have hI0 := hI
    obtain rfl := hI
    refine st_gs [g15, pool] rfl ?_
    refine o_append (dk := (kSl (kI .u8))) (xs := s13.1) (ys := [((q18.drop (0 : Int).toNat).take (((min (q26.length : Int) 300) : Int) - 0).toNat)]) rfl rfl rfl rfl z_slT48 e0 (ho16.up (hl17.trans hl)) e12 (Sl.src hs44) hf48 hf49 (fun v45 g46 ho47 => ?_)
    exact hk _ _ [g46] (Sto.Le.refl _) trivial (by exact ⟨v45, g46, rfl, rfl, ho47⟩)
   intro ρ' τ53 vals u Fv hl53 hI hu hv hout
   obtain ⟨v50, g51, rfl, rfl, ho52⟩ := hI
   refine st_gs [g51] rfl ?_
   refine st_env (ρ' := [(0, v1), (2, .slice none 0 0), (4, .int .i64 s13.2), (28, v50)]) ⟨(hout 0 rfl).trans rfl, (hout 2 rfl).trans rfl, (hout 4 rfl).trans rfl, (by exact hu _ rfl), trivial⟩ ?_
   refine Z 8 rfl ?_
   exact hn13 _ _ _ _ h ⟨((hl13.trans hl17).trans hl53), _, _, rfl, rfl, ho52⟩
  ·refine st_exit rfl ?_
   obtain rfl := he13 _ h
   replace h := hA13
   exact hk3 _ _ _ ⟨s13.1, _, _, h, (hl13.trans hl17), rfl, rfl, (ho16.up hl17)⟩
 refine Z 3 rfl ?_
 refine o_lenI rfl rfl rfl z_slT48 rfl (hs2.up hl13) ?_
 refine o_ibin (v := .bool (decide (s13.2 < (a0.length : Int)))) rfl rfl rfl rfl rfl rfl ?_
 refine o_mif rfl rfl rfl rfl h (fun h => ?_) (fun h => ?_)
 ·refine Z 4 rfl ?_
  exact hk17 _ _ _ ⟨(decide (s13.2 < 20)), h, (Sto.Le.refl _), rfl, rfl⟩
 ·refine Z 4 rfl ?_
  exact hk17 _ _ _ ⟨false, h, (Sto.Le.refl _), rfl, rfl⟩
theorem law26_Cut_ok {a0 : Int × Int × Int × Int × List Int} {v1 : Value} {r : (Int × Int × Int × Int × List Int)} (h : law26_Cut a0 r) (σ : Sto) (hs2 : Sl (kI .u8) σ v1 a0.2.2.2.2) :
    Does Tryd.prog 21 [.agg [.int .i64 a0.1, .int .i64 a0.2.1, .int .i64 a0.2.2.1, .int .i64 a0.2.2.2.1, v1].toArray] σ [] (fun v τ gs => ∃ (v9 : Value), gs = [] ∧ .agg [.int .i64 r.1, .int .i64 r.2.1, .int .i64 r.2.2.1, .int .i64 r.2.2.2.1, v9].toArray = v ∧ Sl (kI .u8) τ v9 r.2.2.2.2) := by
 refine call_of Tryd.func21 Tryd.ntmps21 rfl rfl (fun cs fs => ?_)
 refine Z 2 rfl ?_
 refine o_box (cs := [.int .i64 a0.1, .int .i64 a0.2.1, .int .i64 a0.2.2.1, .int .i64 a0.2.2.2.1, v1]) rfl rfl rfl rfl rfl (fun b3 => ?_)
 refine o_alloc rfl rfl rfl z_zero52 (fun b4 => ?_)
 refine ZZ 7 [1, 1] rfl rfl ?_
 refine o_lenI rfl rfl rfl z_slT22 rfl hs2 ?_
 refine o_min2 rfl rfl rfl rfl rfl ?_
 obtain ⟨hf5, hf6, h⟩ := h
 refine o_slice (L := 0) (H := (min (a0.2.2.2.2.length : Int) 300)) rfl rfl rfl z_slT22 rfl rfl hs2 rfl ⟨_, rfl⟩ (by decide) hf5 hf6 trivial (by simp) (fun v7 hs8 => ?_)
 refine o_fieldAddr rfl rfl rfl z_field52_4 rfl ?_
 refine o_store (j := 1) (vs := [v7]) (cs' := [.int .i64 a0.1, .int .i64 a0.2.1, .int .i64 a0.2.2.1, .int .i64 a0.2.2.2.1, v7]) rfl rfl rfl z_size22 rfl rfl (oneL_sl hs8) (ones_cons hs8.one' ones_nil) rfl rfl rfl ?_
 refine st_gs [[(b4, .cells #[.int .i64 0, .int .i64 0, .int .i64 0, .int .i64 0, .slice none 0 0] 52 (0, 0))], [(b3, .cells #[.int .i64 a0.1, .int .i64 a0.2.1, .int .i64 a0.2.2.1, .int .i64 a0.2.2.2.1, v7] 52 (0, 0))]] rfl ?_
 refine ZZ 4 [1] rfl rfl ?_
 refine o_store (j := 0) (vs := [.int .i64 a0.1, .int .i64 a0.2.1, .int .i64 a0.2.2.1, .int .i64 a0.2.2.2.1, v7]) (cs' := [.int .i64 a0.1, .int .i64 a0.2.1, .int .i64 a0.2.2.1, .int .i64 a0.2.2.2.1, v7]) rfl rfl rfl z_size52 rfl rfl rfl (ones_cons rfl (ones_cons rfl (ones_cons rfl (ones_cons rfl (ones_cons hs8.one' ones_nil))))) rfl rfl rfl ?_
 refine st_gs [[(b4, .cells #[.int .i64 a0.1, .int .i64 a0.2.1, .int .i64 a0.2.2.1, .int .i64 a0.2.2.2.1, v7] 52 (0, 0))], [(b3, .cells #[.int .i64 a0.1, .int .i64 a0.2.1, .int .i64 a0.2.2.1, .int .i64 a0.2.2.2.1, v7] 52 (0, 0))]] rfl ?_
 refine st_end ?_
 obtain rfl := Eq.symm h
 exact st_retC (gs' := []) [.agg #[.int .i64 a0.1, .int .i64 a0.2.1, .int .i64 a0.2.2.1, .int .i64 a0.2.2.2.1, v7]] Tryd.func21 ⟨⟨_, _, _, _, rfl, mem_flat 0 rfl, fun w hw => cellOfN (vs := [.int .i64 a0.1, .int .i64 a0.2.1, .int .i64 a0.2.2.1, .int .i64 a0.2.2.2.1, v7]) z_agg52 rfl w hw⟩, trivial⟩ (by simp) (Sto.Le.refl _) ⟨_, rfl, rfl, hs8⟩
theorem law26_Of_ok {a0 : Int × Int × Int × Int × List Int} {v1 : Value} {r : (Int × Int × Int × Int × List Int)} (h : law26_Of a0 r) (σ : Sto) (hs2 : Sl (kI .u8) σ v1 a0.2.2.2.2) :
    Does Tryd.prog 23 [.agg [.int .i64 a0.1, .int .i64 a0.2.1, .int .i64 a0.2.2.1, .int .i64 a0.2.2.2.1, v1].toArray] σ [] (fun v τ gs => ∃ (v5 : Value), gs = [] ∧ .agg [.int .i64 r.1, .int .i64 r.2.1, .int .i64 r.2.2.1, .int .i64 r.2.2.2.1, v5].toArray = v ∧ Sl (kI .u8) τ v5 r.2.2.2.2) := by
 refine call_of Tryd.func23 Tryd.ntmps23 rfl rfl (fun cs fs => ?_)
 refine Z 2 rfl ?_
 refine o_box (cs := [.int .i64 a0.1, .int .i64 a0.2.1, .int .i64 a0.2.2.1, .int .i64 a0.2.2.2.1, v1]) rfl rfl rfl rfl rfl (fun b3 => ?_)
 refine o_alloc rfl rfl rfl z_zero55 (fun b4 => ?_)
 refine ZZ 13 [1, 1, 1, 1, 1] rfl rfl ?_
 refine o_build (ps := [(0, [.int .i64 a0.1]), (1, [.int .i64 a0.2.1]), (2, [.int .i64 a0.2.2.1]), (3, [.int .i64 a0.2.2.2.1]), (4, [v1])]) (cs := [.int .i64 a0.1, .int .i64 a0.2.1, .int .i64 a0.2.2.1, .int .i64 a0.2.2.2.1, v1]) rfl rfl rfl z_struct55 ⟨rfl, ⟨_, rfl, rfl⟩, ⟨rfl, ⟨_, rfl, rfl⟩, ⟨rfl, ⟨_, rfl, rfl⟩, ⟨rfl, ⟨_, rfl, rfl⟩, ⟨rfl, ⟨_, rfl, (oneL_sl hs2)⟩, trivial⟩⟩⟩⟩⟩ rfl ?_
 refine o_store (j := 0) (vs := [.int .i64 a0.1, .int .i64 a0.2.1, .int .i64 a0.2.2.1, .int .i64 a0.2.2.2.1, v1]) (cs' := [.int .i64 a0.1, .int .i64 a0.2.1, .int .i64 a0.2.2.1, .int .i64 a0.2.2.2.1, v1]) rfl rfl rfl z_size55 rfl rfl rfl (ones_cons rfl (ones_cons rfl (ones_cons rfl (ones_cons rfl (ones_cons hs2.one' ones_nil))))) rfl rfl rfl ?_
 refine st_gs [[(b4, .cells #[.int .i64 a0.1, .int .i64 a0.2.1, .int .i64 a0.2.2.1, .int .i64 a0.2.2.2.1, v1] 55 (0, 0))], [(b3, .cells #[.int .i64 a0.1, .int .i64 a0.2.1, .int .i64 a0.2.2.1, .int .i64 a0.2.2.2.1, v1] 52 (0, 0))]] rfl ?_
 refine st_end ?_
 obtain rfl := Eq.symm h
 exact st_retC (gs' := []) [.agg #[.int .i64 a0.1, .int .i64 a0.2.1, .int .i64 a0.2.2.1, .int .i64 a0.2.2.2.1, v1]] Tryd.func23 ⟨⟨_, _, _, _, rfl, mem_flat 0 rfl, fun w hw => cellOfN (vs := [.int .i64 a0.1, .int .i64 a0.2.1, .int .i64 a0.2.2.1, .int .i64 a0.2.2.2.1, v1]) z_agg55 rfl w hw⟩, trivial⟩ (by simp) (Sto.Le.refl _) ⟨_, rfl, rfl, hs2⟩
theorem ref26_Check_ok {a0 : Int × Int × Int × Int × List Int} {a1 : Int} {v1 : Value} {r : Int} (h : ref26_Check a0 a1 r) (σ : Sto) (hs2 : Sl (kI .u8) σ v1 a0.2.2.2.2) :
    Does Tryd.prog 25 [.agg [.int .i64 a0.1, .int .i64 a0.2.1, .int .i64 a0.2.2.1, .int .i64 a0.2.2.2.1, v1].toArray, .int .i64 a1] σ [] (fun v τ gs => gs = [] ∧ .int .i64 r = v) := by
 refine call_of Tryd.func25 Tryd.ntmps25 rfl rfl (fun cs fs => ?_)
 refine Z 2 rfl ?_
 refine o_box (cs := [.int .i64 a0.1, .int .i64 a0.2.1, .int .i64 a0.2.2.1, .int .i64 a0.2.2.2.1, v1]) rfl rfl rfl rfl rfl (fun b3 => ?_)
 refine Z 4 rfl ?_
 refine st_cut (fun ρ τ4 gs => ∃ (s4 : Bool), ref26_Check_j1 a0 a1 s4 r ∧ σ.Le τ4 ∧ ESub ρ [(1, .int .i64 a1), (2, .pointer (some ⟨b3, 0, none⟩)), (4, .int .i64 0), (12, .bool s4)] ∧ gs = [[(b3, .cells #[.int .i64 a0.1, .int .i64 a0.2.1, .int .i64 a0.2.2.1, .int .i64 a0.2.2.2.1, v1] 55 (0, 0))]]) ?_ (fun hk4 => ?_)
 ·rintro ρ4 τ4 gs4 ⟨s4, h, hl4, hρ, rfl⟩
  refine st_es hρ ?_
  refine st_if rfl h (fun h => ?_) (fun h => ?_)
  ·refine Z 4 rfl ?_
   refine st_ord [] _ rfl ?_
   obtain rfl := Eq.symm h
   exact st_ret (gs' := []) Tryd.func25 rfl (List.Sublist.refl _) hl4 ⟨rfl, rfl⟩
  ·refine Z 3 rfl ?_
   refine st_cut (fun ρ τ5 gs => ∃ (s5 : Bool), ref26_Check_j2 a0 s5 r ∧ τ4.Le τ5 ∧ ESub ρ [(2, .pointer (some ⟨b3, 0, none⟩)), (4, .int .i64 0), (26, .bool s5)] ∧ gs = [[(b3, .cells #[.int .i64 a0.1, .int .i64 a0.2.1, .int .i64 a0.2.2.1, .int .i64 a0.2.2.2.1, v1] 55 (0, 0))]]) ?_ (fun hk5 => ?_)
   ·rintro ρ5 τ5 gs5 ⟨s5, h, hl5, hρ, rfl⟩
    refine st_es hρ ?_
    refine st_if rfl h (fun h => ?_) (fun h => ?_)
    ·refine Z 4 rfl ?_
     refine st_ord [] _ rfl ?_
     obtain rfl := Eq.symm h
     exact st_ret (gs' := []) Tryd.func25 rfl (List.Sublist.refl _) (hl4.trans hl5) ⟨rfl, rfl⟩
    ·refine Z 3 rfl ?_
     refine st_cut (fun ρ τ6 gs => ∃ (s6 : Bool), ref26_Check_j3 s6 r ∧ τ5.Le τ6 ∧ ESub ρ [(4, .int .i64 0), (54, .bool s6)] ∧ gs = []) ?_ (fun hk6 => ?_)
     ·rintro ρ6 τ6 gs6 ⟨s6, h, hl6, hρ, rfl⟩
      refine st_es hρ ?_
      refine st_if rfl h (fun h => ?_) (fun h => ?_)
      ·refine Z 4 rfl ?_
       obtain rfl := Eq.symm h
       exact st_ret (gs' := []) Tryd.func25 rfl (List.Sublist.refl _) ((hl4.trans hl5).trans hl6) ⟨rfl, rfl⟩
      ·refine Z 5 rfl ?_
       obtain rfl := Eq.symm h
       exact st_ret (gs' := []) Tryd.func25 rfl (List.Sublist.refl _) ((hl4.trans hl5).trans hl6) ⟨rfl, rfl⟩
     refine ZZ 4 [0] rfl rfl ?_
     refine o_mif rfl rfl rfl rfl h (fun h => ?_) (fun h => ?_)
     ·refine ZZ 8 [0] rfl rfl ?_
      refine o_mif rfl rfl rfl rfl h (fun h => ?_) (fun h => ?_)
      ·refine Z 16 rfl ?_
       refine st_ord [] _ rfl ?_
       exact hk6 _ _ _ ⟨true, h, (Sto.Le.refl _), rfl, rfl⟩
      ·refine ZZ 5 [0] rfl rfl ?_
       refine o_mif rfl rfl rfl rfl h (fun h => ?_) (fun h => ?_)
       ·refine Z 10 rfl ?_
        refine st_ord [] _ rfl ?_
        exact hk6 _ _ _ ⟨true, h, (Sto.Le.refl _), rfl, rfl⟩
       ·refine ZZ 3 [0] rfl rfl ?_
        refine o_mif rfl rfl rfl rfl h (fun h => ?_) (fun h => ?_)
        ·refine ZZ 6 [0] rfl rfl ?_
         refine st_ord [] _ rfl ?_
         exact hk6 _ _ _ ⟨(decide (255 < a0.2.2.2.1)), h, (Sto.Le.refl _), rfl, rfl⟩
        ·refine Z 6 rfl ?_
         refine st_ord [] _ rfl ?_
         exact hk6 _ _ _ ⟨false, h, (Sto.Le.refl _), rfl, rfl⟩
     ·refine ZZ 4 [0] rfl rfl ?_
      refine o_mif rfl rfl rfl rfl h (fun h => ?_) (fun h => ?_)
      ·refine ZZ 3 [0] rfl rfl ?_
       refine o_mif rfl rfl rfl rfl h (fun h => ?_) (fun h => ?_)
       ·refine Z 16 rfl ?_
        refine st_ord [] _ rfl ?_
        exact hk6 _ _ _ ⟨true, h, (Sto.Le.refl _), rfl, rfl⟩
       ·refine ZZ 5 [0] rfl rfl ?_
        refine o_mif rfl rfl rfl rfl h (fun h => ?_) (fun h => ?_)
        ·refine Z 10 rfl ?_
         refine st_ord [] _ rfl ?_
         exact hk6 _ _ _ ⟨true, h, (Sto.Le.refl _), rfl, rfl⟩
        ·refine ZZ 3 [0] rfl rfl ?_
         refine o_mif rfl rfl rfl rfl h (fun h => ?_) (fun h => ?_)
         ·refine ZZ 6 [0] rfl rfl ?_
          refine st_ord [] _ rfl ?_
          exact hk6 _ _ _ ⟨(decide (255 < a0.2.2.2.1)), h, (Sto.Le.refl _), rfl, rfl⟩
         ·refine Z 6 rfl ?_
          refine st_ord [] _ rfl ?_
          exact hk6 _ _ _ ⟨false, h, (Sto.Le.refl _), rfl, rfl⟩
      ·refine ZZ 13 [0] rfl rfl ?_
       refine o_mif rfl rfl rfl rfl h (fun h => ?_) (fun h => ?_)
       ·refine ZZ 6 [0] rfl rfl ?_
        refine st_ord [] _ rfl ?_
        exact hk6 _ _ _ ⟨(decide (255 < a0.2.2.2.1)), h, (Sto.Le.refl _), rfl, rfl⟩
       ·refine Z 6 rfl ?_
        refine st_ord [] _ rfl ?_
        exact hk6 _ _ _ ⟨false, h, (Sto.Le.refl _), rfl, rfl⟩
   refine ZZ 4 [0] rfl rfl ?_
   refine o_mif rfl rfl rfl rfl h (fun h => ?_) (fun h => ?_)
   ·refine ZZ 3 [0] rfl rfl ?_
    refine o_mif rfl rfl rfl rfl h (fun h => ?_) (fun h => ?_)
    ·refine Z 7 rfl ?_
     exact hk5 _ _ _ ⟨true, h, (Sto.Le.refl _), rfl, rfl⟩
    ·refine ZZ 7 [0] rfl rfl ?_
     exact hk5 _ _ _ ⟨(decide (a1 ≤ a0.2.1)), h, (Sto.Le.refl _), rfl, rfl⟩
   ·refine Z 11 rfl ?_
    exact hk5 _ _ _ ⟨false, h, (Sto.Le.refl _), rfl, rfl⟩
 refine ZZ 4 [0] rfl rfl ?_
 refine o_mif rfl rfl rfl rfl h (fun h => ?_) (fun h => ?_)
 ·refine Z 5 rfl ?_
  exact hk4 _ _ _ ⟨true, h, (Sto.Le.refl _), rfl, rfl⟩
 ·refine ZZ 5 [0] rfl rfl ?_
  exact hk4 _ _ _ ⟨(decide (4 < a0.1)), h, (Sto.Le.refl _), rfl, rfl⟩
theorem ref26_Bytes_ok {a0 : List (List Int)} {a1 : Int × Int × Int × Int × List Int} {v1 : Value} {v3 : Value} {r : List Int} (h : ref26_Bytes a0 a1 r) (σ : Sto) (hs2 : Sl (kSl (kI .u8)) σ v1 a0) (hs4 : Sl (kI .u8) σ v3 a1.2.2.2.2) :
    Does Tryd.prog 22 [v1, .agg [.int .i64 a1.1, .int .i64 a1.2.1, .int .i64 a1.2.2.1, .int .i64 a1.2.2.2.1, v3].toArray] σ [] (fun v τ gs => ∃ (v52 : Value), gs = [] ∧ v52 = v ∧ Sl (kI .u8) τ v52 r) := by
 refine call_of Tryd.func22 Tryd.ntmps22 rfl rfl (fun cs fs => ?_)
 refine Z 2 rfl ?_
 refine o_box (cs := [.int .i64 a1.1, .int .i64 a1.2.1, .int .i64 a1.2.2.1, .int .i64 a1.2.2.2.1, v3]) rfl rfl rfl rfl rfl (fun b5 => ?_)
 refine ZZ 7 [0] rfl rfl ?_
 refine o_lenI rfl rfl rfl z_slT48 rfl hs2 ?_
 obtain ⟨r6, hr7, h⟩ := h
 refine st_call (foot := []) rfl rfl rfl rfl rfl rfl (callV_fn z_en25 (ref26_Check_ok hr7 σ hs4)) ?_
 rintro vτ8 τ8 gsτ8 hl9 ⟨rfl, rfl⟩
 refine Z 2 rfl ?_
 refine st_if rfl h (fun h => ?_) (fun h => ?_)
 ·refine Z 4 rfl ?_
  refine st_ord [] _ rfl ?_
  obtain rfl := Eq.symm h
  exact st_ret (gs' := []) Tryd.func22 rfl (List.Sublist.refl _) hl9 ⟨_, rfl, rfl, Sl.nil⟩
 ·refine ZZ 8 [0] rfl rfl ?_
  refine st_if rfl h (fun h => ?_) (fun h => ?_)
  ·refine ZZ 6 [0] rfl rfl ?_
   refine st_ord [] _ rfl ?_
   obtain rfl := Eq.symm h
   exact st_ret (gs' := []) Tryd.func22 rfl (List.Sublist.refl _) hl9 ⟨_, rfl, rfl, (hs4.up hl9)⟩
  ·refine ZZ 6 [0] rfl rfl ?_
   obtain ⟨q10, hf11, h⟩ := h
   refine o_index rfl rfl rfl z_slT48 rfl rfl (hs2.up hl9) rfl hf11 (fun b12 of13 vs hc15 hrep => ?_)
   obtain ⟨v14, rfl, hs16⟩ := hrep
   refine o_loadI (v := v14) rfl rfl rfl z_sc22 rfl (hc15 0 _ rfl) ?_
   refine Z 7 rfl ?_
   refine st_cut (fun ρ τ17 gs => ∃ (s17 : List Int) (v18 : Value) (g19 : Grp), ref26_Bytes_j1 s17 r ∧ τ8.Le τ17 ∧ ESub ρ [(4, .slice none 0 0), (6, v18)] ∧ gs = [g19] ∧ Ow (kI .u8) 5 τ17 v18 s17 g19) ?_ (fun hk17 => ?_)
   ·rintro ρ17 τ17 gs17 ⟨s17, v18, g19, h, hl17, hρ, rfl, ho20⟩
    refine st_es hρ ?_
    refine Z 5 rfl ?_
    refine st_freeze (fun τ21 hl22 hg23 => ?_)
    have hs24 := ho20.freeze hl22 hg23
    obtain rfl := Eq.symm h
    exact st_ret (gs' := []) Tryd.func22 rfl (List.Sublist.refl _) ((hl9.trans hl17).trans hl22) ⟨_, rfl, rfl, hs24⟩
   refine Z 4 rfl ?_
   obtain ⟨e27, hL27, hA27⟩ := h
   refine st_addNil ?_
   refine st_ord [1, 0] _ rfl ?_
   refine st_loop hL27 (fun (s27 : List Int × Int) ρ τ27 gs => τ8.Le τ27 ∧ ∃ (v28 : Value) (g29 : Grp), ESub ρ [(3, .pointer (some ⟨b5, 0, none⟩)), (4, .slice none 0 0), (5, v14), (6, v28), (7, .int .i64 s27.2)] ∧ gs = [[(b5, .cells #[.int .i64 a1.1, .int .i64 a1.2.1, .int .i64 a1.2.2.1, .int .i64 a1.2.2.2.1, v3] 55 (0, 0))], g29] ∧ Ow (kI .u8) 5 τ27 v28 s27.1 g29) ⟨Sto.Le.refl _, _, _, rfl, rfl, Ow.nil⟩ ?_
   rintro s27 o27 h he27 ρ27 τ27 gs27 ⟨hl27, v28, g29, hρ, rfl, ho30⟩ hn27
   refine st_es hρ ?_
   refine Z 5 rfl ?_
   refine o_lenI rfl rfl rfl z_slT22 rfl (hs16.up hl27) ?_
   refine Z 2 rfl ?_
   refine st_if rfl h (fun h => ?_) (fun h => ?_)
   ·refine Z 2 rfl ?_
    refine st_cut (fun ρ τ31 gs => ∃ (s31 : List Int) (v32 : Value) (g33 : Grp), ref26_Bytes_j3 s27 s31 o27 ∧ τ27.Le τ31 ∧ ESub ρ [(3, .pointer (some ⟨b5, 0, none⟩)), (4, .slice none 0 0), (5, v14), (6, v32), (7, .int .i64 s27.2)] ∧ gs = [[(b5, .cells #[.int .i64 a1.1, .int .i64 a1.2.1, .int .i64 a1.2.2.1, .int .i64 a1.2.2.2.1, v3] 55 (0, 0))], g33] ∧ Ow (kI .u8) 5 τ31 v32 s31 g33) ?_ (fun hk31 => ?_)
    ·rintro ρ31 τ31 gs31 ⟨s31, v32, g33, h, hl31, hρ, rfl, ho34⟩
     refine st_es hρ ?_
     refine Z 5 rfl ?_
     exact hn27 _ _ _ _ h ⟨(hl27.trans hl31), _, _, rfl, rfl, ho34⟩
    refine Z 3 rfl ?_
    refine st_cut (fun ρ τ35 gs => ∃ (s35 : Bool), ref26_Bytes_j4 a1 q10 s27 s35 o27 ∧ τ27.Le τ35 ∧ ESub ρ [(3, .pointer (some ⟨b5, 0, none⟩)), (4, .slice none 0 0), (5, v14), (6, v28), (7, .int .i64 s27.2), (47, .bool s35)] ∧ gs = [[(b5, .cells #[.int .i64 a1.1, .int .i64 a1.2.1, .int .i64 a1.2.2.1, .int .i64 a1.2.2.2.1, v3] 55 (0, 0))], g29]) ?_ (fun hk35 => ?_)
    ·rintro ρ35 τ35 gs35 ⟨s35, h, hl35, hρ, rfl⟩
     refine st_es hρ ?_
     refine st_if rfl h (fun h => ?_) (fun h => ?_)
     ·refine st_exit rfl ?_
      exact hk31 _ _ _ ⟨s27.1, _, _, h, hl35, rfl, rfl, (ho30.up hl35)⟩
     ·refine Z 5 rfl ?_
      obtain ⟨q36, hf37, h⟩ := h
      refine o_index rfl rfl rfl z_slT22 rfl rfl (hs16.up (hl27.trans hl35)) rfl hf37 (fun b38 of39 vs hc40 hrep => ?_)
      obtain rfl := hrep
      refine o_loadI (v := .int .u8 q36) rfl rfl rfl z_sc5 rfl (hc40 0 _ rfl) ?_
      refine Z 3 rfl ?_
      refine st_cut (fun ρ τ41 gs => ∃ (s41 : Int), ref26_Bytes_j5 s27 s41 o27 ∧ τ35.Le τ41 ∧ ESub ρ [(3, .pointer (some ⟨b5, 0, none⟩)), (4, .slice none 0 0), (5, v14), (6, v28), (7, .int .i64 s27.2), (8, .int .u8 s41)] ∧ gs = [[(b5, .cells #[.int .i64 a1.1, .int .i64 a1.2.1, .int .i64 a1.2.2.1, .int .i64 a1.2.2.2.1, v3] 55 (0, 0))], g29]) ?_ (fun hk41 => ?_)
      ·rintro ρ41 τ41 gs41 ⟨s41, h, hl41, hρ, rfl⟩
       refine st_es hρ ?_
       refine Z 3 rfl ?_
       refine o_litE (eI .u8) [s41] rfl rfl rfl z_slT22 z_zero5 ⟨rfl, ⟨_, rfl, rfl⟩, trivial⟩ rfl rfl rfl rfl (fun v42 g43 ho44 => ?_)
       obtain ⟨hf48, hf49, h⟩ := h
       refine st_ord [2, 0, 0] _ rfl ?_
       refine o_append (dk := (kI .u8)) (xs := s27.1) (ys := [s41]) rfl rfl rfl rfl z_slT22 rfl (ho30.up (hl35.trans hl41)) rfl (Ow.src (j := 1) ho44 rfl) hf48 hf49 (fun v45 g46 ho47 => ?_)
       refine Z 3 rfl ?_
       refine st_ord [2, 0] _ rfl ?_
       exact hk31 _ _ _ ⟨(s27.1 ++ [s41]), _, _, h, (hl35.trans hl41), rfl, rfl, ho47⟩
      refine st_seq ?_
      refine st_cut (fun ρ τ50 gs => ∃ (s50 : Bool), ref26_Bytes_j6 a1 s27 q36 s50 o27 ∧ τ35.Le τ50 ∧ ESub ρ [(3, .pointer (some ⟨b5, 0, none⟩)), (4, .slice none 0 0), (5, v14), (6, v28), (7, .int .i64 s27.2), (8, .int .u8 q36), (60, .bool s50)] ∧ gs = [[(b5, .cells #[.int .i64 a1.1, .int .i64 a1.2.1, .int .i64 a1.2.2.1, .int .i64 a1.2.2.2.1, v3] 55 (0, 0))], g29]) ?_ (fun hk50 => ?_)
      ·rintro ρ50 τ50 gs50 ⟨s50, h, hl50, hρ, rfl⟩
       refine st_es hρ ?_
       refine st_if rfl h (fun h => ?_) (fun h => ?_)
       ·refine ZZ 8 [0] rfl rfl ?_
        exact hk41 _ _ _ ⟨(ixor .u8 q36 (IntKind.u8.wrap a1.2.2.2.1)), h, hl50, rfl, rfl⟩
       ·refine st_skip ?_
        exact hk41 _ _ _ ⟨q36, h, hl50, rfl, rfl⟩
      refine ZZ 4 [0] rfl rfl ?_
      refine o_mif rfl rfl rfl rfl h (fun h => ?_) (fun h => ?_)
      ·refine ZZ 6 [0] rfl rfl ?_
       exact hk50 _ _ _ ⟨(decide (s27.2 = a1.2.2.1)), h, (Sto.Le.refl _), rfl, rfl⟩
      ·refine Z 6 rfl ?_
       exact hk50 _ _ _ ⟨false, h, (Sto.Le.refl _), rfl, rfl⟩
    refine ZZ 4 [0] rfl rfl ?_
    refine o_mif rfl rfl rfl rfl h (fun h => ?_) (fun h => ?_)
    ·refine ZZ 4 [0] rfl rfl ?_
     refine o_mif rfl rfl rfl rfl h (fun h => ?_) (fun h => ?_)
     ·refine Z 10 rfl ?_
      exact hk35 _ _ _ ⟨true, h, (Sto.Le.refl _), rfl, rfl⟩
     ·refine ZZ 10 [0, 0] rfl rfl ?_
      exact hk35 _ _ _ ⟨(decide (a1.2.2.2.1 ≤ (IntKind.i64.wrap (s27.2 - a1.2.2.1)))), h, (Sto.Le.refl _), rfl, rfl⟩
    ·refine Z 15 rfl ?_
     exact hk35 _ _ _ ⟨false, h, (Sto.Le.refl _), rfl, rfl⟩
   ·refine st_exit rfl ?_
    obtain rfl := he27 _ h
    replace h := hA27
    refine st_ord [1] _ rfl ?_
    exact hk17 _ _ _ ⟨s27.1, _, _, h, hl27, rfl, rfl, ho30⟩
theorem noise_word_ok {a0 : Int} {r : ByteArray × Int} (h : noise_word a0 r) (σ : Sto)  :
    Does Tryd.prog 63 [.int .i64 a0] σ [] (fun v τ gs => gs = [] ∧ .tuple [.string r.1, .int .i64 r.2].toArray = v) := by
 refine call_of Tryd.func63 Tryd.ntmps63 rfl rfl (fun cs fs => ?_)
 refine Z 2 rfl ?_
 refine o_assign rfl rfl rfl (ev_str z_str0) ?_
 refine Z 13 rfl ?_
 refine st_if rfl h (fun h => ?_) (fun h => ?_)
 ·refine Z 2 rfl ?_
  refine o_assign rfl rfl rfl (ev_str z_str30) ?_
  refine Z 2 rfl ?_
  obtain rfl := Eq.symm h
  exact st_ret (gs' := []) Tryd.func63 rfl (List.Sublist.refl _) (Sto.Le.refl _) ⟨rfl, rfl⟩
 ·refine Z 5 rfl ?_
  refine st_if rfl h (fun h => ?_) (fun h => ?_)
  ·refine Z 2 rfl ?_
   refine o_assign rfl rfl rfl (ev_str z_str31) ?_
   refine Z 2 rfl ?_
   obtain rfl := Eq.symm h
   exact st_ret (gs' := []) Tryd.func63 rfl (List.Sublist.refl _) (Sto.Le.refl _) ⟨rfl, rfl⟩
  ·refine Z 5 rfl ?_
   refine st_if rfl h (fun h => ?_) (fun h => ?_)
   ·refine Z 2 rfl ?_
    refine o_assign rfl rfl rfl (ev_str z_str32) ?_
    refine Z 2 rfl ?_
    obtain rfl := Eq.symm h
    exact st_ret (gs' := []) Tryd.func63 rfl (List.Sublist.refl _) (Sto.Le.refl _) ⟨rfl, rfl⟩
   ·refine Z 5 rfl ?_
    refine st_if rfl h (fun h => ?_) (fun h => ?_)
    ·refine Z 2 rfl ?_
     refine o_assign rfl rfl rfl (ev_str z_str33) ?_
     refine Z 2 rfl ?_
     obtain rfl := Eq.symm h
     exact st_ret (gs' := []) Tryd.func63 rfl (List.Sublist.refl _) (Sto.Le.refl _) ⟨rfl, rfl⟩
    ·refine Z 4 rfl ?_
     refine o_assign rfl rfl rfl (ev_str z_str0) ?_
     refine Z 2 rfl ?_
     obtain rfl := Eq.symm h
     exact st_ret (gs' := []) Tryd.func63 rfl (List.Sublist.refl _) (Sto.Le.refl _) ⟨rfl, rfl⟩
theorem noise_Check_ok {a0 : Int × Int × Int × Int × List Int} {a1 : Int} {v1 : Value} {r : Int} (h : noise_Check a0 a1 r) (σ : Sto) (hs2 : Sl (kI .u8) σ v1 a0.2.2.2.2) :
    Does Tryd.prog 24 [.agg [.int .i64 a0.1, .int .i64 a0.2.1, .int .i64 a0.2.2.1, .int .i64 a0.2.2.2.1, v1].toArray, .int .i64 a1] σ [] (fun v τ gs => gs = [] ∧ .int .i64 r = v) := by
 refine call_of Tryd.func24 Tryd.ntmps24 rfl rfl (fun cs fs => ?_)
 refine Z 2 rfl ?_
 refine o_box (cs := [.int .i64 a0.1, .int .i64 a0.2.1, .int .i64 a0.2.2.1, .int .i64 a0.2.2.2.1, v1]) rfl rfl rfl rfl rfl (fun b3 => ?_)
 refine ZZ 6 [0] rfl rfl ?_
 obtain ⟨r4, hr5, h⟩ := h
 refine st_call (foot := []) rfl rfl rfl rfl rfl rfl (callV_fn z_en63 (noise_word_ok hr5 σ)) ?_
 rintro vτ6 τ6 gsτ6 hl7 ⟨rfl, rfl⟩
 refine Z 11 rfl ?_
 refine o_sbin (v := .bool (decide (r4.1 = (bstr [])))) rfl rfl rfl rfl (ev_str z_str0) rfl ?_
 refine Z 2 rfl ?_
 refine st_if rfl h (fun h => ?_) (fun h => ?_)
 ·refine Z 4 rfl ?_
  refine st_ord [] _ rfl ?_
  obtain rfl := Eq.symm h
  exact st_ret (gs' := []) Tryd.func24 rfl (List.Sublist.refl _) hl7 ⟨rfl, rfl⟩
 ·refine st_seq ?_
  refine st_cut (fun ρ τ8 gs => ∃ (s8 : Bool), noise_Check_j1 a0 s8 r ∧ τ6.Le τ8 ∧ ESub ρ [(2, .pointer (some ⟨b3, 0, none⟩)), (4, .int .i64 0), (16, .bool s8)] ∧ gs = [[(b3, .cells #[.int .i64 a0.1, .int .i64 a0.2.1, .int .i64 a0.2.2.1, .int .i64 a0.2.2.2.1, v1] 52 (0, 0))]]) ?_ (fun hk8 => ?_)
  ·rintro ρ8 τ8 gs8 ⟨s8, h, hl8, hρ, rfl⟩
   refine st_es hρ ?_
   refine st_if rfl h (fun h => ?_) (fun h => ?_)
   ·refine Z 4 rfl ?_
    refine st_ord [] _ rfl ?_
    obtain rfl := Eq.symm h
    exact st_ret (gs' := []) Tryd.func24 rfl (List.Sublist.refl _) (hl7.trans hl8) ⟨rfl, rfl⟩
   ·refine st_seq ?_
    refine st_cut (fun ρ τ9 gs => ∃ (s9 : Bool), noise_Check_j2 s9 r ∧ τ8.Le τ9 ∧ ESub ρ [(4, .int .i64 0), (31, .bool s9)] ∧ gs = []) ?_ (fun hk9 => ?_)
    ·rintro ρ9 τ9 gs9 ⟨s9, h, hl9, hρ, rfl⟩
     refine st_es hρ ?_
     refine st_if rfl h (fun h => ?_) (fun h => ?_)
     ·refine Z 4 rfl ?_
      obtain rfl := Eq.symm h
      exact st_ret (gs' := []) Tryd.func24 rfl (List.Sublist.refl _) ((hl7.trans hl8).trans hl9) ⟨rfl, rfl⟩
     ·refine Z 6 rfl ?_
      obtain rfl := Eq.symm h
      exact st_ret (gs' := []) Tryd.func24 rfl (List.Sublist.refl _) ((hl7.trans hl8).trans hl9) ⟨rfl, rfl⟩
    refine ZZ 4 [0] rfl rfl ?_
    refine o_mif rfl rfl rfl rfl h (fun h => ?_) (fun h => ?_)
    ·refine ZZ 8 [0] rfl rfl ?_
     refine o_mif rfl rfl rfl rfl h (fun h => ?_) (fun h => ?_)
     ·refine Z 17 rfl ?_
      refine st_ord [] _ rfl ?_
      exact hk9 _ _ _ ⟨true, h, (Sto.Le.refl _), rfl, rfl⟩
     ·refine ZZ 5 [0] rfl rfl ?_
      refine o_mif rfl rfl rfl rfl h (fun h => ?_) (fun h => ?_)
      ·refine Z 11 rfl ?_
       refine st_ord [] _ rfl ?_
       exact hk9 _ _ _ ⟨true, h, (Sto.Le.refl _), rfl, rfl⟩
      ·refine ZZ 3 [0] rfl rfl ?_
       refine o_mif rfl rfl rfl rfl h (fun h => ?_) (fun h => ?_)
       ·refine ZZ 7 [0] rfl rfl ?_
        refine st_ord [] _ rfl ?_
        exact hk9 _ _ _ ⟨(decide (255 < a0.2.2.2.1)), h, (Sto.Le.refl _), rfl, rfl⟩
       ·refine Z 7 rfl ?_
        refine st_ord [] _ rfl ?_
        exact hk9 _ _ _ ⟨false, h, (Sto.Le.refl _), rfl, rfl⟩
    ·refine ZZ 4 [0] rfl rfl ?_
     refine o_mif rfl rfl rfl rfl h (fun h => ?_) (fun h => ?_)
     ·refine ZZ 3 [0] rfl rfl ?_
      refine o_mif rfl rfl rfl rfl h (fun h => ?_) (fun h => ?_)
      ·refine Z 17 rfl ?_
       refine st_ord [] _ rfl ?_
       exact hk9 _ _ _ ⟨true, h, (Sto.Le.refl _), rfl, rfl⟩
      ·refine ZZ 5 [0] rfl rfl ?_
       refine o_mif rfl rfl rfl rfl h (fun h => ?_) (fun h => ?_)
       ·refine Z 11 rfl ?_
        refine st_ord [] _ rfl ?_
        exact hk9 _ _ _ ⟨true, h, (Sto.Le.refl _), rfl, rfl⟩
       ·refine ZZ 3 [0] rfl rfl ?_
        refine o_mif rfl rfl rfl rfl h (fun h => ?_) (fun h => ?_)
        ·refine ZZ 7 [0] rfl rfl ?_
         refine st_ord [] _ rfl ?_
         exact hk9 _ _ _ ⟨(decide (255 < a0.2.2.2.1)), h, (Sto.Le.refl _), rfl, rfl⟩
        ·refine Z 7 rfl ?_
         refine st_ord [] _ rfl ?_
         exact hk9 _ _ _ ⟨false, h, (Sto.Le.refl _), rfl, rfl⟩
     ·refine ZZ 13 [0] rfl rfl ?_
      refine o_mif rfl rfl rfl rfl h (fun h => ?_) (fun h => ?_)
      ·refine ZZ 7 [0] rfl rfl ?_
       refine st_ord [] _ rfl ?_
       exact hk9 _ _ _ ⟨(decide (255 < a0.2.2.2.1)), h, (Sto.Le.refl _), rfl, rfl⟩
      ·refine Z 7 rfl ?_
       refine st_ord [] _ rfl ?_
       exact hk9 _ _ _ ⟨false, h, (Sto.Le.refl _), rfl, rfl⟩
  refine ZZ 4 [0] rfl rfl ?_
  refine o_mif rfl rfl rfl rfl h (fun h => ?_) (fun h => ?_)
  ·refine ZZ 3 [0] rfl rfl ?_
   refine o_mif rfl rfl rfl rfl h (fun h => ?_) (fun h => ?_)
   ·refine Z 8 rfl ?_
    exact hk8 _ _ _ ⟨true, h, (Sto.Le.refl _), rfl, rfl⟩
   ·refine ZZ 8 [0] rfl rfl ?_
    exact hk8 _ _ _ ⟨(decide (a1 ≤ a0.2.1)), h, (Sto.Le.refl _), rfl, rfl⟩
  ·refine Z 12 rfl ?_
   exact hk8 _ _ _ ⟨false, h, (Sto.Le.refl _), rfl, rfl⟩
theorem noise_Bytes_ok {a0 : List (List Int)} {a1 : Int × Int × Int × Int × List Int} {v1 : Value} {v3 : Value} {r : List Int} (h : noise_Bytes a0 a1 r) (σ : Sto) (hs2 : Sl (kSl (kI .u8)) σ v1 a0) (hs4 : Sl (kI .u8) σ v3 a1.2.2.2.2) :
    Does Tryd.prog 26 [v1, .agg [.int .i64 a1.1, .int .i64 a1.2.1, .int .i64 a1.2.2.1, .int .i64 a1.2.2.2.1, v3].toArray] σ [] (fun v τ gs => ∃ (v87 : Value), gs = [] ∧ v87 = v ∧ Sl (kI .u8) τ v87 r) := by
 refine call_of Tryd.func26 Tryd.ntmps26 rfl rfl (fun cs fs => ?_)
 refine Z 2 rfl ?_
 refine o_box (cs := [.int .i64 a1.1, .int .i64 a1.2.1, .int .i64 a1.2.2.1, .int .i64 a1.2.2.2.1, v3]) rfl rfl rfl rfl rfl (fun b5 => ?_)
 refine ZZ 7 [0] rfl rfl ?_
 refine o_lenI rfl rfl rfl z_slT48 rfl hs2 ?_
 obtain ⟨r6, hr7, h⟩ := h
 refine st_call (foot := []) rfl rfl rfl rfl rfl rfl (callV_fn z_en24 (noise_Check_ok hr7 σ hs4)) ?_
 rintro vτ8 τ8 gsτ8 hl9 ⟨rfl, rfl⟩
 refine Z 2 rfl ?_
 refine st_if rfl h (fun h => ?_) (fun h => ?_)
 ·refine Z 4 rfl ?_
  refine st_ord [] _ rfl ?_
  obtain rfl := Eq.symm h
  exact st_ret (gs' := []) Tryd.func26 rfl (List.Sublist.refl _) hl9 ⟨_, rfl, rfl, Sl.nil⟩
 ·refine ZZ 8 [0] rfl rfl ?_
  refine st_if rfl h (fun h => ?_) (fun h => ?_)
  ·refine Z 2 rfl ?_
   refine o_lit (dk := (kI .u8)) (xs := ([] : List Int)) (ps := []) (cs := []) rfl rfl rfl z_slT22 z_zero5 trivial rfl rfl rfl rfl Kd.Many.nil (fun v10 g11 ho12 => ?_)
   refine ZZ 2 [1] rfl rfl ?_
   obtain ⟨hf16, hf17, h⟩ := h
   refine o_append (dk := (kI .u8)) (xs := ([] : List Int)) (ys := a1.2.2.2.2) rfl rfl rfl rfl z_slT22 rfl ho12 rfl (Sl.src (hs4.up hl9)) hf16 hf17 (fun v13 g14 ho15 => ?_)
   refine Z 2 rfl ?_
   refine st_freeze (fun τ18 hl19 hg20 => ?_)
   have hs21 := ho15.freeze hl19 hg20
   refine st_ord [] _ rfl ?_
   obtain rfl := Eq.symm h
   exact st_ret (gs' := []) Tryd.func26 rfl (List.Sublist.refl _) (hl9.trans hl19) ⟨_, rfl, rfl, hs21⟩
  ·refine Z 3 rfl ?_
   refine o_lit (dk := (kI .u8)) (xs := ([] : List Int)) (ps := []) (cs := []) rfl rfl rfl z_slT22 z_zero5 trivial rfl rfl rfl rfl Kd.Many.nil (fun v23 g24 ho25 => ?_)
   refine ZZ 3 [1] rfl rfl ?_
   obtain ⟨q26, hf27, h⟩ := h
   refine o_index rfl rfl rfl z_slT48 rfl rfl (hs2.up hl9) rfl hf27 (fun b28 of29 vs hc31 hrep => ?_)
   obtain ⟨v30, rfl, hs32⟩ := hrep
   refine o_loadI (v := v30) rfl rfl rfl z_sc22 rfl (hc31 0 _ rfl) ?_
   obtain ⟨hf36, hf37, h⟩ := h
   refine o_append (dk := (kI .u8)) (xs := ([] : List Int)) (ys := q26) rfl rfl rfl rfl z_slT22 rfl ho25 rfl (Sl.src hs32) hf36 hf37 (fun v33 g34 ho35 => ?_)
   refine Z 3 rfl ?_
   refine st_cut (fun ρ τ38 gs => ∃ (s38 : List Int) (v39 : Value), noise_Bytes_j1 s38 r ∧ τ8.Le τ38 ∧ ESub ρ [(4, .slice none 0 0), (5, v39)] ∧ gs = [] ∧ Sl (kI .u8) τ38 v39 s38) ?_ (fun hk38 => ?_)
   ·rintro ρ38 τ38 gs38 ⟨s38, v39, h, hl38, hρ, rfl, hs40⟩
    refine st_es hρ ?_
    refine Z 5 rfl ?_
    obtain rfl := Eq.symm h
    exact st_ret (gs' := []) Tryd.func26 rfl (List.Sublist.refl _) (hl9.trans hl38) ⟨_, rfl, rfl, hs40⟩
   refine ZZ 11 [1] rfl rfl ?_
   refine st_if rfl h (fun h => ?_) (fun h => ?_)
   ·refine ZZ 6 [1] rfl rfl ?_
    refine o_lenO rfl rfl rfl z_slT22 rfl ho35 ?_
    refine o_min2 rfl rfl rfl rfl rfl ?_
    obtain ⟨hf48, hf49, hf50, h⟩ := h
    refine st_freeze (fun τ41 hl42 hg43 => ?_)
    have hs44 := ho35.freeze hl42 hg43
    refine o_slice (L := (min a1.2.2.1 ((([] : List Int) ++ q26).length : Int))) (H := ((([] : List Int) ++ q26).length : Int)) rfl rfl rfl z_slT22 rfl rfl hs44 ⟨_, rfl⟩ rfl hf48 hf49 hf50 trivial (by simp) (fun v51 hs52 => ?_)
    refine ZZ 7 [0] rfl rfl ?_
    refine o_lenI rfl rfl rfl z_slT22 rfl hs52 ?_
    refine o_min2 rfl rfl rfl rfl rfl ?_
    obtain ⟨hf53, hf54, h⟩ := h
    refine o_slice (L := 0) (H := (min a1.2.2.2.1 ((((([] : List Int) ++ q26).drop (min a1.2.2.1 ((([] : List Int) ++ q26).length : Int)).toNat).take ((((([] : List Int) ++ q26).length : Int) : Int) - (min a1.2.2.1 ((([] : List Int) ++ q26).length : Int))).toNat).length : Int))) rfl rfl rfl z_slT22 rfl rfl hs52 rfl ⟨_, rfl⟩ (by decide) hf53 hf54 trivial (by simp) (fun v55 hs56 => ?_)
    refine Z 3 rfl ?_
    refine st_ord [] _ rfl ?_
    exact hk38 _ _ _ ⟨(((((([] : List Int) ++ q26).drop (min a1.2.2.1 ((([] : List Int) ++ q26).length : Int)).toNat).take ((((([] : List Int) ++ q26).length : Int) : Int) - (min a1.2.2.1 ((([] : List Int) ++ q26).length : Int))).toNat).drop (0 : Int).toNat).take (((min a1.2.2.2.1 ((((([] : List Int) ++ q26).drop (min a1.2.2.1 ((([] : List Int) ++ q26).length : Int)).toNat).take ((((([] : List Int) ++ q26).length : Int) : Int) - (min a1.2.2.1 ((([] : List Int) ++ q26).length : Int))).toNat).length : Int)) : Int) - 0).toNat), _, h, hl42, rfl, rfl, hs56⟩
   ·refine Z 5 rfl ?_
    refine st_if rfl h (fun h => ?_) (fun h => ?_)
    ·refine ZZ 5 [1] rfl rfl ?_
     refine o_lenO rfl rfl rfl z_slT22 rfl ho35 ?_
     refine Z 2 rfl ?_
     refine st_if rfl h (fun h => ?_) (fun h => ?_)
     ·obtain ⟨q57, hf58, h⟩ := h
      refine st_draw 9 (dl [.v (v33), .v (.pointer (some ⟨b5, 2, none⟩)), .v (.int .i64 a1.2.2.1), .t fun τ v => ∃ (b59 : Nat), (.pointer (some ⟨b59, a1.2.2.1.toNat * 1, none⟩) : Value) = v ∧ (∃ n cap, v33 = .slice (some ⟨b59, 0, none⟩) n cap), .v (.int .u8 q57), .v (.pointer (some ⟨b5, 3, none⟩)), .v (.int .i64 a1.2.2.2.1), .v (.int .u8 (IntKind.u8.wrap a1.2.2.2.1)), .v (.int .u8 (ixor .u8 q57 (IntKind.u8.wrap a1.2.2.2.1)))]) (fun _ _ => []) z_mix rfl (dl_mono ⟨fun _ _ _ hl ⟨b59, hv, hb60⟩ => ⟨b59, hv, hb60⟩, trivial⟩) (allB_cons (allB_cons (allB_cons (allB_cons (allB_cons (allB_cons (allB_cons (allB_cons (allB_cons allB_nil (p1 dA)) (p1 dA)) ?_) ?_) ?_) (p1 dA)) ?_) (p1 dA)) (p1 dA)) ?_
      ·intro ρ' τ pool rs hl hd hout hk
       obtain ⟨_, e1, rfl⟩ := hd 1 rfl
       refine o_load (j := 1) (v := .int .i64 a1.2.2.1) rfl rfl rfl z_sc3 e1 rfl rfl ?_
       exact st_addNil (hk _ _ (Sto.Le.refl _) rfl)
      ·intro ρ' τ pool rs hl hd hout hk
       obtain ⟨_, e0, rfl⟩ := hd 0 rfl
       obtain ⟨_, e2, rfl⟩ := hd 2 rfl
       refine o_indexOw rfl rfl rfl z_slT22 rfl e0 (ho35.up hl) e2 hf58 (fun b59 hb60 => ?_)
       exact st_addNil (hk _ _ (Sto.Le.refl _) ⟨b59, rfl, hb60⟩)
      ·intro ρ' τ pool rs hl hd hout hk
       obtain ⟨_, e3, b59, rfl, hb60⟩ := hd 3 rfl
       obtain ⟨vs61, hrep62, hat63⟩ := Ow.at (ho35.up hl) hb60 hf58
       obtain rfl := hrep62
       refine o_loadOw (off := 0) (j := 0) (v := .int .u8 q57) rfl rfl rfl z_sc5 e3 hat63 rfl rfl ?_
       exact st_addNil (hk _ _ (Sto.Le.refl _) rfl)
      ·intro ρ' τ pool rs hl hd hout hk
       obtain ⟨_, e5, rfl⟩ := hd 5 rfl
       refine o_load (j := 1) (v := .int .i64 a1.2.2.2.1) rfl rfl rfl z_sc3 e5 rfl rfl ?_
       exact st_addNil (hk _ _ (Sto.Le.refl _) rfl)
      intro ρ' τ64 vals hl64 hv hout
      refine st_ord [0, 0] _ rfl ?_
      refine st_env (ρ' := [(50, v33), (52, .int .i64 a1.2.2.1), (58, .int .u8 (ixor .u8 q57 (IntKind.u8.wrap a1.2.2.2.1))), (4, .slice none 0 0), (5, v33)]) ⟨(lv1 hv 0 rfl rfl), (lv1 hv 2 rfl rfl), (lv1 hv 8 rfl rfl), (hout 4 rfl).trans rfl, (hout 5 rfl).trans rfl, trivial⟩ ?_
      obtain ⟨q65, hf66, h⟩ := h
      refine o_indexOw rfl rfl rfl z_slT22 rfl rfl (ho35.up hl64) rfl hf66 (fun b67 hb68 => ?_)
      refine o_storeOw (dk := (kI .u8)) (off := 0) (j := 0) (q' := (ixor .u8 q57 (IntKind.u8.wrap a1.2.2.2.1))) (us := [.int .u8 (ixor .u8 q57 (IntKind.u8.wrap a1.2.2.2.1))]) rfl rfl rfl z_size5 rfl rfl rfl (ones_cons rfl ones_nil) (ho35.up hl64) hb68 hf66 rfl (fun vs hv => by obtain rfl := hv; exact rfl) (Nat.le_of_ble_eq_true rfl) (fun g69 ho70 => ?_)
      refine st_gs [g69, [(b5, .cells #[.int .i64 a1.1, .int .i64 a1.2.1, .int .i64 a1.2.2.1, .int .i64 a1.2.2.2.1, v3] 52 (0, 0))]] rfl ?_
      refine Z 2 rfl ?_
      refine st_freeze (fun τ71 hl72 hg73 => ?_)
      have hs74 := ho70.freeze hl72 hg73
      refine st_ord [] _ rfl ?_
      exact hk38 _ _ _ ⟨((([] : List Int) ++ q26).set a1.2.2.1.toNat (ixor .u8 q57 (IntKind.u8.wrap a1.2.2.2.1))), _, h, (hl64.trans hl72), rfl, rfl, hs74⟩
     ·refine Z 2 rfl ?_
      refine st_freeze (fun τ76 hl77 hg78 => ?_)
      have hs79 := ho35.freeze hl77 hg78
      refine st_ord [] _ rfl ?_
      exact hk38 _ _ _ ⟨(([] : List Int) ++ q26), _, h, hl77, rfl, rfl, hs79⟩
    ·refine Z 2 rfl ?_
     refine st_freeze (fun τ82 hl83 hg84 => ?_)
     have hs85 := ho35.freeze hl83 hg84
     refine st_ord [] _ rfl ?_
     exact hk38 _ _ _ ⟨(([] : List Int) ++ q26), _, h, hl83, rfl, rfl, hs85⟩
theorem noise_Each_1_ok {c0 : List (Int × Int × Int × Int × List Int)} {c1 : List (List Int)} {bc0 : Nat} {v1 : Value} {bc1 : Nat} {v3 : Value} {σ0 : Sto} (hc0_0 : Cel σ0 ⟨bc0, 0, none⟩ (v1)) (hs2 : Sl (kP (kI .i64) (kP (kI .i64) (kP (kI .i64) (kP (kI .i64) (kSl (kI .u8)))))) σ0 v1 c0) (hc1_0 : Cel σ0 ⟨bc1, 0, none⟩ (v3)) (hs4 : Sl (kSl (kI .u8)) σ0 v3 c1) :
    IterV Tryd.prog (fun τ x vx => ∃ (v29 : Value), vx = [.int .i64 x.1, v29] ∧ Sl (kI .u8) τ v29 x.2) (.func (.func 64) #[] [.pointer (some ⟨bc0, 0, none⟩), .pointer (some ⟨bc1, 0, none⟩)].toArray) σ0 [] (fun (_ : Unit) _ f => f = []) (noise_Each_1 c0 c1) := by
 intro S Y I y hyc hyo hIm hY s s' o hR σ g hle hIg
 obtain ⟨r, hr0⟩ : ∃ r, r = (s', o) := ⟨_, rfl⟩
 rw [← hr0] at hR
 have h := hR
 refine callV_of (caps := [.pointer (some ⟨bc0, 0, none⟩), .pointer (some ⟨bc1, 0, none⟩)]) z_en64 ?_
 refine call_of Tryd.func64 Tryd.ntmps64 rfl rfl (fun cs fs => ?_)
 refine st_ord [0] _ rfl ?_
 refine Z 5 rfl ?_
 refine o_loadI (v := v1) rfl rfl rfl z_sc49 rfl (Cel.up hc0_0 hle) ?_
 refine o_lenI rfl rfl rfl z_slT49 rfl (hs2.up hle) ?_
 refine Z 2 rfl ?_
 obtain ⟨e5, hL5, hA5⟩ := h
 refine st_loop hL5 (fun (s5 : S × Int) ρ τ5 gs => σ.Le τ5 ∧ ∃ (g6 : Grp), ESub ρ [(0, y), (2, .pointer (some ⟨bc1, 0, none⟩)), (6, v1), (7, .int .i64 (c0.length : Int)), (8, .int .i64 s5.2)] ∧ gs = [g6] ∧ I s5.1 τ5 g6) ⟨Sto.Le.refl _, g, rfl, rfl, hIg⟩ ?_
 rintro s5 o5 h he5 ρ5 τ5 gs5 ⟨hl5, g6, hρ, rfl, hI7⟩ hn5
 refine st_es hρ ?_
 refine Z 5 rfl ?_
 refine st_if rfl h (fun h => ?_) (fun h => ?_)
 ·refine Z 6 rfl ?_
  obtain ⟨q8, hf9, h⟩ := h
  refine o_index rfl rfl rfl z_slT49 rfl rfl (hs2.up (hle.trans hl5)) rfl hf9 (fun b10 of11 vs hc13 hrep => ?_)
  obtain ⟨_, _, rfl, rfl, ⟨_, _, rfl, rfl, ⟨_, _, rfl, rfl, ⟨_, _, rfl, rfl, ⟨v12, rfl, hs14⟩⟩⟩⟩⟩ := hrep
  refine o_loadIN (vs := [.int .i64 q8.1, .int .i64 q8.2.1, .int .i64 q8.2.2.1, .int .i64 q8.2.2.2.1, v12]) rfl rfl rfl z_agg52 rfl rfl (celn_part 0 rfl hc13) ?_
  refine o_alloc rfl rfl rfl z_zero52 (fun b15 => ?_)
  refine o_assign rfl rfl rfl rfl ?_
  refine o_store (j := 0) (vs := [.int .i64 q8.1, .int .i64 q8.2.1, .int .i64 q8.2.2.1, .int .i64 q8.2.2.2.1, v12]) (cs' := [.int .i64 q8.1, .int .i64 q8.2.1, .int .i64 q8.2.2.1, .int .i64 q8.2.2.2.1, v12]) rfl rfl rfl z_size52 rfl rfl rfl (ones_cons rfl (ones_cons rfl (ones_cons rfl (ones_cons rfl (ones_cons hs14.one' ones_nil))))) rfl rfl rfl ?_
  refine st_gs [[(b15, .cells #[.int .i64 q8.1, .int .i64 q8.2.1, .int .i64 q8.2.2.1, .int .i64 q8.2.2.2.1, v12] 52 (0, 0))], g6] rfl ?_
  refine Z 5 rfl ?_
  refine o_loadI (v := v3) rfl rfl rfl z_sc48 rfl (Cel.up hc1_0 (hle.trans hl5)) ?_
  refine ZZ 1 [0] rfl rfl ?_
  obtain ⟨r16, hr17, h⟩ := h
  refine st_call (foot := []) rfl rfl rfl rfl rfl rfl (callV_fn z_en26 (noise_Bytes_ok hr17 τ5 (hs4.up (hle.trans hl5)) hs14)) ?_
  rintro vτ18 τ18 gsτ18 hl19 ⟨v20, rfl, rfl, hs21⟩
  obtain ⟨y22, u23, hy24, h⟩ := h
  refine st_ord [1, 0] _ rfl ?_
  refine st_call (foot := [g6]) rfl rfl rfl rfl rfl rfl (hY (s5.2, r16) s5.1 _ _ _ _ _ (hle.trans (hl5.trans hl19)) hy24 ⟨_, rfl, hs21⟩ (hIm _ _ _ _ hl19 hI7)) ?_
  rintro vτ25 τ25 gsτ25 hl26 ⟨rfl, g27, rfl, hI28⟩
  refine Z 2 rfl ?_
  refine st_if rfl h (fun h => ?_) (fun h => ?_)
  ·refine Z 2 rfl ?_
   refine st_ord [0] _ rfl ?_
   obtain rfl := he5 _ h
   replace h := hA5
   obtain rfl := Eq.symm h
   cases hr0
   exact st_fin (gs' := [g27, []]) Tryd.func64 rfl (by simp) ((hl5.trans hl19).trans hl26) ⟨g27, _, rfl, hI28, rfl⟩
  ·refine Z 6 rfl ?_
   refine st_ord [0] _ rfl ?_
   exact hn5 _ _ _ _ h ⟨((hl5.trans hl19).trans hl26), g27, rfl, rfl, hI28⟩
 ·refine Z 2 rfl ?_
  obtain rfl := he5 _ h
  replace h := hA5
  obtain rfl := Eq.symm h
  cases hr0
  exact st_fin (gs' := [g6, []]) Tryd.func64 rfl (by simp) hl5 ⟨g6, _, rfl, hI7, rfl⟩
theorem noise_Each_ok {a0 : List (List Int)} {a1 : List (Int × Int × Int × Int × List Int)} {v1 : Value} {v3 : Value} {r : (((S : Type) → ((Int × List Int) → S → Bool × S → Prop) → S → S × Unit → Prop))} (h : noise_Each a0 a1 r) (σ : Sto) (hs2 : Sl (kSl (kI .u8)) σ v1 a0) (hs4 : Sl (kP (kI .i64) (kP (kI .i64) (kP (kI .i64) (kP (kI .i64) (kSl (kI .u8)))))) σ v3 a1) :
    Does Tryd.prog 27 [v1, v3] σ [] (fun v τ gs => ∃ (f13 : Nat) (q14 : Array Value), gs = [] ∧ .func (.func f13) #[] q14 = v ∧ IterV Tryd.prog (fun τ x vx => ∃ (v31 : Value), vx = [.int .i64 x.1, v31] ∧ Sl (kI .u8) τ v31 x.2) (.func (.func f13) #[] q14) τ [] (fun (_ : Unit) _ f => f = []) r) := by
 refine call_of Tryd.func27 Tryd.ntmps27 rfl rfl (fun cs fs => ?_)
 refine Z 2 rfl ?_
 refine o_box (cs := [v1]) rfl rfl rfl rfl (oneL_sl hs2) (fun b5 => ?_)
 refine o_box (cs := [v3]) rfl rfl rfl rfl (oneL_sl hs4) (fun b6 => ?_)
 refine Z 4 rfl ?_
 refine st_freeze (fun τ7 hl8 hg9 => ?_)
 refine st_freeze (fun τ10 hl11 hg12 => ?_)
 refine Z 3 rfl ?_
 obtain rfl := Eq.symm h
 exact st_ret (gs' := []) Tryd.func27 rfl (List.Sublist.refl _) (hl8.trans hl11) ⟨_, _, rfl, rfl, (noise_Each_1_ok (Cel.up (cel_of hg9 rfl) hl11) (hs4.up (hl8.trans hl11)) (cel_of hg12 rfl) (hs2.up (hl8.trans hl11)))⟩
theorem noise_Run_ok {a0 : List (List Int)} {a1 : List (Int × Int × Int × Int × List Int)} {v1 : Value} {v3 : Value} {r : List Int} (h : noise_Run a0 a1 r) (σ : Sto) (hs2 : Sl (kSl (kI .u8)) σ v1 a0) (hs4 : Sl (kP (kI .i64) (kP (kI .i64) (kP (kI .i64) (kP (kI .i64) (kSl (kI .u8)))))) σ v3 a1) :
    Does Tryd.prog 29 [v1, v3] σ [] (fun v τ gs => ∃ (v36 : Value), gs = [] ∧ v36 = v ∧ Sl (kI .u8) τ v36 r) := by
 refine call_of Tryd.func29 Tryd.ntmps29 rfl rfl (fun cs fs => ?_)
 refine Z 6 rfl ?_
 refine o_alloc rfl rfl rfl z_zero22 (fun b5 => ?_)
 refine Z 6 rfl ?_
 obtain ⟨r6, hr7, h⟩ := h
 refine st_call (foot := []) rfl rfl rfl rfl rfl rfl (callV_fn z_en27 (noise_Each_ok hr7 σ hs2 hs4)) ?_
 rintro vτ8 τ8 gsτ8 hl9 ⟨f10, q11, rfl, rfl, hit12⟩
 refine Z 2 rfl ?_
 obtain ⟨t13, w13, hR13, hA13⟩ := h
 refine st_env (ρ' := [(4, .slice none 0 0), (5, .pointer (some ⟨b5, 0, none⟩)), (10, .func (.func f10) #[] q11)]) ⟨rfl, rfl, rfl, trivial⟩ ?_
 refine st_addNil ?_
 refine st_ord [1, 0] _ rfl ?_
 refine st_addNil ?_
 refine st_range (B := noise_Run_l1) (s0 := []) ranges_fctx rfl hit12 (Sto.Le.refl _) hR13 rfl (fun _ _ _ h => by obtain ⟨_, rfl, _⟩ := h; rfl) (fun (s13 : List Int) τ13 gs => τ8.Le τ13 ∧ ∃ (v14 : Value) (g15 : Grp), gs = [[(b5, .cells #[v14] 22 (0, 0))], g15] ∧ Ow (kI .u8) 5 τ13 v14 s13 g15) (fun _ _ _ _ => False) (fun _ _ _ _ hl ⟨hb, v14, g15, hg, ho16⟩ => ⟨hb.trans hl, v14, g15, hg, ho16.up hl⟩) (fun _ _ _ _ _ _ h => h.elim) ⟨Sto.Le.refl _, _, _, rfl, Ow.nil⟩ ?_ ?_ ?_
 ·rintro x13 s13 o13 τ13 gs13 vx13 hl13 h ⟨v17, rfl, hs18⟩ ⟨hb13, v14, g15, rfl, ho16⟩ l13 rc13 caller13 cs13 fs13
  refine Z 3 rfl ?_
  refine st_begin ?_
  refine ZZ 4 [0] rfl rfl ?_
  obtain ⟨hf22, hf23, h⟩ := h
  refine st_ord [1, 0] _ rfl ?_
  refine o_append (dk := (kI .u8)) (xs := s13) (ys := x13.2) rfl rfl rfl rfl z_slT22 rfl ho16 rfl (Sl.src hs18) hf22 hf23 (fun v19 g20 ho21 => ?_)
  refine o_store (j := 1) (vs := [v19]) (cs' := [v19]) rfl rfl rfl z_size22 rfl rfl (oneL_ow ho21) (ones_cons ho21.one' ones_nil) rfl rfl rfl ?_
  refine st_gs [g20, [(b5, .cells #[v19] 22 (0, 0))]] rfl ?_
  refine Z 2 rfl ?_
  refine st_ord [1, 0] _ rfl ?_
  exact st_rend (List.Sublist.refl _) (Sto.Le.refl _) ⟨_, h, hl13, _, _, rfl, ho21⟩
 ·rintro p24 τ25 gs13 f13 ht hl26 ⟨hb, v27, g28, rfl, ho29⟩ rfl
  subst ht
  replace h := hA13
  refine st_ord [1, 1] _ rfl ?_
  refine ZZ 6 [0] rfl rfl ?_
  refine st_ord [1, 0] _ rfl ?_
  refine st_freeze (fun τ30 hl31 hg32 => ?_)
  have hs33 := ho29.freeze hl31 hg32
  refine st_ord [] _ rfl ?_
  obtain rfl := Eq.symm h
  exact st_ret (gs' := []) Tryd.func29 rfl (List.Sublist.refl _) ((hl9.trans hl26).trans hl31) ⟨_, rfl, rfl, hs33⟩
 ·exact fun _ _ _ _ _ _ _ h => h.elim
theorem noise_unhex_ok {a0 : ByteArray} {r : List Int × Int} (h : noise_unhex a0 r) (σ : Sto)  :
    Does Tryd.prog 70 [.string a0] σ [] (fun v τ gs => ∃ (v40 : Value), gs = [] ∧ .tuple [v40, .int .i64 r.2].toArray = v ∧ Sl (kI .u8) τ v40 r.1) := by
 refine call_of Tryd.func70 Tryd.ntmps70 rfl rfl (fun cs fs => ?_)
 refine Z 13 rfl ?_
 refine o_sbin (v := .bool (decide (a0 = (bstr [45])))) rfl rfl rfl rfl (ev_str z_str4) rfl ?_
 refine st_end ?_
 refine st_if rfl h (fun h => ?_) (fun h => ?_)
 ·refine Z 5 rfl ?_
  obtain rfl := Eq.symm h
  exact st_ret (gs' := []) Tryd.func70 rfl (List.Sublist.refl _) (Sto.Le.refl _) ⟨_, rfl, rfl, Sl.nil⟩
 ·refine Z 3 rfl ?_
  refine st_cut (fun ρ τ1 gs => ∃ (s1 : Bool), noise_unhex_j1 a0 s1 r ∧ σ.Le τ1 ∧ ESub ρ [(0, .string a0), (2, .slice none 0 0), (3, .int .i64 0), (4, .slice none 0 0), (17, .bool s1)] ∧ gs = []) ?_ (fun hk1 => ?_)
  ·rintro ρ1 τ1 gs1 ⟨s1, h, hl1, hρ, rfl⟩
   refine st_es hρ ?_
   refine st_if rfl h (fun h => ?_) (fun h => ?_)
   ·refine Z 5 rfl ?_
    obtain rfl := Eq.symm h
    exact st_ret (gs' := []) Tryd.func70 rfl (List.Sublist.refl _) hl1 ⟨_, rfl, rfl, Sl.nil⟩
   ·refine Z 2 rfl ?_
    refine st_cut (fun ρ τ2 gs => ∃ (s2 : List Int) (v3 : Value) (g4 : Grp), noise_unhex_j2 s2 r ∧ τ1.Le τ2 ∧ ESub ρ [(2, .slice none 0 0), (3, .int .i64 0), (4, v3)] ∧ gs = [g4] ∧ Ow (kI .u8) 5 τ2 v3 s2 g4) ?_ (fun hk2 => ?_)
    ·rintro ρ2 τ2 gs2 ⟨s2, v3, g4, h, hl2, hρ, rfl, ho5⟩
     refine st_es hρ ?_
     refine Z 6 rfl ?_
     refine st_freeze (fun τ6 hl7 hg8 => ?_)
     have hs9 := ho5.freeze hl7 hg8
     obtain rfl := Eq.symm h
     exact st_ret (gs' := []) Tryd.func70 rfl (List.Sublist.refl _) ((hl1.trans hl2).trans hl7) ⟨_, rfl, rfl, hs9⟩
    refine Z 4 rfl ?_
    obtain ⟨e12, hL12, hA12⟩ := h
    refine st_addNil ?_
    refine st_loop hL12 (fun (s12 : List Int × Int) ρ τ12 gs => τ1.Le τ12 ∧ ∃ (v13 : Value) (g14 : Grp), ESub ρ [(0, .string a0), (2, .slice none 0 0), (3, .int .i64 0), (4, v13), (5, .int .i64 s12.2)] ∧ gs = [g14] ∧ Ow (kI .u8) 5 τ12 v13 s12.1 g14) ⟨Sto.Le.refl _, _, _, rfl, rfl, Ow.nil⟩ ?_
    rintro s12 o12 h he12 ρ12 τ12 gs12 ⟨hl12, v13, g14, hρ, rfl, ho15⟩ hn12
    refine st_es hρ ?_
    refine Z 8 rfl ?_
    refine st_if rfl h (fun h => ?_) (fun h => ?_)
    ·refine Z 4 rfl ?_
     obtain ⟨q16, hf17, r18, hr19, q22, hf23, r24, hr25, h⟩ := h
     refine st_draw 10 (dl [.v (.string a0), .v (.int .i64 s12.2), .v (.int .u8 q16), .v (.int .i64 r18), .v (.string a0), .v (.int .i64 s12.2), .v (.int .i64 (IntKind.i64.wrap (s12.2 + 1))), .v (.int .u8 q22), .v (.int .i64 r24), .v (.int .i64 r18)]) (fun _ _ => []) z_mix rfl (dl_mono trivial) (allB_cons (allB_cons (allB_cons (allB_cons (allB_cons (allB_cons (allB_cons (allB_cons (allB_cons (allB_cons allB_nil (p1 dA)) (p1 dA)) ?_) ?_) (p1 dA)) (p1 dA)) (p1 dA)) ?_) ?_) (p1 dA)) ?_
     ·intro ρ' τ pool rs hl hd hout hk
      obtain ⟨_, e0, rfl⟩ := hd 0 rfl
      obtain ⟨_, e1, rfl⟩ := hd 1 rfl
      refine o_indexS rfl rfl rfl Tryd.underlying9 e0 e1 hf17 ?_
      exact st_addNil (hk _ _ (Sto.Le.refl _) rfl)
     ·intro ρ' τ pool rs hl hd hout hk
      obtain ⟨_, e2, rfl⟩ := hd 2 rfl
      refine st_call (foot := []) rfl rfl rfl rfl (evs_cons (ev_str z_str1) (evs_cons e2 rfl)) rfl (callV_fn z_en73 (strings_IndexByte_ok hr19 τ)) ?_
      rintro vτ20 τ20 gsτ20 hl21 ⟨rfl, rfl⟩
      exact st_addNil (hk _ _ hl21 rfl)
     ·intro ρ' τ pool rs hl hd hout hk
      obtain ⟨_, e4, rfl⟩ := hd 4 rfl
      obtain ⟨_, e6, rfl⟩ := hd 6 rfl
      refine o_indexS rfl rfl rfl Tryd.underlying9 e4 e6 hf23 ?_
      exact st_addNil (hk _ _ (Sto.Le.refl _) rfl)
     ·intro ρ' τ pool rs hl hd hout hk
      obtain ⟨_, e7, rfl⟩ := hd 7 rfl
      refine st_call (foot := []) rfl rfl rfl rfl (evs_cons (ev_str z_str1) (evs_cons e7 rfl)) rfl (callV_fn z_en73 (strings_IndexByte_ok hr25 τ)) ?_
      rintro vτ26 τ26 gsτ26 hl27 ⟨rfl, rfl⟩
      exact st_addNil (hk _ _ hl27 rfl)
     intro ρ' τ28 vals hl28 hv hout
     refine st_ord [0] _ rfl ?_
     refine st_env (ρ' := [(32, .int .i64 r24), (6, .int .i64 r18), (0, .string a0), (2, .slice none 0 0), (3, .int .i64 0), (4, v13), (5, .int .i64 s12.2)]) ⟨(lv1 hv 8 rfl rfl), (lv1 hv 9 rfl rfl), (hout 0 rfl).trans rfl, (hout 2 rfl).trans rfl, (hout 3 rfl).trans rfl, (hout 4 rfl).trans rfl, (hout 5 rfl).trans rfl, trivial⟩ ?_
     refine Z 4 rfl ?_
     refine st_cut (fun ρ τ29 gs => ∃ (s29 : Bool), noise_unhex_j4 s12 r18 r24 s29 o12 ∧ τ28.Le τ29 ∧ ESub ρ [(6, .int .i64 r18), (0, .string a0), (2, .slice none 0 0), (3, .int .i64 0), (4, v13), (5, .int .i64 s12.2), (7, .int .i64 r24), (38, .bool s29)] ∧ gs = [g14]) ?_ (fun hk29 => ?_)
     ·rintro ρ29 τ29 gs29 ⟨s29, h, hl29, hρ, rfl⟩
      refine st_es hρ ?_
      refine st_if rfl h (fun h => ?_) (fun h => ?_)
      ·refine Z 5 rfl ?_
       refine st_ord [] _ rfl ?_
       obtain rfl := he12 _ h
       replace h := hA12
       obtain rfl := Eq.symm h
       exact st_ret (gs' := []) Tryd.func70 rfl (List.Sublist.refl _) (((hl1.trans hl12).trans hl28).trans hl29) ⟨_, rfl, rfl, Sl.nil⟩
      ·refine Z 8 rfl ?_
       refine o_litE (eI .u8) [(IntKind.u8.wrap (ior .i64 (ishl .i64 r18 4) r24))] rfl rfl rfl z_slT22 z_zero5 ⟨rfl, ⟨_, rfl, rfl⟩, trivial⟩ rfl rfl rfl rfl (fun v30 g31 ho32 => ?_)
       obtain ⟨hf36, hf37, h⟩ := h
       refine st_ord [1, 0] _ rfl ?_
       refine o_append (dk := (kI .u8)) (xs := s12.1) (ys := [(IntKind.u8.wrap (ior .i64 (ishl .i64 r18 4) r24))]) rfl rfl rfl rfl z_slT22 rfl (ho15.up (hl28.trans hl29)) rfl (Ow.src (j := 1) ho32 rfl) hf36 hf37 (fun v33 g34 ho35 => ?_)
       refine Z 8 rfl ?_
       refine st_ord [0] _ rfl ?_
       exact hn12 _ _ _ _ h ⟨((hl12.trans hl28).trans hl29), _, _, rfl, rfl, ho35⟩
     refine Z 3 rfl ?_
     refine o_mif rfl rfl rfl rfl h (fun h => ?_) (fun h => ?_)
     ·refine Z 4 rfl ?_
      exact hk29 _ _ _ ⟨true, h, (Sto.Le.refl _), rfl, rfl⟩
     ·refine Z 4 rfl ?_
      exact hk29 _ _ _ ⟨(decide (r24 < 0)), h, (Sto.Le.refl _), rfl, rfl⟩
    ·refine st_exit rfl ?_
     obtain rfl := he12 _ h
     replace h := hA12
     exact hk2 _ _ _ ⟨s12.1, _, _, h, hl12, rfl, rfl, ho15⟩
  refine Z 2 rfl ?_
  refine o_sbin (v := .bool (decide (a0 = (bstr [])))) rfl rfl rfl rfl (ev_str z_str0) rfl ?_
  refine o_mif rfl rfl rfl rfl h (fun h => ?_) (fun h => ?_)
  ·refine Z 6 rfl ?_
   exact hk1 _ _ _ ⟨true, h, (Sto.Le.refl _), rfl, rfl⟩
  ·refine Z 6 rfl ?_
   exact hk1 _ _ _ ⟨(!(decide (((a0.size : Int).tmod 2) = 0))), h, (Sto.Le.refl _), rfl, rfl⟩
theorem noise_Parse_ok {a0 : ByteArray} {r : (Int × Int × Int × Int × List Int) × Int} (h : noise_Parse a0 r) (σ : Sto) (hE : Errs Tryd.prog σ) :
    Does Tryd.prog 43 [.string a0] σ [] (fun v τ gs => ∃ (v77 : Value), gs = [] ∧ .tuple [.agg [.int .i64 r.1.1, .int .i64 r.1.2.1, .int .i64 r.1.2.2.1, .int .i64 r.1.2.2.2.1, v77].toArray, .int .i64 r.2].toArray = v ∧ Sl (kI .u8) τ v77 r.1.2.2.2.2) := by
 refine call_of Tryd.func43 Tryd.ntmps43 rfl rfl (fun cs fs => ?_)
 refine Z 2 rfl ?_
 refine o_alloc rfl rfl rfl z_zero52 (fun b1 => ?_)
 refine Z 5 rfl ?_
 refine o_alloc rfl rfl rfl z_zero98 (fun b2 => ?_)
 refine Z 5 rfl ?_
 obtain ⟨r3, hr4, h⟩ := h
 refine st_call (foot := []) rfl rfl rfl rfl rfl rfl (callV_fn z_en58 (say_Words_ok hr4 σ)) ?_
 rintro vτ5 τ5 gsτ5 hl6 ⟨f7, q8, rfl, rfl, hit9⟩
 refine Z 2 rfl ?_
 obtain ⟨t10, w10, hR10, hA10⟩ := h
 refine st_env (ρ' := [(2, .pointer (some ⟨b1, 0, none⟩)), (3, .int .i64 0), (4, .pointer (some ⟨b2, 0, none⟩)), (16, .func (.func f7) #[] q8)]) ⟨rfl, rfl, rfl, rfl, trivial⟩ ?_
 refine st_addNil ?_
 refine st_ord [2, 1, 0] _ rfl ?_
 refine st_addNil ?_
 refine st_range (B := noise_Parse_l1) (s0 := []) ranges_fctx rfl hit9 (Sto.Le.refl _) hR10 rfl (fun _ _ _ h => by cases h; rfl) (fun (s10 : List ByteArray) τ10 gs => τ5.Le τ10 ∧ ∃ (v11 : Value) (g12 : Grp), gs = [[(b1, .cells #[.int .i64 0, .int .i64 0, .int .i64 0, .int .i64 0, .slice none 0 0] 52 (0, 0))], [(b2, .cells #[v11] 98 (0, 0))], g12] ∧ Ow kS 9 τ10 v11 s10 g12) (fun _ _ _ _ => False) (fun _ _ _ _ hl ⟨hb, v11, g12, hg, ho13⟩ => ⟨hb.trans hl, v11, g12, hg, ho13.up hl⟩) (fun _ _ _ _ _ _ h => h.elim) ⟨Sto.Le.refl _, _, _, rfl, Ow.nil⟩ ?_ ?_ ?_
 ·rintro x10 s10 o10 τ10 gs10 vx10 hl10 h rfl ⟨hb10, v11, g12, rfl, ho13⟩ l10 rc10 caller10 cs10 fs10
  refine Z 3 rfl ?_
  refine st_begin ?_
  refine ZZ 4 [1] rfl rfl ?_
  refine o_litE eS [x10.2] rfl rfl rfl z_slT98 z_zero9 ⟨rfl, ⟨_, rfl, rfl⟩, trivial⟩ rfl rfl rfl rfl (fun v14 g15 ho16 => ?_)
  obtain ⟨hf20, hf21, h⟩ := h
  refine st_ord [3, 0, 0, 0] _ rfl ?_
  refine o_append (dk := kS) (xs := s10) (ys := [x10.2]) rfl rfl rfl rfl z_slT98 rfl ho13 rfl (Ow.src (j := 1) ho16 rfl) hf20 hf21 (fun v17 g18 ho19 => ?_)
  refine o_store (j := 3) (vs := [v17]) (cs' := [v17]) rfl rfl rfl z_size98 rfl rfl (oneL_ow ho19) (ones_cons ho19.one' ones_nil) rfl rfl rfl ?_
  refine st_gs [g18, g15, [(b1, .cells #[.int .i64 0, .int .i64 0, .int .i64 0, .int .i64 0, .slice none 0 0] 52 (0, 0))], [(b2, .cells #[v17] 98 (0, 0))]] rfl ?_
  refine Z 2 rfl ?_
  refine st_ord [2, 2, 0] _ rfl ?_
  exact st_rend (List.Sublist.refl _) (Sto.Le.refl _) ⟨_, h, hl10, _, _, rfl, ho19⟩
 ·rintro p22 τ23 gs10 f10 ht hl24 ⟨hb, v25, g26, rfl, ho27⟩ rfl
  subst ht
  replace h := hA10
  refine st_ord [1, 1, 1] _ rfl ?_
  refine Z 3 rfl ?_
  refine o_alloc rfl rfl rfl z_zero52 (fun b28 => ?_)
  refine Z 6 rfl ?_
  refine st_cut (fun ρ τ29 gs => ∃ (s29 : Int × Int), noise_Parse_j2 p22 s29 r ∧ τ23.Le τ29 ∧ ESub ρ [(2, .pointer (some ⟨b1, 0, none⟩)), (3, .int .i64 0), (4, .pointer (some ⟨b2, 0, none⟩)), (7, .pointer (some ⟨b28, 0, none⟩)), (8, .int .i64 s29.1)] ∧ gs = [[(b1, .cells #[.int .i64 0, .int .i64 0, .int .i64 0, .int .i64 0, .slice none 0 0] 52 (0, 0))], [(b2, .cells #[v25] 98 (0, 0))], [(b28, .cells #[.int .i64 s29.2, .int .i64 0, .int .i64 0, .int .i64 0, .slice none 0 0] 52 (0, 0))], g26]) ?_ (fun hk29 => ?_)
  ·rintro ρ29 τ29 gs29 ⟨s29, h, hl29, hρ, rfl⟩
   refine st_es hρ ?_
   refine Z 5 rfl ?_
   refine st_cut (fun ρ τ30 gs => ∃ (s30 : Int × List Int) (v31 : Value), noise_Parse_j3 p22 s29 s30 r ∧ τ29.Le τ30 ∧ ESub ρ [(2, .pointer (some ⟨b1, 0, none⟩)), (3, .int .i64 0), (4, .pointer (some ⟨b2, 0, none⟩)), (7, .pointer (some ⟨b28, 0, none⟩)), (8, .int .i64 s29.1), (12, .int .i64 s30.1)] ∧ gs = [[(b1, .cells #[.int .i64 0, .int .i64 0, .int .i64 0, .int .i64 0, .slice none 0 0] 52 (0, 0))], [(b2, .cells #[v25] 98 (0, 0))], [(b28, .cells #[.int .i64 s29.2, .int .i64 0, .int .i64 0, .int .i64 0, v31] 52 (0, 0))], g26] ∧ Sl (kI .u8) τ30 v31 s30.2) ?_ (fun hk30 => ?_)
   ·rintro ρ30 τ30 gs30 ⟨s30, v31, h, hl30, hρ, rfl, hs32⟩
    refine st_es hρ ?_
    refine Z 6 rfl ?_
    refine st_if rfl h (fun h => ?_) (fun h => ?_)
    ·refine ZZ 7 [0] rfl rfl ?_
     obtain rfl := Eq.symm h
     exact st_retC (gs' := []) [.agg #[.int .i64 0, .int .i64 0, .int .i64 0, .int .i64 0, .slice none 0 0], .int .i64 s30.1] Tryd.func43 ⟨⟨_, _, _, _, rfl, mem_flat 0 rfl, fun w hw => cellOfN (vs := [.int .i64 0, .int .i64 0, .int .i64 0, .int .i64 0, .slice none 0 0]) z_agg52 rfl w hw⟩, rfl, trivial⟩ (by simp) (((hl6.trans hl24).trans hl29).trans hl30) ⟨_, rfl, rfl, Sl.nil⟩
    ·refine Z 4 rfl ?_
     refine st_cut (fun ρ τ33 gs => ∃ (s33 : Int × Int × Int), noise_Parse_j4 s29 s30 s33 r ∧ τ30.Le τ33 ∧ ESub ρ [(2, .pointer (some ⟨b1, 0, none⟩)), (3, .int .i64 0), (7, .pointer (some ⟨b28, 0, none⟩))] ∧ gs = [[(b1, .cells #[.int .i64 0, .int .i64 0, .int .i64 0, .int .i64 0, .slice none 0 0] 52 (0, 0))], [(b28, .cells #[.int .i64 s29.2, .int .i64 s33.1, .int .i64 s33.2.1, .int .i64 s33.2.2, v31] 52 (0, 0))]]) ?_ (fun hk33 => ?_)
     ·rintro ρ33 τ33 gs33 ⟨s33, h, hl33, hρ, rfl⟩
      refine st_es hρ ?_
      refine ZZ 3 [1] rfl rfl ?_
      refine o_store (j := 0) (vs := [.int .i64 s29.2, .int .i64 s33.1, .int .i64 s33.2.1, .int .i64 s33.2.2, v31]) (cs' := [.int .i64 s29.2, .int .i64 s33.1, .int .i64 s33.2.1, .int .i64 s33.2.2, v31]) rfl rfl rfl z_size52 rfl rfl rfl (ones_cons rfl (ones_cons rfl (ones_cons rfl (ones_cons rfl (ones_cons (hs32.up hl33).one' ones_nil))))) rfl rfl rfl ?_
      refine st_gs [[(b1, .cells #[.int .i64 s29.2, .int .i64 s33.1, .int .i64 s33.2.1, .int .i64 s33.2.2, v31] 52 (0, 0))], [(b28, .cells #[.int .i64 s29.2, .int .i64 s33.1, .int .i64 s33.2.1, .int .i64 s33.2.2, v31] 52 (0, 0))]] rfl ?_
      refine Z 2 rfl ?_
      obtain rfl := Eq.symm h
      exact st_retC (gs' := []) [.agg #[.int .i64 s29.2, .int .i64 s33.1, .int .i64 s33.2.1, .int .i64 s33.2.2, v31], .int .i64 0] Tryd.func43 ⟨⟨_, _, _, _, rfl, mem_flat 0 rfl, fun w hw => cellOfN (vs := [.int .i64 s29.2, .int .i64 s33.1, .int .i64 s33.2.1, .int .i64 s33.2.2, v31]) z_agg52 rfl w hw⟩, rfl, trivial⟩ (by simp) ((((hl6.trans hl24).trans hl29).trans hl30).trans hl33) ⟨_, rfl, rfl, (hs32.up hl33)⟩
     refine Z 5 rfl ?_
     refine o_buildA (ps := [(0, [.pointer (some ⟨b28, 1, none⟩)]), (1, [.pointer (some ⟨b28, 2, none⟩)]), (2, [.pointer (some ⟨b28, 3, none⟩)])]) (cs := [.pointer (some ⟨b28, 1, none⟩), .pointer (some ⟨b28, 2, none⟩), .pointer (some ⟨b28, 3, none⟩)]) rfl rfl rfl z_arrz117 ⟨rfl, ⟨_, rfl, rfl⟩, ⟨rfl, ⟨_, rfl, rfl⟩, ⟨rfl, ⟨_, rfl, rfl⟩, trivial⟩⟩⟩ (fill_all [.pointer (some ⟨b28, 1, none⟩), .pointer (some ⟨b28, 2, none⟩), .pointer (some ⟨b28, 3, none⟩)] _ rfl) ?_
     refine Z 2 rfl ?_
     obtain ⟨e34, hL34, hA34⟩ := h
     refine st_loop hL34 (fun (s34 : Int × Int × Int × Int) ρ τ34 gs => τ30.Le τ34 ∧ ESub ρ [(2, .pointer (some ⟨b1, 0, none⟩)), (3, .int .i64 0), (4, .pointer (some ⟨b2, 0, none⟩)), (7, .pointer (some ⟨b28, 0, none⟩)), (8, .int .i64 s29.1), (69, .agg #[.pointer (some ⟨b28, 1, none⟩), .pointer (some ⟨b28, 2, none⟩), .pointer (some ⟨b28, 3, none⟩)]), (70, .int .i64 s34.1)] ∧ gs = [[(b1, .cells #[.int .i64 0, .int .i64 0, .int .i64 0, .int .i64 0, .slice none 0 0] 52 (0, 0))], [(b2, .cells #[v25] 98 (0, 0))], [(b28, .cells #[.int .i64 s29.2, .int .i64 s34.2.1, .int .i64 s34.2.2.1, .int .i64 s34.2.2.2, v31] 52 (0, 0))], g26]) ⟨Sto.Le.refl _, rfl, rfl⟩ ?_
     rintro s34 o34 h he34 ρ34 τ34 gs34 ⟨hl34, hρ, rfl⟩ hn34
     refine st_es hρ ?_
     refine Z 5 rfl ?_
     refine st_if rfl h (fun h => ?_) (fun h => ?_)
     ·refine Z 6 rfl ?_
      obtain ⟨hf35, hf36, h⟩ := h
      refine o_indexP (b := b28) (o := 1) (l := 3) (cs := [.pointer (some ⟨b28, 1, none⟩), .pointer (some ⟨b28, 2, none⟩), .pointer (some ⟨b28, 3, none⟩)]) rfl rfl rfl z_arr117 z_sc116 rfl rfl rfl hf35 hf36 ?_
      refine Z 10 rfl ?_
      refine st_if rfl h (fun h => ?_) (fun h => ?_)
      ·refine st_exit rfl ?_
       obtain rfl := he34 _ h
       replace h := hA34
       refine st_ord [0, 1] _ rfl ?_
       exact hk33 _ _ _ ⟨(s34.2.1, s34.2.2.1, s34.2.2.2), h, hl34, rfl, rfl⟩
      ·refine ZZ 7 [1] rfl rfl ?_
       obtain ⟨q37, hf38, h⟩ := h
       refine o_indexOw rfl rfl rfl z_slT98 rfl rfl (ho27.up ((hl29.trans hl30).trans hl34)) rfl hf38 (fun b39 hb40 => ?_)
       obtain ⟨vs41, hrep42, hat43⟩ := Ow.at (ho27.up ((hl29.trans hl30).trans hl34)) hb40 hf38
       obtain rfl := hrep42
       refine o_loadOw (off := 0) (j := 3) (v := .string q37) rfl rfl rfl z_sc9 rfl hat43 rfl rfl ?_
       obtain ⟨r44, hr45, h⟩ := h
       refine st_call (foot := []) rfl rfl rfl rfl rfl rfl (callV_fn z_en59 (say_Read_ok hr45 τ34 (hE.up ((((hl6.trans hl24).trans hl29).trans hl30).trans hl34)))) ?_
       rintro vτ46 τ46 gsτ46 hl47 ⟨rfl, rfl⟩
       refine Z 4 rfl ?_
       refine o_storeV (j := 2) (s34.1.toNat) (f := (Value.int .i64)) (zz := 0) (a := r44.1) (l := 3) (xs := [s34.2.1, s34.2.2.1, s34.2.2.2]) [.int .i64 s29.2] [v31] rfl rfl rfl z_size3 rfl rfl rfl rfl rfl (by simp only [List.length_cons, List.length_nil] <;> omega) (by omega) ?_
       refine st_gs [[(b1, .cells #[.int .i64 0, .int .i64 0, .int .i64 0, .int .i64 0, .slice none 0 0] 52 (0, 0))], [(b2, .cells #[v25] 98 (0, 0))], [(b28, .cells #[.int .i64 s29.2, .int .i64 ((putN 3 0 [s34.2.1, s34.2.2.1, s34.2.2.2] s34.1.toNat r44.1).getD 0 0), .int .i64 ((putN 3 0 [s34.2.1, s34.2.2.1, s34.2.2.2] s34.1.toNat r44.1).getD 1 0), .int .i64 ((putN 3 0 [s34.2.1, s34.2.2.1, s34.2.2.2] s34.1.toNat r44.1).getD 2 0), v31] 52 (0, 0))], g26] rfl ?_
       refine Z 7 rfl ?_
       refine st_if rfl h (fun h => ?_) (fun h => ?_)
       ·refine ZZ 7 [0] rfl rfl ?_
        obtain rfl := he34 _ h
        replace h := hA34
        obtain rfl := Eq.symm h
        exact st_retC (gs' := []) [.agg #[.int .i64 0, .int .i64 0, .int .i64 0, .int .i64 0, .slice none 0 0], .int .i64 r44.2] Tryd.func43 ⟨⟨_, _, _, _, rfl, mem_flat 0 rfl, fun w hw => cellOfN (vs := [.int .i64 0, .int .i64 0, .int .i64 0, .int .i64 0, .slice none 0 0]) z_agg52 rfl w hw⟩, rfl, trivial⟩ (by simp) (((((hl6.trans hl24).trans hl29).trans hl30).trans hl34).trans hl47) ⟨_, rfl, rfl, Sl.nil⟩
       ·refine Z 6 rfl ?_
        exact hn34 _ _ _ _ h ⟨(hl34.trans hl47), rfl, rfl⟩
     ·refine st_exit rfl ?_
      obtain rfl := he34 _ h
      replace h := hA34
      refine st_ord [0, 1] _ rfl ?_
      exact hk33 _ _ _ ⟨(s34.2.1, s34.2.2.1, s34.2.2.2), h, hl34, rfl, rfl⟩
   refine ZZ 8 [2] rfl rfl ?_
   refine st_if rfl h (fun h => ?_) (fun h => ?_)
   ·refine Z 4 rfl ?_
    exact hk30 _ _ _ ⟨(9, []), _, h, (Sto.Le.refl _), rfl, rfl, Sl.nil⟩
   ·refine ZZ 3 [1] rfl rfl ?_
    refine o_lenO rfl rfl rfl z_slT98 rfl (ho27.up hl29) ?_
    refine Z 6 rfl ?_
    refine st_if rfl h (fun h => ?_) (fun h => ?_)
    ·refine Z 4 rfl ?_
     exact hk30 _ _ _ ⟨(3, []), _, h, (Sto.Le.refl _), rfl, rfl, Sl.nil⟩
    ·refine Z 6 rfl ?_
     refine st_if rfl h (fun h => ?_) (fun h => ?_)
     ·refine ZZ 2 [1] rfl rfl ?_
      obtain ⟨q50, hf51, h⟩ := h
      refine o_indexOw rfl rfl rfl z_slT98 rfl rfl (ho27.up hl29) rfl hf51 (fun b52 hb53 => ?_)
      obtain ⟨vs54, hrep55, hat56⟩ := Ow.at (ho27.up hl29) hb53 hf51
      obtain rfl := hrep55
      refine o_loadOw (off := 0) (j := 3) (v := .string q50) rfl rfl rfl z_sc9 rfl hat56 rfl rfl ?_
      obtain ⟨r57, hr58, h⟩ := h
      refine st_call (foot := []) rfl rfl rfl rfl rfl rfl (callV_fn z_en70 (noise_unhex_ok hr58 τ29)) ?_
      rintro vτ59 τ59 gsτ59 hl60 ⟨v61, rfl, rfl, hs62⟩
      refine Z 4 rfl ?_
      refine o_store (j := 2) (vs := [v61]) (cs' := [.int .i64 s29.2, .int .i64 0, .int .i64 0, .int .i64 0, v61]) rfl rfl rfl z_size22 rfl rfl (oneL_sl hs62) (ones_cons hs62.one' ones_nil) rfl rfl rfl ?_
      refine st_gs [[(b1, .cells #[.int .i64 0, .int .i64 0, .int .i64 0, .int .i64 0, .slice none 0 0] 52 (0, 0))], [(b2, .cells #[v25] 98 (0, 0))], [(b28, .cells #[.int .i64 s29.2, .int .i64 0, .int .i64 0, .int .i64 0, v61] 52 (0, 0))], g26] rfl ?_
      refine Z 3 rfl ?_
      exact hk30 _ _ _ ⟨(r57.2, r57.1), _, h, hl60, rfl, rfl, hs62⟩
     ·refine Z 2 rfl ?_
      exact hk30 _ _ _ ⟨(0, []), _, h, (Sto.Le.refl _), rfl, rfl, Sl.nil⟩
  refine Z 4 rfl ?_
  obtain ⟨e63, hL63, hA63⟩ := h
  refine st_ord [1, 1, 0, 0] _ rfl ?_
  refine st_loop hL63 (fun (s63 : Int × Int × Int) ρ τ63 gs => τ23.Le τ63 ∧ ESub ρ [(2, .pointer (some ⟨b1, 0, none⟩)), (3, .int .i64 0), (4, .pointer (some ⟨b2, 0, none⟩)), (7, .pointer (some ⟨b28, 0, none⟩)), (8, .int .i64 s63.1), (9, .int .i64 s63.2.1)] ∧ gs = [[(b1, .cells #[.int .i64 0, .int .i64 0, .int .i64 0, .int .i64 0, .slice none 0 0] 52 (0, 0))], [(b2, .cells #[v25] 98 (0, 0))], [(b28, .cells #[.int .i64 s63.2.2, .int .i64 0, .int .i64 0, .int .i64 0, .slice none 0 0] 52 (0, 0))], g26]) ⟨Sto.Le.refl _, rfl, rfl⟩ ?_
  rintro s63 o63 h he63 ρ63 τ63 gs63 ⟨hl63, hρ, rfl⟩ hn63
  refine st_es hρ ?_
  refine Z 6 rfl ?_
  refine st_if rfl h (fun h => ?_) (fun h => ?_)
  ·refine Z 2 rfl ?_
   refine st_cut (fun ρ τ64 gs => ∃ (s64 : Int × Int), noise_Parse_j7 s63 s64 o63 ∧ τ63.Le τ64 ∧ ESub ρ [(2, .pointer (some ⟨b1, 0, none⟩)), (3, .int .i64 0), (4, .pointer (some ⟨b2, 0, none⟩)), (7, .pointer (some ⟨b28, 0, none⟩)), (8, .int .i64 s64.1), (9, .int .i64 s63.2.1)] ∧ gs = [[(b1, .cells #[.int .i64 0, .int .i64 0, .int .i64 0, .int .i64 0, .slice none 0 0] 52 (0, 0))], [(b2, .cells #[v25] 98 (0, 0))], [(b28, .cells #[.int .i64 s64.2, .int .i64 0, .int .i64 0, .int .i64 0, .slice none 0 0] 52 (0, 0))], g26]) ?_ (fun hk64 => ?_)
   ·rintro ρ64 τ64 gs64 ⟨s64, h, hl64, hρ, rfl⟩
    refine st_es hρ ?_
    refine Z 5 rfl ?_
    exact hn63 _ _ _ _ h ⟨(hl63.trans hl64), rfl, rfl⟩
   refine Z 4 rfl ?_
   obtain ⟨r65, hr66, h⟩ := h
   refine st_call (foot := []) rfl rfl rfl rfl rfl rfl (callV_fn z_en63 (noise_word_ok hr66 τ63)) ?_
   rintro vτ67 τ67 gsτ67 hl68 ⟨rfl, rfl⟩
   refine ZZ 10 [1] rfl rfl ?_
   obtain ⟨q69, hf70, h⟩ := h
   refine o_indexOw rfl rfl rfl z_slT98 rfl rfl (ho27.up (hl63.trans hl68)) rfl hf70 (fun b71 hb72 => ?_)
   obtain ⟨vs73, hrep74, hat75⟩ := Ow.at (ho27.up (hl63.trans hl68)) hb72 hf70
   obtain rfl := hrep74
   refine o_loadOw (off := 0) (j := 3) (v := .string q69) rfl rfl rfl z_sc9 rfl hat75 rfl rfl ?_
   refine Z 2 rfl ?_
   refine st_if rfl h (fun h => ?_) (fun h => ?_)
   ·refine ZZ 8 [2] rfl rfl ?_
    exact hk64 _ _ _ ⟨(r65.2, s63.2.1), h, hl68, rfl, rfl⟩
   ·refine Z 2 rfl ?_
    exact hk64 _ _ _ ⟨(s63.1, s63.2.2), h, hl68, rfl, rfl⟩
  ·refine st_exit rfl ?_
   obtain rfl := he63 _ h
   replace h := hA63
   exact hk29 _ _ _ ⟨(s63.1, s63.2.2), h, hl63, rfl, rfl⟩
 ·exact fun _ _ _ _ _ _ _ h => h.elim
theorem law26_known_ok  {r : Bool} (h : law26_known r) (σ : Sto) (hE : Errs Tryd.prog σ) :
    Does Tryd.prog 28 [] σ [] (fun v τ gs => gs = [] ∧ .bool r = v) := by
 refine call_of Tryd.func28 Tryd.ntmps28 rfl rfl (fun cs fs => ?_)
 refine Z 6 rfl ?_
 refine o_litE (eI .u8) [1, 2, 3] rfl rfl rfl z_slT22 z_zero5 ⟨rfl, ⟨_, rfl, rfl⟩, ⟨rfl, ⟨_, rfl, rfl⟩, ⟨rfl, ⟨_, rfl, rfl⟩, trivial⟩⟩⟩ rfl rfl rfl rfl (fun v1 g2 ho3 => ?_)
 refine st_freeze (fun τ4 hl5 hg6 => ?_)
 have hs7 := ho3.freeze hl5 hg6
 refine o_lit (dk := (kSl (kI .u8))) (xs := [[1, 2, 3]]) (ps := [(0, [v1])]) (cs := [v1]) rfl rfl rfl z_slT48 z_zero22 ⟨rfl, ⟨_, rfl, (oneL_sl hs7)⟩, trivial⟩ rfl rfl rfl rfl (Kd.Many.cons (d := (kSl (kI .u8))) (x := [1, 2, 3]) (a := [v1]) ⟨_, rfl, hs7⟩ Kd.Many.nil) (fun v8 g9 ho10 => ?_)
 refine ZZ 7 [] rfl rfl ?_
 refine o_lit (dk := (kP (kI .i64) (kP (kI .i64) (kP (kI .i64) (kP (kI .i64) (kSl (kI .u8))))))) (xs := [(2, 0, 1, 5, []), (3, 0, 2, 255, [])]) (ps := [(0, [.int .i64 2, .int .i64 0, .int .i64 1, .int .i64 5, .slice none 0 0]), (1, [.int .i64 3, .int .i64 0, .int .i64 2, .int .i64 255, .slice none 0 0])]) (cs := [.int .i64 2, .int .i64 0, .int .i64 1, .int .i64 5, .slice none 0 0, .int .i64 3, .int .i64 0, .int .i64 2, .int .i64 255, .slice none 0 0]) rfl rfl rfl z_slT49 z_zero52 ⟨rfl, ⟨_, rfl, rfl⟩, ⟨rfl, ⟨_, rfl, rfl⟩, trivial⟩⟩ rfl rfl rfl rfl (Kd.Many.cons (d := (kP (kI .i64) (kP (kI .i64) (kP (kI .i64) (kP (kI .i64) (kSl (kI .u8))))))) (x := (2, 0, 1, 5, [])) (a := [.int .i64 2, .int .i64 0, .int .i64 1, .int .i64 5, .slice none 0 0]) ⟨[.int .i64 2], _, rfl, rfl, ⟨[.int .i64 0], _, rfl, rfl, ⟨[.int .i64 1], _, rfl, rfl, ⟨[.int .i64 5], _, rfl, rfl, ⟨_, rfl, Sl.nil⟩⟩⟩⟩⟩ (Kd.Many.cons (d := (kP (kI .i64) (kP (kI .i64) (kP (kI .i64) (kP (kI .i64) (kSl (kI .u8))))))) (x := (3, 0, 2, 255, [])) (a := [.int .i64 3, .int .i64 0, .int .i64 2, .int .i64 255, .slice none 0 0]) ⟨[.int .i64 3], _, rfl, rfl, ⟨[.int .i64 0], _, rfl, rfl, ⟨[.int .i64 2], _, rfl, rfl, ⟨[.int .i64 255], _, rfl, rfl, ⟨_, rfl, Sl.nil⟩⟩⟩⟩⟩ Kd.Many.nil)) (fun v11 g12 ho13 => ?_)
 obtain ⟨r24, hr25, h⟩ := h
 refine st_ord [1, 0] _ rfl ?_
 refine st_freeze (fun τ14 hl15 hg16 => ?_)
 have hs17 := ho10.freeze hl15 hg16
 refine st_freeze (fun τ20 hl21 hg22 => ?_)
 have hs23 := ho13.freeze (hl15.trans hl21) hg22
 refine st_call (foot := []) rfl rfl rfl rfl rfl rfl (callV_fn z_en29 (noise_Run_ok hr25 τ20 (hs17.up hl21) hs23)) ?_
 rintro vτ26 τ26 gsτ26 hl27 ⟨v28, rfl, rfl, hs29⟩
 refine Z 4 rfl ?_
 obtain ⟨r30, hr31, h⟩ := h
 refine st_call (foot := []) rfl rfl rfl rfl (evs_cons (ev_str z_str34) rfl) rfl (callV_fn z_en43 (noise_Parse_ok hr31 τ26 (hE.up (((hl5.trans hl15).trans hl21).trans hl27)))) ?_
 rintro vτ32 τ32 gsτ32 hl33 ⟨v34, rfl, rfl, hs35⟩
 refine Z 3 rfl ?_
 refine o_alloc rfl rfl rfl z_zero52 (fun b36 => ?_)
 refine o_store (j := 0) (vs := [.int .i64 r30.1.1, .int .i64 r30.1.2.1, .int .i64 r30.1.2.2.1, .int .i64 r30.1.2.2.2.1, v34]) (cs' := [.int .i64 r30.1.1, .int .i64 r30.1.2.1, .int .i64 r30.1.2.2.1, .int .i64 r30.1.2.2.2.1, v34]) rfl rfl rfl z_size52 rfl rfl rfl (ones_cons rfl (ones_cons rfl (ones_cons rfl (ones_cons rfl (ones_cons hs35.one' ones_nil))))) rfl rfl rfl ?_
 refine st_gs [[(b36, .cells #[.int .i64 r30.1.1, .int .i64 r30.1.2.1, .int .i64 r30.1.2.2.1, .int .i64 r30.1.2.2.2.1, v34] 52 (0, 0))]] rfl ?_
 refine Z 3 rfl ?_
 refine st_cut (fun ρ τ37 gs => ∃ (s37 : Bool), law26_known_j1 s37 r ∧ τ32.Le τ37 ∧ ESub ρ [(0, .bool s37)] ∧ gs = []) ?_ (fun hk37 => ?_)
 ·rintro ρ37 τ37 gs37 ⟨s37, h, hl37, hρ, rfl⟩
  refine st_es hρ ?_
  obtain rfl := Eq.symm h
  exact st_ret (gs' := []) Tryd.func28 rfl (List.Sublist.refl _) (((((hl5.trans hl15).trans hl21).trans hl27).trans hl33).trans hl37) ⟨rfl, rfl⟩
 refine Z 2 rfl ?_
 refine o_litE (eI .u8) [2, 3, 1, 2, 252] rfl rfl rfl z_slT22 z_zero5 ⟨rfl, ⟨_, rfl, rfl⟩, ⟨rfl, ⟨_, rfl, rfl⟩, ⟨rfl, ⟨_, rfl, rfl⟩, ⟨rfl, ⟨_, rfl, rfl⟩, ⟨rfl, ⟨_, rfl, rfl⟩, trivial⟩⟩⟩⟩⟩ rfl rfl rfl rfl (fun v38 g39 ho40 => ?_)
 obtain ⟨r45, hr46, h⟩ := h
 refine st_freeze (fun τ41 hl42 hg43 => ?_)
 have hs44 := ho40.freeze hl42 hg43
 refine st_call (foot := []) rfl rfl rfl rfl rfl rfl (callV_fn z_en12 (ref01_Same_ok hr46 τ41 (hs29.up (hl33.trans hl42)) hs44)) ?_
 rintro vτ47 τ47 gsτ47 hl48 ⟨rfl, rfl⟩
 refine o_mif rfl rfl rfl rfl h (fun h => ?_) (fun h => ?_)
 ·refine Z 3 rfl ?_
  refine o_mif rfl rfl rfl rfl h (fun h => ?_) (fun h => ?_)
  ·refine ZZ 4 [0] rfl rfl ?_
   refine o_mif rfl rfl rfl rfl h (fun h => ?_) (fun h => ?_)
   ·refine ZZ 2 [0] rfl rfl ?_
    refine o_litE (eI .u8) [0, 9] rfl rfl rfl z_slT22 z_zero5 ⟨rfl, ⟨_, rfl, rfl⟩, ⟨rfl, ⟨_, rfl, rfl⟩, trivial⟩⟩ rfl rfl rfl rfl (fun v49 g50 ho51 => ?_)
    obtain ⟨r56, hr57, h⟩ := h
    refine st_freeze (fun τ52 hl53 hg54 => ?_)
    have hs55 := ho51.freeze hl53 hg54
    refine st_call (foot := []) rfl rfl rfl rfl rfl rfl (callV_fn z_en12 (ref01_Same_ok hr57 τ52 (hs35.up ((hl42.trans hl48).trans hl53)) hs55)) ?_
    rintro vτ58 τ58 gsτ58 hl59 ⟨rfl, rfl⟩
    refine Z 3 rfl ?_
    refine st_ord [] _ rfl ?_
    exact hk37 _ _ _ ⟨r56, h, (((hl42.trans hl48).trans hl53).trans hl59), rfl, rfl⟩
   ·refine Z 7 rfl ?_
    refine st_ord [] _ rfl ?_
    exact hk37 _ _ _ ⟨false, h, (hl42.trans hl48), rfl, rfl⟩
  ·refine Z 12 rfl ?_
   refine st_ord [] _ rfl ?_
   exact hk37 _ _ _ ⟨false, h, (hl42.trans hl48), rfl, rfl⟩
 ·refine Z 16 rfl ?_
  refine st_ord [] _ rfl ?_
  exact hk37 _ _ _ ⟨false, h, (hl42.trans hl48), rfl, rfl⟩
theorem law26_NoiseRuns_ok {a0 : List (List Int)} {a1 : List (Int × Int × Int × Int × List Int)} {v1 : Value} {v3 : Value} {r : Bool} (h : law26_NoiseRuns a0 a1 r) (σ : Sto) (hs2 : Sl (kSl (kI .u8)) σ v1 a0) (hs4 : Sl (kP (kI .i64) (kP (kI .i64) (kP (kI .i64) (kP (kI .i64) (kSl (kI .u8)))))) σ v3 a1) (hE : Errs Tryd.prog σ) :
    Does Tryd.prog 6 [v1, v3] σ [] (fun v τ gs => gs = [] ∧ .bool r = v) := by
 refine call_of Tryd.func6 Tryd.ntmps6 rfl rfl (fun cs fs => ?_)
 refine Z 2 rfl ?_
 refine o_box (cs := [v1]) rfl rfl rfl rfl (oneL_sl hs2) (fun b5 => ?_)
 refine o_alloc rfl rfl rfl z_zero4 (fun b6 => ?_)
 refine ZZ 4 [1] rfl rfl ?_
 obtain ⟨r7, hr8, h⟩ := h
 refine st_call (foot := []) rfl rfl rfl rfl rfl rfl (callV_fn z_en20 (law26_Rows_ok hr8 σ hs2)) ?_
 rintro vτ9 τ9 gsτ9 hl10 ⟨v11, rfl, rfl, hs12⟩
 refine o_store (j := 1) (vs := [v11]) (cs' := [v11]) rfl rfl rfl z_size48 rfl rfl (oneL_sl hs12) (ones_cons hs12.one' ones_nil) rfl rfl rfl ?_
 refine st_gs [[(b6, .cells #[.bool false] 4 (0, 0))], [(b5, .cells #[v11] 48 (0, 0))]] rfl ?_
 refine Z 3 rfl ?_
 refine o_alloc rfl rfl rfl z_zero49 (fun b13 => ?_)
 refine Z 6 rfl ?_
 refine st_cut (fun ρ τ14 gs => ∃ (s14 : List Int × (List (Int × Int × Int × Int × List Int))) (v15 : Value) (g16 : Grp) (v18 : Value) (g19 : Grp), law26_NoiseRuns_j1 r7 s14 r ∧ τ9.Le τ14 ∧ ESub ρ [(2, .pointer (some ⟨b5, 0, none⟩)), (4, .pointer (some ⟨b6, 0, none⟩)), (5, .pointer (some ⟨b13, 0, none⟩)), (6, v15)] ∧ gs = [[(b5, .cells #[v11] 48 (0, 0))], [(b6, .cells #[.bool false] 4 (0, 0))], [(b13, .cells #[v18] 49 (0, 0))], g16, g19] ∧ Ow (kI .u8) 5 τ14 v15 s14.1 g16 ∧ Ow (kP (kI .i64) (kP (kI .i64) (kP (kI .i64) (kP (kI .i64) (kSl (kI .u8)))))) 52 τ14 v18 s14.2 g19) ?_ (fun hk14 => ?_)
 ·rintro ρ14 τ14 gs14 ⟨s14, v15, g16, v18, g19, h, hl14, hρ, rfl, ho17, ho20⟩
  refine st_es hρ ?_
  refine Z 2 rfl ?_
  refine o_alloc rfl rfl rfl z_zero3 (fun b21 => ?_)
  refine ZZ 6 [0, 1, 3] rfl rfl ?_
  obtain ⟨r27, hr28, h⟩ := h
  refine st_ord [5, 0, 0, 0, 0, 0] _ rfl ?_
  refine st_freeze (fun τ22 hl23 hg24 => ?_)
  have hs25 := ho20.freeze hl23 hg24
  refine st_call (foot := []) rfl rfl rfl rfl rfl rfl (callV_fn z_en27 (noise_Each_ok hr28 τ22 (hs12.up (hl14.trans hl23)) hs25)) ?_
  rintro vτ29 τ29 gsτ29 hl30 ⟨f31, q32, rfl, rfl, hit33⟩
  refine Z 16 rfl ?_
  obtain ⟨t34, w34, hR34, hA34⟩ := h
  refine st_env (ρ' := [(2, .pointer (some ⟨b5, 0, none⟩)), (4, .pointer (some ⟨b6, 0, none⟩)), (5, .pointer (some ⟨b13, 0, none⟩)), (6, v15), (10, .pointer (some ⟨b21, 0, none⟩)), (65, .func (.func f31) #[] q32)]) ⟨rfl, rfl, rfl, rfl, rfl, rfl, trivial⟩ ?_
  refine st_ord [1, 1, 1, 0, 0] _ rfl ?_
  refine st_addNil ?_
  refine st_range (B := law26_NoiseRuns_l2 r7 s14) (s0 := 0) ranges_fctx rfl hit33 (Sto.Le.refl _) hR34 rfl (fun _ _ _ h => by obtain ⟨_, rfl, _⟩ := h; rfl) (fun (s34 : Int) τ34 gs => τ29.Le τ34 ∧ gs = [[(b5, .cells #[v11] 48 (0, 0))], [(b6, .cells #[.bool false] 4 (0, 0))], [(b13, .cells #[v18] 49 (0, 0))], [(b21, .cells #[.int .i64 s34] 3 (0, 0))], g16]) (fun (p64 : Int) cd τ65 gs => cd = .ret ∧ τ29.Le τ65 ∧ gs = [[(b5, .cells #[v11] 48 (0, 0))], [(b6, .cells #[.bool false] 4 (0, 0))], [(b13, .cells #[v18] 49 (0, 0))], [(b21, .cells #[.int .i64 p64] 3 (0, 0))], g16]) (fun _ _ _ _ hl ⟨hb, hg⟩ => ⟨hb.trans hl, hg⟩) (fun _ _ _ _ _ hl ⟨hc, hb, hg⟩ => ⟨hc, hb.trans hl, hg⟩) ⟨Sto.Le.refl _, rfl⟩ ?_ ?_ ?_
  ·rintro x34 s34 o34 τ34 gs34 vx34 hl34 h ⟨v35, rfl, hs36⟩ ⟨hb34, rfl⟩ l34 rc34 caller34 cs34 fs34
   refine Z 7 rfl ?_
   refine st_begin ?_
   refine Z 3 rfl ?_
   obtain ⟨q39, hf40, r47, hr48, r53, hr54, r59, hr60, h⟩ := h
   let cc37 : Prop := (!(decide (x34.1 = s34))) = false
   let cc38 : Prop := ((!(decide (x34.1 = s34))) || (decide ((s14.2.length : Int) ≤ s34))) = false
   refine st_draw 21 (dl [.v (.int .i64 x34.1), .v (.int .i64 s34), .v (.bool (!(decide (x34.1 = s34)))), .v (.bool (!(decide (x34.1 = s34)))), .g cc37 (.int .i64 s34), .g cc37 (v18), .g cc37 (.int .i64 (s14.2.length : Int)), .g cc37 (.bool (decide ((s14.2.length : Int) ≤ s34))), .v (.bool ((!(decide (x34.1 = s34))) || (decide ((s14.2.length : Int) ≤ s34)))), .v (.bool ((!(decide (x34.1 = s34))) || (decide ((s14.2.length : Int) ≤ s34)))), .g cc38 (v35), .g cc38 (v11), .g cc38 (v18), .g cc38 (.int .i64 s34), .h cc38 fun τ v => ∃ (b41 : Nat) (of42 : Nat) (vsb41 : List Value), (.pointer (some ⟨b41, of42, none⟩) : Value) = v ∧ CelN τ ⟨b41, of42, none⟩ vsb41 ∧ (kP (kI .i64) (kP (kI .i64) (kP (kI .i64) (kP (kI .i64) (kSl (kI .u8)))))).rep τ vsb41 q39, .h cc38 fun τ v => ∃ (v43 : Value), (.agg #[.int .i64 q39.1, .int .i64 q39.2.1, .int .i64 q39.2.2.1, .int .i64 q39.2.2.2.1, v43] : Value) = v ∧ Sl (kI .u8) τ v43 q39.2.2.2.2, .h cc38 fun τ v => ∃ (v51 : Value), (.agg #[.int .i64 r47.1, .int .i64 r47.2.1, .int .i64 r47.2.2.1, .int .i64 r47.2.2.2.1, v51] : Value) = v ∧ Sl (kI .u8) τ v51 r47.2.2.2.2, .h cc38 fun τ v => ∃ (v57 : Value), (v57 : Value) = v ∧ Sl (kI .u8) τ v57 r53, .g cc38 (.bool r59), .g cc38 (.bool (!r59)), .v (.bool (((!(decide (x34.1 = s34))) || (decide ((s14.2.length : Int) ≤ s34))) || (!r59)))]) (fun _ _ => []) z_mix rfl (dl_mono (by exact ⟨fun _ _ _ hl ⟨b41, of42, vsb41, hv, hc44, hrepb41⟩ => ⟨b41, of42, vsb41, hv, hc44.up hl, Kd.mono _ hl hrepb41⟩, ⟨fun _ _ _ hl ⟨v43, hv, hs46⟩ => ⟨v43, hv, hs46.up hl⟩, ⟨fun _ _ _ hl ⟨v51, hv, hs52⟩ => ⟨v51, hv, hs52.up hl⟩, ⟨fun _ _ _ hl ⟨v57, hv, hs58⟩ => ⟨v57, hv, hs58.up hl⟩, trivial⟩⟩⟩⟩)) (allB_cons (allB_cons (allB_cons (allB_cons (allB_cons (allB_cons (allB_cons (allB_cons (allB_cons (allB_cons (allB_cons (allB_cons (allB_cons (allB_cons (allB_cons (allB_cons (allB_cons (allB_cons (allB_cons (allB_cons (allB_cons allB_nil (p1 dA)) ?_) (p1 dA)) (p1 dA)) ?_) ?_) ?_) (p1 (dG [4, 6]))) (p1 dO)) (p1 dA)) (p1 (dG []))) ?_) ?_) ?_) ?_) ?_) ?_) ?_) ?_) (p1 (dG [18]))) (p1 dO)) ?_
   ·intro ρ' τ pool rs hl hd hout hk
    refine o_load (j := 3) (v := .int .i64 s34) rfl rfl rfl z_sc3 ((hout 10 rfl).trans rfl) rfl rfl ?_
    exact st_addNil (hk _ _ (Sto.Le.refl _) rfl)
   ·intro ρ' τ pool rs hl hd hout hk
    obtain ⟨_, e3, rfl⟩ := hd 3 rfl
    by_cases hG : (!(decide (x34.1 = s34))) = false
    ·have hC := hG
     refine o_load (j := 3) (v := .int .i64 s34) rfl (wants_of rfl e3 hG) rfl z_sc3 ((hout 10 rfl).trans rfl) rfl rfl ?_
     exact st_addNil (hk _ _ (Sto.Le.refl _) ⟨fun _ => rfl, fun hn => absurd hC hn⟩)
    ·refine st_pass rfl rfl rfl e3 (beq_off hG) rfl ?_
     exact st_addNil (hk _ _ (Sto.Le.refl _) ⟨fun h => absurd h hG, fun _ => rfl⟩)
   ·intro ρ' τ pool rs hl hd hout hk
    obtain ⟨_, e3, rfl⟩ := hd 3 rfl
    by_cases hG : (!(decide (x34.1 = s34))) = false
    ·have hC := hG
     refine o_load (j := 2) (v := v18) rfl (wants_of rfl e3 hG) rfl z_sc49 ((hout 5 rfl).trans rfl) rfl rfl ?_
     exact st_addNil (hk _ _ (Sto.Le.refl _) ⟨fun _ => rfl, fun hn => absurd hC hn⟩)
    ·refine st_pass rfl rfl rfl e3 (beq_off hG) rfl ?_
     exact st_addNil (hk _ _ (Sto.Le.refl _) ⟨fun h => absurd h hG, fun _ => rfl⟩)
   ·intro ρ' τ pool rs hl hd hout hk
    obtain ⟨_, e3, rfl⟩ := hd 3 rfl
    obtain ⟨w5, e5, t5⟩ := hd 5 rfl
    by_cases hG : (!(decide (x34.1 = s34))) = false
    ·have hC := hG
     obtain ⟨rfl⟩ := t5.1 hC
     refine o_lenI rfl (wants_of rfl e3 hG) rfl z_slT49 e5 (hs25.up ((hl30.trans hl34).trans hl)) ?_
     exact st_addNil (hk _ _ (Sto.Le.refl _) ⟨fun _ => rfl, fun hn => absurd hC hn⟩)
    ·refine st_pass rfl rfl rfl e3 (beq_off hG) rfl ?_
     exact st_addNil (hk _ _ (Sto.Le.refl _) ⟨fun h => absurd h hG, fun _ => rfl⟩)
   ·intro ρ' τ pool rs hl hd hout hk
    obtain ⟨_, e9, rfl⟩ := hd 9 rfl
    by_cases hG : ((!(decide (x34.1 = s34))) || (decide ((s14.2.length : Int) ≤ s34))) = false
    ·have hC := hG
     refine o_load (j := 0) (v := v11) rfl (wants_of rfl e9 hG) rfl z_sc48 ((hout 2 rfl).trans rfl) rfl rfl ?_
     exact st_addNil (hk _ _ (Sto.Le.refl _) ⟨fun _ => rfl, fun hn => absurd hC hn⟩)
    ·refine st_pass rfl rfl rfl e9 (beq_off hG) rfl ?_
     exact st_addNil (hk _ _ (Sto.Le.refl _) ⟨fun h => absurd h hG, fun _ => rfl⟩)
   ·intro ρ' τ pool rs hl hd hout hk
    obtain ⟨_, e9, rfl⟩ := hd 9 rfl
    by_cases hG : ((!(decide (x34.1 = s34))) || (decide ((s14.2.length : Int) ≤ s34))) = false
    ·have hC := hG
     refine o_load (j := 2) (v := v18) rfl (wants_of rfl e9 hG) rfl z_sc49 ((hout 5 rfl).trans rfl) rfl rfl ?_
     exact st_addNil (hk _ _ (Sto.Le.refl _) ⟨fun _ => rfl, fun hn => absurd hC hn⟩)
    ·refine st_pass rfl rfl rfl e9 (beq_off hG) rfl ?_
     exact st_addNil (hk _ _ (Sto.Le.refl _) ⟨fun h => absurd h hG, fun _ => rfl⟩)
   ·intro ρ' τ pool rs hl hd hout hk
    obtain ⟨_, e9, rfl⟩ := hd 9 rfl
    by_cases hG : ((!(decide (x34.1 = s34))) || (decide ((s14.2.length : Int) ≤ s34))) = false
    ·have hC := hG
     refine o_load (j := 3) (v := .int .i64 s34) rfl (wants_of rfl e9 hG) rfl z_sc3 ((hout 10 rfl).trans rfl) rfl rfl ?_
     exact st_addNil (hk _ _ (Sto.Le.refl _) ⟨fun _ => rfl, fun hn => absurd hC hn⟩)
    ·refine st_pass rfl rfl rfl e9 (beq_off hG) rfl ?_
     exact st_addNil (hk _ _ (Sto.Le.refl _) ⟨fun h => absurd h hG, fun _ => rfl⟩)
   ·intro ρ' τ pool rs hl hd hout hk
    obtain ⟨_, e9, rfl⟩ := hd 9 rfl
    obtain ⟨w12, e12, t12⟩ := hd 12 rfl
    obtain ⟨w13, e13, t13⟩ := hd 13 rfl
    by_cases hG : ((!(decide (x34.1 = s34))) || (decide ((s14.2.length : Int) ≤ s34))) = false
    ·have hC := hG
     replace hf40 := hf40 hC
     obtain ⟨rfl⟩ := t12.1 hC
     obtain ⟨rfl⟩ := t13.1 hC
     refine o_index rfl (wants_of rfl e9 hG) rfl z_slT49 rfl e12 (hs25.up ((hl30.trans hl34).trans hl)) e13 hf40 (fun b41 of42 vsb41 hc44 hrepb41 => ?_)
     exact st_addNil (hk _ _ (Sto.Le.refl _) ⟨fun _ => ⟨b41, of42, _, rfl, hc44, hrepb41⟩, fun hn => absurd hC hn⟩)
    ·refine st_pass rfl rfl rfl e9 (beq_off hG) rfl ?_
     exact st_addNil (hk _ _ (Sto.Le.refl _) ⟨fun h => absurd h hG, fun _ => rfl⟩)
   ·intro ρ' τ pool rs hl hd hout hk
    obtain ⟨_, e9, rfl⟩ := hd 9 rfl
    obtain ⟨w14, e14, t14⟩ := hd 14 rfl
    by_cases hG : ((!(decide (x34.1 = s34))) || (decide ((s14.2.length : Int) ≤ s34))) = false
    ·have hC := hG
     obtain ⟨b41, of42, vsb41, rfl, hc44, hrepb41⟩ := t14.1 hC
     have hrepb41 := hrepb41
     obtain ⟨_, _, rfl, rfl, ⟨_, _, rfl, rfl, ⟨_, _, rfl, rfl, ⟨_, _, rfl, rfl, ⟨v43, rfl, hs46⟩⟩⟩⟩⟩ := hrepb41
     refine o_loadIN (vs := [.int .i64 q39.1, .int .i64 q39.2.1, .int .i64 q39.2.2.1, .int .i64 q39.2.2.2.1, v43]) rfl (wants_of rfl e9 hG) rfl z_agg52 e14 rfl (celn_part 0 rfl hc44) ?_
     exact st_addNil (hk _ _ (Sto.Le.refl _) ⟨fun _ => ⟨v43, rfl, hs46⟩, fun hn => absurd hC hn⟩)
    ·refine st_pass rfl rfl rfl e9 (beq_off hG) rfl ?_
     exact st_addNil (hk _ _ (Sto.Le.refl _) ⟨fun h => absurd h hG, fun _ => rfl⟩)
   ·intro ρ' τ pool rs hl hd hout hk
    obtain ⟨_, e9, rfl⟩ := hd 9 rfl
    obtain ⟨w15, e15, t15⟩ := hd 15 rfl
    by_cases hG : ((!(decide (x34.1 = s34))) || (decide ((s14.2.length : Int) ≤ s34))) = false
    ·have hC := hG
     replace hr48 := hr48 hC
     obtain ⟨v43, rfl, hs46⟩ := t15.1 hC
     refine st_call (foot := []) rfl (wants_of rfl e9 hG) rfl rfl (evs_cons e15 rfl) rfl (callV_fn z_en23 (law26_Of_ok hr48 τ hs46)) ?_
     rintro vτ49 τ49 gsτ49 hl50 ⟨v51, rfl, rfl, hs52⟩
     exact st_addNil (hk _ _ hl50 ⟨fun _ => ⟨v51, rfl, hs52⟩, fun hn => absurd hC hn⟩)
    ·refine st_pass rfl rfl rfl e9 (beq_off hG) rfl ?_
     exact st_addNil (hk _ _ (Sto.Le.refl _) ⟨fun h => absurd h hG, fun _ => rfl⟩)
   ·intro ρ' τ pool rs hl hd hout hk
    obtain ⟨_, e9, rfl⟩ := hd 9 rfl
    obtain ⟨w11, e11, t11⟩ := hd 11 rfl
    obtain ⟨w16, e16, t16⟩ := hd 16 rfl
    by_cases hG : ((!(decide (x34.1 = s34))) || (decide ((s14.2.length : Int) ≤ s34))) = false
    ·have hC := hG
     replace hr54 := hr54 hC
     obtain ⟨v51, rfl, hs52⟩ := t16.1 hC
     obtain ⟨rfl⟩ := t11.1 hC
     refine st_call (foot := []) rfl (wants_of rfl e9 hG) rfl rfl (evs_cons e11 (evs_cons e16 rfl)) rfl (callV_fn z_en22 (ref26_Bytes_ok hr54 τ (hs12.up ((((hl14.trans hl23).trans hl30).trans hl34).trans hl)) hs52)) ?_
     rintro vτ55 τ55 gsτ55 hl56 ⟨v57, rfl, rfl, hs58⟩
     exact st_addNil (hk _ _ hl56 ⟨fun _ => ⟨v57, rfl, hs58⟩, fun hn => absurd hC hn⟩)
    ·refine st_pass rfl rfl rfl e9 (beq_off hG) rfl ?_
     exact st_addNil (hk _ _ (Sto.Le.refl _) ⟨fun h => absurd h hG, fun _ => rfl⟩)
   ·intro ρ' τ pool rs hl hd hout hk
    obtain ⟨_, e9, rfl⟩ := hd 9 rfl
    obtain ⟨w10, e10, t10⟩ := hd 10 rfl
    obtain ⟨w17, e17, t17⟩ := hd 17 rfl
    by_cases hG : ((!(decide (x34.1 = s34))) || (decide ((s14.2.length : Int) ≤ s34))) = false
    ·have hC := hG
     replace hr60 := hr60 hC
     obtain ⟨v57, rfl, hs58⟩ := t17.1 hC
     obtain ⟨rfl⟩ := t10.1 hC
     refine st_call (foot := []) rfl (wants_of rfl e9 hG) rfl rfl (evs_cons e10 (evs_cons e17 rfl)) rfl (callV_fn z_en12 (ref01_Same_ok hr60 τ (hs36.up hl) hs58)) ?_
     rintro vτ61 τ61 gsτ61 hl62 ⟨rfl, rfl⟩
     exact st_addNil (hk _ _ hl62 ⟨fun _ => rfl, fun hn => absurd hC hn⟩)
    ·refine st_pass rfl rfl rfl e9 (beq_off hG) rfl ?_
     exact st_addNil (hk _ _ (Sto.Le.refl _) ⟨fun h => absurd h hG, fun _ => rfl⟩)
   intro ρ' τ63 vals hl63 hv hout
   refine st_ord [0, 0, 0, 0, 0] _ rfl ?_
   refine st_env (ρ' := [(88, .bool (((!(decide (x34.1 = s34))) || (decide ((s14.2.length : Int) ≤ s34))) || (!r59))), (2, .pointer (some ⟨b5, 0, none⟩)), (4, .pointer (some ⟨b6, 0, none⟩)), (5, .pointer (some ⟨b13, 0, none⟩)), (6, v15), (10, .pointer (some ⟨b21, 0, none⟩)), (66, .int .i64 x34.1), (67, v35), (12, .int .i64 x34.1), (13, v35)]) ⟨(lv1 hv 20 rfl rfl), (hout 2 rfl).trans rfl, (hout 4 rfl).trans rfl, (hout 5 rfl).trans rfl, (hout 6 rfl).trans rfl, (hout 10 rfl).trans rfl, (hout 66 rfl).trans rfl, (hout 67 rfl).trans rfl, (hout 12 rfl).trans rfl, (hout 13 rfl).trans rfl, trivial⟩ ?_
   refine st_end ?_
   refine st_if rfl h (fun h => ?_) (fun h => ?_)
   ·refine ZZ 4 [1] rfl rfl ?_
    exact st_rret (List.Sublist.refl _) hl63 ⟨_, h, rfl, (hl34.trans hl63), rfl⟩
   ·refine ZZ 7 [3, 3] rfl rfl ?_
    exact st_rend (List.Sublist.refl _) hl63 ⟨_, h, (hl34.trans hl63), rfl⟩
  ·rintro p67 τ68 gs34 f34 ht hl69 ⟨hb, rfl⟩ rfl
   subst ht
   replace h := hA34
   refine st_ord [1, 1, 1, 1, 1] _ rfl ?_
   refine Z 2 rfl ?_
   refine st_cut (fun ρ τ70 gs => ∃ (s70 : Bool), law26_NoiseRuns_j3 s70 r ∧ τ68.Le τ70 ∧ ESub ρ [(4, .pointer (some ⟨b6, 0, none⟩))] ∧ gs = [[(b6, .cells #[.bool s70] 4 (0, 0))]]) ?_ (fun hk70 => ?_)
   ·rintro ρ70 τ70 gs70 ⟨s70, h, hl70, hρ, rfl⟩
    refine st_es hρ ?_
    obtain rfl := Eq.symm h
    exact st_retC (gs' := []) [.bool s70] Tryd.func6 ⟨⟨_, _, _, _, rfl, mem_flat 0 rfl, fun w hw => cellOf z_sc4 rfl w hw⟩, trivial⟩ (by simp) (((((hl10.trans hl14).trans hl23).trans hl30).trans hl69).trans hl70) ⟨rfl, rfl⟩
   refine st_region ?_
   obtain ⟨r71, hr72, h⟩ := h
   refine st_call (foot := []) rfl rfl rfl rfl rfl rfl (callV_fn z_en28 (law26_known_ok hr72 τ68 (hE.up ((((hl10.trans hl14).trans hl23).trans hl30).trans hl69)))) ?_
   rintro vτ73 τ73 gsτ73 hl74 ⟨rfl, rfl⟩
   refine o_mif rfl rfl rfl rfl h (fun h => ?_) (fun h => ?_)
   ·refine ZZ 2 [3, 2] rfl rfl ?_
    refine o_lenI rfl rfl rfl z_slT49 rfl (hs25.up ((hl30.trans hl69).trans hl74)) ?_
    refine Z 2 rfl ?_
    refine o_mif rfl rfl rfl rfl h (fun h => ?_) (fun h => ?_)
    ·refine ZZ 2 [0, 2] rfl rfl ?_
     obtain ⟨r75, hr76, h⟩ := h
     refine st_call (foot := []) rfl rfl rfl rfl rfl rfl (callV_fn z_en29 (noise_Run_ok hr76 τ73 (hs12.up ((((hl14.trans hl23).trans hl30).trans hl69).trans hl74)) (hs25.up ((hl30.trans hl69).trans hl74)))) ?_
     rintro vτ77 τ77 gsτ77 hl78 ⟨v79, rfl, rfl, hs80⟩
     refine o_move rfl rfl rfl rfl ?_
     obtain ⟨r86, hr87, h⟩ := h
     refine st_ord [4, 0, 0, 0, 0] _ rfl ?_
     refine st_freeze (fun τ81 hl82 hg83 => ?_)
     have hs84 := ho17.freeze (((((hl23.trans hl30).trans hl69).trans hl74).trans hl78).trans hl82) hg83
     refine st_call (foot := []) rfl rfl rfl rfl rfl rfl (callV_fn z_en12 (ref01_Same_ok hr87 τ81 (hs80.up hl82) hs84)) ?_
     rintro vτ88 τ88 gsτ88 hl89 ⟨rfl, rfl⟩
     refine ZZ 3 [1] rfl rfl ?_
     refine st_ord [1] _ rfl ?_
     exact hk70 _ _ _ ⟨r86, h, (((hl74.trans hl78).trans hl82).trans hl89), rfl, rfl⟩
    ·refine ZZ 8 [1] rfl rfl ?_
     refine st_ord [1] _ rfl ?_
     exact hk70 _ _ _ ⟨false, h, hl74, rfl, rfl⟩
   ·refine ZZ 14 [1] rfl rfl ?_
    refine st_ord [1] _ rfl ?_
    exact hk70 _ _ _ ⟨false, h, hl74, rfl, rfl⟩
  ·rintro p64 cd34 τ65 gs34 f34 ht hl66 ⟨rfl, hb, rfl⟩ rfl
   subst ht
   replace h := hA34
   refine st_ord [1, 1, 1, 1, 1] _ rfl ?_
   obtain rfl := Eq.symm h
   exact st_retC (gs' := []) [.bool false] Tryd.func6 ⟨⟨_, _, _, _, rfl, mem_flat 1 rfl, fun w hw => cellOf z_sc4 rfl w hw⟩, trivial⟩ (by simp) ((((hl10.trans hl14).trans hl23).trans hl30).trans hl66) ⟨rfl, rfl⟩
 refine Z 4 rfl ?_
 obtain ⟨e90, hL90, hA90⟩ := h
 refine st_addNil ?_
 refine st_addNil ?_
 refine st_ord [4, 3, 2, 0, 0] _ rfl ?_
 refine st_loop hL90 (fun (s90 : List Int × Int × (List (Int × Int × Int × Int × List Int))) ρ τ90 gs => τ9.Le τ90 ∧ ∃ (v91 : Value) (g92 : Grp) (v94 : Value) (g95 : Grp), ESub ρ [(1, v3), (2, .pointer (some ⟨b5, 0, none⟩)), (4, .pointer (some ⟨b6, 0, none⟩)), (5, .pointer (some ⟨b13, 0, none⟩)), (6, v91), (7, .int .i64 s90.2.1)] ∧ gs = [[(b5, .cells #[v11] 48 (0, 0))], [(b6, .cells #[.bool false] 4 (0, 0))], [(b13, .cells #[v94] 49 (0, 0))], g92, g95] ∧ Ow (kI .u8) 5 τ90 v91 s90.1 g92 ∧ Ow (kP (kI .i64) (kP (kI .i64) (kP (kI .i64) (kP (kI .i64) (kSl (kI .u8)))))) 52 τ90 v94 s90.2.2 g95) ⟨Sto.Le.refl _, _, _, _, _, rfl, rfl, Ow.nil, Ow.nil⟩ ?_
 rintro s90 o90 h he90 ρ90 τ90 gs90 ⟨hl90, v91, g92, v94, g95, hρ, rfl, ho93, ho96⟩ hn90
 refine st_es hρ ?_
 refine Z 2 rfl ?_
 refine st_cut (fun ρ τ97 gs => ∃ (s97 : Bool), law26_NoiseRuns_j5 a1 r7 s90 s97 o90 ∧ τ90.Le τ97 ∧ ESub ρ [(1, v3), (2, .pointer (some ⟨b5, 0, none⟩)), (4, .pointer (some ⟨b6, 0, none⟩)), (5, .pointer (some ⟨b13, 0, none⟩)), (6, v91), (7, .int .i64 s90.2.1), (23, .bool s97)] ∧ gs = [[(b5, .cells #[v11] 48 (0, 0))], [(b6, .cells #[.bool false] 4 (0, 0))], [(b13, .cells #[v94] 49 (0, 0))], g92, g95]) ?_ (fun hk97 => ?_)
 ·rintro ρ97 τ97 gs97 ⟨s97, h, hl97, hρ, rfl⟩
  refine st_es hρ ?_
  refine st_if rfl h (fun h => ?_) (fun h => ?_)
  ·refine Z 7 rfl ?_
   obtain ⟨q98, hf99, h⟩ := h
   refine o_index rfl rfl rfl z_slT49 rfl rfl (hs4.up ((hl10.trans hl90).trans hl97)) rfl hf99 (fun b100 of101 vs hc103 hrep => ?_)
   obtain ⟨_, _, rfl, rfl, ⟨_, _, rfl, rfl, ⟨_, _, rfl, rfl, ⟨_, _, rfl, rfl, ⟨v102, rfl, hs104⟩⟩⟩⟩⟩ := hrep
   refine o_loadIN (vs := [.int .i64 q98.1, .int .i64 q98.2.1, .int .i64 q98.2.2.1, .int .i64 q98.2.2.2.1, v102]) rfl rfl rfl z_agg52 rfl rfl (celn_part 0 rfl hc103) ?_
   obtain ⟨r105, hr106, h⟩ := h
   refine st_call (foot := []) rfl rfl rfl rfl rfl rfl (callV_fn z_en21 (law26_Cut_ok hr106 τ97 hs104)) ?_
   rintro vτ107 τ107 gsτ107 hl108 ⟨v109, rfl, rfl, hs110⟩
   refine o_alloc rfl rfl rfl z_zero52 (fun b111 => ?_)
   refine o_store (j := 0) (vs := [.int .i64 r105.1, .int .i64 r105.2.1, .int .i64 r105.2.2.1, .int .i64 r105.2.2.2.1, v109]) (cs' := [.int .i64 r105.1, .int .i64 r105.2.1, .int .i64 r105.2.2.1, .int .i64 r105.2.2.2.1, v109]) rfl rfl rfl z_size52 rfl rfl rfl (ones_cons rfl (ones_cons rfl (ones_cons rfl (ones_cons rfl (ones_cons hs110.one' ones_nil))))) rfl rfl rfl ?_
   refine st_gs [[(b111, .cells #[.int .i64 r105.1, .int .i64 r105.2.1, .int .i64 r105.2.2.1, .int .i64 r105.2.2.2.1, v109] 52 (0, 0))], [(b5, .cells #[v11] 48 (0, 0))], [(b6, .cells #[.bool false] 4 (0, 0))], [(b13, .cells #[v94] 49 (0, 0))], g92, g95] rfl ?_
   refine ZZ 5 [3, 0] rfl rfl ?_
   refine o_lit (dk := (kP (kI .i64) (kP (kI .i64) (kP (kI .i64) (kP (kI .i64) (kSl (kI .u8))))))) (xs := [r105]) (ps := [(0, [.int .i64 r105.1, .int .i64 r105.2.1, .int .i64 r105.2.2.1, .int .i64 r105.2.2.2.1, v109])]) (cs := [.int .i64 r105.1, .int .i64 r105.2.1, .int .i64 r105.2.2.1, .int .i64 r105.2.2.2.1, v109]) rfl rfl rfl z_slT49 z_zero52 ⟨rfl, ⟨_, rfl, rfl⟩, trivial⟩ rfl rfl rfl rfl (Kd.Many.cons (d := (kP (kI .i64) (kP (kI .i64) (kP (kI .i64) (kP (kI .i64) (kSl (kI .u8))))))) (x := r105) (a := [.int .i64 r105.1, .int .i64 r105.2.1, .int .i64 r105.2.2.1, .int .i64 r105.2.2.2.1, v109]) ⟨[.int .i64 r105.1], _, rfl, rfl, ⟨[.int .i64 r105.2.1], _, rfl, rfl, ⟨[.int .i64 r105.2.2.1], _, rfl, rfl, ⟨[.int .i64 r105.2.2.2.1], _, rfl, rfl, ⟨_, rfl, hs110⟩⟩⟩⟩⟩ Kd.Many.nil) (fun v112 g113 ho114 => ?_)
   obtain ⟨hf118, hf119, h⟩ := h
   refine st_ord [6, 0, 0, 0, 0, 0, 0] _ rfl ?_
   refine o_append (dk := (kP (kI .i64) (kP (kI .i64) (kP (kI .i64) (kP (kI .i64) (kSl (kI .u8))))))) (xs := s90.2.2) (ys := [r105]) rfl rfl rfl rfl z_slT49 rfl (ho96.up (hl97.trans hl108)) rfl (Ow.src (j := 1) ho114 rfl) hf118 hf119 (fun v115 g116 ho117 => ?_)
   refine o_store (j := 5) (vs := [v115]) (cs' := [v115]) rfl rfl rfl z_size49 rfl rfl (oneL_ow ho117) (ones_cons ho117.one' ones_nil) rfl rfl rfl ?_
   refine st_gs [g116, g113, [(b111, .cells #[.int .i64 r105.1, .int .i64 r105.2.1, .int .i64 r105.2.2.1, .int .i64 r105.2.2.2.1, v109] 52 (0, 0))], [(b5, .cells #[v11] 48 (0, 0))], [(b6, .cells #[.bool false] 4 (0, 0))], [(b13, .cells #[v115] 49 (0, 0))], g92] rfl ?_
   refine Z 2 rfl ?_
   obtain ⟨r120, hr121, r126, hr127, h⟩ := h
   refine st_draw 4 (dl [.v (v11), .v (.agg #[.int .i64 r105.1, .int .i64 r105.2.1, .int .i64 r105.2.2.1, .int .i64 r105.2.2.2.1, v109]), .t fun τ v => ∃ (v124 : Value), (.agg #[.int .i64 r120.1, .int .i64 r120.2.1, .int .i64 r120.2.2.1, .int .i64 r120.2.2.2.1, v124] : Value) = v ∧ Sl (kI .u8) τ v124 r120.2.2.2.2, .t fun τ v => ∃ (v130 : Value), (v130 : Value) = v ∧ Sl (kI .u8) τ v130 r126]) (fun _ _ => []) z_mix rfl (dl_mono ⟨fun _ _ _ hl ⟨v124, hv, hs125⟩ => ⟨v124, hv, hs125.up hl⟩, ⟨fun _ _ _ hl ⟨v130, hv, hs131⟩ => ⟨v130, hv, hs131.up hl⟩, trivial⟩⟩) (allB_cons (allB_cons (allB_cons (allB_cons allB_nil ?_) ?_) ?_) ?_) ?_
   ·intro ρ' τ pool rs hl hd hout hk
    refine o_load (j := 3) (v := v11) rfl rfl rfl z_sc48 ((hout 2 rfl).trans rfl) rfl rfl ?_
    exact st_addNil (hk _ _ (Sto.Le.refl _) rfl)
   ·intro ρ' τ pool rs hl hd hout hk
    refine o_loadN (j := 2) (vs := [.int .i64 r105.1, .int .i64 r105.2.1, .int .i64 r105.2.2.1, .int .i64 r105.2.2.2.1, v109]) rfl rfl rfl z_agg52 ((hout 8 rfl).trans rfl) rfl rfl ?_
    exact st_addNil (hk _ _ (Sto.Le.refl _) rfl)
   ·intro ρ' τ pool rs hl hd hout hk
    obtain ⟨_, e1, rfl⟩ := hd 1 rfl
    refine st_call (foot := []) rfl rfl rfl rfl (evs_cons e1 rfl) rfl (callV_fn z_en23 (law26_Of_ok hr121 τ (hs110.up hl))) ?_
    rintro vτ122 τ122 gsτ122 hl123 ⟨v124, rfl, rfl, hs125⟩
    exact st_addNil (hk _ _ hl123 ⟨v124, rfl, hs125⟩)
   ·intro ρ' τ pool rs hl hd hout hk
    obtain ⟨_, e0, rfl⟩ := hd 0 rfl
    obtain ⟨_, e2, v124, rfl, hs125⟩ := hd 2 rfl
    refine st_call (foot := []) rfl rfl rfl rfl (evs_cons e0 (evs_cons e2 rfl)) rfl (callV_fn z_en22 (ref26_Bytes_ok hr127 τ (hs12.up (((hl90.trans hl97).trans hl108).trans hl)) hs125)) ?_
    rintro vτ128 τ128 gsτ128 hl129 ⟨v130, rfl, rfl, hs131⟩
    exact st_addNil (hk _ _ hl129 ⟨v130, rfl, hs131⟩)
   intro ρ' τ132 vals hl132 hv hout
   obtain ⟨l3, v130, t3, hs131⟩ := hv 3 (by decide)
   replace l3 : Eng.look ρ' 38 = some (v130) := l3.trans (congrArg some (Eq.symm t3))
   refine st_ord [0, 0, 0, 0, 0, 0, 0] _ rfl ?_
   refine st_env (ρ' := [(38, v130), (1, v3), (2, .pointer (some ⟨b5, 0, none⟩)), (4, .pointer (some ⟨b6, 0, none⟩)), (5, .pointer (some ⟨b13, 0, none⟩)), (6, v91), (7, .int .i64 s90.2.1), (8, .pointer (some ⟨b111, 0, none⟩))]) ⟨l3, (hout 1 rfl).trans rfl, (hout 2 rfl).trans rfl, (hout 4 rfl).trans rfl, (hout 5 rfl).trans rfl, (hout 6 rfl).trans rfl, (hout 7 rfl).trans rfl, (hout 8 rfl).trans rfl, trivial⟩ ?_
   refine Z 6 rfl ?_
   obtain ⟨hf136, hf137, h⟩ := h
   refine st_ord [6, 0, 0, 0, 0, 0, 0] _ rfl ?_
   refine o_append (dk := (kI .u8)) (xs := s90.1) (ys := r126) rfl rfl rfl rfl z_slT22 rfl (ho93.up ((hl97.trans hl108).trans hl132)) rfl (Sl.src hs131) hf136 hf137 (fun v133 g134 ho135 => ?_)
   refine Z 3 rfl ?_
   obtain ⟨r138, hr139, r142, hr143, r148, hr149, r153, hr154, r159, hr160, h⟩ := h
   let cc152 : Prop := (!(decide (r138 = r148))) = false
   refine st_draw 18 (dl [.v (.agg #[.int .i64 r105.1, .int .i64 r105.2.1, .int .i64 r105.2.2.1, .int .i64 r105.2.2.2.1, v109]), .v (v11), .v (.int .i64 (r7.length : Int)), .v (.int .i64 r138), .v (.agg #[.int .i64 r105.1, .int .i64 r105.2.1, .int .i64 r105.2.2.1, .int .i64 r105.2.2.2.1, v109]), .t fun τ v => ∃ (v146 : Value), (.agg #[.int .i64 r142.1, .int .i64 r142.2.1, .int .i64 r142.2.2.1, .int .i64 r142.2.2.2.1, v146] : Value) = v ∧ Sl (kI .u8) τ v146 r142.2.2.2.2, .v (v11), .v (.int .i64 (r7.length : Int)), .v (.int .i64 r148), .v (.bool (!(decide (r138 = r148)))), .v (.bool (!(decide (r138 = r148)))), .g cc152 (v11), .g cc152 (.agg #[.int .i64 r105.1, .int .i64 r105.2.1, .int .i64 r105.2.2.1, .int .i64 r105.2.2.2.1, v109]), .h cc152 fun τ v => ∃ (v157 : Value), (v157 : Value) = v ∧ Sl (kI .u8) τ v157 r153, .g cc152 (v130), .g cc152 (.bool r159), .g cc152 (.bool (!r159)), .v (.bool ((!(decide (r138 = r148))) || (!r159)))]) (fun _ _ => []) z_mix rfl (dl_mono ⟨fun _ _ _ hl ⟨v146, hv, hs147⟩ => ⟨v146, hv, hs147.up hl⟩, ⟨fun _ _ _ hl ⟨v157, hv, hs158⟩ => ⟨v157, hv, hs158.up hl⟩, trivial⟩⟩) (allB_cons (allB_cons (allB_cons (allB_cons (allB_cons (allB_cons (allB_cons (allB_cons (allB_cons (allB_cons (allB_cons (allB_cons (allB_cons (allB_cons (allB_cons (allB_cons (allB_cons (allB_cons allB_nil ?_) ?_) ?_) ?_) ?_) ?_) ?_) ?_) ?_) (p1 dA)) (p1 dA)) ?_) ?_) ?_) (p1 (dG []))) ?_) (p1 (dG [15]))) (p1 dO)) ?_
   ·intro ρ' τ pool rs hl hd hout hk
    refine o_loadN (j := 3) (vs := [.int .i64 r105.1, .int .i64 r105.2.1, .int .i64 r105.2.2.1, .int .i64 r105.2.2.2.1, v109]) rfl rfl rfl z_agg52 ((hout 8 rfl).trans rfl) rfl rfl ?_
    exact st_addNil (hk _ _ (Sto.Le.refl _) rfl)
   ·intro ρ' τ pool rs hl hd hout hk
    refine o_load (j := 4) (v := v11) rfl rfl rfl z_sc48 ((hout 2 rfl).trans rfl) rfl rfl ?_
    exact st_addNil (hk _ _ (Sto.Le.refl _) rfl)
   ·intro ρ' τ pool rs hl hd hout hk
    obtain ⟨_, e1, rfl⟩ := hd 1 rfl
    refine o_lenI rfl rfl rfl z_slT48 e1 (hs12.up ((((hl90.trans hl97).trans hl108).trans hl132).trans hl)) ?_
    exact st_addNil (hk _ _ (Sto.Le.refl _) rfl)
   ·intro ρ' τ pool rs hl hd hout hk
    obtain ⟨_, e0, rfl⟩ := hd 0 rfl
    obtain ⟨_, e2, rfl⟩ := hd 2 rfl
    refine st_call (foot := []) rfl rfl rfl rfl (evs_cons e0 (evs_cons e2 rfl)) rfl (callV_fn z_en24 (noise_Check_ok hr139 τ (hs110.up (hl132.trans hl)))) ?_
    rintro vτ140 τ140 gsτ140 hl141 ⟨rfl, rfl⟩
    exact st_addNil (hk _ _ hl141 rfl)
   ·intro ρ' τ pool rs hl hd hout hk
    refine o_loadN (j := 3) (vs := [.int .i64 r105.1, .int .i64 r105.2.1, .int .i64 r105.2.2.1, .int .i64 r105.2.2.2.1, v109]) rfl rfl rfl z_agg52 ((hout 8 rfl).trans rfl) rfl rfl ?_
    exact st_addNil (hk _ _ (Sto.Le.refl _) rfl)
   ·intro ρ' τ pool rs hl hd hout hk
    obtain ⟨_, e4, rfl⟩ := hd 4 rfl
    refine st_call (foot := []) rfl rfl rfl rfl (evs_cons e4 rfl) rfl (callV_fn z_en23 (law26_Of_ok hr143 τ (hs110.up (hl132.trans hl)))) ?_
    rintro vτ144 τ144 gsτ144 hl145 ⟨v146, rfl, rfl, hs147⟩
    exact st_addNil (hk _ _ hl145 ⟨v146, rfl, hs147⟩)
   ·intro ρ' τ pool rs hl hd hout hk
    refine o_load (j := 4) (v := v11) rfl rfl rfl z_sc48 ((hout 2 rfl).trans rfl) rfl rfl ?_
    exact st_addNil (hk _ _ (Sto.Le.refl _) rfl)
   ·intro ρ' τ pool rs hl hd hout hk
    obtain ⟨_, e6, rfl⟩ := hd 6 rfl
    refine o_lenI rfl rfl rfl z_slT48 e6 (hs12.up ((((hl90.trans hl97).trans hl108).trans hl132).trans hl)) ?_
    exact st_addNil (hk _ _ (Sto.Le.refl _) rfl)
   ·intro ρ' τ pool rs hl hd hout hk
    obtain ⟨_, e5, v146, rfl, hs147⟩ := hd 5 rfl
    obtain ⟨_, e7, rfl⟩ := hd 7 rfl
    refine st_call (foot := []) rfl rfl rfl rfl (evs_cons e5 (evs_cons e7 rfl)) rfl (callV_fn z_en25 (ref26_Check_ok hr149 τ hs147)) ?_
    rintro vτ150 τ150 gsτ150 hl151 ⟨rfl, rfl⟩
    exact st_addNil (hk _ _ hl151 rfl)
   ·intro ρ' τ pool rs hl hd hout hk
    obtain ⟨_, e10, rfl⟩ := hd 10 rfl
    by_cases hG : (!(decide (r138 = r148))) = false
    ·have hC := hG
     refine o_load (j := 4) (v := v11) rfl (wants_of rfl e10 hG) rfl z_sc48 ((hout 2 rfl).trans rfl) rfl rfl ?_
     exact st_addNil (hk _ _ (Sto.Le.refl _) ⟨fun _ => rfl, fun hn => absurd hC hn⟩)
    ·refine st_pass rfl rfl rfl e10 (beq_off hG) rfl ?_
     exact st_addNil (hk _ _ (Sto.Le.refl _) ⟨fun h => absurd h hG, fun _ => rfl⟩)
   ·intro ρ' τ pool rs hl hd hout hk
    obtain ⟨_, e10, rfl⟩ := hd 10 rfl
    by_cases hG : (!(decide (r138 = r148))) = false
    ·have hC := hG
     refine o_loadN (j := 3) (vs := [.int .i64 r105.1, .int .i64 r105.2.1, .int .i64 r105.2.2.1, .int .i64 r105.2.2.2.1, v109]) rfl (wants_of rfl e10 hG) rfl z_agg52 ((hout 8 rfl).trans rfl) rfl rfl ?_
     exact st_addNil (hk _ _ (Sto.Le.refl _) ⟨fun _ => rfl, fun hn => absurd hC hn⟩)
    ·refine st_pass rfl rfl rfl e10 (beq_off hG) rfl ?_
     exact st_addNil (hk _ _ (Sto.Le.refl _) ⟨fun h => absurd h hG, fun _ => rfl⟩)
   ·intro ρ' τ pool rs hl hd hout hk
    obtain ⟨_, e10, rfl⟩ := hd 10 rfl
    obtain ⟨w11, e11, t11⟩ := hd 11 rfl
    obtain ⟨w12, e12, t12⟩ := hd 12 rfl
    by_cases hG : (!(decide (r138 = r148))) = false
    ·have hC := hG
     replace hr154 := hr154 hC
     obtain ⟨rfl⟩ := t11.1 hC
     obtain ⟨rfl⟩ := t12.1 hC
     refine st_call (foot := []) rfl (wants_of rfl e10 hG) rfl rfl (evs_cons e11 (evs_cons e12 rfl)) rfl (callV_fn z_en26 (noise_Bytes_ok hr154 τ (hs12.up ((((hl90.trans hl97).trans hl108).trans hl132).trans hl)) (hs110.up (hl132.trans hl)))) ?_
     rintro vτ155 τ155 gsτ155 hl156 ⟨v157, rfl, rfl, hs158⟩
     exact st_addNil (hk _ _ hl156 ⟨fun _ => ⟨v157, rfl, hs158⟩, fun hn => absurd hC hn⟩)
    ·refine st_pass rfl rfl rfl e10 (beq_off hG) rfl ?_
     exact st_addNil (hk _ _ (Sto.Le.refl _) ⟨fun h => absurd h hG, fun _ => rfl⟩)
   ·intro ρ' τ pool rs hl hd hout hk
    obtain ⟨_, e10, rfl⟩ := hd 10 rfl
    obtain ⟨w13, e13, t13⟩ := hd 13 rfl
    obtain ⟨w14, e14, t14⟩ := hd 14 rfl
    by_cases hG : (!(decide (r138 = r148))) = false
    ·have hC := hG
     replace hr160 := hr160 hC
     obtain ⟨rfl⟩ := t14.1 hC
     obtain ⟨v157, rfl, hs158⟩ := t13.1 hC
     refine st_call (foot := []) rfl (wants_of rfl e10 hG) rfl rfl (evs_cons e13 (evs_cons e14 rfl)) rfl (callV_fn z_en12 (ref01_Same_ok hr160 τ hs158 (hs131.up hl))) ?_
     rintro vτ161 τ161 gsτ161 hl162 ⟨rfl, rfl⟩
     exact st_addNil (hk _ _ hl162 ⟨fun _ => rfl, fun hn => absurd hC hn⟩)
    ·refine st_pass rfl rfl rfl e10 (beq_off hG) rfl ?_
     exact st_addNil (hk _ _ (Sto.Le.refl _) ⟨fun h => absurd h hG, fun _ => rfl⟩)
   intro ρ' τ163 vals hl163 hv hout
   refine st_ord [0, 0, 0, 0, 0, 0, 0] _ rfl ?_
   refine st_env (ρ' := [(59, .bool ((!(decide (r138 = r148))) || (!r159))), (1, v3), (2, .pointer (some ⟨b5, 0, none⟩)), (4, .pointer (some ⟨b6, 0, none⟩)), (5, .pointer (some ⟨b13, 0, none⟩)), (6, v133), (7, .int .i64 s90.2.1)]) ⟨(lv1 hv 17 rfl rfl), (hout 1 rfl).trans rfl, (hout 2 rfl).trans rfl, (hout 4 rfl).trans rfl, (hout 5 rfl).trans rfl, (hout 6 rfl).trans rfl, (hout 7 rfl).trans rfl, trivial⟩ ?_
   refine st_end ?_
   refine st_if rfl h (fun h => ?_) (fun h => ?_)
   ·refine ZZ 4 [5] rfl rfl ?_
    obtain rfl := he90 _ h
    replace h := hA90
    obtain rfl := Eq.symm h
    exact st_retC (gs' := []) [.bool false] Tryd.func6 ⟨⟨_, _, _, _, rfl, mem_flat 5 rfl, fun w hw => cellOf z_sc4 rfl w hw⟩, trivial⟩ (by simp) (((((hl10.trans hl90).trans hl97).trans hl108).trans hl132).trans hl163) ⟨rfl, rfl⟩
   ·refine Z 7 rfl ?_
    refine st_ord [4, 4, 4, 0, 0] _ rfl ?_
    exact hn90 _ _ _ _ h ⟨((((hl90.trans hl97).trans hl108).trans hl132).trans hl163), _, _, _, _, rfl, rfl, (ho135.up hl163), (ho117.up (hl132.trans hl163))⟩
  ·refine st_exit rfl ?_
   obtain rfl := he90 _ h
   replace h := hA90
   exact hk14 _ _ _ ⟨(s90.1, s90.2.2), _, _, _, _, h, (hl90.trans hl97), rfl, rfl, (ho93.up hl97), (ho96.up hl97)⟩
 refine Z 3 rfl ?_
 refine o_lenI rfl rfl rfl z_slT49 rfl (hs4.up (hl10.trans hl90)) ?_
 refine o_ibin (v := .bool (decide (s90.2.1 < (a1.length : Int)))) rfl rfl rfl rfl rfl rfl ?_
 refine o_mif rfl rfl rfl rfl h (fun h => ?_) (fun h => ?_)
 ·refine Z 4 rfl ?_
  exact hk97 _ _ _ ⟨(decide (s90.2.1 < 20)), h, (Sto.Le.refl _), rfl, rfl⟩
 ·refine Z 4 rfl ?_
  exact hk97 _ _ _ ⟨false, h, (Sto.Le.refl _), rfl, rfl⟩
end Go.Rel
