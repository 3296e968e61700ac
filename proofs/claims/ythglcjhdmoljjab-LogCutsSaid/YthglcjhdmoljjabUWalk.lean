import Derived.Test.YthglcjhdmoljjabURel
import Derived.Test.YthglcjhdmoljjabUFacts
import Derived.Test.YthglcjhdmoljjabUWalk0
/-! The walks. -/
set_option linter.unusedVariables false
set_option linter.unusedSimpArgs false
set_option maxRecDepth 4000
set_option maxHeartbeats 4000000
namespace Go.Rel
open Go Go.Eng Go.Proofs
theorem lens_Lens_read__lens_Lens_Number_1_ok {a0 : List Int × Int × Int} {a1_0 : Int} {a1_1 : Int} {ba0 : Nat} {v1 : Value} {ba1_0 : Nat} {ba1_1 : Nat} {r : Bool × (List Int × Int × Int) × Int} (h : lens_Lens_read__lens_Lens_Number_1 a0 a1_0 a1_1 r) (σ : Sto) (hs2 : Sl (kI .u8) σ v1 a0.1) :
    Does Try.prog 48 [.pointer (some ⟨ba0, 0, none⟩), .func (.func 83) #[] [.pointer (some ⟨ba1_0, 0, none⟩), .pointer (some ⟨ba1_1, 0, none⟩)].toArray] σ [[(ba0, .cells [v1, .int .i64 a0.2.1, .int .i64 a0.2.2].toArray 93 (0, 0))], [(ba1_0, .cells [.int .u64 a1_0].toArray 91 (0, 0))], [(ba1_1, .cells [.int .u64 a1_1].toArray 91 (0, 0))]] (fun v τ gs => ∃ (v13 : Value), gs = [[(ba0, .cells [v13, .int .i64 r.2.1.2.1, .int .i64 r.2.1.2.2].toArray 93 (0, 0))], [(ba1_0, .cells [.int .u64 a1_0].toArray 91 (0, 0))], [(ba1_1, .cells [.int .u64 r.2.2].toArray 91 (0, 0))]] ∧ .bool r.1 = v ∧ Sl (kI .u8) τ v13 r.2.1.1) := by
 refine call_of Try.func48 Try.ntmps48 rfl rfl (fun cs fs => ?_)
 refine ZZ 17 [0] rfl rfl ?_
 refine st_if rfl h (fun h => ?_) (fun h => ?_)
 ·refine Z 4 rfl ?_
  obtain rfl := Eq.symm h
  exact st_ret (gs' := [[(ba0, .cells #[v1, .int .i64 a0.2.1, .int .i64 a0.2.2] 93 (0, 0))], [(ba1_0, .cells #[.int .u64 a1_0] 91 (0, 0))], [(ba1_1, .cells #[.int .u64 a1_1] 91 (0, 0))]]) Try.func48 rfl (List.Sublist.refl _) (Sto.Le.refl _) ⟨_, rfl, rfl, hs2⟩
 ·refine Z 5 rfl ?_
  obtain ⟨r3, hr4, h⟩ := h
  refine st_call (foot := [[(ba0, .cells #[v1, .int .i64 a0.2.1, .int .i64 a0.2.2] 93 (0, 0))]]) rfl rfl rfl rfl rfl rfl (callV_fn z_en47 (lens_Lens_left_ok hr4 σ hs2)) ?_
  rintro vτ5 τ5 gsτ5 hl6 ⟨v7, rfl, rfl, hs8⟩
  obtain ⟨r9, hr10, h⟩ := h
  refine st_ord [1, 1, 0] _ rfl ?_
  refine st_call (foot := [[(ba1_0, .cells #[.int .u64 a1_0] 91 (0, 0))], [(ba1_1, .cells #[.int .u64 a1_1] 91 (0, 0))]]) rfl rfl rfl rfl rfl rfl (callV_of2 (caps := [.pointer (some ⟨ba1_0, 0, none⟩), .pointer (some ⟨ba1_1, 0, none⟩)]) z_en83 (lens_Lens_Number_1_ok hr10 τ5 hs8) rfl) ?_
  rintro vτ11 τ11 gsτ11 hl12 ⟨rfl, rfl⟩
  refine Z 12 rfl ?_
  refine st_if rfl h (fun h => ?_) (fun h => ?_)
  ·refine ZZ 12 [2] rfl rfl ?_
   refine st_ord [2, 0, 0] _ rfl ?_
   obtain rfl := Eq.symm h
   exact st_ret (gs' := [[(ba0, .cells #[v1, .int .i64 a0.2.1, .int .i64 r9.2.1] 93 (0, 0))], [(ba1_0, .cells #[.int .u64 a1_0] 91 (0, 0))], [(ba1_1, .cells #[.int .u64 r9.2.2] 91 (0, 0))]]) Try.func48 rfl (List.Sublist.refl _) (hl6.trans hl12) ⟨_, rfl, rfl, (hs2.up (hl6.trans hl12))⟩
  ·refine ZZ 17 [2, 2] rfl rfl ?_
   refine st_ord [2, 0, 0] _ rfl ?_
   obtain rfl := Eq.symm h
   exact st_ret (gs' := [[(ba0, .cells #[v1, .int .i64 (IntKind.i64.wrap (a0.2.1 + r9.1)), .int .i64 a0.2.2] 93 (0, 0))], [(ba1_0, .cells #[.int .u64 a1_0] 91 (0, 0))], [(ba1_1, .cells #[.int .u64 r9.2.2] 91 (0, 0))]]) Try.func48 rfl (List.Sublist.refl _) (hl6.trans hl12) ⟨_, rfl, rfl, (hs2.up (hl6.trans hl12))⟩
theorem lens_Lens_Number_ok {a0 : List Int × Int × Int} {a1 : Int} {ba0 : Nat} {v1 : Value} {r : Int × (List Int × Int × Int)} (h : lens_Lens_Number a0 a1 r) (σ : Sto) (hs2 : Sl (kI .u8) σ v1 a0.1) :
    Does Try.prog 73 [.pointer (some ⟨ba0, 0, none⟩), .int .u64 a1] σ [[(ba0, .cells [v1, .int .i64 a0.2.1, .int .i64 a0.2.2].toArray 93 (0, 0))]] (fun v τ gs => ∃ (v11 : Value), gs = [[(ba0, .cells [v11, .int .i64 r.2.2.1, .int .i64 r.2.2.2].toArray 93 (0, 0))]] ∧ .int .u64 r.1 = v ∧ Sl (kI .u8) τ v11 r.2.1) := by
 refine call_of Try.func73 Try.ntmps73 rfl rfl (fun cs fs => ?_)
 refine Z 2 rfl ?_
 refine o_boxC rfl rfl rfl rfl rfl rfl (fun b3 => ?_)
 refine Z 4 rfl ?_
 refine o_alloc rfl rfl rfl z_zero91 (fun b4 => ?_)
 refine ZZ 6 [0] rfl rfl ?_
 obtain ⟨r5, hr6, h⟩ := h
 refine st_ord [2, 1, 0] _ rfl ?_
 refine st_call (foot := [[(ba0, .cells #[v1, .int .i64 a0.2.1, .int .i64 a0.2.2] 93 (0, 0))], [(b3, .cells #[.int .u64 a1] 91 (0, 0))], [(b4, .cells #[.int .u64 0] 91 (0, 0))]]) rfl rfl rfl rfl rfl rfl (callV_fn z_en48 (lens_Lens_read__lens_Lens_Number_1_ok hr6 σ hs2)) ?_
 rintro vτ7 τ7 gsτ7 hl8 ⟨v9, rfl, rfl, hs10⟩
 refine ZZ 6 [2] rfl rfl ?_
 refine st_ord [0] _ rfl ?_
 obtain rfl := Eq.symm h
 exact st_ret (gs' := [[(ba0, .cells #[v9, .int .i64 r5.2.1.2.1, .int .i64 r5.2.1.2.2] 93 (0, 0))]]) Try.func73 rfl (List.Sublist.refl _) hl8 ⟨_, rfl, rfl, hs10⟩
theorem body_reader_err_ok {a0 : Unit × Int} {a0p0 : List Int × Int × Int} {ba0 : Nat} {ba0p0 : Nat} {v1 : Value} {r : Int} (h : body_reader_err a0 a0p0 r) (σ : Sto) (hs2 : Sl (kI .u8) σ v1 a0p0.1) :
    Does Try.prog 63 [.pointer (some ⟨ba0, 0, none⟩)] σ [[(ba0, .cells [.pointer (some ⟨ba0p0, 0, none⟩), .int .i64 a0.2].toArray 116 (0, 0))], [(ba0p0, .cells [v1, .int .i64 a0p0.2.1, .int .i64 a0p0.2.2].toArray 93 (0, 0))]] (fun v τ gs => gs = [[(ba0, .cells [.pointer (some ⟨ba0p0, 0, none⟩), .int .i64 a0.2].toArray 116 (0, 0))], [(ba0p0, .cells [v1, .int .i64 a0p0.2.1, .int .i64 a0p0.2.2].toArray 93 (0, 0))]] ∧ .int .i64 r = v) := by
 refine call_of Try.func63 Try.ntmps63 rfl rfl (fun cs fs => ?_)
 refine ZZ 13 [0] rfl rfl ?_
 refine st_if rfl h (fun h => ?_) (fun h => ?_)
 ·refine ZZ 8 [0] rfl rfl ?_
  obtain rfl := Eq.symm h
  exact st_ret (gs' := [[(ba0, .cells #[.pointer (some ⟨ba0p0, 0, none⟩), .int .i64 a0.2] 116 (0, 0))], [(ba0p0, .cells #[v1, .int .i64 a0p0.2.1, .int .i64 a0p0.2.2] 93 (0, 0))]]) Try.func63 rfl (List.Sublist.refl _) (Sto.Le.refl _) ⟨rfl, rfl⟩
 ·refine ZZ 7 [0] rfl rfl ?_
  obtain ⟨r3, hr4, h⟩ := h
  refine st_ord [1, 0] _ rfl ?_
  refine st_call (foot := [[(ba0p0, .cells #[v1, .int .i64 a0p0.2.1, .int .i64 a0p0.2.2] 93 (0, 0))]]) rfl rfl rfl rfl rfl rfl (callV_fn z_en37 (lens_Lens_Err_ok hr4 σ hs2)) ?_
  rintro vτ5 τ5 gsτ5 hl6 ⟨rfl, rfl⟩
  refine Z 2 rfl ?_
  refine st_ord [1, 0] _ rfl ?_
  obtain rfl := Eq.symm h
  exact st_ret (gs' := [[(ba0, .cells #[.pointer (some ⟨ba0p0, 0, none⟩), .int .i64 a0.2] 116 (0, 0))], [(ba0p0, .cells #[v1, .int .i64 a0p0.2.1, .int .i64 a0p0.2.2] 93 (0, 0))]]) Try.func63 rfl (List.Sublist.refl _) hl6 ⟨rfl, rfl⟩
theorem body_reader_note_ok {a0 : Unit × Int} {a0p0 : List Int × Int × Int} {a1 : Bool} {a2 : Int} {ba0 : Nat} {ba0p0 : Nat} {v1 : Value} {r : (Unit × Int)} (h : body_reader_note a0 a0p0 a1 a2 r) (σ : Sto) (hs2 : Sl (kI .u8) σ v1 a0p0.1) :
    Does Try.prog 74 [.pointer (some ⟨ba0, 0, none⟩), .bool a1, .int .i64 a2] σ [[(ba0, .cells [.pointer (some ⟨ba0p0, 0, none⟩), .int .i64 a0.2].toArray 116 (0, 0))], [(ba0p0, .cells [v1, .int .i64 a0p0.2.1, .int .i64 a0p0.2.2].toArray 93 (0, 0))]] (fun v τ gs => gs = [[(ba0, .cells [.pointer (some ⟨ba0p0, 0, none⟩), .int .i64 r.2].toArray 116 (0, 0))], [(ba0p0, .cells [v1, .int .i64 a0p0.2.1, .int .i64 a0p0.2.2].toArray 93 (0, 0))]] ∧ .tuple [].toArray = v) := by
 refine call_of Try.func74 Try.ntmps74 rfl rfl (fun cs fs => ?_)
 refine st_seq ?_
 refine st_cut (fun ρ τ3 gs => ∃ (s3 : Bool), body_reader_note_j1 a0 a2 s3 r ∧ σ.Le τ3 ∧ ESub ρ [(0, .pointer (some ⟨ba0, 0, none⟩)), (2, .int .i64 a2), (11, .bool s3)] ∧ gs = [[(ba0, .cells #[.pointer (some ⟨ba0p0, 0, none⟩), .int .i64 a0.2] 116 (0, 0))], [(ba0p0, .cells #[v1, .int .i64 a0p0.2.1, .int .i64 a0p0.2.2] 93 (0, 0))]]) ?_ (fun hk3 => ?_)
 ·rintro ρ3 τ3 gs3 ⟨s3, h, hl3, hρ, rfl⟩
  refine st_es hρ ?_
  refine st_if rfl h (fun h => ?_) (fun h => ?_)
  ·refine ZZ 7 [0] rfl rfl ?_
   obtain rfl := Eq.symm h
   exact st_fin (gs' := [[(ba0, .cells #[.pointer (some ⟨ba0p0, 0, none⟩), .int .i64 a2] 116 (0, 0))], [(ba0p0, .cells #[v1, .int .i64 a0p0.2.1, .int .i64 a0p0.2.2] 93 (0, 0))]]) Try.func74 rfl (List.Sublist.refl _) hl3 ⟨rfl, rfl⟩
  ·refine st_skip ?_
   obtain rfl := Eq.symm h
   exact st_fin (gs' := [[(ba0, .cells #[.pointer (some ⟨ba0p0, 0, none⟩), .int .i64 a0.2] 116 (0, 0))], [(ba0p0, .cells #[v1, .int .i64 a0p0.2.1, .int .i64 a0p0.2.2] 93 (0, 0))]]) Try.func74 rfl (List.Sublist.refl _) hl3 ⟨rfl, rfl⟩
 refine Z 2 rfl ?_
 refine o_mif rfl rfl rfl rfl h (fun h => ?_) (fun h => ?_)
 ·refine o_move rfl rfl rfl rfl ?_
  obtain ⟨r4, hr5, h⟩ := h
  refine st_call (foot := [[(ba0, .cells #[.pointer (some ⟨ba0p0, 0, none⟩), .int .i64 a0.2] 116 (0, 0))], [(ba0p0, .cells #[v1, .int .i64 a0p0.2.1, .int .i64 a0p0.2.2] 93 (0, 0))]]) rfl rfl rfl rfl rfl rfl (callV_fn z_en63 (body_reader_err_ok hr5 σ hs2)) ?_
  rintro vτ6 τ6 gsτ6 hl7 ⟨rfl, rfl⟩
  refine Z 3 rfl ?_
  exact hk3 _ _ _ ⟨(decide (r4 = 0)), h, hl7, rfl, rfl⟩
 ·refine Z 5 rfl ?_
  exact hk3 _ _ _ ⟨false, h, (Sto.Le.refl _), rfl, rfl⟩
theorem varint_Zag_ok {a0 : Int} {r : Int} (h : varint_Zag a0 r) (σ : Sto)  :
    Does Try.prog 85 [.int .u64 a0] σ [] (fun v τ gs => gs = [] ∧ .int .i64 r = v) := by
 refine call_of Try.func85 Try.ntmps85 rfl rfl (fun cs fs => ?_)
 refine Z 16 rfl ?_
 obtain rfl := Eq.symm h
 exact st_ret (gs' := []) Try.func85 rfl (List.Sublist.refl _) (Sto.Le.refl _) ⟨rfl, rfl⟩
theorem lens_Lens_Signed_1_ok {a0 : List Int} {c0 : Int} {c1 : Int} {c2 : Int} {v1 : Value} {bc0 : Nat} {bc1 : Nat} {bc2 : Nat} {r : Int × Int × Int} (h : lens_Lens_Signed_1 a0 c0 c1 c2 r) (σ : Sto) (hs2 : Sl (kI .u8) σ v1 a0) :
    Does Try.prog 84 [v1, .pointer (some ⟨bc0, 0, none⟩), .pointer (some ⟨bc1, 0, none⟩), .pointer (some ⟨bc2, 0, none⟩)] σ [[(bc0, .cells [.int .i64 c0].toArray 2 (0, 0))], [(bc1, .cells [.int .i64 c1].toArray 2 (0, 0))], [(bc2, .cells [.int .i64 c2].toArray 2 (0, 0))]] (fun v τ gs => gs = [[(bc0, .cells [.int .i64 c0].toArray 2 (0, 0))], [(bc1, .cells [.int .i64 c1].toArray 2 (0, 0))], [(bc2, .cells [.int .i64 r.2.2].toArray 2 (0, 0))]] ∧ .tuple [.int .i64 r.1, .int .i64 r.2.1].toArray = v) := by
 refine call_of Try.func84 Try.ntmps84 rfl rfl (fun cs fs => ?_)
 refine Z 8 rfl ?_
 obtain ⟨r3, hr4, h⟩ := h
 refine st_call (foot := []) rfl rfl rfl rfl rfl rfl (callV_fn z_en50 (varint_Get_ok hr4 σ hs2)) ?_
 rintro vτ5 τ5 gsτ5 hl6 ⟨rfl, rfl⟩
 refine Z 9 rfl ?_
 refine st_cut (fun ρ τ7 gs => ∃ (s7 : Int × Int), lens_Lens_Signed_1_j1 r3 s7 r ∧ τ5.Le τ7 ∧ ESub ρ [(5, .int .i64 0), (6, .int .i64 0), (8, .int .i64 r3.2.1), (9, .int .i64 s7.1)] ∧ gs = [[(bc0, .cells #[.int .i64 c0] 2 (0, 0))], [(bc1, .cells #[.int .i64 c1] 2 (0, 0))], [(bc2, .cells #[.int .i64 s7.2] 2 (0, 0))]]) ?_ (fun hk7 => ?_)
 ·rintro ρ7 τ7 gs7 ⟨s7, h, hl7, hρ, rfl⟩
  refine st_es hρ ?_
  refine Z 7 rfl ?_
  obtain rfl := Eq.symm h
  exact st_ret (gs' := [[(bc0, .cells #[.int .i64 c0] 2 (0, 0))], [(bc1, .cells #[.int .i64 c1] 2 (0, 0))], [(bc2, .cells #[.int .i64 s7.2] 2 (0, 0))]]) Try.func84 rfl (List.Sublist.refl _) (hl6.trans hl7) ⟨rfl, rfl⟩
 refine Z 3 rfl ?_
 obtain ⟨r8, hr9, h⟩ := h
 refine st_call (foot := []) rfl rfl rfl rfl rfl rfl (callV_fn z_en85 (varint_Zag_ok hr9 τ5)) ?_
 rintro vτ10 τ10 gsτ10 hl11 ⟨rfl, rfl⟩
 refine Z 3 rfl ?_
 refine st_cut (fun ρ τ12 gs => ∃ (s12 : Bool), lens_Lens_Signed_1_j2 c2 r3 r8 s12 r ∧ τ10.Le τ12 ∧ ESub ρ [(3, .pointer (some ⟨bc2, 0, none⟩)), (5, .int .i64 0), (6, .int .i64 0), (8, .int .i64 r3.2.1), (9, .int .i64 r3.2.2), (10, .int .i64 r8), (30, .bool s12)] ∧ gs = [[(bc0, .cells #[.int .i64 c0] 2 (0, 0))], [(bc1, .cells #[.int .i64 c1] 2 (0, 0))], [(bc2, .cells #[.int .i64 c2] 2 (0, 0))]]) ?_ (fun hk12 => ?_)
 ·rintro ρ12 τ12 gs12 ⟨s12, h, hl12, hρ, rfl⟩
  refine st_es hρ ?_
  refine st_if rfl h (fun h => ?_) (fun h => ?_)
  ·refine Z 3 rfl ?_
   exact hk7 _ _ _ ⟨(5, c2), h, (hl11.trans hl12), rfl, rfl⟩
  ·refine Z 5 rfl ?_
   refine st_if rfl h (fun h => ?_) (fun h => ?_)
   ·refine ZZ 4 [2] rfl rfl ?_
    exact hk7 _ _ _ ⟨(r3.2.2, r8), h, (hl11.trans hl12), rfl, rfl⟩
   ·refine st_skip ?_
    exact hk7 _ _ _ ⟨(r3.2.2, c2), h, (hl11.trans hl12), rfl, rfl⟩
 refine Z 3 rfl ?_
 refine o_mif rfl rfl rfl rfl h (fun h => ?_) (fun h => ?_)
 ·refine ZZ 3 [0] rfl rfl ?_
  refine o_mif rfl rfl rfl rfl h (fun h => ?_) (fun h => ?_)
  ·refine Z 6 rfl ?_
   exact hk12 _ _ _ ⟨true, h, (Sto.Le.refl _), rfl, rfl⟩
  ·refine ZZ 6 [1] rfl rfl ?_
   exact hk12 _ _ _ ⟨(decide (c1 < r8)), h, (Sto.Le.refl _), rfl, rfl⟩
 ·refine Z 10 rfl ?_
  exact hk12 _ _ _ ⟨false, h, (Sto.Le.refl _), rfl, rfl⟩
theorem lens_Lens_read__lens_Lens_Signed_1_ok {a0 : List Int × Int × Int} {a1_0 : Int} {a1_1 : Int} {a1_2 : Int} {ba0 : Nat} {v1 : Value} {ba1_0 : Nat} {ba1_1 : Nat} {ba1_2 : Nat} {r : Bool × (List Int × Int × Int) × Int} (h : lens_Lens_read__lens_Lens_Signed_1 a0 a1_0 a1_1 a1_2 r) (σ : Sto) (hs2 : Sl (kI .u8) σ v1 a0.1) :
    Does Try.prog 48 [.pointer (some ⟨ba0, 0, none⟩), .func (.func 84) #[] [.pointer (some ⟨ba1_0, 0, none⟩), .pointer (some ⟨ba1_1, 0, none⟩), .pointer (some ⟨ba1_2, 0, none⟩)].toArray] σ [[(ba0, .cells [v1, .int .i64 a0.2.1, .int .i64 a0.2.2].toArray 93 (0, 0))], [(ba1_0, .cells [.int .i64 a1_0].toArray 2 (0, 0))], [(ba1_1, .cells [.int .i64 a1_1].toArray 2 (0, 0))], [(ba1_2, .cells [.int .i64 a1_2].toArray 2 (0, 0))]] (fun v τ gs => ∃ (v13 : Value), gs = [[(ba0, .cells [v13, .int .i64 r.2.1.2.1, .int .i64 r.2.1.2.2].toArray 93 (0, 0))], [(ba1_0, .cells [.int .i64 a1_0].toArray 2 (0, 0))], [(ba1_1, .cells [.int .i64 a1_1].toArray 2 (0, 0))], [(ba1_2, .cells [.int .i64 r.2.2].toArray 2 (0, 0))]] ∧ .bool r.1 = v ∧ Sl (kI .u8) τ v13 r.2.1.1) := by
 refine call_of Try.func48 Try.ntmps48 rfl rfl (fun cs fs => ?_)
 refine ZZ 17 [0] rfl rfl ?_
 refine st_if rfl h (fun h => ?_) (fun h => ?_)
 ·refine Z 4 rfl ?_
  obtain rfl := Eq.symm h
  exact st_ret (gs' := [[(ba0, .cells #[v1, .int .i64 a0.2.1, .int .i64 a0.2.2] 93 (0, 0))], [(ba1_0, .cells #[.int .i64 a1_0] 2 (0, 0))], [(ba1_1, .cells #[.int .i64 a1_1] 2 (0, 0))], [(ba1_2, .cells #[.int .i64 a1_2] 2 (0, 0))]]) Try.func48 rfl (List.Sublist.refl _) (Sto.Le.refl _) ⟨_, rfl, rfl, hs2⟩
 ·refine Z 5 rfl ?_
  obtain ⟨r3, hr4, h⟩ := h
  refine st_call (foot := [[(ba0, .cells #[v1, .int .i64 a0.2.1, .int .i64 a0.2.2] 93 (0, 0))]]) rfl rfl rfl rfl rfl rfl (callV_fn z_en47 (lens_Lens_left_ok hr4 σ hs2)) ?_
  rintro vτ5 τ5 gsτ5 hl6 ⟨v7, rfl, rfl, hs8⟩
  obtain ⟨r9, hr10, h⟩ := h
  refine st_ord [1, 1, 1, 0] _ rfl ?_
  refine st_call (foot := [[(ba1_0, .cells #[.int .i64 a1_0] 2 (0, 0))], [(ba1_1, .cells #[.int .i64 a1_1] 2 (0, 0))], [(ba1_2, .cells #[.int .i64 a1_2] 2 (0, 0))]]) rfl rfl rfl rfl rfl rfl (callV_of2 (caps := [.pointer (some ⟨ba1_0, 0, none⟩), .pointer (some ⟨ba1_1, 0, none⟩), .pointer (some ⟨ba1_2, 0, none⟩)]) z_en84 (lens_Lens_Signed_1_ok hr10 τ5 hs8) rfl) ?_
  rintro vτ11 τ11 gsτ11 hl12 ⟨rfl, rfl⟩
  refine Z 12 rfl ?_
  refine st_if rfl h (fun h => ?_) (fun h => ?_)
  ·refine ZZ 12 [3] rfl rfl ?_
   refine st_ord [3, 0, 0, 0] _ rfl ?_
   obtain rfl := Eq.symm h
   exact st_ret (gs' := [[(ba0, .cells #[v1, .int .i64 a0.2.1, .int .i64 r9.2.1] 93 (0, 0))], [(ba1_0, .cells #[.int .i64 a1_0] 2 (0, 0))], [(ba1_1, .cells #[.int .i64 a1_1] 2 (0, 0))], [(ba1_2, .cells #[.int .i64 r9.2.2] 2 (0, 0))]]) Try.func48 rfl (List.Sublist.refl _) (hl6.trans hl12) ⟨_, rfl, rfl, (hs2.up (hl6.trans hl12))⟩
  ·refine ZZ 17 [3, 3] rfl rfl ?_
   refine st_ord [3, 0, 0, 0] _ rfl ?_
   obtain rfl := Eq.symm h
   exact st_ret (gs' := [[(ba0, .cells #[v1, .int .i64 (IntKind.i64.wrap (a0.2.1 + r9.1)), .int .i64 a0.2.2] 93 (0, 0))], [(ba1_0, .cells #[.int .i64 a1_0] 2 (0, 0))], [(ba1_1, .cells #[.int .i64 a1_1] 2 (0, 0))], [(ba1_2, .cells #[.int .i64 r9.2.2] 2 (0, 0))]]) Try.func48 rfl (List.Sublist.refl _) (hl6.trans hl12) ⟨_, rfl, rfl, (hs2.up (hl6.trans hl12))⟩
theorem lens_Lens_Signed_ok {a0 : List Int × Int × Int} {a1 : Int} {a2 : Int} {ba0 : Nat} {v1 : Value} {r : Int × (List Int × Int × Int)} (h : lens_Lens_Signed a0 a1 a2 r) (σ : Sto) (hs2 : Sl (kI .u8) σ v1 a0.1) :
    Does Try.prog 75 [.pointer (some ⟨ba0, 0, none⟩), .int .i64 a1, .int .i64 a2] σ [[(ba0, .cells [v1, .int .i64 a0.2.1, .int .i64 a0.2.2].toArray 93 (0, 0))]] (fun v τ gs => ∃ (v12 : Value), gs = [[(ba0, .cells [v12, .int .i64 r.2.2.1, .int .i64 r.2.2.2].toArray 93 (0, 0))]] ∧ .int .i64 r.1 = v ∧ Sl (kI .u8) τ v12 r.2.1) := by
 refine call_of Try.func75 Try.ntmps75 rfl rfl (fun cs fs => ?_)
 refine Z 2 rfl ?_
 refine o_boxC rfl rfl rfl rfl rfl rfl (fun b3 => ?_)
 refine o_boxC rfl rfl rfl rfl rfl rfl (fun b4 => ?_)
 refine Z 4 rfl ?_
 refine o_alloc rfl rfl rfl z_zero2 (fun b5 => ?_)
 refine ZZ 6 [0] rfl rfl ?_
 obtain ⟨r6, hr7, h⟩ := h
 refine st_ord [3, 2, 1, 0] _ rfl ?_
 refine st_call (foot := [[(ba0, .cells #[v1, .int .i64 a0.2.1, .int .i64 a0.2.2] 93 (0, 0))], [(b3, .cells #[.int .i64 a1] 2 (0, 0))], [(b4, .cells #[.int .i64 a2] 2 (0, 0))], [(b5, .cells #[.int .i64 0] 2 (0, 0))]]) rfl rfl rfl rfl rfl rfl (callV_fn z_en48 (lens_Lens_read__lens_Lens_Signed_1_ok hr7 σ hs2)) ?_
 rintro vτ8 τ8 gsτ8 hl9 ⟨v10, rfl, rfl, hs11⟩
 refine ZZ 6 [3] rfl rfl ?_
 refine st_ord [0] _ rfl ?_
 obtain rfl := Eq.symm h
 exact st_ret (gs' := [[(ba0, .cells #[v10, .int .i64 r6.2.1.2.1, .int .i64 r6.2.1.2.2] 93 (0, 0))]]) Try.func75 rfl (List.Sublist.refl _) hl9 ⟨_, rfl, rfl, hs11⟩
theorem body_reader_count_ok {a0 : Unit × Int} {a0p0 : List Int × Int × Int} {a1 : Int} {ba0 : Nat} {ba0p0 : Nat} {v1 : Value} {r : Int × (Unit × Int) × (List Int × Int × Int)} (h : body_reader_count a0 a0p0 a1 r) (σ : Sto) (hs2 : Sl (kI .u8) σ v1 a0p0.1) :
    Does Try.prog 87 [.pointer (some ⟨ba0, 0, none⟩), .int .i64 a1] σ [[(ba0, .cells [.pointer (some ⟨ba0p0, 0, none⟩), .int .i64 a0.2].toArray 116 (0, 0))], [(ba0p0, .cells [v1, .int .i64 a0p0.2.1, .int .i64 a0p0.2.2].toArray 93 (0, 0))]] (fun v τ gs => ∃ (v21 : Value), gs = [[(ba0, .cells [.pointer (some ⟨ba0p0, 0, none⟩), .int .i64 r.2.1.2].toArray 116 (0, 0))], [(ba0p0, .cells [v21, .int .i64 r.2.2.2.1, .int .i64 r.2.2.2.2].toArray 93 (0, 0))]] ∧ .int .i64 r.1 = v ∧ Sl (kI .u8) τ v21 r.2.2.1) := by
 refine call_of Try.func87 Try.ntmps87 rfl rfl (fun cs fs => ?_)
 refine ZZ 10 [0] rfl rfl ?_
 obtain ⟨r3, hr4, h⟩ := h
 refine st_ord [1, 0] _ rfl ?_
 refine st_call (foot := [[(ba0p0, .cells #[v1, .int .i64 a0p0.2.1, .int .i64 a0p0.2.2] 93 (0, 0))]]) rfl rfl rfl rfl rfl rfl (callV_fn z_en73 (lens_Lens_Number_ok hr4 σ hs2)) ?_
 rintro vτ5 τ5 gsτ5 hl6 ⟨v7, rfl, rfl, hs8⟩
 refine Z 7 rfl ?_
 obtain ⟨r9, hr10, h⟩ := h
 refine st_ord [1, 0] _ rfl ?_
 refine st_call (foot := [[(ba0, .cells #[.pointer (some ⟨ba0p0, 0, none⟩), .int .i64 a0.2] 116 (0, 0))], [(ba0p0, .cells #[v7, .int .i64 r3.2.2.1, .int .i64 r3.2.2.2] 93 (0, 0))]]) rfl rfl rfl rfl rfl rfl (callV_fn z_en74 (body_reader_note_ok hr10 τ5 hs8)) ?_
 rintro vτ11 τ11 gsτ11 hl12 ⟨rfl, rfl⟩
 refine Z 8 rfl ?_
 obtain ⟨r13, hr14, h⟩ := h
 refine st_call (foot := [[(ba0, .cells #[.pointer (some ⟨ba0p0, 0, none⟩), .int .i64 r9.2] 116 (0, 0))], [(ba0p0, .cells #[v7, .int .i64 r3.2.2.1, .int .i64 r3.2.2.2] 93 (0, 0))]]) rfl rfl rfl rfl rfl rfl (callV_fn z_en74 (body_reader_note_ok hr14 τ11 (hs8.up hl12))) ?_
 rintro vτ15 τ15 gsτ15 hl16 ⟨rfl, rfl⟩
 refine Z 5 rfl ?_
 obtain ⟨r17, hr18, h⟩ := h
 refine st_call (foot := [[(ba0, .cells #[.pointer (some ⟨ba0p0, 0, none⟩), .int .i64 r13.2] 116 (0, 0))], [(ba0p0, .cells #[v7, .int .i64 r3.2.2.1, .int .i64 r3.2.2.2] 93 (0, 0))]]) rfl rfl rfl rfl rfl rfl (callV_fn z_en63 (body_reader_err_ok hr18 τ15 (hs8.up (hl12.trans hl16)))) ?_
 rintro vτ19 τ19 gsτ19 hl20 ⟨rfl, rfl⟩
 refine Z 2 rfl ?_
 refine st_if rfl h (fun h => ?_) (fun h => ?_)
 ·refine Z 4 rfl ?_
  obtain rfl := Eq.symm h
  exact st_ret (gs' := [[(ba0, .cells #[.pointer (some ⟨ba0p0, 0, none⟩), .int .i64 r13.2] 116 (0, 0))], [(ba0p0, .cells #[v7, .int .i64 r3.2.2.1, .int .i64 r3.2.2.2] 93 (0, 0))]]) Try.func87 rfl (List.Sublist.refl _) (((hl6.trans hl12).trans hl16).trans hl20) ⟨_, rfl, rfl, (hs8.up ((hl12.trans hl16).trans hl20))⟩
 ·refine Z 7 rfl ?_
  obtain rfl := Eq.symm h
  exact st_ret (gs' := [[(ba0, .cells #[.pointer (some ⟨ba0p0, 0, none⟩), .int .i64 r13.2] 116 (0, 0))], [(ba0p0, .cells #[v7, .int .i64 r3.2.2.1, .int .i64 r3.2.2.2] 93 (0, 0))]]) Try.func87 rfl (List.Sublist.refl _) (((hl6.trans hl12).trans hl16).trans hl20) ⟨_, rfl, rfl, (hs8.up ((hl12.trans hl16).trans hl20))⟩
theorem body_reader_points_1_ok {a0 : Int} {c0 : Unit} {c0p0 : Unit × Int} {c0p0p0 : List Int × Int × Int} {bc0 : Nat} {bc0p0 : Nat} {bc0p0p0 : Nat} {v1 : Value} {r : Int × (List Int × Int × Int)} (h : body_reader_points_1 a0 c0 c0p0 c0p0p0 r) (σ : Sto) (hs2 : Sl (kI .u8) σ v1 c0p0p0.1) :
    Does Try.prog 86 [.int .i64 a0, .pointer (some ⟨bc0, 0, none⟩)] σ [[(bc0, .cells [.pointer (some ⟨bc0p0, 0, none⟩)].toArray 114 (0, 0))], [(bc0p0, .cells [.pointer (some ⟨bc0p0p0, 0, none⟩), .int .i64 c0p0.2].toArray 116 (0, 0))], [(bc0p0p0, .cells [v1, .int .i64 c0p0p0.2.1, .int .i64 c0p0p0.2.2].toArray 93 (0, 0))]] (fun v τ gs => ∃ (v9 : Value), gs = [[(bc0, .cells [.pointer (some ⟨bc0p0, 0, none⟩)].toArray 114 (0, 0))], [(bc0p0, .cells [.pointer (some ⟨bc0p0p0, 0, none⟩), .int .i64 c0p0.2].toArray 116 (0, 0))], [(bc0p0p0, .cells [v9, .int .i64 r.2.2.1, .int .i64 r.2.2.2].toArray 93 (0, 0))]] ∧ .int .i64 r.1 = v ∧ Sl (kI .u8) τ v9 r.2.1) := by
 refine call_of Try.func86 Try.ntmps86 rfl rfl (fun cs fs => ?_)
 refine ZZ 15 [0, 1] rfl rfl ?_
 obtain ⟨r3, hr4, h⟩ := h
 refine st_ord [2, 0, 0] _ rfl ?_
 refine st_call (foot := [[(bc0p0p0, .cells #[v1, .int .i64 c0p0p0.2.1, .int .i64 c0p0p0.2.2] 93 (0, 0))]]) rfl rfl rfl rfl rfl rfl (callV_fn z_en75 (lens_Lens_Signed_ok hr4 σ hs2)) ?_
 rintro vτ5 τ5 gsτ5 hl6 ⟨v7, rfl, rfl, hs8⟩
 refine Z 3 rfl ?_
 refine st_ord [1, 1, 0] _ rfl ?_
 obtain rfl := Eq.symm h
 exact st_ret (gs' := [[(bc0, .cells #[.pointer (some ⟨bc0p0, 0, none⟩)] 114 (0, 0))], [(bc0p0, .cells #[.pointer (some ⟨bc0p0p0, 0, none⟩), .int .i64 c0p0.2] 116 (0, 0))], [(bc0p0p0, .cells #[v7, .int .i64 r3.2.2.1, .int .i64 r3.2.2.2] 93 (0, 0))]]) Try.func86 rfl (List.Sublist.refl _) hl6 ⟨_, rfl, rfl, hs8⟩
theorem body_reader_points_ok {a0 : Unit × Int} {a0p0 : List Int × Int × Int} {ba0 : Nat} {ba0p0 : Nat} {v1 : Value} {r : (List (Int × Int)) × (Unit × Int) × (List Int × Int × Int)} (h : body_reader_points a0 a0p0 r) (σ : Sto) (hs2 : Sl (kI .u8) σ v1 a0p0.1) :
    Does Try.prog 76 [.pointer (some ⟨ba0, 0, none⟩)] σ [[(ba0, .cells [.pointer (some ⟨ba0p0, 0, none⟩), .int .i64 a0.2].toArray 116 (0, 0))], [(ba0p0, .cells [v1, .int .i64 a0p0.2.1, .int .i64 a0p0.2.2].toArray 93 (0, 0))]] (fun v τ gs => ∃ (v54 : Value) (v56 : Value), gs = [[(ba0, .cells [.pointer (some ⟨ba0p0, 0, none⟩), .int .i64 r.2.1.2].toArray 116 (0, 0))], [(ba0p0, .cells [v56, .int .i64 r.2.2.2.1, .int .i64 r.2.2.2.2].toArray 93 (0, 0))]] ∧ v54 = v ∧ Sl (kP (kI .i64) (kI .i64)) τ v54 r.1 ∧ Sl (kI .u8) τ v56 r.2.2.1) := by
 refine call_of Try.func76 Try.ntmps76 rfl rfl (fun cs fs => ?_)
 refine Z 2 rfl ?_
 refine o_boxC rfl rfl rfl rfl rfl rfl (fun b3 => ?_)
 refine Z 14 rfl ?_
 refine o_alloc rfl rfl rfl z_zero61 (fun b4 => ?_)
 refine Z 4 rfl ?_
 refine st_cut (fun ρ τ5 gs => ∃ (s5 : (List (Int × Int)) × Int × List Int × Int × Int) (v6 : Value) (g7 : Grp) (v9 : Value), body_reader_points_j1 s5 r ∧ σ.Le τ5 ∧ ESub ρ [(2, .slice none 0 0), (3, v6)] ∧ gs = [[(ba0, .cells #[.pointer (some ⟨ba0p0, 0, none⟩), .int .i64 s5.2.1] 116 (0, 0))], [(ba0p0, .cells #[v9, .int .i64 s5.2.2.2.1, .int .i64 s5.2.2.2.2] 93 (0, 0))], g7] ∧ Ow (kP (kI .i64) (kI .i64)) 61 τ5 v6 s5.1 g7 ∧ Sl (kI .u8) τ5 v9 s5.2.2.1) ?_ (fun hk5 => ?_)
 ·rintro ρ5 τ5 gs5 ⟨s5, v6, g7, v9, h, hl5, hρ, rfl, ho8, hs10⟩
  refine st_es hρ ?_
  refine Z 5 rfl ?_
  refine st_ord [2, 0, 0] _ rfl ?_
  refine st_freeze (fun τ11 hl12 hg13 => ?_)
  have hs14 := ho8.freeze hl12 hg13
  obtain rfl := Eq.symm h
  exact st_ret (gs' := [[(ba0, .cells #[.pointer (some ⟨ba0p0, 0, none⟩), .int .i64 s5.2.1] 116 (0, 0))], [(ba0p0, .cells #[v9, .int .i64 s5.2.2.2.1, .int .i64 s5.2.2.2.2] 93 (0, 0))]]) Try.func76 rfl (List.Sublist.refl _) (hl5.trans hl12) ⟨_, _, rfl, rfl, hs14, (hs10.up hl12)⟩
 refine ZZ 3 [1] rfl rfl ?_
 obtain ⟨r17, hr18, h⟩ := h
 refine st_ord [2, 2, 0, 0] _ rfl ?_
 refine st_call (foot := [[(ba0, .cells #[.pointer (some ⟨ba0p0, 0, none⟩), .int .i64 a0.2] 116 (0, 0))], [(ba0p0, .cells #[v1, .int .i64 a0p0.2.1, .int .i64 a0p0.2.2] 93 (0, 0))]]) rfl rfl rfl rfl rfl rfl (callV_fn z_en87 (body_reader_count_ok hr18 σ hs2)) ?_
 rintro vτ19 τ19 gsτ19 hl20 ⟨v21, rfl, rfl, hs22⟩
 refine Z 2 rfl ?_
 obtain ⟨e23, hL23, hA23⟩ := h
 refine st_addNil ?_
 refine st_ord [1, 1, 2, 1, 0] _ rfl ?_
 refine st_loop hL23 (fun (s23 : (List (Int × Int)) × Int × List Int × Int × Int × Int × Int) ρ τ23 gs => τ19.Le τ23 ∧ ∃ (v24 : Value) (g25 : Grp) (v27 : Value), ESub ρ [(1, .pointer (some ⟨b3, 0, none⟩)), (2, .slice none 0 0), (3, v24), (4, .func (.func 86) #[] #[.pointer (some ⟨b3, 0, none⟩)]), (5, .pointer (some ⟨b4, 0, none⟩)), (8, .int .i64 r17.1), (9, .int .i64 s23.2.1)] ∧ gs = [[(ba0, .cells #[.pointer (some ⟨ba0p0, 0, none⟩), .int .i64 r17.2.1.2] 116 (0, 0))], [(ba0p0, .cells #[v27, .int .i64 s23.2.2.2.1, .int .i64 s23.2.2.2.2.1] 93 (0, 0))], [(b3, .cells #[.pointer (some ⟨ba0, 0, none⟩)] 114 (0, 0))], [(b4, .cells #[.int .i64 s23.2.2.2.2.2.1, .int .i64 s23.2.2.2.2.2.2] 61 (0, 0))], g25] ∧ Ow (kP (kI .i64) (kI .i64)) 61 τ23 v24 s23.1 g25 ∧ Sl (kI .u8) τ23 v27 s23.2.2.1) ⟨Sto.Le.refl _, _, _, _, rfl, rfl, Ow.nil, hs22⟩ ?_
 rintro s23 o23 h he23 ρ23 τ23 gs23 ⟨hl23, v24, g25, v27, hρ, rfl, ho26, hs28⟩ hn23
 refine st_es hρ ?_
 refine Z 5 rfl ?_
 refine st_if rfl h (fun h => ?_) (fun h => ?_)
 ·refine ZZ 8 [3] rfl rfl ?_
  obtain ⟨r29, hr30, h⟩ := h
  refine st_ord [2, 0, 0, 0, 0] _ rfl ?_
  refine st_call (foot := [[(b3, .cells #[.pointer (some ⟨ba0, 0, none⟩)] 114 (0, 0))], [(ba0, .cells #[.pointer (some ⟨ba0p0, 0, none⟩), .int .i64 r17.2.1.2] 116 (0, 0))], [(ba0p0, .cells #[v27, .int .i64 s23.2.2.2.1, .int .i64 s23.2.2.2.2.1] 93 (0, 0))]]) rfl rfl rfl rfl rfl rfl (callV_of2 (caps := [.pointer (some ⟨b3, 0, none⟩)]) z_en86 (body_reader_points_1_ok hr30 τ23 hs28) rfl) ?_
  rintro vτ31 τ31 gsτ31 hl32 ⟨v33, rfl, rfl, hs34⟩
  refine ZZ 8 [3, 3] rfl rfl ?_
  obtain ⟨r35, hr36, h⟩ := h
  refine st_call (foot := [[(b3, .cells #[.pointer (some ⟨ba0, 0, none⟩)] 114 (0, 0))], [(ba0, .cells #[.pointer (some ⟨ba0p0, 0, none⟩), .int .i64 r17.2.1.2] 116 (0, 0))], [(ba0p0, .cells #[v33, .int .i64 r29.2.2.1, .int .i64 r29.2.2.2] 93 (0, 0))]]) rfl rfl rfl rfl rfl rfl (callV_of2 (caps := [.pointer (some ⟨b3, 0, none⟩)]) z_en86 (body_reader_points_1_ok hr36 τ31 hs34) rfl) ?_
  rintro vτ37 τ37 gsτ37 hl38 ⟨v39, rfl, rfl, hs40⟩
  refine ZZ 7 [3, 0] rfl rfl ?_
  obtain ⟨r41, hr42, h⟩ := h
  refine st_ord [1, 1, 0, 0, 0] _ rfl ?_
  refine st_call (foot := [[(ba0, .cells #[.pointer (some ⟨ba0p0, 0, none⟩), .int .i64 r17.2.1.2] 116 (0, 0))], [(ba0p0, .cells #[v39, .int .i64 r35.2.2.1, .int .i64 r35.2.2.2] 93 (0, 0))]]) rfl rfl rfl rfl rfl rfl (callV_fn z_en63 (body_reader_err_ok hr42 τ37 hs40)) ?_
  rintro vτ43 τ43 gsτ43 hl44 ⟨rfl, rfl⟩
  refine Z 2 rfl ?_
  refine st_if rfl h (fun h => ?_) (fun h => ?_)
  ·refine st_exit rfl ?_
   obtain rfl := he23 _ h
   replace h := hA23
   refine st_ord [0, 0, 2] _ rfl ?_
   exact hk5 _ _ _ ⟨(s23.1, r17.2.1.2, r35.2.1, r35.2.2.1, r35.2.2.2), _, _, _, h, ((((hl20.trans hl23).trans hl32).trans hl38).trans hl44), rfl, rfl, (ho26.up ((hl32.trans hl38).trans hl44)), (hs40.up hl44)⟩
  ·refine ZZ 4 [3] rfl rfl ?_
   refine o_litE (eP (eI .i64) (eI .i64)) [(r29.1, r35.1)] rfl rfl rfl z_slT26 z_zero61 ⟨rfl, ⟨_, rfl, rfl⟩, trivial⟩ rfl rfl rfl rfl (fun v45 g46 ho47 => ?_)
   obtain ⟨hf51, hf52, h⟩ := h
   refine st_ord [5, 0, 0, 0, 0, 0] _ rfl ?_
   refine o_append (dk := (kP (kI .i64) (kI .i64))) (xs := s23.1) (ys := [(r29.1, r35.1)]) rfl rfl rfl rfl z_slT26 rfl (ho26.up ((hl32.trans hl38).trans hl44)) rfl (Ow.src (j := 1) ho47 rfl) hf51 hf52 (fun v48 g49 ho50 => ?_)
   refine Z 7 rfl ?_
   refine st_ord [2, 2, 2, 2, 0] _ rfl ?_
   exact hn23 _ _ _ _ h ⟨(((hl23.trans hl32).trans hl38).trans hl44), _, _, _, rfl, rfl, ho50, (hs40.up hl44)⟩
 ·refine st_exit rfl ?_
  obtain rfl := he23 _ h
  replace h := hA23
  refine st_ord [0, 0, 2] _ rfl ?_
  exact hk5 _ _ _ ⟨(s23.1, r17.2.1.2, s23.2.2.1, s23.2.2.2.1, s23.2.2.2.2.1), _, _, _, h, (hl20.trans hl23), rfl, rfl, ho26, hs28⟩
theorem body_reader_cells_ok {a0 : Unit × Int} {a0p0 : List Int × Int × Int} {ba0 : Nat} {ba0p0 : Nat} {v1 : Value} {r : List Int × (Unit × Int) × (List Int × Int × Int)} (h : body_reader_cells a0 a0p0 r) (σ : Sto) (hs2 : Sl (kI .u8) σ v1 a0p0.1) :
    Does Try.prog 77 [.pointer (some ⟨ba0, 0, none⟩)] σ [[(ba0, .cells [.pointer (some ⟨ba0p0, 0, none⟩), .int .i64 a0.2].toArray 116 (0, 0))], [(ba0p0, .cells [v1, .int .i64 a0p0.2.1, .int .i64 a0p0.2.2].toArray 93 (0, 0))]] (fun v τ gs => ∃ (v50 : Value) (v52 : Value), gs = [[(ba0, .cells [.pointer (some ⟨ba0p0, 0, none⟩), .int .i64 r.2.1.2].toArray 116 (0, 0))], [(ba0p0, .cells [v52, .int .i64 r.2.2.2.1, .int .i64 r.2.2.2.2].toArray 93 (0, 0))]] ∧ v50 = v ∧ Sl (kI .i64) τ v50 r.1 ∧ Sl (kI .u8) τ v52 r.2.2.1) := by
 refine call_of Try.func77 Try.ntmps77 rfl rfl (fun cs fs => ?_)
 refine Z 16 rfl ?_
 refine st_cut (fun ρ τ3 gs => ∃ (s3 : List Int × Int × List Int × Int × Int) (v4 : Value) (g5 : Grp) (v7 : Value), body_reader_cells_j1 s3 r ∧ σ.Le τ3 ∧ ESub ρ [(2, .slice none 0 0), (3, v4)] ∧ gs = [[(ba0, .cells #[.pointer (some ⟨ba0p0, 0, none⟩), .int .i64 s3.2.1] 116 (0, 0))], [(ba0p0, .cells #[v7, .int .i64 s3.2.2.2.1, .int .i64 s3.2.2.2.2] 93 (0, 0))], g5] ∧ Ow (kI .i64) 3 τ3 v4 s3.1 g5 ∧ Sl (kI .u8) τ3 v7 s3.2.2.1) ?_ (fun hk3 => ?_)
 ·rintro ρ3 τ3 gs3 ⟨s3, v4, g5, v7, h, hl3, hρ, rfl, ho6, hs8⟩
  refine st_es hρ ?_
  refine Z 5 rfl ?_
  refine st_ord [2, 0, 0] _ rfl ?_
  refine st_freeze (fun τ9 hl10 hg11 => ?_)
  have hs12 := ho6.freeze hl10 hg11
  obtain rfl := Eq.symm h
  exact st_ret (gs' := [[(ba0, .cells #[.pointer (some ⟨ba0p0, 0, none⟩), .int .i64 s3.2.1] 116 (0, 0))], [(ba0p0, .cells #[v7, .int .i64 s3.2.2.2.1, .int .i64 s3.2.2.2.2] 93 (0, 0))]]) Try.func77 rfl (List.Sublist.refl _) (hl3.trans hl10) ⟨_, _, rfl, rfl, hs12, (hs8.up hl10)⟩
 refine Z 3 rfl ?_
 obtain ⟨r15, hr16, h⟩ := h
 refine st_call (foot := [[(ba0, .cells #[.pointer (some ⟨ba0p0, 0, none⟩), .int .i64 a0.2] 116 (0, 0))], [(ba0p0, .cells #[v1, .int .i64 a0p0.2.1, .int .i64 a0p0.2.2] 93 (0, 0))]]) rfl rfl rfl rfl rfl rfl (callV_fn z_en87 (body_reader_count_ok hr16 σ hs2)) ?_
 rintro vτ17 τ17 gsτ17 hl18 ⟨v19, rfl, rfl, hs20⟩
 refine Z 2 rfl ?_
 obtain ⟨e21, hL21, hA21⟩ := h
 refine st_addNil ?_
 refine st_ord [1, 1, 0] _ rfl ?_
 refine st_loop hL21 (fun (s21 : List Int × Int × Int × Int × List Int × Int × Int) ρ τ21 gs => τ17.Le τ21 ∧ ∃ (v22 : Value) (g23 : Grp) (v25 : Value), ESub ρ [(0, .pointer (some ⟨ba0, 0, none⟩)), (2, .slice none 0 0), (3, v22), (4, .int .i64 s21.2.1), (6, .int .i64 r15.1), (7, .int .i64 s21.2.2.1)] ∧ gs = [[(ba0, .cells #[.pointer (some ⟨ba0p0, 0, none⟩), .int .i64 s21.2.2.2.1] 116 (0, 0))], [(ba0p0, .cells #[v25, .int .i64 s21.2.2.2.2.2.1, .int .i64 s21.2.2.2.2.2.2] 93 (0, 0))], g23] ∧ Ow (kI .i64) 3 τ21 v22 s21.1 g23 ∧ Sl (kI .u8) τ21 v25 s21.2.2.2.2.1) ⟨Sto.Le.refl _, _, _, _, rfl, rfl, Ow.nil, hs20⟩ ?_
 rintro s21 o21 h he21 ρ21 τ21 gs21 ⟨hl21, v22, g23, v25, hρ, rfl, ho24, hs26⟩ hn21
 refine st_es hρ ?_
 refine Z 5 rfl ?_
 refine st_if rfl h (fun h => ?_) (fun h => ?_)
 ·refine ZZ 10 [0] rfl rfl ?_
  obtain ⟨r27, hr28, h⟩ := h
  refine st_ord [1, 0, 0] _ rfl ?_
  refine st_call (foot := [[(ba0p0, .cells #[v25, .int .i64 s21.2.2.2.2.2.1, .int .i64 s21.2.2.2.2.2.2] 93 (0, 0))]]) rfl rfl rfl rfl rfl rfl (callV_fn z_en73 (lens_Lens_Number_ok hr28 τ21 hs26)) ?_
  rintro vτ29 τ29 gsτ29 hl30 ⟨v31, rfl, rfl, hs32⟩
  refine Z 10 rfl ?_
  obtain ⟨r33, hr34, h⟩ := h
  refine st_ord [1, 0, 0] _ rfl ?_
  refine st_call (foot := [[(ba0, .cells #[.pointer (some ⟨ba0p0, 0, none⟩), .int .i64 s21.2.2.2.1] 116 (0, 0))], [(ba0p0, .cells #[v31, .int .i64 r27.2.2.1, .int .i64 r27.2.2.2] 93 (0, 0))]]) rfl rfl rfl rfl rfl rfl (callV_fn z_en74 (body_reader_note_ok hr34 τ29 hs32)) ?_
  rintro vτ35 τ35 gsτ35 hl36 ⟨rfl, rfl⟩
  refine Z 5 rfl ?_
  obtain ⟨r37, hr38, h⟩ := h
  refine st_call (foot := [[(ba0, .cells #[.pointer (some ⟨ba0p0, 0, none⟩), .int .i64 r33.2] 116 (0, 0))], [(ba0p0, .cells #[v31, .int .i64 r27.2.2.1, .int .i64 r27.2.2.2] 93 (0, 0))]]) rfl rfl rfl rfl rfl rfl (callV_fn z_en63 (body_reader_err_ok hr38 τ35 (hs32.up hl36))) ?_
  rintro vτ39 τ39 gsτ39 hl40 ⟨rfl, rfl⟩
  refine Z 2 rfl ?_
  refine st_if rfl h (fun h => ?_) (fun h => ?_)
  ·refine st_exit rfl ?_
   obtain rfl := he21 _ h
   replace h := hA21
   exact hk3 _ _ _ ⟨(s21.1, r33.2, r27.2.1, r27.2.2.1, r27.2.2.2), _, _, _, h, ((((hl18.trans hl21).trans hl30).trans hl36).trans hl40), rfl, rfl, (ho24.up ((hl30.trans hl36).trans hl40)), (hs32.up (hl36.trans hl40))⟩
  ·refine Z 4 rfl ?_
   refine o_litE (eI .i64) [(IntKind.i64.wrap (s21.2.1 + (IntKind.i64.wrap ((IntKind.i64.wrap r27.1) + 1))))] rfl rfl rfl z_slT27 z_zero3 ⟨rfl, ⟨_, rfl, rfl⟩, trivial⟩ rfl rfl rfl rfl (fun v41 g42 ho43 => ?_)
   obtain ⟨hf47, hf48, h⟩ := h
   refine st_ord [3, 0, 0, 0] _ rfl ?_
   refine o_append (dk := (kI .i64)) (xs := s21.1) (ys := [(IntKind.i64.wrap (s21.2.1 + (IntKind.i64.wrap ((IntKind.i64.wrap r27.1) + 1))))]) rfl rfl rfl rfl z_slT27 rfl (ho24.up ((hl30.trans hl36).trans hl40)) rfl (Ow.src (j := 1) ho43 rfl) hf47 hf48 (fun v44 g45 ho46 => ?_)
   refine Z 7 rfl ?_
   refine st_ord [2, 2, 0] _ rfl ?_
   exact hn21 _ _ _ _ h ⟨(((hl21.trans hl30).trans hl36).trans hl40), _, _, _, rfl, rfl, ho46, (hs32.up (hl36.trans hl40))⟩
 ·refine st_exit rfl ?_
  obtain rfl := he21 _ h
  replace h := hA21
  exact hk3 _ _ _ ⟨(s21.1, s21.2.2.2.1, s21.2.2.2.2.1, s21.2.2.2.2.2.1, s21.2.2.2.2.2.2), _, _, _, h, (hl18.trans hl21), rfl, rfl, ho24, hs26⟩
theorem body_reader_text_ok {a0 : Unit × Int} {a0p0 : List Int × Int × Int} {a1 : Int} {ba0 : Nat} {ba0p0 : Nat} {v1 : Value} {r : ByteArray × (Unit × Int) × (List Int × Int × Int)} (h : body_reader_text a0 a0p0 a1 r) (σ : Sto) (hs2 : Sl (kI .u8) σ v1 a0p0.1) :
    Does Try.prog 78 [.pointer (some ⟨ba0, 0, none⟩), .int .i64 a1] σ [[(ba0, .cells [.pointer (some ⟨ba0p0, 0, none⟩), .int .i64 a0.2].toArray 116 (0, 0))], [(ba0p0, .cells [v1, .int .i64 a0p0.2.1, .int .i64 a0p0.2.2].toArray 93 (0, 0))]] (fun v τ gs => ∃ (v28 : Value), gs = [[(ba0, .cells [.pointer (some ⟨ba0p0, 0, none⟩), .int .i64 r.2.1.2].toArray 116 (0, 0))], [(ba0p0, .cells [v28, .int .i64 r.2.2.2.1, .int .i64 r.2.2.2.2].toArray 93 (0, 0))]] ∧ .string r.1 = v ∧ Sl (kI .u8) τ v28 r.2.2.1) := by
 refine call_of Try.func78 Try.ntmps78 rfl rfl (fun cs fs => ?_)
 refine Z 2 rfl ?_
 refine o_assign rfl rfl rfl (ev_str z_str19) ?_
 refine ZZ 8 [0] rfl rfl ?_
 obtain ⟨r3, hr4, h⟩ := h
 refine st_ord [1, 0] _ rfl ?_
 refine st_call (foot := [[(ba0p0, .cells #[v1, .int .i64 a0p0.2.1, .int .i64 a0p0.2.2] 93 (0, 0))]]) rfl rfl rfl rfl rfl rfl (callV_fn z_en36 (lens_Lens_Field_ok hr4 σ hs2)) ?_
 rintro vτ5 τ5 gsτ5 hl6 ⟨v7, v9, rfl, rfl, hs8, hs10⟩
 refine Z 3 rfl ?_
 refine st_cut (fun ρ τ11 gs => ∃ (s11 : Int), body_reader_text_j1 r3 s11 r ∧ τ5.Le τ11 ∧ ESub ρ [(4, .string (bstr [])), (5, v7)] ∧ gs = [[(ba0, .cells #[.pointer (some ⟨ba0p0, 0, none⟩), .int .i64 s11] 116 (0, 0))], [(ba0p0, .cells #[v9, .int .i64 r3.2.2.1, .int .i64 r3.2.2.2] 93 (0, 0))]]) ?_ (fun hk11 => ?_)
 ·rintro ρ11 τ11 gs11 ⟨s11, h, hl11, hρ, rfl⟩
  refine st_es hρ ?_
  refine Z 3 rfl ?_
  refine o_bstr (xs := r3.1) rfl rfl rfl Try.underlying34 Try.underlying5 Try.underlying9 rfl (hs8.up hl11) ?_
  refine Z 2 rfl ?_
  obtain rfl := Eq.symm h
  exact st_ret (gs' := [[(ba0, .cells #[.pointer (some ⟨ba0p0, 0, none⟩), .int .i64 s11] 116 (0, 0))], [(ba0p0, .cells #[v9, .int .i64 r3.2.2.1, .int .i64 r3.2.2.2] 93 (0, 0))]]) Try.func78 rfl (List.Sublist.refl _) (hl6.trans hl11) ⟨_, rfl, rfl, (hs10.up hl11)⟩
 refine Z 3 rfl ?_
 refine o_lenI rfl rfl rfl z_slT34 rfl hs8 ?_
 refine Z 2 rfl ?_
 obtain ⟨e12, hL12, hA12⟩ := h
 refine st_ord [1, 0] _ rfl ?_
 refine st_loop hL12 (fun (s12 : Int × Int) ρ τ12 gs => τ5.Le τ12 ∧ ESub ρ [(0, .pointer (some ⟨ba0, 0, none⟩)), (4, .string (bstr [])), (5, v7), (14, v7), (15, .int .i64 (r3.1.length : Int)), (16, .int .i64 s12.1)] ∧ gs = [[(ba0, .cells #[.pointer (some ⟨ba0p0, 0, none⟩), .int .i64 s12.2] 116 (0, 0))], [(ba0p0, .cells #[v9, .int .i64 r3.2.2.1, .int .i64 r3.2.2.2] 93 (0, 0))]]) ⟨Sto.Le.refl _, rfl, rfl⟩ ?_
 rintro s12 o12 h he12 ρ12 τ12 gs12 ⟨hl12, hρ, rfl⟩ hn12
 refine st_es hρ ?_
 refine Z 5 rfl ?_
 refine st_if rfl h (fun h => ?_) (fun h => ?_)
 ·refine Z 2 rfl ?_
  refine st_cut (fun ρ τ13 gs => ∃ (s13 : Int), body_reader_text_j3 s12 s13 o12 ∧ τ12.Le τ13 ∧ ESub ρ [(0, .pointer (some ⟨ba0, 0, none⟩)), (4, .string (bstr [])), (5, v7), (14, v7), (15, .int .i64 (r3.1.length : Int)), (16, .int .i64 s12.1)] ∧ gs = [[(ba0, .cells #[.pointer (some ⟨ba0p0, 0, none⟩), .int .i64 s13] 116 (0, 0))], [(ba0p0, .cells #[v9, .int .i64 r3.2.2.1, .int .i64 r3.2.2.2] 93 (0, 0))]]) ?_ (fun hk13 => ?_)
  ·rintro ρ13 τ13 gs13 ⟨s13, h, hl13, hρ, rfl⟩
   refine st_es hρ ?_
   refine Z 4 rfl ?_
   exact hn12 _ _ _ _ h ⟨(hl12.trans hl13), rfl, rfl⟩
  refine Z 3 rfl ?_
  obtain ⟨q14, hf15, h⟩ := h
  refine o_index rfl rfl rfl z_slT34 rfl rfl (hs8.up hl12) rfl hf15 (fun b16 of17 vs hc18 hrep => ?_)
  obtain rfl := hrep
  refine o_loadI (v := .int .u8 q14) rfl rfl rfl z_sc5 rfl (hc18 0 _ rfl) ?_
  refine Z 6 rfl ?_
  refine o_mif rfl rfl rfl rfl h (fun h => ?_) (fun h => ?_)
  ·refine Z 3 rfl ?_
   obtain ⟨r19, hr20, h⟩ := h
   refine st_call (foot := [[(ba0, .cells #[.pointer (some ⟨ba0p0, 0, none⟩), .int .i64 s12.2] 116 (0, 0))], [(ba0p0, .cells #[v9, .int .i64 r3.2.2.1, .int .i64 r3.2.2.2] 93 (0, 0))]]) rfl rfl rfl rfl rfl rfl (callV_fn z_en74 (body_reader_note_ok hr20 τ12 (hs10.up hl12))) ?_
   rintro vτ21 τ21 gsτ21 hl22 ⟨rfl, rfl⟩
   refine Z 2 rfl ?_
   exact hk13 _ _ _ ⟨r19.2, h, hl22, rfl, rfl⟩
  ·refine Z 3 rfl ?_
   obtain ⟨r23, hr24, h⟩ := h
   refine st_call (foot := [[(ba0, .cells #[.pointer (some ⟨ba0p0, 0, none⟩), .int .i64 s12.2] 116 (0, 0))], [(ba0p0, .cells #[v9, .int .i64 r3.2.2.1, .int .i64 r3.2.2.2] 93 (0, 0))]]) rfl rfl rfl rfl rfl rfl (callV_fn z_en74 (body_reader_note_ok hr24 τ12 (hs10.up hl12))) ?_
   rintro vτ25 τ25 gsτ25 hl26 ⟨rfl, rfl⟩
   refine Z 2 rfl ?_
   exact hk13 _ _ _ ⟨r23.2, h, hl26, rfl, rfl⟩
 ·refine st_exit rfl ?_
  obtain rfl := he12 _ h
  replace h := hA12
  exact hk11 _ _ _ ⟨s12.2, h, hl12, rfl, rfl⟩
theorem body_reader_field_ok {a0 : Unit × Int} {a0p0 : List Int × Int × Int} {a1 : Int × List Int × List (Int × Int) × List Int × ByteArray × ByteArray} {a2 : ByteArray × Int × Int × Int × Int × Int × Int} {ba0 : Nat} {ba0p0 : Nat} {v1 : Value} {ba1 : Nat} {v3 : Value} {v4 : Value} {r : (Unit × Int) × (List Int × Int × Int) × (Int × List Int × List (Int × Int) × List Int × ByteArray × ByteArray)} (h : body_reader_field a0 a0p0 a1 a2 r) (σ : Sto) (hs2 : Sl (kI .u8) σ v1 a0p0.1) (hs5 : Sl (kP (kI .i64) (kI .i64)) σ v3 a1.2.2.1) (hs6 : Sl (kI .i64) σ v4 a1.2.2.2.1) :
    Does Try.prog 62 [.pointer (some ⟨ba0, 0, none⟩), .pointer (some ⟨ba1, 0, none⟩), .agg [.string a2.1, .int .i64 a2.2.1, .int .i64 a2.2.2.1, .int .i64 a2.2.2.2.1, .int .i64 a2.2.2.2.2.1, .int .i64 a2.2.2.2.2.2.1, .int .i64 a2.2.2.2.2.2.2].toArray] σ [[(ba0, .cells [.pointer (some ⟨ba0p0, 0, none⟩), .int .i64 a0.2].toArray 116 (0, 0))], [(ba0p0, .cells [v1, .int .i64 a0p0.2.1, .int .i64 a0p0.2.2].toArray 93 (0, 0))], [(ba1, .cells [.int .i64 a1.1, .int .i64 (a1.2.1.getD 0 0), .int .i64 (a1.2.1.getD 1 0), .int .i64 (a1.2.1.getD 2 0), .int .i64 (a1.2.1.getD 3 0), .int .i64 (a1.2.1.getD 4 0), .int .i64 (a1.2.1.getD 5 0), v3, v4, .string a1.2.2.2.2.1, .string a1.2.2.2.2.2].toArray 29 (0, 0))]] (fun v τ gs => ∃ (v65 : Value) (v67 : Value) (v68 : Value), gs = [[(ba0, .cells [.pointer (some ⟨ba0p0, 0, none⟩), .int .i64 r.1.2].toArray 116 (0, 0))], [(ba0p0, .cells [v65, .int .i64 r.2.1.2.1, .int .i64 r.2.1.2.2].toArray 93 (0, 0))], [(ba1, .cells [.int .i64 r.2.2.1, .int .i64 (r.2.2.2.1.getD 0 0), .int .i64 (r.2.2.2.1.getD 1 0), .int .i64 (r.2.2.2.1.getD 2 0), .int .i64 (r.2.2.2.1.getD 3 0), .int .i64 (r.2.2.2.1.getD 4 0), .int .i64 (r.2.2.2.1.getD 5 0), v67, v68, .string r.2.2.2.2.2.2.1, .string r.2.2.2.2.2.2.2].toArray 29 (0, 0))]] ∧ .tuple [].toArray = v ∧ Sl (kI .u8) τ v65 r.2.1.1 ∧ Sl (kP (kI .i64) (kI .i64)) τ v67 r.2.2.2.2.1 ∧ Sl (kI .i64) τ v68 r.2.2.2.2.2.1) := by
 refine call_of Try.func62 Try.ntmps62 rfl rfl (fun cs fs => ?_)
 refine Z 2 rfl ?_
 refine o_boxC rfl rfl rfl rfl rfl rfl (fun b7 => ?_)
 refine ZZ 12 [0] rfl rfl ?_
 refine st_if rfl h (fun h => ?_) (fun h => ?_)
 ·refine st_seq ?_
  obtain ⟨r8, hr9, hf16, hf17, h⟩ := h
  refine st_d42 [[(b7, .cells #[.string a2.1, .int .i64 a2.2.1, .int .i64 a2.2.2.1, .int .i64 a2.2.2.2.1, .int .i64 a2.2.2.2.2.1, .int .i64 a2.2.2.2.2.2.1, .int .i64 a2.2.2.2.2.2.2] 56 (0, 0))], [(ba0, .cells #[.pointer (some ⟨ba0p0, 0, none⟩), .int .i64 a0.2] 116 (0, 0))]] [[(ba0p0, .cells #[v1, .int .i64 a0p0.2.1, .int .i64 a0p0.2.2] 93 (0, 0))]] [[(ba1, .cells #[.int .i64 a1.1, .int .i64 (a1.2.1.getD 0 0), .int .i64 (a1.2.1.getD 1 0), .int .i64 (a1.2.1.getD 2 0), .int .i64 (a1.2.1.getD 3 0), .int .i64 (a1.2.1.getD 4 0), .int .i64 (a1.2.1.getD 5 0), v3, v4, .string a1.2.2.2.2.1, .string a1.2.2.2.2.2] 29 (0, 0))]] 16 1 1 [none, none, none, none, none, none, none, none, none, none, some (0, 0), none, none, none, none, some (1, 0)] [none, none, none, none, none, none, none, none, none, none, none, none, none, none, none, none] [[none, some 20], [none, none]] [.v (.pointer (some ⟨ba1, 0, none⟩)), .v (.pointer (some ⟨b7, 2, none⟩)), .v (.int .i64 a2.2.2.1), .v (.pointer (some ⟨ba0, 0, none⟩)), .v (.pointer (some ⟨ba0, 0, none⟩)), .v (.pointer (some ⟨ba0, 0, none⟩)), .v (.pointer (some ⟨ba0p0, 0, none⟩)), .v (.pointer (some ⟨b7, 4, none⟩)), .v (.int .i64 a2.2.2.2.2.1), .v (.int .u64 (IntKind.u64.wrap a2.2.2.2.2.1)), .v (.int .u64 r8.1), .v (.int .i64 (IntKind.i64.wrap r8.1)), .v (.pointer (some ⟨ba1, 0, none⟩)), .v (.pointer (some ⟨ba1, 1, none⟩)), .v (.pointer (some ⟨ba1, 1 + a2.2.2.1.toNat * 1, none⟩)), .t fun _ _ => True] [[fun τ u F => F = [[(ba0p0, .cells #[v1, .int .i64 a0p0.2.1, .int .i64 a0p0.2.2] 93 (0, 0))]], fun τ u F => ∃ (v14 : Value), F = [[(ba0p0, .cells #[v14, .int .i64 r8.2.2.1, .int .i64 r8.2.2.2] 93 (0, 0))]] ∧ Sl (kI .u8) τ v14 r8.2.1], [fun τ u F => F = [[(ba1, .cells #[.int .i64 a1.1, .int .i64 (a1.2.1.getD 0 0), .int .i64 (a1.2.1.getD 1 0), .int .i64 (a1.2.1.getD 2 0), .int .i64 (a1.2.1.getD 3 0), .int .i64 (a1.2.1.getD 4 0), .int .i64 (a1.2.1.getD 5 0), v3, v4, .string a1.2.2.2.2.1, .string a1.2.2.2.2.2] 29 (0, 0))]], fun τ u F => F = [[(ba1, .cells #[.int .i64 a1.1, .int .i64 ((putN 6 0 a1.2.1 a2.2.2.1.toNat (IntKind.i64.wrap r8.1)).getD 0 0), .int .i64 ((putN 6 0 a1.2.1 a2.2.2.1.toNat (IntKind.i64.wrap r8.1)).getD 1 0), .int .i64 ((putN 6 0 a1.2.1 a2.2.2.1.toNat (IntKind.i64.wrap r8.1)).getD 2 0), .int .i64 ((putN 6 0 a1.2.1 a2.2.2.1.toNat (IntKind.i64.wrap r8.1)).getD 3 0), .int .i64 ((putN 6 0 a1.2.1 a2.2.2.1.toNat (IntKind.i64.wrap r8.1)).getD 4 0), .int .i64 ((putN 6 0 a1.2.1 a2.2.2.1.toNat (IntKind.i64.wrap r8.1)).getD 5 0), v3, v4, .string a1.2.2.2.2.1, .string a1.2.2.2.2.2] 29 (0, 0))]]]] rfl z_mix rfl ⟨fun _ _ _ _ _ => trivial, trivial⟩ ⟨⟨fun _ _ _ _ hl h => h, ⟨fun _ _ _ _ hl h => (let ⟨v14, hF, hs15⟩ := h; ⟨v14, hF, hs15.up hl⟩), trivial⟩⟩, ⟨⟨fun _ _ _ _ hl h => h, ⟨fun _ _ _ _ hl h => h, trivial⟩⟩, trivial⟩⟩ rfl rfl ?_ ?_ (allB_cons (allB_cons (allB_cons (allB_cons (allB_cons (allB_cons (allB_cons (allB_cons (allB_cons (allB_cons (allB_cons (allB_cons (allB_cons (allB_cons (allB_cons (allB_cons allB_nil (p4 dA)) (p4 dA)) ?_) (p4 dA)) (p4 dA)) (p4 dA)) ?_) (p4 dA)) ?_) (p4 dA)) ?_) (p4 dA)) (p4 dA)) (p4 dA)) ?_) ?_) ?_
  ·exact rfl
  ·exact rfl
  ·intro ρ' τ pool rs hl hd hout hw hk
   obtain ⟨_, e1, rfl⟩ := hd 1 rfl _ rfl
   refine o_load (j := 0) (v := .int .i64 a2.2.2.1) rfl rfl rfl z_sc3 e1 rfl rfl ?_
   exact hk _ _ (Sto.Le.refl _) rfl
  ·intro ρ' τ pool rs hl hd hout hw hk
   obtain ⟨_, e5, rfl⟩ := hd 5 rfl _ rfl
   refine o_load (j := 1) (v := .pointer (some ⟨ba0p0, 0, none⟩)) rfl rfl rfl z_sc70 e5 rfl rfl ?_
   exact hk _ _ (Sto.Le.refl _) rfl
  ·intro ρ' τ pool rs hl hd hout hw hk
   obtain ⟨_, e7, rfl⟩ := hd 7 rfl _ rfl
   refine o_load (j := 0) (v := .int .i64 a2.2.2.2.2.1) rfl rfl rfl z_sc3 e7 rfl rfl ?_
   exact hk _ _ (Sto.Le.refl _) rfl
  ·intro ρ' τ u Fv pool rs hl hI hu hd hout hw hk
   obtain ⟨_, e6, rfl⟩ := hd 6 rfl _ rfl
   obtain ⟨_, e9, rfl⟩ := hd 9 rfl _ rfl
   have hI0 := hI
   obtain rfl := hI
   refine st_gs [[(b7, .cells #[.string a2.1, .int .i64 a2.2.1, .int .i64 a2.2.2.1, .int .i64 a2.2.2.2.1, .int .i64 a2.2.2.2.2.1, .int .i64 a2.2.2.2.2.2.1, .int .i64 a2.2.2.2.2.2.2] 56 (0, 0))], [(ba0, .cells #[.pointer (some ⟨ba0p0, 0, none⟩), .int .i64 a0.2] 116 (0, 0))], [(ba0p0, .cells #[v1, .int .i64 a0p0.2.1, .int .i64 a0p0.2.2] 93 (0, 0))], pool] rfl ?_
   refine st_ord [2, 0, 0, 0] _ rfl ?_
   refine st_call (foot := [[(ba0p0, .cells #[v1, .int .i64 a0p0.2.1, .int .i64 a0p0.2.2] 93 (0, 0))]]) rfl rfl rfl rfl (evs_cons e6 (evs_cons e9 rfl)) rfl (callV_fn z_en73 (lens_Lens_Number_ok hr9 τ (hs2.up hl))) ?_
   rintro vτ10 τ10 gsτ10 hl11 ⟨v12, rfl, rfl, hs13⟩
   refine st_ord [1, 1, 0, 0] _ rfl ?_
   exact hk _ _ [[(ba0p0, .cells #[v12, .int .i64 r8.2.2.1, .int .i64 r8.2.2.2] 93 (0, 0))]] hl11 rfl (by exact ⟨v12, rfl, hs13⟩)
  ·intro ρ' τ pool rs hl hd hout hw hk
   obtain ⟨_, e2, rfl⟩ := hd 2 rfl _ rfl
   obtain ⟨_, e13, rfl⟩ := hd 13 rfl _ rfl
   refine o_indexA rfl rfl rfl z_arr25 e13 e2 hf16 hf17 ?_
   exact hk _ _ (Sto.Le.refl _) rfl
  ·intro ρ' τ u Fv pool rs hl hI hu hd hout hw hk
   obtain ⟨_, e11, rfl⟩ := hd 11 rfl _ rfl
   obtain ⟨_, e14, rfl⟩ := hd 14 rfl _ rfl
   have hI0 := hI
   obtain rfl := hI
   refine st_gs [[(b7, .cells #[.string a2.1, .int .i64 a2.2.1, .int .i64 a2.2.2.1, .int .i64 a2.2.2.2.1, .int .i64 a2.2.2.2.2.1, .int .i64 a2.2.2.2.2.2.1, .int .i64 a2.2.2.2.2.2.2] 56 (0, 0))], [(ba0, .cells #[.pointer (some ⟨ba0p0, 0, none⟩), .int .i64 a0.2] 116 (0, 0))], [(ba1, .cells #[.int .i64 a1.1, .int .i64 (a1.2.1.getD 0 0), .int .i64 (a1.2.1.getD 1 0), .int .i64 (a1.2.1.getD 2 0), .int .i64 (a1.2.1.getD 3 0), .int .i64 (a1.2.1.getD 4 0), .int .i64 (a1.2.1.getD 5 0), v3, v4, .string a1.2.2.2.2.1, .string a1.2.2.2.2.2] 29 (0, 0))], pool] rfl ?_
   refine o_storeV (j := 2) (a2.2.2.1.toNat) (f := (Value.int .i64)) (zz := 0) (a := (IntKind.i64.wrap r8.1)) (l := 6) (xs := a1.2.1) [.int .i64 a1.1] [v3, v4, .string a1.2.2.2.2.1, .string a1.2.2.2.2.2] rfl rfl rfl z_size3 e14 e11 rfl rfl rfl (by simp only [List.length_cons, List.length_nil] <;> omega) (by omega) ?_
   refine st_gs [[(b7, .cells #[.string a2.1, .int .i64 a2.2.1, .int .i64 a2.2.2.1, .int .i64 a2.2.2.2.1, .int .i64 a2.2.2.2.2.1, .int .i64 a2.2.2.2.2.2.1, .int .i64 a2.2.2.2.2.2.2] 56 (0, 0))], [(ba0, .cells #[.pointer (some ⟨ba0p0, 0, none⟩), .int .i64 a0.2] 116 (0, 0))], [(ba1, .cells #[.int .i64 a1.1, .int .i64 ((putN 6 0 a1.2.1 a2.2.2.1.toNat (IntKind.i64.wrap r8.1)).getD 0 0), .int .i64 ((putN 6 0 a1.2.1 a2.2.2.1.toNat (IntKind.i64.wrap r8.1)).getD 1 0), .int .i64 ((putN 6 0 a1.2.1 a2.2.2.1.toNat (IntKind.i64.wrap r8.1)).getD 2 0), .int .i64 ((putN 6 0 a1.2.1 a2.2.2.1.toNat (IntKind.i64.wrap r8.1)).getD 3 0), .int .i64 ((putN 6 0 a1.2.1 a2.2.2.1.toNat (IntKind.i64.wrap r8.1)).getD 4 0), .int .i64 ((putN 6 0 a1.2.1 a2.2.2.1.toNat (IntKind.i64.wrap r8.1)).getD 5 0), v3, v4, .string a1.2.2.2.2.1, .string a1.2.2.2.2.2] 29 (0, 0))], pool] rfl ?_
   exact hk _ _ [[(ba1, .cells #[.int .i64 a1.1, .int .i64 ((putN 6 0 a1.2.1 a2.2.2.1.toNat (IntKind.i64.wrap r8.1)).getD 0 0), .int .i64 ((putN 6 0 a1.2.1 a2.2.2.1.toNat (IntKind.i64.wrap r8.1)).getD 1 0), .int .i64 ((putN 6 0 a1.2.1 a2.2.2.1.toNat (IntKind.i64.wrap r8.1)).getD 2 0), .int .i64 ((putN 6 0 a1.2.1 a2.2.2.1.toNat (IntKind.i64.wrap r8.1)).getD 3 0), .int .i64 ((putN 6 0 a1.2.1 a2.2.2.1.toNat (IntKind.i64.wrap r8.1)).getD 4 0), .int .i64 ((putN 6 0 a1.2.1 a2.2.2.1.toNat (IntKind.i64.wrap r8.1)).getD 5 0), v3, v4, .string a1.2.2.2.2.1, .string a1.2.2.2.2.2] 29 (0, 0))]] (Sto.Le.refl _) trivial (by exact rfl)
  intro ρ' τ18 vals u u1 Fv Fv1 hl18 hI hu hI1 hu1 hv hout
  obtain ⟨v14, rfl, hs15⟩ := hI
  obtain rfl := hI1
  refine st_gs [[(b7, .cells #[.string a2.1, .int .i64 a2.2.1, .int .i64 a2.2.2.1, .int .i64 a2.2.2.2.1, .int .i64 a2.2.2.2.2.1, .int .i64 a2.2.2.2.2.2.1, .int .i64 a2.2.2.2.2.2.2] 56 (0, 0))], [(ba0, .cells #[.pointer (some ⟨ba0p0, 0, none⟩), .int .i64 a0.2] 116 (0, 0))], [(ba0p0, .cells #[v14, .int .i64 r8.2.2.1, .int .i64 r8.2.2.2] 93 (0, 0))], [(ba1, .cells #[.int .i64 a1.1, .int .i64 ((putN 6 0 a1.2.1 a2.2.2.1.toNat (IntKind.i64.wrap r8.1)).getD 0 0), .int .i64 ((putN 6 0 a1.2.1 a2.2.2.1.toNat (IntKind.i64.wrap r8.1)).getD 1 0), .int .i64 ((putN 6 0 a1.2.1 a2.2.2.1.toNat (IntKind.i64.wrap r8.1)).getD 2 0), .int .i64 ((putN 6 0 a1.2.1 a2.2.2.1.toNat (IntKind.i64.wrap r8.1)).getD 3 0), .int .i64 ((putN 6 0 a1.2.1 a2.2.2.1.toNat (IntKind.i64.wrap r8.1)).getD 4 0), .int .i64 ((putN 6 0 a1.2.1 a2.2.2.1.toNat (IntKind.i64.wrap r8.1)).getD 5 0), v3, v4, .string a1.2.2.2.2.1, .string a1.2.2.2.2.2] 29 (0, 0))]] rfl ?_
  refine st_env (ρ' := [(0, .pointer (some ⟨ba0, 0, none⟩)), (1, .pointer (some ⟨ba1, 0, none⟩)), (5, .pointer (some ⟨b7, 0, none⟩))]) ⟨(hout 0 rfl).trans rfl, (hout 1 rfl).trans rfl, (hout 5 rfl).trans rfl, trivial⟩ ?_
  refine st_end ?_
  obtain ⟨hf19, hf20, r21, hr22, h⟩ := h
  refine st_ord [0, 1, 1, 0] _ rfl ?_
  refine st_d41 [[(b7, .cells #[.string a2.1, .int .i64 a2.2.1, .int .i64 a2.2.2.1, .int .i64 a2.2.2.2.1, .int .i64 a2.2.2.2.2.1, .int .i64 a2.2.2.2.2.2.1, .int .i64 a2.2.2.2.2.2.2] 56 (0, 0))], [(ba0p0, .cells #[v14, .int .i64 r8.2.2.1, .int .i64 r8.2.2.2] 93 (0, 0))], [(ba1, .cells #[.int .i64 a1.1, .int .i64 ((putN 6 0 a1.2.1 a2.2.2.1.toNat (IntKind.i64.wrap r8.1)).getD 0 0), .int .i64 ((putN 6 0 a1.2.1 a2.2.2.1.toNat (IntKind.i64.wrap r8.1)).getD 1 0), .int .i64 ((putN 6 0 a1.2.1 a2.2.2.1.toNat (IntKind.i64.wrap r8.1)).getD 2 0), .int .i64 ((putN 6 0 a1.2.1 a2.2.2.1.toNat (IntKind.i64.wrap r8.1)).getD 3 0), .int .i64 ((putN 6 0 a1.2.1 a2.2.2.1.toNat (IntKind.i64.wrap r8.1)).getD 4 0), .int .i64 ((putN 6 0 a1.2.1 a2.2.2.1.toNat (IntKind.i64.wrap r8.1)).getD 5 0), v3, v4, .string a1.2.2.2.2.1, .string a1.2.2.2.2.2] 29 (0, 0))]] [[(ba0, .cells #[.pointer (some ⟨ba0p0, 0, none⟩), .int .i64 a0.2] 116 (0, 0))]] 12 1 [none, none, none, none, none, none, none, none, none, none, none, some (0, 0)] [none, none, none, none, none, none, none, none, none, none, none, none] [[none, some 36]] [.v (.pointer (some ⟨ba0, 0, none⟩)), .v (.pointer (some ⟨ba1, 0, none⟩)), .v (.pointer (some ⟨b7, 2, none⟩)), .v (.int .i64 a2.2.2.1), .v (.pointer (some ⟨ba1, 0, none⟩)), .v (.pointer (some ⟨ba1, 1, none⟩)), .v (.pointer (some ⟨ba1, 1 + a2.2.2.1.toNat * 1, none⟩)), .v (.int .i64 ((putN 6 0 a1.2.1 a2.2.2.1.toNat (IntKind.i64.wrap r8.1)).getD a2.2.2.1.toNat 0)), .v (.pointer (some ⟨b7, 3, none⟩)), .v (.int .i64 a2.2.2.2.1), .v (.bool (decide (((putN 6 0 a1.2.1 a2.2.2.1.toNat (IntKind.i64.wrap r8.1)).getD a2.2.2.1.toNat 0) < a2.2.2.2.1))), .v (.tuple #[])] [[fun τ u F => F = [[(ba0, .cells #[.pointer (some ⟨ba0p0, 0, none⟩), .int .i64 a0.2] 116 (0, 0))]], fun τ u F => F = [[(ba0, .cells #[.pointer (some ⟨ba0p0, 0, none⟩), .int .i64 r21.2] 116 (0, 0))]]]] rfl z_mix rfl trivial ⟨⟨fun _ _ _ _ hl h => h, ⟨fun _ _ _ _ hl h => h, trivial⟩⟩, trivial⟩ rfl rfl ?_ (allB_cons (allB_cons (allB_cons (allB_cons (allB_cons (allB_cons (allB_cons (allB_cons (allB_cons (allB_cons (allB_cons (allB_cons allB_nil (p4 dA)) (p4 dA)) (p4 dA)) ?_) (p4 dA)) (p4 dA)) ?_) ?_) (p4 dA)) ?_) (p4 dA)) ?_) ?_
  ·exact rfl
  ·intro ρ' τ pool rs hl hd hout hw hk
   obtain ⟨_, e2, rfl⟩ := hd 2 rfl _ rfl
   refine o_load (j := 0) (v := .int .i64 a2.2.2.1) rfl rfl rfl z_sc3 e2 rfl rfl ?_
   exact hk _ _ (Sto.Le.refl _) rfl
  ·intro ρ' τ pool rs hl hd hout hw hk
   obtain ⟨_, e3, rfl⟩ := hd 3 rfl _ rfl
   obtain ⟨_, e5, rfl⟩ := hd 5 rfl _ rfl
   refine o_indexA rfl rfl rfl z_arr25 e5 e3 hf19 hf20 ?_
   exact hk _ _ (Sto.Le.refl _) rfl
  ·intro ρ' τ pool rs hl hd hout hw hk
   obtain ⟨_, e6, rfl⟩ := hd 6 rfl _ rfl
   refine o_loadV (j := 2) (a2.2.2.1.toNat) (f := (Value.int .i64)) (zz := 0) (l := 6) (xs := (putN 6 0 a1.2.1 a2.2.2.1.toNat (IntKind.i64.wrap r8.1))) [.int .i64 a1.1] [v3, v4, .string a1.2.2.2.2.1, .string a1.2.2.2.2.2] rfl rfl rfl z_sc3 e6 rfl (by simp only [List.length_cons, List.length_nil] <;> omega) (by omega) ?_
   exact hk _ _ (Sto.Le.refl _) rfl
  ·intro ρ' τ pool rs hl hd hout hw hk
   obtain ⟨_, e8, rfl⟩ := hd 8 rfl _ rfl
   refine o_load (j := 0) (v := .int .i64 a2.2.2.2.1) rfl rfl rfl z_sc3 e8 rfl rfl ?_
   exact hk _ _ (Sto.Le.refl _) rfl
  ·intro ρ' τ u Fv pool rs hl hI hu hd hout hw hk
   obtain ⟨_, e0, rfl⟩ := hd 0 rfl _ rfl
   obtain ⟨_, e10, rfl⟩ := hd 10 rfl _ rfl
   have hI0 := hI
   obtain rfl := hI
   refine st_gs [[(b7, .cells #[.string a2.1, .int .i64 a2.2.1, .int .i64 a2.2.2.1, .int .i64 a2.2.2.2.1, .int .i64 a2.2.2.2.2.1, .int .i64 a2.2.2.2.2.2.1, .int .i64 a2.2.2.2.2.2.2] 56 (0, 0))], [(ba0p0, .cells #[v14, .int .i64 r8.2.2.1, .int .i64 r8.2.2.2] 93 (0, 0))], [(ba1, .cells #[.int .i64 a1.1, .int .i64 ((putN 6 0 a1.2.1 a2.2.2.1.toNat (IntKind.i64.wrap r8.1)).getD 0 0), .int .i64 ((putN 6 0 a1.2.1 a2.2.2.1.toNat (IntKind.i64.wrap r8.1)).getD 1 0), .int .i64 ((putN 6 0 a1.2.1 a2.2.2.1.toNat (IntKind.i64.wrap r8.1)).getD 2 0), .int .i64 ((putN 6 0 a1.2.1 a2.2.2.1.toNat (IntKind.i64.wrap r8.1)).getD 3 0), .int .i64 ((putN 6 0 a1.2.1 a2.2.2.1.toNat (IntKind.i64.wrap r8.1)).getD 4 0), .int .i64 ((putN 6 0 a1.2.1 a2.2.2.1.toNat (IntKind.i64.wrap r8.1)).getD 5 0), v3, v4, .string a1.2.2.2.2.1, .string a1.2.2.2.2.2] 29 (0, 0))], [(ba0, .cells #[.pointer (some ⟨ba0p0, 0, none⟩), .int .i64 a0.2] 116 (0, 0))], pool] rfl ?_
   refine st_ord [3, 1, 0, 0, 0] _ rfl ?_
   refine st_call (foot := [[(ba0, .cells #[.pointer (some ⟨ba0p0, 0, none⟩), .int .i64 a0.2] 116 (0, 0))], [(ba0p0, .cells #[v14, .int .i64 r8.2.2.1, .int .i64 r8.2.2.2] 93 (0, 0))]]) rfl rfl rfl rfl (evs_cons e0 (evs_cons e10 (evs_cons rfl rfl))) rfl (callV_fn z_en74 (body_reader_note_ok hr22 τ (hs15.up hl))) ?_
   rintro vτ23 τ23 gsτ23 hl24 ⟨rfl, rfl⟩
   refine st_ord [2, 1, 1, 0, 0] _ rfl ?_
   exact hk _ _ [[(ba0, .cells #[.pointer (some ⟨ba0p0, 0, none⟩), .int .i64 r21.2] 116 (0, 0))]] hl24 rfl (by exact rfl)
  intro ρ' τ25 vals u Fv hl25 hI hu hv hout
  obtain rfl := hI
  refine st_gs [[(b7, .cells #[.string a2.1, .int .i64 a2.2.1, .int .i64 a2.2.2.1, .int .i64 a2.2.2.2.1, .int .i64 a2.2.2.2.2.1, .int .i64 a2.2.2.2.2.2.1, .int .i64 a2.2.2.2.2.2.2] 56 (0, 0))], [(ba0p0, .cells #[v14, .int .i64 r8.2.2.1, .int .i64 r8.2.2.2] 93 (0, 0))], [(ba1, .cells #[.int .i64 a1.1, .int .i64 ((putN 6 0 a1.2.1 a2.2.2.1.toNat (IntKind.i64.wrap r8.1)).getD 0 0), .int .i64 ((putN 6 0 a1.2.1 a2.2.2.1.toNat (IntKind.i64.wrap r8.1)).getD 1 0), .int .i64 ((putN 6 0 a1.2.1 a2.2.2.1.toNat (IntKind.i64.wrap r8.1)).getD 2 0), .int .i64 ((putN 6 0 a1.2.1 a2.2.2.1.toNat (IntKind.i64.wrap r8.1)).getD 3 0), .int .i64 ((putN 6 0 a1.2.1 a2.2.2.1.toNat (IntKind.i64.wrap r8.1)).getD 4 0), .int .i64 ((putN 6 0 a1.2.1 a2.2.2.1.toNat (IntKind.i64.wrap r8.1)).getD 5 0), v3, v4, .string a1.2.2.2.2.1, .string a1.2.2.2.2.2] 29 (0, 0))], [(ba0, .cells #[.pointer (some ⟨ba0p0, 0, none⟩), .int .i64 r21.2] 116 (0, 0))]] rfl ?_
  refine st_env (ρ' := []) trivial ?_
  refine Z 2 rfl ?_
  refine st_ord [3, 1, 1] _ rfl ?_
  obtain rfl := Eq.symm h
  exact st_fin (gs' := [[(ba0, .cells #[.pointer (some ⟨ba0p0, 0, none⟩), .int .i64 r21.2] 116 (0, 0))], [(ba0p0, .cells #[v14, .int .i64 r8.2.2.1, .int .i64 r8.2.2.2] 93 (0, 0))], [(ba1, .cells #[.int .i64 a1.1, .int .i64 ((putN 6 0 a1.2.1 a2.2.2.1.toNat (IntKind.i64.wrap r8.1)).getD 0 0), .int .i64 ((putN 6 0 a1.2.1 a2.2.2.1.toNat (IntKind.i64.wrap r8.1)).getD 1 0), .int .i64 ((putN 6 0 a1.2.1 a2.2.2.1.toNat (IntKind.i64.wrap r8.1)).getD 2 0), .int .i64 ((putN 6 0 a1.2.1 a2.2.2.1.toNat (IntKind.i64.wrap r8.1)).getD 3 0), .int .i64 ((putN 6 0 a1.2.1 a2.2.2.1.toNat (IntKind.i64.wrap r8.1)).getD 4 0), .int .i64 ((putN 6 0 a1.2.1 a2.2.2.1.toNat (IntKind.i64.wrap r8.1)).getD 5 0), v3, v4, .string a1.2.2.2.2.1, .string a1.2.2.2.2.2] 29 (0, 0))]]) Try.func62 rfl (List.Sublist.refl _) (hl18.trans hl25) ⟨_, _, _, rfl, rfl, (hs15.up hl25), (hs5.up (hl18.trans hl25)), (hs6.up (hl18.trans hl25))⟩
 ·refine Z 5 rfl ?_
  refine st_if rfl h (fun h => ?_) (fun h => ?_)
  ·obtain ⟨r26, hr27, hf34, hf35, h⟩ := h
   refine st_d42 [[(b7, .cells #[.string a2.1, .int .i64 a2.2.1, .int .i64 a2.2.2.1, .int .i64 a2.2.2.2.1, .int .i64 a2.2.2.2.2.1, .int .i64 a2.2.2.2.2.2.1, .int .i64 a2.2.2.2.2.2.2] 56 (0, 0))], [(ba0, .cells #[.pointer (some ⟨ba0p0, 0, none⟩), .int .i64 a0.2] 116 (0, 0))]] [[(ba0p0, .cells #[v1, .int .i64 a0p0.2.1, .int .i64 a0p0.2.2] 93 (0, 0))]] [[(ba1, .cells #[.int .i64 a1.1, .int .i64 (a1.2.1.getD 0 0), .int .i64 (a1.2.1.getD 1 0), .int .i64 (a1.2.1.getD 2 0), .int .i64 (a1.2.1.getD 3 0), .int .i64 (a1.2.1.getD 4 0), .int .i64 (a1.2.1.getD 5 0), v3, v4, .string a1.2.2.2.2.1, .string a1.2.2.2.2.2] 29 (0, 0))]] 16 1 1 [none, none, none, none, none, none, none, none, none, none, none, some (0, 0), none, none, none, some (1, 0)] [none, none, none, none, none, none, none, none, none, none, none, none, none, none, none, none] [[none, some 50], [none, none]] [.v (.pointer (some ⟨ba1, 0, none⟩)), .v (.pointer (some ⟨b7, 2, none⟩)), .v (.int .i64 a2.2.2.1), .v (.pointer (some ⟨ba0, 0, none⟩)), .v (.pointer (some ⟨ba0, 0, none⟩)), .v (.pointer (some ⟨ba0, 0, none⟩)), .v (.pointer (some ⟨ba0p0, 0, none⟩)), .v (.pointer (some ⟨b7, 3, none⟩)), .v (.int .i64 a2.2.2.2.1), .v (.pointer (some ⟨b7, 4, none⟩)), .v (.int .i64 a2.2.2.2.2.1), .v (.int .i64 r26.1), .v (.pointer (some ⟨ba1, 0, none⟩)), .v (.pointer (some ⟨ba1, 1, none⟩)), .v (.pointer (some ⟨ba1, 1 + a2.2.2.1.toNat * 1, none⟩)), .t fun _ _ => True] [[fun τ u F => F = [[(ba0p0, .cells #[v1, .int .i64 a0p0.2.1, .int .i64 a0p0.2.2] 93 (0, 0))]], fun τ u F => ∃ (v32 : Value), F = [[(ba0p0, .cells #[v32, .int .i64 r26.2.2.1, .int .i64 r26.2.2.2] 93 (0, 0))]] ∧ Sl (kI .u8) τ v32 r26.2.1], [fun τ u F => F = [[(ba1, .cells #[.int .i64 a1.1, .int .i64 (a1.2.1.getD 0 0), .int .i64 (a1.2.1.getD 1 0), .int .i64 (a1.2.1.getD 2 0), .int .i64 (a1.2.1.getD 3 0), .int .i64 (a1.2.1.getD 4 0), .int .i64 (a1.2.1.getD 5 0), v3, v4, .string a1.2.2.2.2.1, .string a1.2.2.2.2.2] 29 (0, 0))]], fun τ u F => F = [[(ba1, .cells #[.int .i64 a1.1, .int .i64 ((putN 6 0 a1.2.1 a2.2.2.1.toNat r26.1).getD 0 0), .int .i64 ((putN 6 0 a1.2.1 a2.2.2.1.toNat r26.1).getD 1 0), .int .i64 ((putN 6 0 a1.2.1 a2.2.2.1.toNat r26.1).getD 2 0), .int .i64 ((putN 6 0 a1.2.1 a2.2.2.1.toNat r26.1).getD 3 0), .int .i64 ((putN 6 0 a1.2.1 a2.2.2.1.toNat r26.1).getD 4 0), .int .i64 ((putN 6 0 a1.2.1 a2.2.2.1.toNat r26.1).getD 5 0), v3, v4, .string a1.2.2.2.2.1, .string a1.2.2.2.2.2] 29 (0, 0))]]]] rfl z_mix rfl ⟨fun _ _ _ _ _ => trivial, trivial⟩ ⟨⟨fun _ _ _ _ hl h => h, ⟨fun _ _ _ _ hl h => (let ⟨v32, hF, hs33⟩ := h; ⟨v32, hF, hs33.up hl⟩), trivial⟩⟩, ⟨⟨fun _ _ _ _ hl h => h, ⟨fun _ _ _ _ hl h => h, trivial⟩⟩, trivial⟩⟩ rfl rfl ?_ ?_ (allB_cons (allB_cons (allB_cons (allB_cons (allB_cons (allB_cons (allB_cons (allB_cons (allB_cons (allB_cons (allB_cons (allB_cons (allB_cons (allB_cons (allB_cons (allB_cons allB_nil (p4 dA)) (p4 dA)) ?_) (p4 dA)) (p4 dA)) (p4 dA)) ?_) (p4 dA)) ?_) (p4 dA)) ?_) ?_) (p4 dA)) (p4 dA)) ?_) ?_) ?_
   ·exact rfl
   ·exact rfl
   ·intro ρ' τ pool rs hl hd hout hw hk
    obtain ⟨_, e1, rfl⟩ := hd 1 rfl _ rfl
    refine o_load (j := 0) (v := .int .i64 a2.2.2.1) rfl rfl rfl z_sc3 e1 rfl rfl ?_
    exact hk _ _ (Sto.Le.refl _) rfl
   ·intro ρ' τ pool rs hl hd hout hw hk
    obtain ⟨_, e5, rfl⟩ := hd 5 rfl _ rfl
    refine o_load (j := 1) (v := .pointer (some ⟨ba0p0, 0, none⟩)) rfl rfl rfl z_sc70 e5 rfl rfl ?_
    exact hk _ _ (Sto.Le.refl _) rfl
   ·intro ρ' τ pool rs hl hd hout hw hk
    obtain ⟨_, e7, rfl⟩ := hd 7 rfl _ rfl
    refine o_load (j := 0) (v := .int .i64 a2.2.2.2.1) rfl rfl rfl z_sc3 e7 rfl rfl ?_
    exact hk _ _ (Sto.Le.refl _) rfl
   ·intro ρ' τ pool rs hl hd hout hw hk
    obtain ⟨_, e9, rfl⟩ := hd 9 rfl _ rfl
    refine o_load (j := 0) (v := .int .i64 a2.2.2.2.2.1) rfl rfl rfl z_sc3 e9 rfl rfl ?_
    exact hk _ _ (Sto.Le.refl _) rfl
   ·intro ρ' τ u Fv pool rs hl hI hu hd hout hw hk
    obtain ⟨_, e6, rfl⟩ := hd 6 rfl _ rfl
    obtain ⟨_, e8, rfl⟩ := hd 8 rfl _ rfl
    obtain ⟨_, e10, rfl⟩ := hd 10 rfl _ rfl
    have hI0 := hI
    obtain rfl := hI
    refine st_gs [[(b7, .cells #[.string a2.1, .int .i64 a2.2.1, .int .i64 a2.2.2.1, .int .i64 a2.2.2.2.1, .int .i64 a2.2.2.2.2.1, .int .i64 a2.2.2.2.2.2.1, .int .i64 a2.2.2.2.2.2.2] 56 (0, 0))], [(ba0, .cells #[.pointer (some ⟨ba0p0, 0, none⟩), .int .i64 a0.2] 116 (0, 0))], [(ba0p0, .cells #[v1, .int .i64 a0p0.2.1, .int .i64 a0p0.2.2] 93 (0, 0))], pool] rfl ?_
    refine st_ord [2, 0, 0, 0] _ rfl ?_
    refine st_call (foot := [[(ba0p0, .cells #[v1, .int .i64 a0p0.2.1, .int .i64 a0p0.2.2] 93 (0, 0))]]) rfl rfl rfl rfl (evs_cons e6 (evs_cons e8 (evs_cons e10 rfl))) rfl (callV_fn z_en75 (lens_Lens_Signed_ok hr27 τ (hs2.up hl))) ?_
    rintro vτ28 τ28 gsτ28 hl29 ⟨v30, rfl, rfl, hs31⟩
    refine st_ord [1, 1, 0, 0] _ rfl ?_
    exact hk _ _ [[(ba0p0, .cells #[v30, .int .i64 r26.2.2.1, .int .i64 r26.2.2.2] 93 (0, 0))]] hl29 rfl (by exact ⟨v30, rfl, hs31⟩)
   ·intro ρ' τ pool rs hl hd hout hw hk
    obtain ⟨_, e2, rfl⟩ := hd 2 rfl _ rfl
    obtain ⟨_, e13, rfl⟩ := hd 13 rfl _ rfl
    refine o_indexA rfl rfl rfl z_arr25 e13 e2 hf34 hf35 ?_
    exact hk _ _ (Sto.Le.refl _) rfl
   ·intro ρ' τ u Fv pool rs hl hI hu hd hout hw hk
    obtain ⟨_, e11, rfl⟩ := hd 11 rfl _ rfl
    obtain ⟨_, e14, rfl⟩ := hd 14 rfl _ rfl
    have hI0 := hI
    obtain rfl := hI
    refine st_gs [[(b7, .cells #[.string a2.1, .int .i64 a2.2.1, .int .i64 a2.2.2.1, .int .i64 a2.2.2.2.1, .int .i64 a2.2.2.2.2.1, .int .i64 a2.2.2.2.2.2.1, .int .i64 a2.2.2.2.2.2.2] 56 (0, 0))], [(ba0, .cells #[.pointer (some ⟨ba0p0, 0, none⟩), .int .i64 a0.2] 116 (0, 0))], [(ba1, .cells #[.int .i64 a1.1, .int .i64 (a1.2.1.getD 0 0), .int .i64 (a1.2.1.getD 1 0), .int .i64 (a1.2.1.getD 2 0), .int .i64 (a1.2.1.getD 3 0), .int .i64 (a1.2.1.getD 4 0), .int .i64 (a1.2.1.getD 5 0), v3, v4, .string a1.2.2.2.2.1, .string a1.2.2.2.2.2] 29 (0, 0))], pool] rfl ?_
    refine o_storeV (j := 2) (a2.2.2.1.toNat) (f := (Value.int .i64)) (zz := 0) (a := r26.1) (l := 6) (xs := a1.2.1) [.int .i64 a1.1] [v3, v4, .string a1.2.2.2.2.1, .string a1.2.2.2.2.2] rfl rfl rfl z_size3 e14 e11 rfl rfl rfl (by simp only [List.length_cons, List.length_nil] <;> omega) (by omega) ?_
    refine st_gs [[(b7, .cells #[.string a2.1, .int .i64 a2.2.1, .int .i64 a2.2.2.1, .int .i64 a2.2.2.2.1, .int .i64 a2.2.2.2.2.1, .int .i64 a2.2.2.2.2.2.1, .int .i64 a2.2.2.2.2.2.2] 56 (0, 0))], [(ba0, .cells #[.pointer (some ⟨ba0p0, 0, none⟩), .int .i64 a0.2] 116 (0, 0))], [(ba1, .cells #[.int .i64 a1.1, .int .i64 ((putN 6 0 a1.2.1 a2.2.2.1.toNat r26.1).getD 0 0), .int .i64 ((putN 6 0 a1.2.1 a2.2.2.1.toNat r26.1).getD 1 0), .int .i64 ((putN 6 0 a1.2.1 a2.2.2.1.toNat r26.1).getD 2 0), .int .i64 ((putN 6 0 a1.2.1 a2.2.2.1.toNat r26.1).getD 3 0), .int .i64 ((putN 6 0 a1.2.1 a2.2.2.1.toNat r26.1).getD 4 0), .int .i64 ((putN 6 0 a1.2.1 a2.2.2.1.toNat r26.1).getD 5 0), v3, v4, .string a1.2.2.2.2.1, .string a1.2.2.2.2.2] 29 (0, 0))], pool] rfl ?_
    exact hk _ _ [[(ba1, .cells #[.int .i64 a1.1, .int .i64 ((putN 6 0 a1.2.1 a2.2.2.1.toNat r26.1).getD 0 0), .int .i64 ((putN 6 0 a1.2.1 a2.2.2.1.toNat r26.1).getD 1 0), .int .i64 ((putN 6 0 a1.2.1 a2.2.2.1.toNat r26.1).getD 2 0), .int .i64 ((putN 6 0 a1.2.1 a2.2.2.1.toNat r26.1).getD 3 0), .int .i64 ((putN 6 0 a1.2.1 a2.2.2.1.toNat r26.1).getD 4 0), .int .i64 ((putN 6 0 a1.2.1 a2.2.2.1.toNat r26.1).getD 5 0), v3, v4, .string a1.2.2.2.2.1, .string a1.2.2.2.2.2] 29 (0, 0))]] (Sto.Le.refl _) trivial (by exact rfl)
   intro ρ' τ36 vals u u1 Fv Fv1 hl36 hI hu hI1 hu1 hv hout
   obtain ⟨v32, rfl, hs33⟩ := hI
   obtain rfl := hI1
   refine st_gs [[(b7, .cells #[.string a2.1, .int .i64 a2.2.1, .int .i64 a2.2.2.1, .int .i64 a2.2.2.2.1, .int .i64 a2.2.2.2.2.1, .int .i64 a2.2.2.2.2.2.1, .int .i64 a2.2.2.2.2.2.2] 56 (0, 0))], [(ba0, .cells #[.pointer (some ⟨ba0p0, 0, none⟩), .int .i64 a0.2] 116 (0, 0))], [(ba0p0, .cells #[v32, .int .i64 r26.2.2.1, .int .i64 r26.2.2.2] 93 (0, 0))], [(ba1, .cells #[.int .i64 a1.1, .int .i64 ((putN 6 0 a1.2.1 a2.2.2.1.toNat r26.1).getD 0 0), .int .i64 ((putN 6 0 a1.2.1 a2.2.2.1.toNat r26.1).getD 1 0), .int .i64 ((putN 6 0 a1.2.1 a2.2.2.1.toNat r26.1).getD 2 0), .int .i64 ((putN 6 0 a1.2.1 a2.2.2.1.toNat r26.1).getD 3 0), .int .i64 ((putN 6 0 a1.2.1 a2.2.2.1.toNat r26.1).getD 4 0), .int .i64 ((putN 6 0 a1.2.1 a2.2.2.1.toNat r26.1).getD 5 0), v3, v4, .string a1.2.2.2.2.1, .string a1.2.2.2.2.2] 29 (0, 0))]] rfl ?_
   refine st_env (ρ' := []) trivial ?_
   refine Z 2 rfl ?_
   refine st_ord [1, 1, 1] _ rfl ?_
   obtain rfl := Eq.symm h
   exact st_fin (gs' := [[(ba0, .cells #[.pointer (some ⟨ba0p0, 0, none⟩), .int .i64 a0.2] 116 (0, 0))], [(ba0p0, .cells #[v32, .int .i64 r26.2.2.1, .int .i64 r26.2.2.2] 93 (0, 0))], [(ba1, .cells #[.int .i64 a1.1, .int .i64 ((putN 6 0 a1.2.1 a2.2.2.1.toNat r26.1).getD 0 0), .int .i64 ((putN 6 0 a1.2.1 a2.2.2.1.toNat r26.1).getD 1 0), .int .i64 ((putN 6 0 a1.2.1 a2.2.2.1.toNat r26.1).getD 2 0), .int .i64 ((putN 6 0 a1.2.1 a2.2.2.1.toNat r26.1).getD 3 0), .int .i64 ((putN 6 0 a1.2.1 a2.2.2.1.toNat r26.1).getD 4 0), .int .i64 ((putN 6 0 a1.2.1 a2.2.2.1.toNat r26.1).getD 5 0), v3, v4, .string a1.2.2.2.2.1, .string a1.2.2.2.2.2] 29 (0, 0))]]) Try.func62 rfl (List.Sublist.refl _) hl36 ⟨_, _, _, rfl, rfl, hs33, (hs5.up hl36), (hs6.up hl36)⟩
  ·refine Z 5 rfl ?_
   refine st_if rfl h (fun h => ?_) (fun h => ?_)
   ·refine Z 3 rfl ?_
    obtain ⟨r37, hr38, h⟩ := h
    refine st_ord [1, 1, 0, 0] _ rfl ?_
    refine st_call (foot := [[(ba0, .cells #[.pointer (some ⟨ba0p0, 0, none⟩), .int .i64 a0.2] 116 (0, 0))], [(ba0p0, .cells #[v1, .int .i64 a0p0.2.1, .int .i64 a0p0.2.2] 93 (0, 0))]]) rfl rfl rfl rfl rfl rfl (callV_fn z_en76 (body_reader_points_ok hr38 σ hs2)) ?_
    rintro vτ39 τ39 gsτ39 hl40 ⟨v41, v43, rfl, rfl, hs42, hs44⟩
    refine Z 2 rfl ?_
    refine o_store (j := 3) (vs := [v41]) (cs' := [.int .i64 a1.1, .int .i64 (a1.2.1.getD 0 0), .int .i64 (a1.2.1.getD 1 0), .int .i64 (a1.2.1.getD 2 0), .int .i64 (a1.2.1.getD 3 0), .int .i64 (a1.2.1.getD 4 0), .int .i64 (a1.2.1.getD 5 0), v41, v4, .string a1.2.2.2.2.1, .string a1.2.2.2.2.2]) rfl rfl rfl z_size26 rfl rfl (oneL_sl hs42) (ones_cons hs42.one' ones_nil) rfl rfl rfl ?_
    refine st_gs [[(ba0, .cells #[.pointer (some ⟨ba0p0, 0, none⟩), .int .i64 r37.2.1.2] 116 (0, 0))], [(ba0p0, .cells #[v43, .int .i64 r37.2.2.2.1, .int .i64 r37.2.2.2.2] 93 (0, 0))], [(b7, .cells #[.string a2.1, .int .i64 a2.2.1, .int .i64 a2.2.2.1, .int .i64 a2.2.2.2.1, .int .i64 a2.2.2.2.2.1, .int .i64 a2.2.2.2.2.2.1, .int .i64 a2.2.2.2.2.2.2] 56 (0, 0))], [(ba1, .cells #[.int .i64 a1.1, .int .i64 (a1.2.1.getD 0 0), .int .i64 (a1.2.1.getD 1 0), .int .i64 (a1.2.1.getD 2 0), .int .i64 (a1.2.1.getD 3 0), .int .i64 (a1.2.1.getD 4 0), .int .i64 (a1.2.1.getD 5 0), v41, v4, .string a1.2.2.2.2.1, .string a1.2.2.2.2.2] 29 (0, 0))]] rfl ?_
    refine Z 2 rfl ?_
    refine st_ord [0, 0, 1] _ rfl ?_
    obtain rfl := Eq.symm h
    exact st_fin (gs' := [[(ba0, .cells #[.pointer (some ⟨ba0p0, 0, none⟩), .int .i64 r37.2.1.2] 116 (0, 0))], [(ba0p0, .cells #[v43, .int .i64 r37.2.2.2.1, .int .i64 r37.2.2.2.2] 93 (0, 0))], [(ba1, .cells #[.int .i64 a1.1, .int .i64 (a1.2.1.getD 0 0), .int .i64 (a1.2.1.getD 1 0), .int .i64 (a1.2.1.getD 2 0), .int .i64 (a1.2.1.getD 3 0), .int .i64 (a1.2.1.getD 4 0), .int .i64 (a1.2.1.getD 5 0), v41, v4, .string a1.2.2.2.2.1, .string a1.2.2.2.2.2] 29 (0, 0))]]) Try.func62 rfl (List.Sublist.refl _) hl40 ⟨_, _, _, rfl, rfl, hs44, hs42, (hs6.up hl40)⟩
   ·refine Z 5 rfl ?_
    refine st_if rfl h (fun h => ?_) (fun h => ?_)
    ·refine Z 3 rfl ?_
     obtain ⟨r45, hr46, h⟩ := h
     refine st_ord [1, 1, 0, 0] _ rfl ?_
     refine st_call (foot := [[(ba0, .cells #[.pointer (some ⟨ba0p0, 0, none⟩), .int .i64 a0.2] 116 (0, 0))], [(ba0p0, .cells #[v1, .int .i64 a0p0.2.1, .int .i64 a0p0.2.2] 93 (0, 0))]]) rfl rfl rfl rfl rfl rfl (callV_fn z_en77 (body_reader_cells_ok hr46 σ hs2)) ?_
     rintro vτ47 τ47 gsτ47 hl48 ⟨v49, v51, rfl, rfl, hs50, hs52⟩
     refine Z 2 rfl ?_
     refine o_store (j := 3) (vs := [v49]) (cs' := [.int .i64 a1.1, .int .i64 (a1.2.1.getD 0 0), .int .i64 (a1.2.1.getD 1 0), .int .i64 (a1.2.1.getD 2 0), .int .i64 (a1.2.1.getD 3 0), .int .i64 (a1.2.1.getD 4 0), .int .i64 (a1.2.1.getD 5 0), v3, v49, .string a1.2.2.2.2.1, .string a1.2.2.2.2.2]) rfl rfl rfl z_size27 rfl rfl (oneL_sl hs50) (ones_cons hs50.one' ones_nil) rfl rfl rfl ?_
     refine st_gs [[(ba0, .cells #[.pointer (some ⟨ba0p0, 0, none⟩), .int .i64 r45.2.1.2] 116 (0, 0))], [(ba0p0, .cells #[v51, .int .i64 r45.2.2.2.1, .int .i64 r45.2.2.2.2] 93 (0, 0))], [(b7, .cells #[.string a2.1, .int .i64 a2.2.1, .int .i64 a2.2.2.1, .int .i64 a2.2.2.2.1, .int .i64 a2.2.2.2.2.1, .int .i64 a2.2.2.2.2.2.1, .int .i64 a2.2.2.2.2.2.2] 56 (0, 0))], [(ba1, .cells #[.int .i64 a1.1, .int .i64 (a1.2.1.getD 0 0), .int .i64 (a1.2.1.getD 1 0), .int .i64 (a1.2.1.getD 2 0), .int .i64 (a1.2.1.getD 3 0), .int .i64 (a1.2.1.getD 4 0), .int .i64 (a1.2.1.getD 5 0), v3, v49, .string a1.2.2.2.2.1, .string a1.2.2.2.2.2] 29 (0, 0))]] rfl ?_
     refine Z 2 rfl ?_
     refine st_ord [0, 0, 1] _ rfl ?_
     obtain rfl := Eq.symm h
     exact st_fin (gs' := [[(ba0, .cells #[.pointer (some ⟨ba0p0, 0, none⟩), .int .i64 r45.2.1.2] 116 (0, 0))], [(ba0p0, .cells #[v51, .int .i64 r45.2.2.2.1, .int .i64 r45.2.2.2.2] 93 (0, 0))], [(ba1, .cells #[.int .i64 a1.1, .int .i64 (a1.2.1.getD 0 0), .int .i64 (a1.2.1.getD 1 0), .int .i64 (a1.2.1.getD 2 0), .int .i64 (a1.2.1.getD 3 0), .int .i64 (a1.2.1.getD 4 0), .int .i64 (a1.2.1.getD 5 0), v3, v49, .string a1.2.2.2.2.1, .string a1.2.2.2.2.2] 29 (0, 0))]]) Try.func62 rfl (List.Sublist.refl _) hl48 ⟨_, _, _, rfl, rfl, hs52, (hs5.up hl48), hs50⟩
    ·refine Z 5 rfl ?_
     refine st_if rfl h (fun h => ?_) (fun h => ?_)
     ·refine ZZ 5 [0] rfl rfl ?_
      obtain ⟨r53, hr54, h⟩ := h
      refine st_ord [1, 1, 0, 0] _ rfl ?_
      refine st_call (foot := [[(ba0, .cells #[.pointer (some ⟨ba0p0, 0, none⟩), .int .i64 a0.2] 116 (0, 0))], [(ba0p0, .cells #[v1, .int .i64 a0p0.2.1, .int .i64 a0p0.2.2] 93 (0, 0))]]) rfl rfl rfl rfl rfl rfl (callV_fn z_en78 (body_reader_text_ok hr54 σ hs2)) ?_
      rintro vτ55 τ55 gsτ55 hl56 ⟨v57, rfl, rfl, hs58⟩
      refine ZZ 5 [3] rfl rfl ?_
      refine st_ord [0, 0, 1] _ rfl ?_
      obtain rfl := Eq.symm h
      exact st_fin (gs' := [[(ba0, .cells #[.pointer (some ⟨ba0p0, 0, none⟩), .int .i64 r53.2.1.2] 116 (0, 0))], [(ba0p0, .cells #[v57, .int .i64 r53.2.2.2.1, .int .i64 r53.2.2.2.2] 93 (0, 0))], [(ba1, .cells #[.int .i64 a1.1, .int .i64 (a1.2.1.getD 0 0), .int .i64 (a1.2.1.getD 1 0), .int .i64 (a1.2.1.getD 2 0), .int .i64 (a1.2.1.getD 3 0), .int .i64 (a1.2.1.getD 4 0), .int .i64 (a1.2.1.getD 5 0), v3, v4, .string r53.1, .string a1.2.2.2.2.2] 29 (0, 0))]]) Try.func62 rfl (List.Sublist.refl _) hl56 ⟨_, _, _, rfl, rfl, hs58, (hs5.up hl56), (hs6.up hl56)⟩
     ·refine Z 5 rfl ?_
      refine st_if rfl h (fun h => ?_) (fun h => ?_)
      ·refine ZZ 5 [0] rfl rfl ?_
       obtain ⟨r59, hr60, h⟩ := h
       refine st_ord [1, 1, 0, 0] _ rfl ?_
       refine st_call (foot := [[(ba0, .cells #[.pointer (some ⟨ba0p0, 0, none⟩), .int .i64 a0.2] 116 (0, 0))], [(ba0p0, .cells #[v1, .int .i64 a0p0.2.1, .int .i64 a0p0.2.2] 93 (0, 0))]]) rfl rfl rfl rfl rfl rfl (callV_fn z_en78 (body_reader_text_ok hr60 σ hs2)) ?_
       rintro vτ61 τ61 gsτ61 hl62 ⟨v63, rfl, rfl, hs64⟩
       refine ZZ 5 [3] rfl rfl ?_
       refine st_ord [0, 0, 1] _ rfl ?_
       obtain rfl := Eq.symm h
       exact st_fin (gs' := [[(ba0, .cells #[.pointer (some ⟨ba0p0, 0, none⟩), .int .i64 r59.2.1.2] 116 (0, 0))], [(ba0p0, .cells #[v63, .int .i64 r59.2.2.2.1, .int .i64 r59.2.2.2.2] 93 (0, 0))], [(ba1, .cells #[.int .i64 a1.1, .int .i64 (a1.2.1.getD 0 0), .int .i64 (a1.2.1.getD 1 0), .int .i64 (a1.2.1.getD 2 0), .int .i64 (a1.2.1.getD 3 0), .int .i64 (a1.2.1.getD 4 0), .int .i64 (a1.2.1.getD 5 0), v3, v4, .string a1.2.2.2.2.1, .string r59.1] 29 (0, 0))]]) Try.func62 rfl (List.Sublist.refl _) hl62 ⟨_, _, _, rfl, rfl, hs64, (hs5.up hl62), (hs6.up hl62)⟩
      ·refine Z 2 rfl ?_
       refine st_ord [1, 1, 1] _ rfl ?_
       obtain rfl := Eq.symm h
       exact st_fin (gs' := [[(ba0, .cells #[.pointer (some ⟨ba0p0, 0, none⟩), .int .i64 a0.2] 116 (0, 0))], [(ba0p0, .cells #[v1, .int .i64 a0p0.2.1, .int .i64 a0p0.2.2] 93 (0, 0))], [(ba1, .cells #[.int .i64 a1.1, .int .i64 (a1.2.1.getD 0 0), .int .i64 (a1.2.1.getD 1 0), .int .i64 (a1.2.1.getD 2 0), .int .i64 (a1.2.1.getD 3 0), .int .i64 (a1.2.1.getD 4 0), .int .i64 (a1.2.1.getD 5 0), v3, v4, .string a1.2.2.2.2.1, .string a1.2.2.2.2.2] 29 (0, 0))]]) Try.func62 rfl (List.Sublist.refl _) (Sto.Le.refl _) ⟨_, _, _, rfl, rfl, hs2, hs5, hs6⟩
theorem lens_Lens_End_ok {a0 : List Int × Int × Int} {ba0 : Nat} {v1 : Value} {r : Int} (h : lens_Lens_End a0 r) (σ : Sto) (hs2 : Sl (kI .u8) σ v1 a0.1) :
    Does Try.prog 55 [.pointer (some ⟨ba0, 0, none⟩)] σ [[(ba0, .cells [v1, .int .i64 a0.2.1, .int .i64 a0.2.2].toArray 93 (0, 0))]] (fun v τ gs => gs = [[(ba0, .cells [v1, .int .i64 a0.2.1, .int .i64 a0.2.2].toArray 93 (0, 0))]] ∧ .int .i64 r = v) := by
 refine call_of Try.func55 Try.ntmps55 rfl rfl (fun cs fs => ?_)
 refine Z 8 rfl ?_
 obtain ⟨r3, hr4, h⟩ := h
 refine st_call (foot := [[(ba0, .cells #[v1, .int .i64 a0.2.1, .int .i64 a0.2.2] 93 (0, 0))]]) rfl rfl rfl rfl rfl rfl (callV_fn z_en37 (lens_Lens_Err_ok hr4 σ hs2)) ?_
 rintro vτ5 τ5 gsτ5 hl6 ⟨rfl, rfl⟩
 refine Z 3 rfl ?_
 refine st_cut (fun ρ τ7 gs => ∃ (s7 : Bool), lens_Lens_End_j1 r3 s7 r ∧ τ5.Le τ7 ∧ ESub ρ [(2, .int .i64 0), (3, .int .i64 r3), (12, .bool s7)] ∧ gs = [[(ba0, .cells #[v1, .int .i64 a0.2.1, .int .i64 a0.2.2] 93 (0, 0))]]) ?_ (fun hk7 => ?_)
 ·rintro ρ7 τ7 gs7 ⟨s7, h, hl7, hρ, rfl⟩
  refine st_es hρ ?_
  refine st_if rfl h (fun h => ?_) (fun h => ?_)
  ·refine Z 5 rfl ?_
   obtain rfl := Eq.symm h
   exact st_ret (gs' := [[(ba0, .cells #[v1, .int .i64 a0.2.1, .int .i64 a0.2.2] 93 (0, 0))]]) Try.func55 rfl (List.Sublist.refl _) (hl6.trans hl7) ⟨rfl, rfl⟩
  ·refine Z 5 rfl ?_
   obtain rfl := Eq.symm h
   exact st_ret (gs' := [[(ba0, .cells #[v1, .int .i64 a0.2.1, .int .i64 a0.2.2] 93 (0, 0))]]) Try.func55 rfl (List.Sublist.refl _) (hl6.trans hl7) ⟨rfl, rfl⟩
 refine Z 3 rfl ?_
 refine o_mif rfl rfl rfl rfl h (fun h => ?_) (fun h => ?_)
 ·refine Z 5 rfl ?_
  exact hk7 _ _ _ ⟨true, h, (Sto.Le.refl _), rfl, rfl⟩
 ·refine o_move rfl rfl rfl rfl ?_
  obtain ⟨r8, hr9, h⟩ := h
  refine st_call (foot := [[(ba0, .cells #[v1, .int .i64 a0.2.1, .int .i64 a0.2.2] 93 (0, 0))]]) rfl rfl rfl rfl rfl rfl (callV_fn z_en34 (lens_Lens_Left_ok hr9 τ5 (hs2.up hl6))) ?_
  rintro vτ10 τ10 gsτ10 hl11 ⟨rfl, rfl⟩
  refine Z 3 rfl ?_
  exact hk7 _ _ _ ⟨(decide (r8 = 0)), h, hl11, rfl, rfl⟩
theorem slices_Clone_msg_Point_msg_Point_ok {a0 : List (Int × Int)} {v1 : Value} {r : (List (Int × Int))} (h : slices_Clone_msg_Point_msg_Point a0 r) (σ : Sto) (hs2 : Sl (kP (kI .i64) (kI .i64)) σ v1 a0) :
    Does Try.prog 88 [v1] σ [] (fun v τ gs => ∃ (v18 : Value), gs = [] ∧ v18 = v ∧ Sl (kP (kI .i64) (kI .i64)) τ v18 r) := by
 refine call_of Try.func88 Try.ntmps88 rfl rfl (fun cs fs => ?_)
 refine Z 8 rfl ?_
 refine o_slNil rfl rfl rfl Try.underlying26 rfl hs2 rfl (fun b3 hb4 => ?_)
 replace h := h b3 hb4
 refine st_end ?_
 refine st_if rfl h (fun h => ?_) (fun h => ?_)
 ·refine Z 4 rfl ?_
  obtain rfl := Eq.symm h
  exact st_ret (gs' := []) Try.func88 rfl (List.Sublist.refl _) (Sto.Le.refl _) ⟨_, rfl, rfl, Sl.nil⟩
 ·refine Z 3 rfl ?_
  refine o_lit (dk := (kP (kI .i64) (kI .i64))) (xs := ([] : List (Int × Int))) (ps := []) (cs := []) rfl rfl rfl z_slT26 z_zero61 trivial rfl rfl rfl rfl Kd.Many.nil (fun v5 g6 ho7 => ?_)
  refine o_move rfl rfl rfl rfl ?_
  obtain ⟨hf11, hf12, h⟩ := h
  refine o_append (dk := (kP (kI .i64) (kI .i64))) (xs := ([] : List (Int × Int))) (ys := a0) rfl rfl rfl rfl z_slT26 rfl ho7 rfl (Sl.src hs2) hf11 hf12 (fun v8 g9 ho10 => ?_)
  refine Z 2 rfl ?_
  refine st_freeze (fun τ13 hl14 hg15 => ?_)
  have hs16 := ho10.freeze hl14 hg15
  obtain rfl := Eq.symm h
  exact st_ret (gs' := []) Try.func88 rfl (List.Sublist.refl _) hl14 ⟨_, rfl, rfl, hs16⟩
theorem slices_Clone_int_int_ok {a0 : List Int} {v1 : Value} {r : List Int} (h : slices_Clone_int_int a0 r) (σ : Sto) (hs2 : Sl (kI .i64) σ v1 a0) :
    Does Try.prog 89 [v1] σ [] (fun v τ gs => ∃ (v18 : Value), gs = [] ∧ v18 = v ∧ Sl (kI .i64) τ v18 r) := by
 refine call_of Try.func89 Try.ntmps89 rfl rfl (fun cs fs => ?_)
 refine Z 8 rfl ?_
 refine o_slNil rfl rfl rfl Try.underlying27 rfl hs2 rfl (fun b3 hb4 => ?_)
 replace h := h b3 hb4
 refine st_end ?_
 refine st_if rfl h (fun h => ?_) (fun h => ?_)
 ·refine Z 4 rfl ?_
  obtain rfl := Eq.symm h
  exact st_ret (gs' := []) Try.func89 rfl (List.Sublist.refl _) (Sto.Le.refl _) ⟨_, rfl, rfl, Sl.nil⟩
 ·refine Z 3 rfl ?_
  refine o_lit (dk := (kI .i64)) (xs := ([] : List Int)) (ps := []) (cs := []) rfl rfl rfl z_slT27 z_zero3 trivial rfl rfl rfl rfl Kd.Many.nil (fun v5 g6 ho7 => ?_)
  refine o_move rfl rfl rfl rfl ?_
  obtain ⟨hf11, hf12, h⟩ := h
  refine o_append (dk := (kI .i64)) (xs := ([] : List Int)) (ys := a0) rfl rfl rfl rfl z_slT27 rfl ho7 rfl (Sl.src hs2) hf11 hf12 (fun v8 g9 ho10 => ?_)
  refine Z 2 rfl ?_
  refine st_freeze (fun τ13 hl14 hg15 => ?_)
  have hs16 := ho10.freeze hl14 hg15
  obtain rfl := Eq.symm h
  exact st_ret (gs' := []) Try.func89 rfl (List.Sublist.refl _) hl14 ⟨_, rfl, rfl, hs16⟩
theorem msg_Copy_ok {a0 : Int × List Int × List (Int × Int) × List Int × ByteArray × ByteArray} {v1 : Value} {v2 : Value} {r : (Int × List Int × List (Int × Int) × List Int × ByteArray × ByteArray)} (h : msg_Copy a0 r) (σ : Sto) (hs3 : Sl (kP (kI .i64) (kI .i64)) σ v1 a0.2.2.1) (hs4 : Sl (kI .i64) σ v2 a0.2.2.2.1) :
    Does Try.prog 79 [.agg [.int .i64 a0.1, .int .i64 (a0.2.1.getD 0 0), .int .i64 (a0.2.1.getD 1 0), .int .i64 (a0.2.1.getD 2 0), .int .i64 (a0.2.1.getD 3 0), .int .i64 (a0.2.1.getD 4 0), .int .i64 (a0.2.1.getD 5 0), v1, v2, .string a0.2.2.2.2.1, .string a0.2.2.2.2.2].toArray] σ [] (fun v τ gs => ∃ (v20 : Value) (v21 : Value), gs = [] ∧ .agg [.int .i64 r.1, .int .i64 (r.2.1.getD 0 0), .int .i64 (r.2.1.getD 1 0), .int .i64 (r.2.1.getD 2 0), .int .i64 (r.2.1.getD 3 0), .int .i64 (r.2.1.getD 4 0), .int .i64 (r.2.1.getD 5 0), v20, v21, .string r.2.2.2.2.1, .string r.2.2.2.2.2].toArray = v ∧ Sl (kP (kI .i64) (kI .i64)) τ v20 r.2.2.1 ∧ Sl (kI .i64) τ v21 r.2.2.2.1) := by
 refine call_of Try.func79 Try.ntmps79 rfl rfl (fun cs fs => ?_)
 refine Z 2 rfl ?_
 refine o_box (cs := [.int .i64 a0.1, .int .i64 (a0.2.1.getD 0 0), .int .i64 (a0.2.1.getD 1 0), .int .i64 (a0.2.1.getD 2 0), .int .i64 (a0.2.1.getD 3 0), .int .i64 (a0.2.1.getD 4 0), .int .i64 (a0.2.1.getD 5 0), v1, v2, .string a0.2.2.2.2.1, .string a0.2.2.2.2.2]) rfl rfl rfl rfl rfl (fun b5 => ?_)
 refine o_alloc rfl rfl rfl z_zero29 (fun b6 => ?_)
 refine Z 2 rfl ?_
 obtain ⟨r7, hr8, r13, hr14, h⟩ := h
 refine st_draw 7 (dl [.v (.pointer (some ⟨b5, 7, none⟩)), .v (v1), .t fun τ v => ∃ (v11 : Value), (v11 : Value) = v ∧ Sl (kP (kI .i64) (kI .i64)) τ v11 r7, .v (.pointer (some ⟨b5, 8, none⟩)), .v (v2), .t fun τ v => ∃ (v17 : Value), (v17 : Value) = v ∧ Sl (kI .i64) τ v17 r13, .v (.pointer (some ⟨b5, 7, none⟩))]) (fun _ _ => []) z_mix rfl (dl_mono ⟨fun _ _ _ hl ⟨v11, hv, hs12⟩ => ⟨v11, hv, hs12.up hl⟩, ⟨fun _ _ _ hl ⟨v17, hv, hs18⟩ => ⟨v17, hv, hs18.up hl⟩, trivial⟩⟩) (allB_cons (allB_cons (allB_cons (allB_cons (allB_cons (allB_cons (allB_cons allB_nil (p1 dA)) ?_) ?_) (p1 dA)) ?_) ?_) (p1 dA)) ?_
 ·intro ρ' τ pool rs hl hd hout hk
  obtain ⟨_, e0, rfl⟩ := hd 0 rfl
  refine o_load (j := 1) (v := v1) rfl rfl rfl z_sc26 e0 rfl rfl ?_
  exact st_addNil (hk _ _ (Sto.Le.refl _) rfl)
 ·intro ρ' τ pool rs hl hd hout hk
  obtain ⟨_, e1, rfl⟩ := hd 1 rfl
  refine st_call (foot := []) rfl rfl rfl rfl (evs_cons e1 rfl) rfl (callV_fn z_en88 (slices_Clone_msg_Point_msg_Point_ok hr8 τ (hs3.up hl))) ?_
  rintro vτ9 τ9 gsτ9 hl10 ⟨v11, rfl, rfl, hs12⟩
  exact st_addNil (hk _ _ hl10 ⟨v11, rfl, hs12⟩)
 ·intro ρ' τ pool rs hl hd hout hk
  obtain ⟨_, e3, rfl⟩ := hd 3 rfl
  refine o_load (j := 1) (v := v2) rfl rfl rfl z_sc27 e3 rfl rfl ?_
  exact st_addNil (hk _ _ (Sto.Le.refl _) rfl)
 ·intro ρ' τ pool rs hl hd hout hk
  obtain ⟨_, e4, rfl⟩ := hd 4 rfl
  refine st_call (foot := []) rfl rfl rfl rfl (evs_cons e4 rfl) rfl (callV_fn z_en89 (slices_Clone_int_int_ok hr14 τ (hs4.up hl))) ?_
  rintro vτ15 τ15 gsτ15 hl16 ⟨v17, rfl, rfl, hs18⟩
  exact st_addNil (hk _ _ hl16 ⟨v17, rfl, hs18⟩)
 intro ρ' τ19 vals hl19 hv hout
 obtain ⟨l2, v11, t2, hs12⟩ := hv 2 (by decide)
 replace l2 : Eng.look ρ' 5 = some (v11) := l2.trans (congrArg some (Eq.symm t2))
 obtain ⟨l5, v17, t5, hs18⟩ := hv 5 (by decide)
 replace l5 : Eng.look ρ' 8 = some (v17) := l5.trans (congrArg some (Eq.symm t5))
 refine st_ord [0, 0] _ rfl ?_
 refine st_env (ρ' := [(5, v11), (8, v17), (9, .pointer (some ⟨b5, 7, none⟩)), (1, .pointer (some ⟨b5, 0, none⟩)), (2, .pointer (some ⟨b6, 0, none⟩))]) ⟨l2, l5, (lv1 hv 6 rfl rfl), (hout 1 rfl).trans rfl, (hout 2 rfl).trans rfl, trivial⟩ ?_
 refine o_store (j := 1) (vs := [v11]) (cs' := [.int .i64 a0.1, .int .i64 (a0.2.1.getD 0 0), .int .i64 (a0.2.1.getD 1 0), .int .i64 (a0.2.1.getD 2 0), .int .i64 (a0.2.1.getD 3 0), .int .i64 (a0.2.1.getD 4 0), .int .i64 (a0.2.1.getD 5 0), v11, v2, .string a0.2.2.2.2.1, .string a0.2.2.2.2.2]) rfl rfl rfl z_size26 rfl rfl (oneL_sl hs12) (ones_cons hs12.one' ones_nil) rfl rfl rfl ?_
 refine st_gs [[(b6, .cells #[.int .i64 0, .int .i64 0, .int .i64 0, .int .i64 0, .int .i64 0, .int .i64 0, .int .i64 0, .slice none 0 0, .slice none 0 0, .string (bstr []), .string (bstr [])] 29 (0, 0))], [(b5, .cells #[.int .i64 a0.1, .int .i64 (a0.2.1.getD 0 0), .int .i64 (a0.2.1.getD 1 0), .int .i64 (a0.2.1.getD 2 0), .int .i64 (a0.2.1.getD 3 0), .int .i64 (a0.2.1.getD 4 0), .int .i64 (a0.2.1.getD 5 0), v11, v2, .string a0.2.2.2.2.1, .string a0.2.2.2.2.2] 29 (0, 0))]] rfl ?_
 refine o_fieldAddr rfl rfl rfl z_field29_3 rfl ?_
 refine o_store (j := 1) (vs := [v17]) (cs' := [.int .i64 a0.1, .int .i64 (a0.2.1.getD 0 0), .int .i64 (a0.2.1.getD 1 0), .int .i64 (a0.2.1.getD 2 0), .int .i64 (a0.2.1.getD 3 0), .int .i64 (a0.2.1.getD 4 0), .int .i64 (a0.2.1.getD 5 0), v11, v17, .string a0.2.2.2.2.1, .string a0.2.2.2.2.2]) rfl rfl rfl z_size27 rfl rfl (oneL_sl hs18) (ones_cons hs18.one' ones_nil) rfl rfl rfl ?_
 refine st_gs [[(b6, .cells #[.int .i64 0, .int .i64 0, .int .i64 0, .int .i64 0, .int .i64 0, .int .i64 0, .int .i64 0, .slice none 0 0, .slice none 0 0, .string (bstr []), .string (bstr [])] 29 (0, 0))], [(b5, .cells #[.int .i64 a0.1, .int .i64 (a0.2.1.getD 0 0), .int .i64 (a0.2.1.getD 1 0), .int .i64 (a0.2.1.getD 2 0), .int .i64 (a0.2.1.getD 3 0), .int .i64 (a0.2.1.getD 4 0), .int .i64 (a0.2.1.getD 5 0), v11, v17, .string a0.2.2.2.2.1, .string a0.2.2.2.2.2] 29 (0, 0))]] rfl ?_
 refine ZZ 4 [1] rfl rfl ?_
 refine o_store (j := 0) (vs := [.int .i64 a0.1, .int .i64 (a0.2.1.getD 0 0), .int .i64 (a0.2.1.getD 1 0), .int .i64 (a0.2.1.getD 2 0), .int .i64 (a0.2.1.getD 3 0), .int .i64 (a0.2.1.getD 4 0), .int .i64 (a0.2.1.getD 5 0), v11, v17, .string a0.2.2.2.2.1, .string a0.2.2.2.2.2]) (cs' := [.int .i64 a0.1, .int .i64 (a0.2.1.getD 0 0), .int .i64 (a0.2.1.getD 1 0), .int .i64 (a0.2.1.getD 2 0), .int .i64 (a0.2.1.getD 3 0), .int .i64 (a0.2.1.getD 4 0), .int .i64 (a0.2.1.getD 5 0), v11, v17, .string a0.2.2.2.2.1, .string a0.2.2.2.2.2]) rfl rfl rfl z_size29 rfl rfl rfl (ones_cons rfl (ones_cons rfl (ones_cons rfl (ones_cons rfl (ones_cons rfl (ones_cons rfl (ones_cons rfl (ones_cons hs12.one' (ones_cons hs18.one' (ones_cons rfl (ones_cons rfl ones_nil))))))))))) rfl rfl rfl ?_
 refine st_gs [[(b6, .cells #[.int .i64 a0.1, .int .i64 (a0.2.1.getD 0 0), .int .i64 (a0.2.1.getD 1 0), .int .i64 (a0.2.1.getD 2 0), .int .i64 (a0.2.1.getD 3 0), .int .i64 (a0.2.1.getD 4 0), .int .i64 (a0.2.1.getD 5 0), v11, v17, .string a0.2.2.2.2.1, .string a0.2.2.2.2.2] 29 (0, 0))], [(b5, .cells #[.int .i64 a0.1, .int .i64 (a0.2.1.getD 0 0), .int .i64 (a0.2.1.getD 1 0), .int .i64 (a0.2.1.getD 2 0), .int .i64 (a0.2.1.getD 3 0), .int .i64 (a0.2.1.getD 4 0), .int .i64 (a0.2.1.getD 5 0), v11, v17, .string a0.2.2.2.2.1, .string a0.2.2.2.2.2] 29 (0, 0))]] rfl ?_
 refine st_end ?_
 obtain rfl := Eq.symm h
 exact st_retC (gs' := []) [.agg #[.int .i64 a0.1, .int .i64 (a0.2.1.getD 0 0), .int .i64 (a0.2.1.getD 1 0), .int .i64 (a0.2.1.getD 2 0), .int .i64 (a0.2.1.getD 3 0), .int .i64 (a0.2.1.getD 4 0), .int .i64 (a0.2.1.getD 5 0), v11, v17, .string a0.2.2.2.2.1, .string a0.2.2.2.2.2]] Try.func79 ⟨⟨_, _, _, _, rfl, mem_flat 0 rfl, fun w hw => cellOfN (vs := [.int .i64 a0.1, .int .i64 (a0.2.1.getD 0 0), .int .i64 (a0.2.1.getD 1 0), .int .i64 (a0.2.1.getD 2 0), .int .i64 (a0.2.1.getD 3 0), .int .i64 (a0.2.1.getD 4 0), .int .i64 (a0.2.1.getD 5 0), v11, v17, .string a0.2.2.2.2.1, .string a0.2.2.2.2.2]) z_agg29 rfl w hw⟩, trivial⟩ (by simp) hl19 ⟨_, _, rfl, rfl, hs12, hs18⟩
theorem msg_Project_ok {a0 : Int × List Int × List (Int × Int) × List Int × ByteArray × ByteArray} {a1 : Int} {v1 : Value} {v2 : Value} {r : (Int × List Int × List (Int × Int) × List Int × ByteArray × ByteArray)} (h : msg_Project a0 a1 r) (σ : Sto) (hs3 : Sl (kP (kI .i64) (kI .i64)) σ v1 a0.2.2.1) (hs4 : Sl (kI .i64) σ v2 a0.2.2.2.1) :
    Does Try.prog 64 [.agg [.int .i64 a0.1, .int .i64 (a0.2.1.getD 0 0), .int .i64 (a0.2.1.getD 1 0), .int .i64 (a0.2.1.getD 2 0), .int .i64 (a0.2.1.getD 3 0), .int .i64 (a0.2.1.getD 4 0), .int .i64 (a0.2.1.getD 5 0), v1, v2, .string a0.2.2.2.2.1, .string a0.2.2.2.2.2].toArray, .int .i64 a1] σ [] (fun v τ gs => ∃ (v54 : Value) (v55 : Value), gs = [] ∧ .agg [.int .i64 r.1, .int .i64 (r.2.1.getD 0 0), .int .i64 (r.2.1.getD 1 0), .int .i64 (r.2.1.getD 2 0), .int .i64 (r.2.1.getD 3 0), .int .i64 (r.2.1.getD 4 0), .int .i64 (r.2.1.getD 5 0), v54, v55, .string r.2.2.2.2.1, .string r.2.2.2.2.2].toArray = v ∧ Sl (kP (kI .i64) (kI .i64)) τ v54 r.2.2.1 ∧ Sl (kI .i64) τ v55 r.2.2.2.1) := by
 refine call_of Try.func64 Try.ntmps64 rfl rfl (fun cs fs => ?_)
 refine Z 2 rfl ?_
 refine o_box (cs := [.int .i64 a0.1, .int .i64 (a0.2.1.getD 0 0), .int .i64 (a0.2.1.getD 1 0), .int .i64 (a0.2.1.getD 2 0), .int .i64 (a0.2.1.getD 3 0), .int .i64 (a0.2.1.getD 4 0), .int .i64 (a0.2.1.getD 5 0), v1, v2, .string a0.2.2.2.2.1, .string a0.2.2.2.2.2]) rfl rfl rfl rfl rfl (fun b5 => ?_)
 refine o_alloc rfl rfl rfl z_zero29 (fun b6 => ?_)
 refine ZZ 5 [1] rfl rfl ?_
 obtain ⟨r7, hr8, h⟩ := h
 refine st_call (foot := []) rfl rfl rfl rfl rfl rfl (callV_fn z_en79 (msg_Copy_ok hr8 σ hs3 hs4)) ?_
 rintro vτ9 τ9 gsτ9 hl10 ⟨v11, v12, rfl, rfl, hs13, hs14⟩
 refine o_store (j := 1) (vs := [.int .i64 r7.1, .int .i64 (r7.2.1.getD 0 0), .int .i64 (r7.2.1.getD 1 0), .int .i64 (r7.2.1.getD 2 0), .int .i64 (r7.2.1.getD 3 0), .int .i64 (r7.2.1.getD 4 0), .int .i64 (r7.2.1.getD 5 0), v11, v12, .string r7.2.2.2.2.1, .string r7.2.2.2.2.2]) (cs' := [.int .i64 r7.1, .int .i64 (r7.2.1.getD 0 0), .int .i64 (r7.2.1.getD 1 0), .int .i64 (r7.2.1.getD 2 0), .int .i64 (r7.2.1.getD 3 0), .int .i64 (r7.2.1.getD 4 0), .int .i64 (r7.2.1.getD 5 0), v11, v12, .string r7.2.2.2.2.1, .string r7.2.2.2.2.2]) rfl rfl rfl z_size29 rfl rfl rfl (ones_cons rfl (ones_cons rfl (ones_cons rfl (ones_cons rfl (ones_cons rfl (ones_cons rfl (ones_cons rfl (ones_cons hs13.one' (ones_cons hs14.one' (ones_cons rfl (ones_cons rfl ones_nil))))))))))) rfl rfl rfl ?_
 refine st_gs [[(b6, .cells #[.int .i64 0, .int .i64 0, .int .i64 0, .int .i64 0, .int .i64 0, .int .i64 0, .int .i64 0, .slice none 0 0, .slice none 0 0, .string (bstr []), .string (bstr [])] 29 (0, 0))], [(b5, .cells #[.int .i64 r7.1, .int .i64 (r7.2.1.getD 0 0), .int .i64 (r7.2.1.getD 1 0), .int .i64 (r7.2.1.getD 2 0), .int .i64 (r7.2.1.getD 3 0), .int .i64 (r7.2.1.getD 4 0), .int .i64 (r7.2.1.getD 5 0), v11, v12, .string r7.2.2.2.2.1, .string r7.2.2.2.2.2] 29 (0, 0))]] rfl ?_
 refine Z 4 rfl ?_
 refine st_cut (fun ρ τ15 gs => ∃ (s15 : Int × Int × Int × Int × Int × Int × Int × (List (Int × Int)) × List Int × ByteArray × ByteArray) (v16 : Value) (v18 : Value), msg_Project_j1 s15 r ∧ τ9.Le τ15 ∧ ESub ρ [(2, .pointer (some ⟨b5, 0, none⟩)), (4, .pointer (some ⟨b6, 0, none⟩))] ∧ gs = [[(b5, .cells #[.int .i64 s15.1, .int .i64 s15.2.1, .int .i64 s15.2.2.1, .int .i64 s15.2.2.2.1, .int .i64 s15.2.2.2.2.1, .int .i64 s15.2.2.2.2.2.1, .int .i64 s15.2.2.2.2.2.2.1, v16, v18, .string s15.2.2.2.2.2.2.2.2.2.1, .string s15.2.2.2.2.2.2.2.2.2.2] 29 (0, 0))], [(b6, .cells #[.int .i64 0, .int .i64 0, .int .i64 0, .int .i64 0, .int .i64 0, .int .i64 0, .int .i64 0, .slice none 0 0, .slice none 0 0, .string (bstr []), .string (bstr [])] 29 (0, 0))]] ∧ Sl (kP (kI .i64) (kI .i64)) τ15 v16 s15.2.2.2.2.2.2.2.1 ∧ Sl (kI .i64) τ15 v18 s15.2.2.2.2.2.2.2.2.1) ?_ (fun hk15 => ?_)
 ·rintro ρ15 τ15 gs15 ⟨s15, v16, v18, h, hl15, hρ, rfl, hs17, hs19⟩
  refine st_es hρ ?_
  refine ZZ 3 [0] rfl rfl ?_
  refine o_store (j := 1) (vs := [.int .i64 s15.1, .int .i64 s15.2.1, .int .i64 s15.2.2.1, .int .i64 s15.2.2.2.1, .int .i64 s15.2.2.2.2.1, .int .i64 s15.2.2.2.2.2.1, .int .i64 s15.2.2.2.2.2.2.1, v16, v18, .string s15.2.2.2.2.2.2.2.2.2.1, .string s15.2.2.2.2.2.2.2.2.2.2]) (cs' := [.int .i64 s15.1, .int .i64 s15.2.1, .int .i64 s15.2.2.1, .int .i64 s15.2.2.2.1, .int .i64 s15.2.2.2.2.1, .int .i64 s15.2.2.2.2.2.1, .int .i64 s15.2.2.2.2.2.2.1, v16, v18, .string s15.2.2.2.2.2.2.2.2.2.1, .string s15.2.2.2.2.2.2.2.2.2.2]) rfl rfl rfl z_size29 rfl rfl rfl (ones_cons rfl (ones_cons rfl (ones_cons rfl (ones_cons rfl (ones_cons rfl (ones_cons rfl (ones_cons rfl (ones_cons hs17.one' (ones_cons hs19.one' (ones_cons rfl (ones_cons rfl ones_nil))))))))))) rfl rfl rfl ?_
  refine st_gs [[(b5, .cells #[.int .i64 s15.1, .int .i64 s15.2.1, .int .i64 s15.2.2.1, .int .i64 s15.2.2.2.1, .int .i64 s15.2.2.2.2.1, .int .i64 s15.2.2.2.2.2.1, .int .i64 s15.2.2.2.2.2.2.1, v16, v18, .string s15.2.2.2.2.2.2.2.2.2.1, .string s15.2.2.2.2.2.2.2.2.2.2] 29 (0, 0))], [(b6, .cells #[.int .i64 s15.1, .int .i64 s15.2.1, .int .i64 s15.2.2.1, .int .i64 s15.2.2.2.1, .int .i64 s15.2.2.2.2.1, .int .i64 s15.2.2.2.2.2.1, .int .i64 s15.2.2.2.2.2.2.1, v16, v18, .string s15.2.2.2.2.2.2.2.2.2.1, .string s15.2.2.2.2.2.2.2.2.2.2] 29 (0, 0))]] rfl ?_
  refine st_end ?_
  obtain rfl := Eq.symm h
  exact st_retC (gs' := []) [.agg #[.int .i64 s15.1, .int .i64 s15.2.1, .int .i64 s15.2.2.1, .int .i64 s15.2.2.2.1, .int .i64 s15.2.2.2.2.1, .int .i64 s15.2.2.2.2.2.1, .int .i64 s15.2.2.2.2.2.2.1, v16, v18, .string s15.2.2.2.2.2.2.2.2.2.1, .string s15.2.2.2.2.2.2.2.2.2.2]] Try.func64 ⟨⟨_, _, _, _, rfl, mem_flat 1 rfl, fun w hw => cellOfN (vs := [.int .i64 s15.1, .int .i64 s15.2.1, .int .i64 s15.2.2.1, .int .i64 s15.2.2.2.1, .int .i64 s15.2.2.2.2.1, .int .i64 s15.2.2.2.2.2.1, .int .i64 s15.2.2.2.2.2.2.1, v16, v18, .string s15.2.2.2.2.2.2.2.2.2.1, .string s15.2.2.2.2.2.2.2.2.2.2]) z_agg29 rfl w hw⟩, trivial⟩ (by simp) (hl10.trans hl15) ⟨_, _, rfl, rfl, hs17, hs19⟩
 refine ZZ 4 [1] rfl rfl ?_
 obtain ⟨r20, hr21, h⟩ := h
 refine st_call (foot := []) rfl rfl rfl rfl rfl rfl (callV_fn z_en21 (field_Of_ok hr21 τ9)) ?_
 rintro vτ22 τ22 gsτ22 hl23 ⟨v24, rfl, rfl, hs25⟩
 refine o_lenI rfl rfl rfl z_slT53 rfl hs25 ?_
 refine Z 2 rfl ?_
 obtain ⟨e26, hL26, hA26⟩ := h
 refine st_ord [1, 0] _ rfl ?_
 refine st_loop hL26 (fun (s26 : Int × Int × Int × Int × Int × Int × Int × Int × (List (Int × Int)) × List Int × ByteArray × ByteArray) ρ τ26 gs => τ22.Le τ26 ∧ ∃ (v27 : Value) (v29 : Value), ESub ρ [(1, .int .i64 a1), (2, .pointer (some ⟨b5, 0, none⟩)), (4, .pointer (some ⟨b6, 0, none⟩)), (11, v24), (12, .int .i64 (r20.length : Int)), (13, .int .i64 s26.1)] ∧ gs = [[(b5, .cells #[.int .i64 s26.2.1, .int .i64 s26.2.2.1, .int .i64 s26.2.2.2.1, .int .i64 s26.2.2.2.2.1, .int .i64 s26.2.2.2.2.2.1, .int .i64 s26.2.2.2.2.2.2.1, .int .i64 s26.2.2.2.2.2.2.2.1, v27, v29, .string s26.2.2.2.2.2.2.2.2.2.2.1, .string s26.2.2.2.2.2.2.2.2.2.2.2] 29 (0, 0))], [(b6, .cells #[.int .i64 0, .int .i64 0, .int .i64 0, .int .i64 0, .int .i64 0, .int .i64 0, .int .i64 0, .slice none 0 0, .slice none 0 0, .string (bstr []), .string (bstr [])] 29 (0, 0))]] ∧ Sl (kP (kI .i64) (kI .i64)) τ26 v27 s26.2.2.2.2.2.2.2.2.1 ∧ Sl (kI .i64) τ26 v29 s26.2.2.2.2.2.2.2.2.2.1) ⟨Sto.Le.refl _, _, _, rfl, rfl, (hs13.up hl23), (hs14.up hl23)⟩ ?_
 rintro s26 o26 h he26 ρ26 τ26 gs26 ⟨hl26, v27, v29, hρ, rfl, hs28, hs30⟩ hn26
 refine st_es hρ ?_
 refine Z 5 rfl ?_
 refine st_if rfl h (fun h => ?_) (fun h => ?_)
 ·refine Z 2 rfl ?_
  refine st_cut (fun ρ τ31 gs => ∃ (s31 : Int × Int × Int × Int × Int × Int × Int × (List (Int × Int)) × List Int × ByteArray × ByteArray) (v32 : Value) (v34 : Value), msg_Project_j3 s26 s31 o26 ∧ τ26.Le τ31 ∧ ESub ρ [(1, .int .i64 a1), (2, .pointer (some ⟨b5, 0, none⟩)), (4, .pointer (some ⟨b6, 0, none⟩)), (11, v24), (12, .int .i64 (r20.length : Int)), (13, .int .i64 s26.1)] ∧ gs = [[(b5, .cells #[.int .i64 s31.1, .int .i64 s31.2.1, .int .i64 s31.2.2.1, .int .i64 s31.2.2.2.1, .int .i64 s31.2.2.2.2.1, .int .i64 s31.2.2.2.2.2.1, .int .i64 s31.2.2.2.2.2.2.1, v32, v34, .string s31.2.2.2.2.2.2.2.2.2.1, .string s31.2.2.2.2.2.2.2.2.2.2] 29 (0, 0))], [(b6, .cells #[.int .i64 0, .int .i64 0, .int .i64 0, .int .i64 0, .int .i64 0, .int .i64 0, .int .i64 0, .slice none 0 0, .slice none 0 0, .string (bstr []), .string (bstr [])] 29 (0, 0))]] ∧ Sl (kP (kI .i64) (kI .i64)) τ31 v32 s31.2.2.2.2.2.2.2.1 ∧ Sl (kI .i64) τ31 v34 s31.2.2.2.2.2.2.2.2.1) ?_ (fun hk31 => ?_)
  ·rintro ρ31 τ31 gs31 ⟨s31, v32, v34, h, hl31, hρ, rfl, hs33, hs35⟩
   refine st_es hρ ?_
   refine Z 4 rfl ?_
   exact hn26 _ _ _ _ h ⟨(hl26.trans hl31), _, _, rfl, rfl, hs33, hs35⟩
  refine Z 3 rfl ?_
  obtain ⟨q36, hf37, h⟩ := h
  refine o_index rfl rfl rfl z_slT53 rfl rfl (hs25.up hl26) rfl hf37 (fun b38 of39 vs hc40 hrep => ?_)
  obtain ⟨_, _, rfl, rfl, ⟨_, _, rfl, rfl, ⟨_, _, rfl, rfl, ⟨_, _, rfl, rfl, ⟨_, _, rfl, rfl, ⟨_, _, rfl, rfl, rfl⟩⟩⟩⟩⟩⟩ := hrep
  refine o_loadIN (vs := [.string q36.1, .int .i64 q36.2.1, .int .i64 q36.2.2.1, .int .i64 q36.2.2.2.1, .int .i64 q36.2.2.2.2.1, .int .i64 q36.2.2.2.2.2.1, .int .i64 q36.2.2.2.2.2.2]) rfl rfl rfl z_agg56 rfl rfl (celn_part 0 rfl hc40) ?_
  refine o_alloc rfl rfl rfl z_zero56 (fun b41 => ?_)
  refine ZZ 4 [0] rfl rfl ?_
  refine st_cut (fun ρ τ42 gs => ∃ (s42 : Bool), msg_Project_j4 s26 q36 s42 o26 ∧ τ26.Le τ42 ∧ ESub ρ [(1, .int .i64 a1), (2, .pointer (some ⟨b5, 0, none⟩)), (4, .pointer (some ⟨b6, 0, none⟩)), (11, v24), (12, .int .i64 (r20.length : Int)), (13, .int .i64 s26.1), (6, .pointer (some ⟨b41, 0, none⟩)), (23, .bool s42)] ∧ gs = [[(b5, .cells #[.int .i64 s26.2.1, .int .i64 s26.2.2.1, .int .i64 s26.2.2.2.1, .int .i64 s26.2.2.2.2.1, .int .i64 s26.2.2.2.2.2.1, .int .i64 s26.2.2.2.2.2.2.1, .int .i64 s26.2.2.2.2.2.2.2.1, v27, v29, .string s26.2.2.2.2.2.2.2.2.2.2.1, .string s26.2.2.2.2.2.2.2.2.2.2.2] 29 (0, 0))], [(b6, .cells #[.int .i64 0, .int .i64 0, .int .i64 0, .int .i64 0, .int .i64 0, .int .i64 0, .int .i64 0, .slice none 0 0, .slice none 0 0, .string (bstr []), .string (bstr [])] 29 (0, 0))], [(b41, .cells #[.string q36.1, .int .i64 q36.2.1, .int .i64 q36.2.2.1, .int .i64 q36.2.2.2.1, .int .i64 q36.2.2.2.2.1, .int .i64 q36.2.2.2.2.2.1, .int .i64 q36.2.2.2.2.2.2] 56 (0, 0))]]) ?_ (fun hk42 => ?_)
  ·rintro ρ42 τ42 gs42 ⟨s42, h, hl42, hρ, rfl⟩
   refine st_es hρ ?_
   refine st_if rfl h (fun h => ?_) (fun h => ?_)
   ·refine st_exit rfl ?_
    refine st_ord [0, 0] _ rfl ?_
    exact hk31 _ _ _ ⟨(s26.2.1, s26.2.2.1, s26.2.2.2.1, s26.2.2.2.2.1, s26.2.2.2.2.2.1, s26.2.2.2.2.2.2.1, s26.2.2.2.2.2.2.2.1, s26.2.2.2.2.2.2.2.2.1, s26.2.2.2.2.2.2.2.2.2.1, s26.2.2.2.2.2.2.2.2.2.2.1, s26.2.2.2.2.2.2.2.2.2.2.2), _, _, h, hl42, rfl, rfl, (hs28.up hl42), (hs30.up hl42)⟩
   ·refine ZZ 5 [0, 2] rfl rfl ?_
    obtain ⟨r43, hr44, h⟩ := h
    refine st_call (foot := []) rfl rfl rfl rfl rfl rfl (callV_fn z_en23 (msg_without_ok hr44 τ42 (hs28.up hl42) (hs30.up hl42))) ?_
    rintro vτ45 τ45 gsτ45 hl46 ⟨v47, v48, rfl, rfl, hs49, hs50⟩
    refine o_store (j := 0) (vs := [.int .i64 r43.1, .int .i64 (r43.2.1.getD 0 0), .int .i64 (r43.2.1.getD 1 0), .int .i64 (r43.2.1.getD 2 0), .int .i64 (r43.2.1.getD 3 0), .int .i64 (r43.2.1.getD 4 0), .int .i64 (r43.2.1.getD 5 0), v47, v48, .string r43.2.2.2.2.1, .string r43.2.2.2.2.2]) (cs' := [.int .i64 r43.1, .int .i64 (r43.2.1.getD 0 0), .int .i64 (r43.2.1.getD 1 0), .int .i64 (r43.2.1.getD 2 0), .int .i64 (r43.2.1.getD 3 0), .int .i64 (r43.2.1.getD 4 0), .int .i64 (r43.2.1.getD 5 0), v47, v48, .string r43.2.2.2.2.1, .string r43.2.2.2.2.2]) rfl rfl rfl z_size29 rfl rfl rfl (ones_cons rfl (ones_cons rfl (ones_cons rfl (ones_cons rfl (ones_cons rfl (ones_cons rfl (ones_cons rfl (ones_cons hs49.one' (ones_cons hs50.one' (ones_cons rfl (ones_cons rfl ones_nil))))))))))) rfl rfl rfl ?_
    refine st_gs [[(b5, .cells #[.int .i64 r43.1, .int .i64 (r43.2.1.getD 0 0), .int .i64 (r43.2.1.getD 1 0), .int .i64 (r43.2.1.getD 2 0), .int .i64 (r43.2.1.getD 3 0), .int .i64 (r43.2.1.getD 4 0), .int .i64 (r43.2.1.getD 5 0), v47, v48, .string r43.2.2.2.2.1, .string r43.2.2.2.2.2] 29 (0, 0))], [(b6, .cells #[.int .i64 0, .int .i64 0, .int .i64 0, .int .i64 0, .int .i64 0, .int .i64 0, .int .i64 0, .slice none 0 0, .slice none 0 0, .string (bstr []), .string (bstr [])] 29 (0, 0))], [(b41, .cells #[.string q36.1, .int .i64 q36.2.1, .int .i64 q36.2.2.1, .int .i64 q36.2.2.2.1, .int .i64 q36.2.2.2.2.1, .int .i64 q36.2.2.2.2.2.1, .int .i64 q36.2.2.2.2.2.2] 56 (0, 0))]] rfl ?_
    refine ZZ 7 [2] rfl rfl ?_
    refine st_if rfl h (fun h => ?_) (fun h => ?_)
    ·refine ZZ 6 [2, 2] rfl rfl ?_
     obtain ⟨hf51, hf52, h⟩ := h
     refine o_indexA rfl rfl rfl z_arr25 rfl rfl hf51 hf52 ?_
     refine o_storeV (j := 0) (q36.2.2.1.toNat) (f := (Value.int .i64)) (zz := 0) (a := q36.2.2.2.2.2.2) (l := 6) (xs := r43.2.1) [.int .i64 r43.1] [v47, v48, .string r43.2.2.2.2.1, .string r43.2.2.2.2.2] rfl rfl rfl z_size3 rfl rfl rfl rfl rfl (by simp only [List.length_cons, List.length_nil] <;> omega) (by omega) ?_
     refine st_gs [[(b5, .cells #[.int .i64 r43.1, .int .i64 ((putN 6 0 r43.2.1 q36.2.2.1.toNat q36.2.2.2.2.2.2).getD 0 0), .int .i64 ((putN 6 0 r43.2.1 q36.2.2.1.toNat q36.2.2.2.2.2.2).getD 1 0), .int .i64 ((putN 6 0 r43.2.1 q36.2.2.1.toNat q36.2.2.2.2.2.2).getD 2 0), .int .i64 ((putN 6 0 r43.2.1 q36.2.2.1.toNat q36.2.2.2.2.2.2).getD 3 0), .int .i64 ((putN 6 0 r43.2.1 q36.2.2.1.toNat q36.2.2.2.2.2.2).getD 4 0), .int .i64 ((putN 6 0 r43.2.1 q36.2.2.1.toNat q36.2.2.2.2.2.2).getD 5 0), v47, v48, .string r43.2.2.2.2.1, .string r43.2.2.2.2.2] 29 (0, 0))], [(b6, .cells #[.int .i64 0, .int .i64 0, .int .i64 0, .int .i64 0, .int .i64 0, .int .i64 0, .int .i64 0, .slice none 0 0, .slice none 0 0, .string (bstr []), .string (bstr [])] 29 (0, 0))], [(b41, .cells #[.string q36.1, .int .i64 q36.2.1, .int .i64 q36.2.2.1, .int .i64 q36.2.2.2.1, .int .i64 q36.2.2.2.2.1, .int .i64 q36.2.2.2.2.2.1, .int .i64 q36.2.2.2.2.2.2] 56 (0, 0))]] rfl ?_
     refine Z 2 rfl ?_
     refine st_ord [0, 0] _ rfl ?_
     exact hk31 _ _ _ ⟨(r43.1, ((putN 6 0 r43.2.1 q36.2.2.1.toNat q36.2.2.2.2.2.2).getD 0 0), ((putN 6 0 r43.2.1 q36.2.2.1.toNat q36.2.2.2.2.2.2).getD 1 0), ((putN 6 0 r43.2.1 q36.2.2.1.toNat q36.2.2.2.2.2.2).getD 2 0), ((putN 6 0 r43.2.1 q36.2.2.1.toNat q36.2.2.2.2.2.2).getD 3 0), ((putN 6 0 r43.2.1 q36.2.2.1.toNat q36.2.2.2.2.2.2).getD 4 0), ((putN 6 0 r43.2.1 q36.2.2.1.toNat q36.2.2.2.2.2.2).getD 5 0), r43.2.2.1, r43.2.2.2.1, r43.2.2.2.2.1, r43.2.2.2.2.2), _, _, h, (hl42.trans hl46), rfl, rfl, hs49, hs50⟩
    ·refine Z 2 rfl ?_
     refine st_ord [0, 0] _ rfl ?_
     exact hk31 _ _ _ ⟨(r43.1, (r43.2.1.getD 0 0), (r43.2.1.getD 1 0), (r43.2.1.getD 2 0), (r43.2.1.getD 3 0), (r43.2.1.getD 4 0), (r43.2.1.getD 5 0), r43.2.2.1, r43.2.2.2.1, r43.2.2.2.2.1, r43.2.2.2.2.2), _, _, h, (hl42.trans hl46), rfl, rfl, hs49, hs50⟩
  refine Z 3 rfl ?_
  refine o_mif rfl rfl rfl rfl h (fun h => ?_) (fun h => ?_)
  ·refine Z 5 rfl ?_
   refine st_ord [1, 1, 0] _ rfl ?_
   exact hk42 _ _ _ ⟨true, h, (Sto.Le.refl _), rfl, rfl⟩
  ·refine ZZ 5 [0] rfl rfl ?_
   refine st_ord [1, 1, 0] _ rfl ?_
   exact hk42 _ _ _ ⟨(decide (q36.2.2.2.2.2.1 = 1)), h, (Sto.Le.refl _), rfl, rfl⟩
 ·refine st_exit rfl ?_
  obtain rfl := he26 _ h
  replace h := hA26
  exact hk15 _ _ _ ⟨(s26.2.1, s26.2.2.1, s26.2.2.2.1, s26.2.2.2.2.1, s26.2.2.2.2.2.1, s26.2.2.2.2.2.2.1, s26.2.2.2.2.2.2.2.1, s26.2.2.2.2.2.2.2.2.1, s26.2.2.2.2.2.2.2.2.2.1, s26.2.2.2.2.2.2.2.2.2.2.1, s26.2.2.2.2.2.2.2.2.2.2.2), _, _, h, (hl23.trans hl26), rfl, rfl, hs28, hs30⟩
theorem body_Decode_ok {a0 : Int} {a1 : Int} {a2 : List Int} {v1 : Value} {r : (Int × List Int × List (Int × Int) × List Int × ByteArray × ByteArray) × Int} (h : body_Decode a0 a1 a2 r) (σ : Sto) (hs2 : Sl (kI .u8) σ v1 a2) :
    Does Try.prog 53 [.int .i64 a0, .int .i64 a1, v1] σ [] (fun v τ gs => ∃ (v90 : Value) (v91 : Value), gs = [] ∧ .tuple [.agg [.int .i64 r.1.1, .int .i64 (r.1.2.1.getD 0 0), .int .i64 (r.1.2.1.getD 1 0), .int .i64 (r.1.2.1.getD 2 0), .int .i64 (r.1.2.1.getD 3 0), .int .i64 (r.1.2.1.getD 4 0), .int .i64 (r.1.2.1.getD 5 0), v90, v91, .string r.1.2.2.2.2.1, .string r.1.2.2.2.2.2].toArray, .int .i64 r.2].toArray = v ∧ Sl (kP (kI .i64) (kI .i64)) τ v90 r.1.2.2.1 ∧ Sl (kI .i64) τ v91 r.1.2.2.2.1) := by
 refine call_of Try.func53 Try.ntmps53 rfl rfl (fun cs fs => ?_)
 refine Z 2 rfl ?_
 refine o_alloc rfl rfl rfl z_zero29 (fun b3 => ?_)
 refine Z 6 rfl ?_
 refine st_cut (fun ρ τ4 gs => ∃ (s4 : Bool), body_Decode_j1 a0 a1 a2 s4 r ∧ σ.Le τ4 ∧ ESub ρ [(0, .int .i64 a0), (1, .int .i64 a1), (2, v1), (6, .pointer (some ⟨b3, 0, none⟩)), (7, .int .i64 0), (12, .bool s4)] ∧ gs = [[(b3, .cells #[.int .i64 0, .int .i64 0, .int .i64 0, .int .i64 0, .int .i64 0, .int .i64 0, .int .i64 0, .slice none 0 0, .slice none 0 0, .string (bstr []), .string (bstr [])] 29 (0, 0))]]) ?_ (fun hk4 => ?_)
 ·rintro ρ4 τ4 gs4 ⟨s4, h, hl4, hρ, rfl⟩
  refine st_es hρ ?_
  refine st_cond rfl (fun hc => ?_) (fun hc => ?_)
  ·replace h := (if_pos hc).mp h
   refine ZZ 6 [0] rfl rfl ?_
   obtain rfl := Eq.symm h
   exact st_retC (gs' := []) [.agg #[.int .i64 0, .int .i64 0, .int .i64 0, .int .i64 0, .int .i64 0, .int .i64 0, .int .i64 0, .slice none 0 0, .slice none 0 0, .string (bstr []), .string (bstr [])], .int .i64 10] Try.func53 ⟨⟨_, _, _, _, rfl, mem_flat 0 rfl, fun w hw => cellOfN (vs := [.int .i64 0, .int .i64 0, .int .i64 0, .int .i64 0, .int .i64 0, .int .i64 0, .int .i64 0, .slice none 0 0, .slice none 0 0, .string (bstr []), .string (bstr [])]) z_agg29 rfl w hw⟩, rfl, trivial⟩ (by simp) hl4 ⟨_, _, rfl, rfl, Sl.nil, Sl.nil⟩
  ·replace h := (if_neg (ne_t hc)).mp h
   refine Z 3 rfl ?_
   obtain ⟨r5, hr6, h⟩ := h
   refine st_call (foot := []) rfl rfl rfl rfl rfl rfl (callV_fn z_en61 (field_Word_ok hr6 τ4)) ?_
   rintro vτ7 τ7 gsτ7 hl8 ⟨rfl, rfl⟩
   refine o_sbin (v := .bool (decide (r5 = (bstr [])))) rfl rfl rfl rfl (ev_str z_str19) rfl ?_
   refine Z 2 rfl ?_
   refine st_cond rfl (fun hc => ?_) (fun hc => ?_)
   ·replace h := (if_pos hc).mp h
    refine ZZ 6 [0] rfl rfl ?_
    obtain rfl := Eq.symm h
    exact st_retC (gs' := []) [.agg #[.int .i64 0, .int .i64 0, .int .i64 0, .int .i64 0, .int .i64 0, .int .i64 0, .int .i64 0, .slice none 0 0, .slice none 0 0, .string (bstr []), .string (bstr [])], .int .i64 9] Try.func53 ⟨⟨_, _, _, _, rfl, mem_flat 0 rfl, fun w hw => cellOfN (vs := [.int .i64 0, .int .i64 0, .int .i64 0, .int .i64 0, .int .i64 0, .int .i64 0, .int .i64 0, .slice none 0 0, .slice none 0 0, .string (bstr []), .string (bstr [])]) z_agg29 rfl w hw⟩, rfl, trivial⟩ (by simp) (hl4.trans hl8) ⟨_, _, rfl, rfl, Sl.nil, Sl.nil⟩
   ·replace h := (if_neg (ne_t hc)).mp h
    refine Z 5 rfl ?_
    obtain ⟨r9, hr10, h⟩ := h
    refine st_call (foot := []) rfl rfl rfl rfl rfl rfl (callV_fn z_en33 (lens_New_ok hr10 τ7 (hs2.up (hl4.trans hl8)))) ?_
    rintro vτ11 τ11 gsτ11 hl12 ⟨b13, v14, rfl, rfl, hs15⟩
    refine ZZ 1 [] rfl rfl ?_
    refine o_boxC rfl rfl rfl rfl rfl rfl (fun b16 => ?_)
    refine o_alloc rfl rfl rfl z_zero114 (fun b17 => ?_)
    refine ZZ 6 [0] rfl rfl ?_
    refine o_alloc rfl rfl rfl z_zero29 (fun b18 => ?_)
    refine ZZ 5 [0] rfl rfl ?_
    refine st_cut (fun ρ τ19 gs => ∃ (s19 : List Int × Int × Int × Int × Int × Int × Int × Int × Int × Int × Int × (List (Int × Int)) × List Int × ByteArray × ByteArray) (v20 : Value) (v22 : Value) (v24 : Value), body_Decode_j2 a1 s19 r ∧ τ11.Le τ19 ∧ ESub ρ [(1, .int .i64 a1), (6, .pointer (some ⟨b3, 0, none⟩)), (7, .int .i64 0), (8, .pointer (some ⟨b17, 0, none⟩)), (9, .pointer (some ⟨b18, 0, none⟩))] ∧ gs = [[(b3, .cells #[.int .i64 0, .int .i64 0, .int .i64 0, .int .i64 0, .int .i64 0, .int .i64 0, .int .i64 0, .slice none 0 0, .slice none 0 0, .string (bstr []), .string (bstr [])] 29 (0, 0))], [(b13, .cells #[v20, .int .i64 s19.2.1, .int .i64 s19.2.2.1] 93 (0, 0))], [(b16, .cells #[.pointer (some ⟨b13, 0, none⟩), .int .i64 s19.2.2.2.1] 116 (0, 0))], [(b17, .cells #[.pointer (some ⟨b16, 0, none⟩)] 114 (0, 0))], [(b18, .cells #[.int .i64 s19.2.2.2.2.1, .int .i64 s19.2.2.2.2.2.1, .int .i64 s19.2.2.2.2.2.2.1, .int .i64 s19.2.2.2.2.2.2.2.1, .int .i64 s19.2.2.2.2.2.2.2.2.1, .int .i64 s19.2.2.2.2.2.2.2.2.2.1, .int .i64 s19.2.2.2.2.2.2.2.2.2.2.1, v22, v24, .string s19.2.2.2.2.2.2.2.2.2.2.2.2.2.1, .string s19.2.2.2.2.2.2.2.2.2.2.2.2.2.2] 29 (0, 0))]] ∧ Sl (kI .u8) τ19 v20 s19.1 ∧ Sl (kP (kI .i64) (kI .i64)) τ19 v22 s19.2.2.2.2.2.2.2.2.2.2.2.1 ∧ Sl (kI .i64) τ19 v24 s19.2.2.2.2.2.2.2.2.2.2.2.2.1) ?_ (fun hk19 => ?_)
    ·rintro ρ19 τ19 gs19 ⟨s19, v20, v22, v24, h, hl19, hρ, rfl, hs21, hs23, hs25⟩
     refine st_es hρ ?_
     refine ZZ 3 [3] rfl rfl ?_
     obtain ⟨r26, hr27, h⟩ := h
     refine st_ord [2, 1, 0, 0, 0] _ rfl ?_
     refine st_call (foot := [[(b16, .cells #[.pointer (some ⟨b13, 0, none⟩), .int .i64 s19.2.2.2.1] 116 (0, 0))], [(b13, .cells #[v20, .int .i64 s19.2.1, .int .i64 s19.2.2.1] 93 (0, 0))]]) rfl rfl rfl rfl rfl rfl (callV_fn z_en63 (body_reader_err_ok hr27 τ19 hs21)) ?_
     rintro vτ28 τ28 gsτ28 hl29 ⟨rfl, rfl⟩
     refine Z 3 rfl ?_
     refine st_cut (fun ρ τ30 gs => ∃ (s30 : Int), body_Decode_j3 a1 s19 s30 r ∧ τ28.Le τ30 ∧ ESub ρ [(1, .int .i64 a1), (6, .pointer (some ⟨b3, 0, none⟩)), (7, .int .i64 0), (9, .pointer (some ⟨b18, 0, none⟩)), (11, .int .i64 s30)] ∧ gs = [[(b3, .cells #[.int .i64 0, .int .i64 0, .int .i64 0, .int .i64 0, .int .i64 0, .int .i64 0, .int .i64 0, .slice none 0 0, .slice none 0 0, .string (bstr []), .string (bstr [])] 29 (0, 0))], [(b18, .cells #[.int .i64 s19.2.2.2.2.1, .int .i64 s19.2.2.2.2.2.1, .int .i64 s19.2.2.2.2.2.2.1, .int .i64 s19.2.2.2.2.2.2.2.1, .int .i64 s19.2.2.2.2.2.2.2.2.1, .int .i64 s19.2.2.2.2.2.2.2.2.2.1, .int .i64 s19.2.2.2.2.2.2.2.2.2.2.1, v22, v24, .string s19.2.2.2.2.2.2.2.2.2.2.2.2.2.1, .string s19.2.2.2.2.2.2.2.2.2.2.2.2.2.2] 29 (0, 0))]]) ?_ (fun hk30 => ?_)
     ·rintro ρ30 τ30 gs30 ⟨s30, h, hl30, hρ, rfl⟩
      refine st_es hρ ?_
      refine Z 6 rfl ?_
      refine st_if rfl h (fun h => ?_) (fun h => ?_)
      ·refine ZZ 7 [0] rfl rfl ?_
       obtain rfl := Eq.symm h
       exact st_retC (gs' := []) [.agg #[.int .i64 0, .int .i64 0, .int .i64 0, .int .i64 0, .int .i64 0, .int .i64 0, .int .i64 0, .slice none 0 0, .slice none 0 0, .string (bstr []), .string (bstr [])], .int .i64 s30] Try.func53 ⟨⟨_, _, _, _, rfl, mem_flat 0 rfl, fun w hw => cellOfN (vs := [.int .i64 0, .int .i64 0, .int .i64 0, .int .i64 0, .int .i64 0, .int .i64 0, .int .i64 0, .slice none 0 0, .slice none 0 0, .string (bstr []), .string (bstr [])]) z_agg29 rfl w hw⟩, rfl, trivial⟩ (by simp) (((((hl4.trans hl8).trans hl12).trans hl19).trans hl29).trans hl30) ⟨_, _, rfl, rfl, Sl.nil, Sl.nil⟩
      ·refine ZZ 5 [1] rfl rfl ?_
       obtain ⟨r31, hr32, h⟩ := h
       refine st_call (foot := []) rfl rfl rfl rfl rfl rfl (callV_fn z_en64 (msg_Project_ok hr32 τ30 (hs23.up (hl29.trans hl30)) (hs25.up (hl29.trans hl30)))) ?_
       rintro vτ33 τ33 gsτ33 hl34 ⟨v35, v36, rfl, rfl, hs37, hs38⟩
       refine o_store (j := 0) (vs := [.int .i64 r31.1, .int .i64 (r31.2.1.getD 0 0), .int .i64 (r31.2.1.getD 1 0), .int .i64 (r31.2.1.getD 2 0), .int .i64 (r31.2.1.getD 3 0), .int .i64 (r31.2.1.getD 4 0), .int .i64 (r31.2.1.getD 5 0), v35, v36, .string r31.2.2.2.2.1, .string r31.2.2.2.2.2]) (cs' := [.int .i64 r31.1, .int .i64 (r31.2.1.getD 0 0), .int .i64 (r31.2.1.getD 1 0), .int .i64 (r31.2.1.getD 2 0), .int .i64 (r31.2.1.getD 3 0), .int .i64 (r31.2.1.getD 4 0), .int .i64 (r31.2.1.getD 5 0), v35, v36, .string r31.2.2.2.2.1, .string r31.2.2.2.2.2]) rfl rfl rfl z_size29 rfl rfl rfl (ones_cons rfl (ones_cons rfl (ones_cons rfl (ones_cons rfl (ones_cons rfl (ones_cons rfl (ones_cons rfl (ones_cons hs37.one' (ones_cons hs38.one' (ones_cons rfl (ones_cons rfl ones_nil))))))))))) rfl rfl rfl ?_
       refine st_gs [[(b3, .cells #[.int .i64 r31.1, .int .i64 (r31.2.1.getD 0 0), .int .i64 (r31.2.1.getD 1 0), .int .i64 (r31.2.1.getD 2 0), .int .i64 (r31.2.1.getD 3 0), .int .i64 (r31.2.1.getD 4 0), .int .i64 (r31.2.1.getD 5 0), v35, v36, .string r31.2.2.2.2.1, .string r31.2.2.2.2.2] 29 (0, 0))], [(b18, .cells #[.int .i64 s19.2.2.2.2.1, .int .i64 s19.2.2.2.2.2.1, .int .i64 s19.2.2.2.2.2.2.1, .int .i64 s19.2.2.2.2.2.2.2.1, .int .i64 s19.2.2.2.2.2.2.2.2.1, .int .i64 s19.2.2.2.2.2.2.2.2.2.1, .int .i64 s19.2.2.2.2.2.2.2.2.2.2.1, v22, v24, .string s19.2.2.2.2.2.2.2.2.2.2.2.2.2.1, .string s19.2.2.2.2.2.2.2.2.2.2.2.2.2.2] 29 (0, 0))]] rfl ?_
       refine Z 2 rfl ?_
       obtain rfl := Eq.symm h
       exact st_retC (gs' := []) [.agg #[.int .i64 r31.1, .int .i64 (r31.2.1.getD 0 0), .int .i64 (r31.2.1.getD 1 0), .int .i64 (r31.2.1.getD 2 0), .int .i64 (r31.2.1.getD 3 0), .int .i64 (r31.2.1.getD 4 0), .int .i64 (r31.2.1.getD 5 0), v35, v36, .string r31.2.2.2.2.1, .string r31.2.2.2.2.2], .int .i64 0] Try.func53 ⟨⟨_, _, _, _, rfl, mem_flat 0 rfl, fun w hw => cellOfN (vs := [.int .i64 r31.1, .int .i64 (r31.2.1.getD 0 0), .int .i64 (r31.2.1.getD 1 0), .int .i64 (r31.2.1.getD 2 0), .int .i64 (r31.2.1.getD 3 0), .int .i64 (r31.2.1.getD 4 0), .int .i64 (r31.2.1.getD 5 0), v35, v36, .string r31.2.2.2.2.1, .string r31.2.2.2.2.2]) z_agg29 rfl w hw⟩, rfl, trivial⟩ (by simp) ((((((hl4.trans hl8).trans hl12).trans hl19).trans hl29).trans hl30).trans hl34) ⟨_, _, rfl, rfl, hs37, hs38⟩
     refine Z 5 rfl ?_
     refine st_if rfl h (fun h => ?_) (fun h => ?_)
     ·refine ZZ 5 [3, 0] rfl rfl ?_
      obtain ⟨r39, hr40, h⟩ := h
      refine st_ord [1, 0, 0, 0, 0] _ rfl ?_
      refine st_call (foot := [[(b13, .cells #[v20, .int .i64 s19.2.1, .int .i64 s19.2.2.1] 93 (0, 0))]]) rfl rfl rfl rfl rfl rfl (callV_fn z_en55 (lens_Lens_End_ok hr40 τ28 (hs21.up hl29))) ?_
      rintro vτ41 τ41 gsτ41 hl42 ⟨rfl, rfl⟩
      refine Z 2 rfl ?_
      refine st_ord [2, 3] _ rfl ?_
      exact hk30 _ _ _ ⟨r39, h, hl42, rfl, rfl⟩
     ·refine st_skip ?_
      refine st_ord [2, 3] _ rfl ?_
      exact hk30 _ _ _ ⟨r26, h, (Sto.Le.refl _), rfl, rfl⟩
    refine Z 4 rfl ?_
    obtain ⟨r43, hr44, h⟩ := h
    refine st_call (foot := []) rfl rfl rfl rfl rfl rfl (callV_fn z_en58 (field_All_ok hr44 τ11)) ?_
    rintro vτ45 τ45 gsτ45 hl46 ⟨f47, q48, rfl, rfl, hit49⟩
    refine Z 2 rfl ?_
    obtain ⟨t50, w50, hR50, hA50⟩ := h
    refine st_env (ρ' := [(1, .int .i64 a1), (6, .pointer (some ⟨b3, 0, none⟩)), (7, .int .i64 0), (8, .pointer (some ⟨b17, 0, none⟩)), (9, .pointer (some ⟨b18, 0, none⟩)), (33, .func (.func f47) #[] q48)]) ⟨rfl, rfl, rfl, rfl, rfl, rfl, trivial⟩ ?_
    refine st_ord [4, 3, 2, 1, 0] _ rfl ?_
    refine st_addNil ?_
    refine st_range (B := body_Decode_l4) (s0 := (r9.1, r9.2.1, r9.2.2, 0, a0, 0, 0, 0, 0, 0, 0, [], [], (bstr []), (bstr []))) ranges_fctx rfl hit49 (Sto.Le.refl _) hR50 rfl (fun _ _ _ h => by cases h; rfl) (fun (s50 : List Int × Int × Int × Int × Int × Int × Int × Int × Int × Int × Int × (List (Int × Int)) × List Int × ByteArray × ByteArray) τ50 gs => τ45.Le τ50 ∧ ∃ (v51 : Value) (v53 : Value) (v55 : Value), gs = [[(b3, .cells #[.int .i64 0, .int .i64 0, .int .i64 0, .int .i64 0, .int .i64 0, .int .i64 0, .int .i64 0, .slice none 0 0, .slice none 0 0, .string (bstr []), .string (bstr [])] 29 (0, 0))], [(b13, .cells #[v51, .int .i64 s50.2.1, .int .i64 s50.2.2.1] 93 (0, 0))], [(b16, .cells #[.pointer (some ⟨b13, 0, none⟩), .int .i64 s50.2.2.2.1] 116 (0, 0))], [(b17, .cells #[.pointer (some ⟨b16, 0, none⟩)] 114 (0, 0))], [(b18, .cells #[.int .i64 s50.2.2.2.2.1, .int .i64 s50.2.2.2.2.2.1, .int .i64 s50.2.2.2.2.2.2.1, .int .i64 s50.2.2.2.2.2.2.2.1, .int .i64 s50.2.2.2.2.2.2.2.2.1, .int .i64 s50.2.2.2.2.2.2.2.2.2.1, .int .i64 s50.2.2.2.2.2.2.2.2.2.2.1, v53, v55, .string s50.2.2.2.2.2.2.2.2.2.2.2.2.2.1, .string s50.2.2.2.2.2.2.2.2.2.2.2.2.2.2] 29 (0, 0))]] ∧ Sl (kI .u8) τ50 v51 s50.1 ∧ Sl (kP (kI .i64) (kI .i64)) τ50 v53 s50.2.2.2.2.2.2.2.2.2.2.2.1 ∧ Sl (kI .i64) τ50 v55 s50.2.2.2.2.2.2.2.2.2.2.2.2.1) (fun (p72 : List Int × Int × Int × Int × Int × Int × Int × Int × Int × Int × Int × (List (Int × Int)) × List Int × ByteArray × ByteArray) cd τ73 gs => cd = .exit 1 ∧ τ45.Le τ73 ∧ ∃ (v75 : Value) (v77 : Value) (v79 : Value), gs = [[(b3, .cells #[.int .i64 0, .int .i64 0, .int .i64 0, .int .i64 0, .int .i64 0, .int .i64 0, .int .i64 0, .slice none 0 0, .slice none 0 0, .string (bstr []), .string (bstr [])] 29 (0, 0))], [(b13, .cells #[v75, .int .i64 p72.2.1, .int .i64 p72.2.2.1] 93 (0, 0))], [(b16, .cells #[.pointer (some ⟨b13, 0, none⟩), .int .i64 p72.2.2.2.1] 116 (0, 0))], [(b17, .cells #[.pointer (some ⟨b16, 0, none⟩)] 114 (0, 0))], [(b18, .cells #[.int .i64 p72.2.2.2.2.1, .int .i64 p72.2.2.2.2.2.1, .int .i64 p72.2.2.2.2.2.2.1, .int .i64 p72.2.2.2.2.2.2.2.1, .int .i64 p72.2.2.2.2.2.2.2.2.1, .int .i64 p72.2.2.2.2.2.2.2.2.2.1, .int .i64 p72.2.2.2.2.2.2.2.2.2.2.1, v77, v79, .string p72.2.2.2.2.2.2.2.2.2.2.2.2.2.1, .string p72.2.2.2.2.2.2.2.2.2.2.2.2.2.2] 29 (0, 0))]] ∧ Sl (kI .u8) τ73 v75 p72.1 ∧ Sl (kP (kI .i64) (kI .i64)) τ73 v77 p72.2.2.2.2.2.2.2.2.2.2.2.1 ∧ Sl (kI .i64) τ73 v79 p72.2.2.2.2.2.2.2.2.2.2.2.2.1) (fun _ _ _ _ hl ⟨hb, v51, v53, v55, hg, hs52, hs54, hs56⟩ => ⟨hb.trans hl, v51, v53, v55, hg, hs52.up hl, hs54.up hl, hs56.up hl⟩) (fun _ _ _ _ _ hl ⟨hc, hb, v75, v77, v79, hg, hs76, hs78, hs80⟩ => ⟨hc, hb.trans hl, v75, v77, v79, hg, hs76.up hl, hs78.up hl, hs80.up hl⟩) ⟨Sto.Le.refl _, _, _, _, rfl, (hs15.up hl46), Sl.nil, Sl.nil⟩ ?_ ?_ ?_
    ·rintro x50 s50 o50 τ50 gs50 vx50 hl50 h rfl ⟨hb50, v51, v53, v55, rfl, hs52, hs54, hs56⟩ l50 rc50 caller50 cs50 fs50
     refine st_region ?_
     refine o_alloc rfl rfl rfl z_zero56 (fun b57 => ?_)
     refine ZZ 2 [0] rfl rfl ?_
     refine st_begin ?_
     refine ZZ 5 [4, 0] rfl rfl ?_
     obtain ⟨r58, hr59, h⟩ := h
     refine st_ord [3, 2, 3, 0, 0, 0] _ rfl ?_
     refine st_call (foot := [[(b16, .cells #[.pointer (some ⟨b13, 0, none⟩), .int .i64 s50.2.2.2.1] 116 (0, 0))], [(b13, .cells #[v51, .int .i64 s50.2.1, .int .i64 s50.2.2.1] 93 (0, 0))], [(b18, .cells #[.int .i64 s50.2.2.2.2.1, .int .i64 s50.2.2.2.2.2.1, .int .i64 s50.2.2.2.2.2.2.1, .int .i64 s50.2.2.2.2.2.2.2.1, .int .i64 s50.2.2.2.2.2.2.2.2.1, .int .i64 s50.2.2.2.2.2.2.2.2.2.1, .int .i64 s50.2.2.2.2.2.2.2.2.2.2.1, v53, v55, .string s50.2.2.2.2.2.2.2.2.2.2.2.2.2.1, .string s50.2.2.2.2.2.2.2.2.2.2.2.2.2.2] 29 (0, 0))]]) rfl rfl rfl rfl rfl rfl (callV_fn z_en62 (body_reader_field_ok hr59 τ50 hs52 hs54 hs56)) ?_
     rintro vτ60 τ60 gsτ60 hl61 ⟨v62, v64, v65, rfl, rfl, hs63, hs66, hs67⟩
     refine ZZ 4 [5] rfl rfl ?_
     obtain ⟨r68, hr69, h⟩ := h
     refine st_call (foot := [[(b16, .cells #[.pointer (some ⟨b13, 0, none⟩), .int .i64 r58.1.2] 116 (0, 0))], [(b13, .cells #[v62, .int .i64 r58.2.1.2.1, .int .i64 r58.2.1.2.2] 93 (0, 0))]]) rfl rfl rfl rfl rfl rfl (callV_fn z_en63 (body_reader_err_ok hr69 τ60 hs63)) ?_
     rintro vτ70 τ70 gsτ70 hl71 ⟨rfl, rfl⟩
     refine Z 2 rfl ?_
     refine st_if rfl h (fun h => ?_) (fun h => ?_)
     ·refine st_ord [4, 1, 0, 2, 0] _ rfl ?_
      exact st_rexit rfl (List.Sublist.refl _) (hl61.trans hl71) ⟨_, h, rfl, ((hl50.trans hl61).trans hl71), _, _, _, rfl, (hs63.up hl71), (hs66.up hl71), (hs67.up hl71)⟩
     ·refine Z 2 rfl ?_
      refine st_ord [4, 1, 0, 2, 0] _ rfl ?_
      exact st_rend (List.Sublist.refl _) (hl61.trans hl71) ⟨_, h, ((hl50.trans hl61).trans hl71), _, _, _, rfl, (hs63.up hl71), (hs66.up hl71), (hs67.up hl71)⟩
    ·rintro p81 τ82 gs50 f50 ht hl83 ⟨hb, v84, v86, v88, rfl, hs85, hs87, hs89⟩ rfl
     subst ht
     replace h := hA50
     refine st_ord [1, 1, 1, 1, 1] _ rfl ?_
     refine st_inBlock ?_
     exact hk19 _ _ _ ⟨(p81.1, p81.2.1, p81.2.2.1, p81.2.2.2.1, p81.2.2.2.2.1, p81.2.2.2.2.2.1, p81.2.2.2.2.2.2.1, p81.2.2.2.2.2.2.2.1, p81.2.2.2.2.2.2.2.2.1, p81.2.2.2.2.2.2.2.2.2.1, p81.2.2.2.2.2.2.2.2.2.2.1, p81.2.2.2.2.2.2.2.2.2.2.2.1, p81.2.2.2.2.2.2.2.2.2.2.2.2.1, p81.2.2.2.2.2.2.2.2.2.2.2.2.2.1, p81.2.2.2.2.2.2.2.2.2.2.2.2.2.2), _, _, _, h, (hl46.trans hl83), rfl, rfl, hs85, hs87, hs89⟩
    ·rintro p72 cd50 τ73 gs50 f50 ht hl74 ⟨rfl, hb, v75, v77, v79, rfl, hs76, hs78, hs80⟩ rfl
     subst ht
     replace h := hA50
     refine st_ord [1, 1, 1, 1, 1] _ rfl ?_
     refine st_exit rfl ?_
     exact hk19 _ _ _ ⟨(p72.1, p72.2.1, p72.2.2.1, p72.2.2.2.1, p72.2.2.2.2.1, p72.2.2.2.2.2.1, p72.2.2.2.2.2.2.1, p72.2.2.2.2.2.2.2.1, p72.2.2.2.2.2.2.2.2.1, p72.2.2.2.2.2.2.2.2.2.1, p72.2.2.2.2.2.2.2.2.2.2.1, p72.2.2.2.2.2.2.2.2.2.2.2.1, p72.2.2.2.2.2.2.2.2.2.2.2.2.1, p72.2.2.2.2.2.2.2.2.2.2.2.2.2.1, p72.2.2.2.2.2.2.2.2.2.2.2.2.2.2), _, _, _, h, (hl46.trans hl74), rfl, rfl, hs76, hs78, hs80⟩
 refine Z 3 rfl ?_
 refine o_mif rfl rfl rfl rfl h (fun h => ?_) (fun h => ?_)
 ·refine Z 5 rfl ?_
  exact hk4 _ _ _ ⟨(!(decide (a1 = 2))), h, (Sto.Le.refl _), rfl, rfl⟩
 ·refine Z 5 rfl ?_
  exact hk4 _ _ _ ⟨false, h, (Sto.Le.refl _), rfl, rfl⟩
theorem log_read_ok {a0 : List Int} {v1 : Value} {r : (Int × Int × Int × Int × (Int × List Int × List (Int × Int) × List Int × ByteArray × ByteArray)) × Int} (h : log_read a0 r) (σ : Sto) (hs2 : Sl (kI .u8) σ v1 a0) :
    Does Try.prog 38 [v1] σ [] (fun v τ gs => ∃ (v88 : Value) (v89 : Value), gs = [] ∧ .tuple [.agg [.int .i64 r.1.1, .int .u32 r.1.2.1, .int .i64 r.1.2.2.1, .int .i64 r.1.2.2.2.1, .int .i64 r.1.2.2.2.2.1, .int .i64 (r.1.2.2.2.2.2.1.getD 0 0), .int .i64 (r.1.2.2.2.2.2.1.getD 1 0), .int .i64 (r.1.2.2.2.2.2.1.getD 2 0), .int .i64 (r.1.2.2.2.2.2.1.getD 3 0), .int .i64 (r.1.2.2.2.2.2.1.getD 4 0), .int .i64 (r.1.2.2.2.2.2.1.getD 5 0), v88, v89, .string r.1.2.2.2.2.2.2.2.2.1, .string r.1.2.2.2.2.2.2.2.2.2].toArray, .int .i64 r.2].toArray = v ∧ Sl (kP (kI .i64) (kI .i64)) τ v88 r.1.2.2.2.2.2.2.1 ∧ Sl (kI .i64) τ v89 r.1.2.2.2.2.2.2.2.1) := by
 refine call_of Try.func38 Try.ntmps38 rfl rfl (fun cs fs => ?_)
 refine Z 2 rfl ?_
 refine o_alloc rfl rfl rfl z_zero31 (fun b3 => ?_)
 refine Z 3 rfl ?_
 refine st_lcut (l := 0) rfl (fun ρ τ4 gs => ∃ (s4 : Int), log_read_j1 s4 r ∧ σ.Le τ4 ∧ ESub ρ [(2, .pointer (some ⟨b3, 0, none⟩)), (3, .int .i64 0), (5, .int .i64 s4)] ∧ gs = [[(b3, .cells #[.int .i64 0, .int .u32 0, .int .i64 0, .int .i64 0, .int .i64 0, .int .i64 0, .int .i64 0, .int .i64 0, .int .i64 0, .int .i64 0, .int .i64 0, .slice none 0 0, .slice none 0 0, .string (bstr []), .string (bstr [])] 31 (0, 0))]]) ?_ (fun hk4 => ?_)
 ·rintro ρ4 τ4 gs4 ⟨s4, h, hl4, hρ, rfl⟩
  refine st_es hρ ?_
  refine ZZ 9 [0] rfl rfl ?_
  obtain rfl := Eq.symm h
  exact st_retC (gs' := []) [.agg #[.int .i64 0, .int .u32 0, .int .i64 0, .int .i64 0, .int .i64 0, .int .i64 0, .int .i64 0, .int .i64 0, .int .i64 0, .int .i64 0, .int .i64 0, .slice none 0 0, .slice none 0 0, .string (bstr []), .string (bstr [])], .int .i64 s4] Try.func38 ⟨⟨_, _, _, _, rfl, mem_flat 0 rfl, fun w hw => cellOfN (vs := [.int .i64 0, .int .u32 0, .int .i64 0, .int .i64 0, .int .i64 0, .int .i64 0, .int .i64 0, .int .i64 0, .int .i64 0, .int .i64 0, .int .i64 0, .slice none 0 0, .slice none 0 0, .string (bstr []), .string (bstr [])]) z_agg31 rfl w hw⟩, rfl, trivial⟩ (by simp) hl4 ⟨_, _, rfl, rfl, Sl.nil, Sl.nil⟩
 refine Z 2 rfl ?_
 refine o_alloc rfl rfl rfl z_zero29 (fun b5 => ?_)
 refine Z 8 rfl ?_
 obtain ⟨r6, hr7, h⟩ := h
 refine st_call (foot := []) rfl rfl rfl rfl rfl rfl (callV_fn z_en33 (lens_New_ok hr7 σ hs2)) ?_
 rintro vτ8 τ8 gsτ8 hl9 ⟨b10, v11, rfl, rfl, hs12⟩
 refine Z 5 rfl ?_
 obtain ⟨r13, hr14, h⟩ := h
 refine st_call (foot := [[(b10, .cells #[v11, .int .i64 r6.2.1, .int .i64 r6.2.2] 93 (0, 0))]]) rfl rfl rfl rfl rfl rfl (callV_fn z_en51 (lens_Lens_U8_ok hr14 τ8 hs12)) ?_
 rintro vτ15 τ15 gsτ15 hl16 ⟨v17, rfl, rfl, hs18⟩
 refine Z 2 rfl ?_
 obtain ⟨r19, hr20, h⟩ := h
 refine st_call (foot := [[(b10, .cells #[v17, .int .i64 r13.2.2.1, .int .i64 r13.2.2.2] 93 (0, 0))]]) rfl rfl rfl rfl rfl rfl (callV_fn z_en52 (lens_Lens_U32_ok hr20 τ15 hs18)) ?_
 rintro vτ21 τ21 gsτ21 hl22 ⟨v23, rfl, rfl, hs24⟩
 refine ZZ 1 [] rfl rfl ?_
 refine o_alloc rfl rfl rfl z_zero31 (fun b25 => ?_)
 refine ZZ 6 [0] rfl rfl ?_
 obtain ⟨r26, hr27, h⟩ := h
 refine st_ord [1, 0, 0, 0] _ rfl ?_
 refine st_call (foot := [[(b10, .cells #[v23, .int .i64 r19.2.2.1, .int .i64 r19.2.2.2] 93 (0, 0))]]) rfl rfl rfl rfl rfl rfl (callV_fn z_en37 (lens_Lens_Err_ok hr27 τ21 hs24)) ?_
 rintro vτ28 τ28 gsτ28 hl29 ⟨rfl, rfl⟩
 refine Z 2 rfl ?_
 refine st_if rfl h (fun h => ?_) (fun h => ?_)
 ·refine st_goto rfl ?_
  refine st_ord [3] _ rfl ?_
  exact hk4 _ _ _ ⟨13, h, (((hl9.trans hl16).trans hl22).trans hl29), rfl, rfl⟩
 ·refine Z 2 rfl ?_
  refine st_cut (fun ρ τ30 gs => ∃ (s30 : Int × List Int × Int × Int × Int × Int × Int × Int × Int × Int × Int × Int × Int × (List (Int × Int)) × List Int × ByteArray × ByteArray) (v31 : Value) (v33 : Value) (v35 : Value), log_read_j2 r13 r19 s30 r ∧ τ28.Le τ30 ∧ ESub ρ [(2, .pointer (some ⟨b3, 0, none⟩)), (3, .int .i64 0), (5, .int .i64 s30.1), (6, .pointer (some ⟨b10, 0, none⟩)), (7, .pointer (some ⟨b25, 0, none⟩))] ∧ gs = [[(b3, .cells #[.int .i64 0, .int .u32 0, .int .i64 0, .int .i64 0, .int .i64 0, .int .i64 0, .int .i64 0, .int .i64 0, .int .i64 0, .int .i64 0, .int .i64 0, .slice none 0 0, .slice none 0 0, .string (bstr []), .string (bstr [])] 31 (0, 0))], [(b10, .cells #[v31, .int .i64 s30.2.2.1, .int .i64 s30.2.2.2.1] 93 (0, 0))], [(b25, .cells #[.int .i64 (IntKind.i64.wrap r13.1), .int .u32 r19.1, .int .i64 s30.2.2.2.2.1, .int .i64 s30.2.2.2.2.2.1, .int .i64 s30.2.2.2.2.2.2.1, .int .i64 s30.2.2.2.2.2.2.2.1, .int .i64 s30.2.2.2.2.2.2.2.2.1, .int .i64 s30.2.2.2.2.2.2.2.2.2.1, .int .i64 s30.2.2.2.2.2.2.2.2.2.2.1, .int .i64 s30.2.2.2.2.2.2.2.2.2.2.2.1, .int .i64 s30.2.2.2.2.2.2.2.2.2.2.2.2.1, v33, v35, .string s30.2.2.2.2.2.2.2.2.2.2.2.2.2.2.2.1, .string s30.2.2.2.2.2.2.2.2.2.2.2.2.2.2.2.2] 31 (0, 0))]] ∧ Sl (kI .u8) τ30 v31 s30.2.1 ∧ Sl (kP (kI .i64) (kI .i64)) τ30 v33 s30.2.2.2.2.2.2.2.2.2.2.2.2.2.1 ∧ Sl (kI .i64) τ30 v35 s30.2.2.2.2.2.2.2.2.2.2.2.2.2.2.1) ?_ (fun hk30 => ?_)
  ·rintro ρ30 τ30 gs30 ⟨s30, v31, v33, v35, h, hl30, hρ, rfl, hs32, hs34, hs36⟩
   refine st_es hρ ?_
   refine Z 4 rfl ?_
   obtain ⟨r37, hr38, h⟩ := h
   refine st_ord [1, 0, 0] _ rfl ?_
   refine st_call (foot := [[(b10, .cells #[v31, .int .i64 s30.2.2.1, .int .i64 s30.2.2.2.1] 93 (0, 0))]]) rfl rfl rfl rfl rfl rfl (callV_fn z_en55 (lens_Lens_End_ok hr38 τ30 hs32)) ?_
   rintro vτ39 τ39 gsτ39 hl40 ⟨rfl, rfl⟩
   refine Z 7 rfl ?_
   refine st_if rfl h (fun h => ?_) (fun h => ?_)
   ·refine st_goto rfl ?_
    refine st_ord [1] _ rfl ?_
    exact hk4 _ _ _ ⟨r37, h, (((((hl9.trans hl16).trans hl22).trans hl29).trans hl30).trans hl40), rfl, rfl⟩
   ·refine ZZ 5 [2] rfl rfl ?_
    refine o_store (j := 1) (vs := [.int .i64 (IntKind.i64.wrap r13.1), .int .u32 r19.1, .int .i64 s30.2.2.2.2.1, .int .i64 s30.2.2.2.2.2.1, .int .i64 s30.2.2.2.2.2.2.1, .int .i64 s30.2.2.2.2.2.2.2.1, .int .i64 s30.2.2.2.2.2.2.2.2.1, .int .i64 s30.2.2.2.2.2.2.2.2.2.1, .int .i64 s30.2.2.2.2.2.2.2.2.2.2.1, .int .i64 s30.2.2.2.2.2.2.2.2.2.2.2.1, .int .i64 s30.2.2.2.2.2.2.2.2.2.2.2.2.1, v33, v35, .string s30.2.2.2.2.2.2.2.2.2.2.2.2.2.2.2.1, .string s30.2.2.2.2.2.2.2.2.2.2.2.2.2.2.2.2]) (cs' := [.int .i64 (IntKind.i64.wrap r13.1), .int .u32 r19.1, .int .i64 s30.2.2.2.2.1, .int .i64 s30.2.2.2.2.2.1, .int .i64 s30.2.2.2.2.2.2.1, .int .i64 s30.2.2.2.2.2.2.2.1, .int .i64 s30.2.2.2.2.2.2.2.2.1, .int .i64 s30.2.2.2.2.2.2.2.2.2.1, .int .i64 s30.2.2.2.2.2.2.2.2.2.2.1, .int .i64 s30.2.2.2.2.2.2.2.2.2.2.2.1, .int .i64 s30.2.2.2.2.2.2.2.2.2.2.2.2.1, v33, v35, .string s30.2.2.2.2.2.2.2.2.2.2.2.2.2.2.2.1, .string s30.2.2.2.2.2.2.2.2.2.2.2.2.2.2.2.2]) rfl rfl rfl z_size31 rfl rfl rfl (ones_cons rfl (ones_cons rfl (ones_cons rfl (ones_cons rfl (ones_cons rfl (ones_cons rfl (ones_cons rfl (ones_cons rfl (ones_cons rfl (ones_cons rfl (ones_cons rfl (ones_cons (hs34.up hl40).one' (ones_cons (hs36.up hl40).one' (ones_cons rfl (ones_cons rfl ones_nil))))))))))))))) rfl rfl rfl ?_
    refine st_gs [[(b10, .cells #[v31, .int .i64 s30.2.2.1, .int .i64 s30.2.2.2.1] 93 (0, 0))], [(b3, .cells #[.int .i64 (IntKind.i64.wrap r13.1), .int .u32 r19.1, .int .i64 s30.2.2.2.2.1, .int .i64 s30.2.2.2.2.2.1, .int .i64 s30.2.2.2.2.2.2.1, .int .i64 s30.2.2.2.2.2.2.2.1, .int .i64 s30.2.2.2.2.2.2.2.2.1, .int .i64 s30.2.2.2.2.2.2.2.2.2.1, .int .i64 s30.2.2.2.2.2.2.2.2.2.2.1, .int .i64 s30.2.2.2.2.2.2.2.2.2.2.2.1, .int .i64 s30.2.2.2.2.2.2.2.2.2.2.2.2.1, v33, v35, .string s30.2.2.2.2.2.2.2.2.2.2.2.2.2.2.2.1, .string s30.2.2.2.2.2.2.2.2.2.2.2.2.2.2.2.2] 31 (0, 0))], [(b25, .cells #[.int .i64 (IntKind.i64.wrap r13.1), .int .u32 r19.1, .int .i64 s30.2.2.2.2.1, .int .i64 s30.2.2.2.2.2.1, .int .i64 s30.2.2.2.2.2.2.1, .int .i64 s30.2.2.2.2.2.2.2.1, .int .i64 s30.2.2.2.2.2.2.2.2.1, .int .i64 s30.2.2.2.2.2.2.2.2.2.1, .int .i64 s30.2.2.2.2.2.2.2.2.2.2.1, .int .i64 s30.2.2.2.2.2.2.2.2.2.2.2.1, .int .i64 s30.2.2.2.2.2.2.2.2.2.2.2.2.1, v33, v35, .string s30.2.2.2.2.2.2.2.2.2.2.2.2.2.2.2.1, .string s30.2.2.2.2.2.2.2.2.2.2.2.2.2.2.2.2] 31 (0, 0))]] rfl ?_
    refine Z 2 rfl ?_
    obtain rfl := Eq.symm h
    exact st_retC (gs' := []) [.agg #[.int .i64 (IntKind.i64.wrap r13.1), .int .u32 r19.1, .int .i64 s30.2.2.2.2.1, .int .i64 s30.2.2.2.2.2.1, .int .i64 s30.2.2.2.2.2.2.1, .int .i64 s30.2.2.2.2.2.2.2.1, .int .i64 s30.2.2.2.2.2.2.2.2.1, .int .i64 s30.2.2.2.2.2.2.2.2.2.1, .int .i64 s30.2.2.2.2.2.2.2.2.2.2.1, .int .i64 s30.2.2.2.2.2.2.2.2.2.2.2.1, .int .i64 s30.2.2.2.2.2.2.2.2.2.2.2.2.1, v33, v35, .string s30.2.2.2.2.2.2.2.2.2.2.2.2.2.2.2.1, .string s30.2.2.2.2.2.2.2.2.2.2.2.2.2.2.2.2], .int .i64 0] Try.func38 ⟨⟨_, _, _, _, rfl, mem_flat 1 rfl, fun w hw => cellOfN (vs := [.int .i64 (IntKind.i64.wrap r13.1), .int .u32 r19.1, .int .i64 s30.2.2.2.2.1, .int .i64 s30.2.2.2.2.2.1, .int .i64 s30.2.2.2.2.2.2.1, .int .i64 s30.2.2.2.2.2.2.2.1, .int .i64 s30.2.2.2.2.2.2.2.2.1, .int .i64 s30.2.2.2.2.2.2.2.2.2.1, .int .i64 s30.2.2.2.2.2.2.2.2.2.2.1, .int .i64 s30.2.2.2.2.2.2.2.2.2.2.2.1, .int .i64 s30.2.2.2.2.2.2.2.2.2.2.2.2.1, v33, v35, .string s30.2.2.2.2.2.2.2.2.2.2.2.2.2.2.2.1, .string s30.2.2.2.2.2.2.2.2.2.2.2.2.2.2.2.2]) z_agg31 rfl w hw⟩, rfl, trivial⟩ (by simp) (((((hl9.trans hl16).trans hl22).trans hl29).trans hl30).trans hl40) ⟨_, _, rfl, rfl, (hs34.up hl40), (hs36.up hl40)⟩
  refine ZZ 11 [1] rfl rfl ?_
  refine st_if rfl h (fun h => ?_) (fun h => ?_)
  ·refine Z 7 rfl ?_
   obtain ⟨r41, hr42, h⟩ := h
   refine st_call (foot := [[(b10, .cells #[v23, .int .i64 r19.2.2.1, .int .i64 r19.2.2.2] 93 (0, 0))]]) rfl rfl rfl rfl rfl rfl (callV_fn z_en51 (lens_Lens_U8_ok hr42 τ28 (hs24.up hl29))) ?_
   rintro vτ43 τ43 gsτ43 hl44 ⟨v45, rfl, rfl, hs46⟩
   refine Z 2 rfl ?_
   obtain ⟨r47, hr48, h⟩ := h
   refine st_call (foot := [[(b10, .cells #[v45, .int .i64 r41.2.2.1, .int .i64 r41.2.2.2] 93 (0, 0))]]) rfl rfl rfl rfl rfl rfl (callV_fn z_en51 (lens_Lens_U8_ok hr48 τ43 hs46)) ?_
   rintro vτ49 τ49 gsτ49 hl50 ⟨v51, rfl, rfl, hs52⟩
   refine ZZ 9 [1] rfl rfl ?_
   obtain ⟨r53, hr54, h⟩ := h
   refine st_call (foot := [[(b10, .cells #[v51, .int .i64 r47.2.2.1, .int .i64 r47.2.2.2] 93 (0, 0))]]) rfl rfl rfl rfl rfl rfl (callV_fn z_en37 (lens_Lens_Err_ok hr54 τ49 hs52)) ?_
   rintro vτ55 τ55 gsτ55 hl56 ⟨rfl, rfl⟩
   refine Z 2 rfl ?_
   refine st_if rfl h (fun h => ?_) (fun h => ?_)
   ·refine st_goto rfl ?_
    refine st_ord [3] _ rfl ?_
    exact hk4 _ _ _ ⟨13, h, ((((((hl9.trans hl16).trans hl22).trans hl29).trans hl44).trans hl50).trans hl56), rfl, rfl⟩
   ·refine Z 7 rfl ?_
    refine st_cut (fun ρ τ57 gs => ∃ (s57 : Bool), log_read_j3 r13 r19 r41 r47 s57 r ∧ τ55.Le τ57 ∧ ESub ρ [(2, .pointer (some ⟨b3, 0, none⟩)), (3, .int .i64 0), (4, .pointer (some ⟨b5, 0, none⟩)), (5, .int .i64 10), (6, .pointer (some ⟨b10, 0, none⟩)), (7, .pointer (some ⟨b25, 0, none⟩)), (8, .int .i64 (IntKind.i64.wrap r47.1)), (41, .bool s57)] ∧ gs = [[(b3, .cells #[.int .i64 0, .int .u32 0, .int .i64 0, .int .i64 0, .int .i64 0, .int .i64 0, .int .i64 0, .int .i64 0, .int .i64 0, .int .i64 0, .int .i64 0, .slice none 0 0, .slice none 0 0, .string (bstr []), .string (bstr [])] 31 (0, 0))], [(b5, .cells #[.int .i64 0, .int .i64 0, .int .i64 0, .int .i64 0, .int .i64 0, .int .i64 0, .int .i64 0, .slice none 0 0, .slice none 0 0, .string (bstr []), .string (bstr [])] 29 (0, 0))], [(b10, .cells #[v51, .int .i64 r47.2.2.1, .int .i64 r47.2.2.2] 93 (0, 0))], [(b25, .cells #[.int .i64 (IntKind.i64.wrap r13.1), .int .u32 r19.1, .int .i64 (IntKind.i64.wrap r41.1), .int .i64 0, .int .i64 0, .int .i64 0, .int .i64 0, .int .i64 0, .int .i64 0, .int .i64 0, .int .i64 0, .slice none 0 0, .slice none 0 0, .string (bstr []), .string (bstr [])] 31 (0, 0))]]) ?_ (fun hk57 => ?_)
    ·rintro ρ57 τ57 gs57 ⟨s57, h, hl57, hρ, rfl⟩
     refine st_es hρ ?_
     refine st_if rfl h (fun h => ?_) (fun h => ?_)
     ·refine st_goto rfl ?_
      refine st_ord [0] _ rfl ?_
      exact hk4 _ _ _ ⟨10, h, (((((((hl9.trans hl16).trans hl22).trans hl29).trans hl44).trans hl50).trans hl56).trans hl57), rfl, rfl⟩
     ·refine Z 6 rfl ?_
      obtain ⟨r58, hr59, h⟩ := h
      refine st_ord [2, 0, 0, 0] _ rfl ?_
      refine st_call (foot := [[(b10, .cells #[v51, .int .i64 r47.2.2.1, .int .i64 r47.2.2.2] 93 (0, 0))]]) rfl rfl rfl rfl rfl rfl (callV_fn z_en54 (lens_Lens_Rest_ok hr59 τ57 (hs52.up (hl56.trans hl57)))) ?_
      rintro vτ60 τ60 gsτ60 hl61 ⟨v62, v64, rfl, rfl, hs63, hs65⟩
      obtain ⟨r66, hr67, h⟩ := h
      refine st_call (foot := []) rfl rfl rfl rfl rfl rfl (callV_fn z_en53 (body_Decode_ok hr67 τ60 hs63)) ?_
      rintro vτ68 τ68 gsτ68 hl69 ⟨v70, v71, rfl, rfl, hs72, hs73⟩
      refine Z 3 rfl ?_
      refine o_store (j := 2) (vs := [.int .i64 r66.1.1, .int .i64 (r66.1.2.1.getD 0 0), .int .i64 (r66.1.2.1.getD 1 0), .int .i64 (r66.1.2.1.getD 2 0), .int .i64 (r66.1.2.1.getD 3 0), .int .i64 (r66.1.2.1.getD 4 0), .int .i64 (r66.1.2.1.getD 5 0), v70, v71, .string r66.1.2.2.2.2.1, .string r66.1.2.2.2.2.2]) (cs' := [.int .i64 r66.1.1, .int .i64 (r66.1.2.1.getD 0 0), .int .i64 (r66.1.2.1.getD 1 0), .int .i64 (r66.1.2.1.getD 2 0), .int .i64 (r66.1.2.1.getD 3 0), .int .i64 (r66.1.2.1.getD 4 0), .int .i64 (r66.1.2.1.getD 5 0), v70, v71, .string r66.1.2.2.2.2.1, .string r66.1.2.2.2.2.2]) rfl rfl rfl z_size29 rfl rfl rfl (ones_cons rfl (ones_cons rfl (ones_cons rfl (ones_cons rfl (ones_cons rfl (ones_cons rfl (ones_cons rfl (ones_cons hs72.one' (ones_cons hs73.one' (ones_cons rfl (ones_cons rfl ones_nil))))))))))) rfl rfl rfl ?_
      refine st_gs [[(b10, .cells #[v64, .int .i64 r58.2.2.1, .int .i64 r58.2.2.2] 93 (0, 0))], [(b3, .cells #[.int .i64 0, .int .u32 0, .int .i64 0, .int .i64 0, .int .i64 0, .int .i64 0, .int .i64 0, .int .i64 0, .int .i64 0, .int .i64 0, .int .i64 0, .slice none 0 0, .slice none 0 0, .string (bstr []), .string (bstr [])] 31 (0, 0))], [(b5, .cells #[.int .i64 r66.1.1, .int .i64 (r66.1.2.1.getD 0 0), .int .i64 (r66.1.2.1.getD 1 0), .int .i64 (r66.1.2.1.getD 2 0), .int .i64 (r66.1.2.1.getD 3 0), .int .i64 (r66.1.2.1.getD 4 0), .int .i64 (r66.1.2.1.getD 5 0), v70, v71, .string r66.1.2.2.2.2.1, .string r66.1.2.2.2.2.2] 29 (0, 0))], [(b25, .cells #[.int .i64 (IntKind.i64.wrap r13.1), .int .u32 r19.1, .int .i64 (IntKind.i64.wrap r41.1), .int .i64 0, .int .i64 0, .int .i64 0, .int .i64 0, .int .i64 0, .int .i64 0, .int .i64 0, .int .i64 0, .slice none 0 0, .slice none 0 0, .string (bstr []), .string (bstr [])] 31 (0, 0))]] rfl ?_
      refine Z 7 rfl ?_
      refine st_if rfl h (fun h => ?_) (fun h => ?_)
      ·refine st_goto rfl ?_
       refine st_ord [1] _ rfl ?_
       exact hk4 _ _ _ ⟨r66.2, h, (((((((((hl9.trans hl16).trans hl22).trans hl29).trans hl44).trans hl50).trans hl56).trans hl57).trans hl61).trans hl69), rfl, rfl⟩
      ·refine ZZ 4 [2] rfl rfl ?_
       refine o_store (j := 3) (vs := [.int .i64 r66.1.1, .int .i64 (r66.1.2.1.getD 0 0), .int .i64 (r66.1.2.1.getD 1 0), .int .i64 (r66.1.2.1.getD 2 0), .int .i64 (r66.1.2.1.getD 3 0), .int .i64 (r66.1.2.1.getD 4 0), .int .i64 (r66.1.2.1.getD 5 0), v70, v71, .string r66.1.2.2.2.2.1, .string r66.1.2.2.2.2.2]) (cs' := [.int .i64 (IntKind.i64.wrap r13.1), .int .u32 r19.1, .int .i64 (IntKind.i64.wrap r41.1), .int .i64 0, .int .i64 r66.1.1, .int .i64 (r66.1.2.1.getD 0 0), .int .i64 (r66.1.2.1.getD 1 0), .int .i64 (r66.1.2.1.getD 2 0), .int .i64 (r66.1.2.1.getD 3 0), .int .i64 (r66.1.2.1.getD 4 0), .int .i64 (r66.1.2.1.getD 5 0), v70, v71, .string r66.1.2.2.2.2.1, .string r66.1.2.2.2.2.2]) rfl rfl rfl z_size29 rfl rfl rfl (ones_cons rfl (ones_cons rfl (ones_cons rfl (ones_cons rfl (ones_cons rfl (ones_cons rfl (ones_cons rfl (ones_cons hs72.one' (ones_cons hs73.one' (ones_cons rfl (ones_cons rfl ones_nil))))))))))) rfl rfl rfl ?_
       refine st_gs [[(b10, .cells #[v64, .int .i64 r58.2.2.1, .int .i64 r58.2.2.2] 93 (0, 0))], [(b3, .cells #[.int .i64 0, .int .u32 0, .int .i64 0, .int .i64 0, .int .i64 0, .int .i64 0, .int .i64 0, .int .i64 0, .int .i64 0, .int .i64 0, .int .i64 0, .slice none 0 0, .slice none 0 0, .string (bstr []), .string (bstr [])] 31 (0, 0))], [(b5, .cells #[.int .i64 r66.1.1, .int .i64 (r66.1.2.1.getD 0 0), .int .i64 (r66.1.2.1.getD 1 0), .int .i64 (r66.1.2.1.getD 2 0), .int .i64 (r66.1.2.1.getD 3 0), .int .i64 (r66.1.2.1.getD 4 0), .int .i64 (r66.1.2.1.getD 5 0), v70, v71, .string r66.1.2.2.2.2.1, .string r66.1.2.2.2.2.2] 29 (0, 0))], [(b25, .cells #[.int .i64 (IntKind.i64.wrap r13.1), .int .u32 r19.1, .int .i64 (IntKind.i64.wrap r41.1), .int .i64 0, .int .i64 r66.1.1, .int .i64 (r66.1.2.1.getD 0 0), .int .i64 (r66.1.2.1.getD 1 0), .int .i64 (r66.1.2.1.getD 2 0), .int .i64 (r66.1.2.1.getD 3 0), .int .i64 (r66.1.2.1.getD 4 0), .int .i64 (r66.1.2.1.getD 5 0), v70, v71, .string r66.1.2.2.2.2.1, .string r66.1.2.2.2.2.2] 31 (0, 0))]] rfl ?_
       refine Z 2 rfl ?_
       refine st_ord [1, 0, 1] _ rfl ?_
       exact hk30 _ _ _ ⟨(r66.2, r58.2.1, r58.2.2.1, r58.2.2.2, (IntKind.i64.wrap r41.1), 0, r66.1.1, (r66.1.2.1.getD 0 0), (r66.1.2.1.getD 1 0), (r66.1.2.1.getD 2 0), (r66.1.2.1.getD 3 0), (r66.1.2.1.getD 4 0), (r66.1.2.1.getD 5 0), r66.1.2.2.1, r66.1.2.2.2.1, r66.1.2.2.2.2.1, r66.1.2.2.2.2.2), _, _, _, h, (((((hl44.trans hl50).trans hl56).trans hl57).trans hl61).trans hl69), rfl, rfl, (hs65.up hl69), hs72, hs73⟩
    refine ZZ 4 [1] rfl rfl ?_
    refine o_mif rfl rfl rfl rfl h (fun h => ?_) (fun h => ?_)
    ·refine ZZ 5 [1] rfl rfl ?_
     refine st_ord [3, 2, 0, 0] _ rfl ?_
     exact hk57 _ _ _ ⟨(!(decide ((IntKind.i64.wrap r41.1) = 2))), h, (Sto.Le.refl _), rfl, rfl⟩
    ·refine Z 5 rfl ?_
     refine st_ord [3, 2, 0, 0] _ rfl ?_
     exact hk57 _ _ _ ⟨false, h, (Sto.Le.refl _), rfl, rfl⟩
  ·refine Z 5 rfl ?_
   refine st_if rfl h (fun h => ?_) (fun h => ?_)
   ·refine Z 3 rfl ?_
    obtain ⟨r74, hr75, h⟩ := h
    refine st_call (foot := [[(b10, .cells #[v23, .int .i64 r19.2.2.1, .int .i64 r19.2.2.2] 93 (0, 0))]]) rfl rfl rfl rfl rfl rfl (callV_fn z_en51 (lens_Lens_U8_ok hr75 τ28 (hs24.up hl29))) ?_
    rintro vτ76 τ76 gsτ76 hl77 ⟨v78, rfl, rfl, hs79⟩
    refine ZZ 8 [1] rfl rfl ?_
    obtain ⟨r80, hr81, h⟩ := h
    refine st_call (foot := [[(b10, .cells #[v78, .int .i64 r74.2.2.1, .int .i64 r74.2.2.2] 93 (0, 0))]]) rfl rfl rfl rfl rfl rfl (callV_fn z_en37 (lens_Lens_Err_ok hr81 τ76 hs79)) ?_
    rintro vτ82 τ82 gsτ82 hl83 ⟨rfl, rfl⟩
    refine Z 2 rfl ?_
    refine st_if rfl h (fun h => ?_) (fun h => ?_)
    ·refine st_goto rfl ?_
     refine st_ord [3] _ rfl ?_
     exact hk4 _ _ _ ⟨13, h, (((((hl9.trans hl16).trans hl22).trans hl29).trans hl77).trans hl83), rfl, rfl⟩
    ·refine ZZ 9 [1] rfl rfl ?_
     obtain ⟨r84, hr85, h⟩ := h
     refine st_call (foot := []) rfl rfl rfl rfl rfl rfl (callV_fn z_en14 (event_Word_ok hr85 τ82)) ?_
     rintro vτ86 τ86 gsτ86 hl87 ⟨rfl, rfl⟩
     refine o_sbin (v := .bool (decide (r84 = (bstr [])))) rfl rfl rfl rfl (ev_str z_str19) rfl ?_
     refine st_end ?_
     refine st_if rfl h (fun h => ?_) (fun h => ?_)
     ·refine st_goto rfl ?_
      refine st_ord [3] _ rfl ?_
      exact hk4 _ _ _ ⟨7, h, ((((((hl9.trans hl16).trans hl22).trans hl29).trans hl77).trans hl83).trans hl87), rfl, rfl⟩
     ·refine Z 2 rfl ?_
      refine st_ord [3, 0, 0] _ rfl ?_
      exact hk30 _ _ _ ⟨(7, r74.2.1, r74.2.2.1, r74.2.2.2, 0, (IntKind.i64.wrap r74.1), 0, 0, 0, 0, 0, 0, 0, [], [], (bstr []), (bstr [])), _, _, _, h, ((hl77.trans hl83).trans hl87), rfl, rfl, (hs79.up (hl83.trans hl87)), Sl.nil, Sl.nil⟩
   ·refine Z 5 rfl ?_
    refine st_if rfl h (fun h => ?_) (fun h => ?_)
    ·refine Z 2 rfl ?_
     refine st_ord [3, 0, 0] _ rfl ?_
     exact hk30 _ _ _ ⟨(13, r19.2.1, r19.2.2.1, r19.2.2.2, 0, 0, 0, 0, 0, 0, 0, 0, 0, [], [], (bstr []), (bstr [])), _, _, _, h, (Sto.Le.refl _), rfl, rfl, (hs24.up hl29), Sl.nil, Sl.nil⟩
    ·refine Z 4 rfl ?_
     refine st_goto rfl ?_
     refine st_ord [3] _ rfl ?_
     exact hk4 _ _ _ ⟨9, h, (((hl9.trans hl16).trans hl22).trans hl29), rfl, rfl⟩
theorem log_Parse_1_ok {a0 : Int} {a1 : Int} {a2 : Int × Int × Int × Int × (Int × List Int × List (Int × Int) × List Int × ByteArray × ByteArray)} {c0 : List (Int × Int × Int × Int × (Int × List Int × List (Int × Int) × List Int × ByteArray × ByteArray))} {v1 : Value} {v2 : Value} {bc0 : Nat} {v5 : Value} {g6 : Grp} {r : Bool × (List (Int × Int × Int × Int × (Int × List Int × List (Int × Int) × List Int × ByteArray × ByteArray)))} (h : log_Parse_1 a0 a1 a2 c0 r) (σ : Sto) (hs3 : Sl (kP (kI .i64) (kI .i64)) σ v1 a2.2.2.2.2.2.2.1) (hs4 : Sl (kI .i64) σ v2 a2.2.2.2.2.2.2.2.1) (ho7 : Ow (kP (kI .i64) (kP (kI .u32) (kP (kI .i64) (kP (kI .i64) (kP (kI .i64) (kP (kA .i64 6) (kP (kSl (kP (kI .i64) (kI .i64))) (kP (kSl (kI .i64)) (kP kS kS))))))))) 31 σ v5 c0 g6) :
    Does Try.prog 19 [.int .i64 a0, .int .i64 a1, .agg [.int .i64 a2.1, .int .u32 a2.2.1, .int .i64 a2.2.2.1, .int .i64 a2.2.2.2.1, .int .i64 a2.2.2.2.2.1, .int .i64 (a2.2.2.2.2.2.1.getD 0 0), .int .i64 (a2.2.2.2.2.2.1.getD 1 0), .int .i64 (a2.2.2.2.2.2.1.getD 2 0), .int .i64 (a2.2.2.2.2.2.1.getD 3 0), .int .i64 (a2.2.2.2.2.2.1.getD 4 0), .int .i64 (a2.2.2.2.2.2.1.getD 5 0), v1, v2, .string a2.2.2.2.2.2.2.2.2.1, .string a2.2.2.2.2.2.2.2.2.2].toArray, .pointer (some ⟨bc0, 0, none⟩)] σ [[(bc0, .cells [v5].toArray 22 (0, 0))], g6] (fun v τ gs => ∃ (v17 : Value) (g18 : Grp), gs = [[(bc0, .cells [v17].toArray 22 (0, 0))], g18] ∧ .bool r.1 = v ∧ Ow (kP (kI .i64) (kP (kI .u32) (kP (kI .i64) (kP (kI .i64) (kP (kI .i64) (kP (kA .i64 6) (kP (kSl (kP (kI .i64) (kI .i64))) (kP (kSl (kI .i64)) (kP kS kS))))))))) 31 τ v17 r.2 g18) := by
 refine call_of Try.func19 Try.ntmps19 rfl rfl (fun cs fs => ?_)
 refine Z 2 rfl ?_
 refine o_box (cs := [.int .i64 a2.1, .int .u32 a2.2.1, .int .i64 a2.2.2.1, .int .i64 a2.2.2.2.1, .int .i64 a2.2.2.2.2.1, .int .i64 (a2.2.2.2.2.2.1.getD 0 0), .int .i64 (a2.2.2.2.2.2.1.getD 1 0), .int .i64 (a2.2.2.2.2.2.1.getD 2 0), .int .i64 (a2.2.2.2.2.2.1.getD 3 0), .int .i64 (a2.2.2.2.2.2.1.getD 4 0), .int .i64 (a2.2.2.2.2.2.1.getD 5 0), v1, v2, .string a2.2.2.2.2.2.2.2.2.1, .string a2.2.2.2.2.2.2.2.2.2]) rfl rfl rfl rfl rfl (fun b8 => ?_)
 refine ZZ 6 [1, 0] rfl rfl ?_
 refine o_lit (dk := (kP (kI .i64) (kP (kI .u32) (kP (kI .i64) (kP (kI .i64) (kP (kI .i64) (kP (kA .i64 6) (kP (kSl (kP (kI .i64) (kI .i64))) (kP (kSl (kI .i64)) (kP kS kS)))))))))) (xs := [a2]) (ps := [(0, [.int .i64 a2.1, .int .u32 a2.2.1, .int .i64 a2.2.2.1, .int .i64 a2.2.2.2.1, .int .i64 a2.2.2.2.2.1, .int .i64 (a2.2.2.2.2.2.1.getD 0 0), .int .i64 (a2.2.2.2.2.2.1.getD 1 0), .int .i64 (a2.2.2.2.2.2.1.getD 2 0), .int .i64 (a2.2.2.2.2.2.1.getD 3 0), .int .i64 (a2.2.2.2.2.2.1.getD 4 0), .int .i64 (a2.2.2.2.2.2.1.getD 5 0), v1, v2, .string a2.2.2.2.2.2.2.2.2.1, .string a2.2.2.2.2.2.2.2.2.2])]) (cs := [.int .i64 a2.1, .int .u32 a2.2.1, .int .i64 a2.2.2.1, .int .i64 a2.2.2.2.1, .int .i64 a2.2.2.2.2.1, .int .i64 (a2.2.2.2.2.2.1.getD 0 0), .int .i64 (a2.2.2.2.2.2.1.getD 1 0), .int .i64 (a2.2.2.2.2.2.1.getD 2 0), .int .i64 (a2.2.2.2.2.2.1.getD 3 0), .int .i64 (a2.2.2.2.2.2.1.getD 4 0), .int .i64 (a2.2.2.2.2.2.1.getD 5 0), v1, v2, .string a2.2.2.2.2.2.2.2.2.1, .string a2.2.2.2.2.2.2.2.2.2]) rfl rfl rfl z_slT22 z_zero31 ⟨rfl, ⟨_, rfl, rfl⟩, trivial⟩ rfl rfl rfl rfl (Kd.Many.cons (d := (kP (kI .i64) (kP (kI .u32) (kP (kI .i64) (kP (kI .i64) (kP (kI .i64) (kP (kA .i64 6) (kP (kSl (kP (kI .i64) (kI .i64))) (kP (kSl (kI .i64)) (kP kS kS)))))))))) (x := a2) (a := [.int .i64 a2.1, .int .u32 a2.2.1, .int .i64 a2.2.2.1, .int .i64 a2.2.2.2.1, .int .i64 a2.2.2.2.2.1, .int .i64 (a2.2.2.2.2.2.1.getD 0 0), .int .i64 (a2.2.2.2.2.2.1.getD 1 0), .int .i64 (a2.2.2.2.2.2.1.getD 2 0), .int .i64 (a2.2.2.2.2.2.1.getD 3 0), .int .i64 (a2.2.2.2.2.2.1.getD 4 0), .int .i64 (a2.2.2.2.2.2.1.getD 5 0), v1, v2, .string a2.2.2.2.2.2.2.2.2.1, .string a2.2.2.2.2.2.2.2.2.2]) ⟨[.int .i64 a2.1], _, rfl, rfl, ⟨[.int .u32 a2.2.1], _, rfl, rfl, ⟨[.int .i64 a2.2.2.1], _, rfl, rfl, ⟨[.int .i64 a2.2.2.2.1], _, rfl, rfl, ⟨[.int .i64 a2.2.2.2.2.1], _, rfl, rfl, ⟨[.int .i64 (a2.2.2.2.2.2.1.getD 0 0), .int .i64 (a2.2.2.2.2.2.1.getD 1 0), .int .i64 (a2.2.2.2.2.2.1.getD 2 0), .int .i64 (a2.2.2.2.2.2.1.getD 3 0), .int .i64 (a2.2.2.2.2.2.1.getD 4 0), .int .i64 (a2.2.2.2.2.2.1.getD 5 0)], _, rfl, rfl, ⟨[v1], _, rfl, ⟨_, rfl, hs3⟩, ⟨[v2], _, rfl, ⟨_, rfl, hs4⟩, ⟨[.string a2.2.2.2.2.2.2.2.2.1], _, rfl, rfl, rfl⟩⟩⟩⟩⟩⟩⟩⟩⟩ Kd.Many.nil) (fun v9 g10 ho11 => ?_)
 obtain ⟨hf15, hf16, h⟩ := h
 refine st_ord [3, 0, 0, 0] _ rfl ?_
 refine o_append (dk := (kP (kI .i64) (kP (kI .u32) (kP (kI .i64) (kP (kI .i64) (kP (kI .i64) (kP (kA .i64 6) (kP (kSl (kP (kI .i64) (kI .i64))) (kP (kSl (kI .i64)) (kP kS kS)))))))))) (xs := c0) (ys := [a2]) rfl rfl rfl rfl z_slT22 rfl ho7 rfl (Ow.src (j := 1) ho11 rfl) hf15 hf16 (fun v12 g13 ho14 => ?_)
 refine o_store (j := 3) (vs := [v12]) (cs' := [v12]) rfl rfl rfl z_size22 rfl rfl (oneL_ow ho14) (ones_cons ho14.one' ones_nil) rfl rfl rfl ?_
 refine st_gs [g13, g10, [(b8, .cells #[.int .i64 a2.1, .int .u32 a2.2.1, .int .i64 a2.2.2.1, .int .i64 a2.2.2.2.1, .int .i64 a2.2.2.2.2.1, .int .i64 (a2.2.2.2.2.2.1.getD 0 0), .int .i64 (a2.2.2.2.2.2.1.getD 1 0), .int .i64 (a2.2.2.2.2.2.1.getD 2 0), .int .i64 (a2.2.2.2.2.2.1.getD 3 0), .int .i64 (a2.2.2.2.2.2.1.getD 4 0), .int .i64 (a2.2.2.2.2.2.1.getD 5 0), v1, v2, .string a2.2.2.2.2.2.2.2.2.1, .string a2.2.2.2.2.2.2.2.2.2] 31 (0, 0))], [(bc0, .cells #[v12] 22 (0, 0))]] rfl ?_
 refine Z 5 rfl ?_
 refine st_ord [3, 0] _ rfl ?_
 obtain rfl := Eq.symm h
 exact st_ret (gs' := [[(bc0, .cells #[v12] 22 (0, 0))], g13]) Try.func19 rfl (List.Sublist.refl _) (Sto.Le.refl _) ⟨_, _, rfl, rfl, ho14⟩
theorem log_each__log_Parse_1_ok {a0 : List Int} {a1_0 : List (Int × Int × Int × Int × (Int × List Int × List (Int × Int) × List Int × ByteArray × ByteArray))} {v1 : Value} {ba1_0 : Nat} {v3 : Value} {g4 : Grp} {r : Int × (List (Int × Int × Int × Int × (Int × List Int × List (Int × Int) × List Int × ByteArray × ByteArray)))} (h : log_each__log_Parse_1 a0 a1_0 r) (σ : Sto) (hs2 : Sl (kI .u8) σ v1 a0) (ho5 : Ow (kP (kI .i64) (kP (kI .u32) (kP (kI .i64) (kP (kI .i64) (kP (kI .i64) (kP (kA .i64 6) (kP (kSl (kP (kI .i64) (kI .i64))) (kP (kSl (kI .i64)) (kP kS kS))))))))) 31 σ v3 a1_0 g4) :
    Does Try.prog 18 [v1, .func (.func 19) #[] [.pointer (some ⟨ba1_0, 0, none⟩)].toArray] σ [[(ba1_0, .cells [v3].toArray 22 (0, 0))], g4] (fun v τ gs => ∃ (v73 : Value) (g74 : Grp), gs = [[(ba1_0, .cells [v73].toArray 22 (0, 0))], g74] ∧ .int .i64 r.1 = v ∧ Ow (kP (kI .i64) (kP (kI .u32) (kP (kI .i64) (kP (kI .i64) (kP (kI .i64) (kP (kA .i64 6) (kP (kSl (kP (kI .i64) (kI .i64))) (kP (kSl (kI .i64)) (kP kS kS))))))))) 31 τ v73 r.2 g74) := by
 refine call_of Try.func18 Try.ntmps18 rfl rfl (fun cs fs => ?_)
 refine Z 8 rfl ?_
 obtain ⟨r6, hr7, h⟩ := h
 refine st_call (foot := []) rfl rfl rfl rfl rfl rfl (callV_fn z_en33 (lens_New_ok hr7 σ hs2)) ?_
 rintro vτ8 τ8 gsτ8 hl9 ⟨b10, v11, rfl, rfl, hs12⟩
 refine Z 5 rfl ?_
 refine st_cut (fun ρ τ13 gs => ∃ (s13 : (List (Int × Int × Int × Int × (Int × List Int × List (Int × Int) × List Int × ByteArray × ByteArray)))) (v14 : Value) (g15 : Grp), log_each__log_Parse_1_j1 s13 r ∧ τ8.Le τ13 ∧ ESub ρ [(4, .int .i64 0)] ∧ gs = [[(ba1_0, .cells #[v14] 22 (0, 0))], g15] ∧ Ow (kP (kI .i64) (kP (kI .u32) (kP (kI .i64) (kP (kI .i64) (kP (kI .i64) (kP (kA .i64 6) (kP (kSl (kP (kI .i64) (kI .i64))) (kP (kSl (kI .i64)) (kP kS kS))))))))) 31 τ13 v14 s13 g15) ?_ (fun hk13 => ?_)
 ·rintro ρ13 τ13 gs13 ⟨s13, v14, g15, h, hl13, hρ, rfl, ho16⟩
  refine st_es hρ ?_
  refine Z 4 rfl ?_
  obtain rfl := Eq.symm h
  exact st_ret (gs' := [[(ba1_0, .cells #[v14] 22 (0, 0))], g15]) Try.func18 rfl (List.Sublist.refl _) (hl9.trans hl13) ⟨_, _, rfl, rfl, ho16⟩
 obtain ⟨e17, hL17, hA17⟩ := h
 refine st_ord [1, 0, 0] _ rfl ?_
 refine st_loop hL17 (fun (s17 : (List (Int × Int × Int × Int × (Int × List Int × List (Int × Int) × List Int × ByteArray × ByteArray))) × List Int × Int × Int) ρ τ17 gs => τ8.Le τ17 ∧ ∃ (v18 : Value) (g19 : Grp) (v21 : Value), ESub ρ [(1, .func (.func 19) #[] #[.pointer (some ⟨ba1_0, 0, none⟩)]), (4, .int .i64 0), (5, .pointer (some ⟨b10, 0, none⟩))] ∧ gs = [[(ba1_0, .cells #[v18] 22 (0, 0))], [(b10, .cells #[v21, .int .i64 s17.2.2.1, .int .i64 s17.2.2.2] 93 (0, 0))], g19] ∧ Ow (kP (kI .i64) (kP (kI .u32) (kP (kI .i64) (kP (kI .i64) (kP (kI .i64) (kP (kA .i64 6) (kP (kSl (kP (kI .i64) (kI .i64))) (kP (kSl (kI .i64)) (kP kS kS))))))))) 31 τ17 v18 s17.1 g19 ∧ Sl (kI .u8) τ17 v21 s17.2.1) ⟨Sto.Le.refl _, _, _, _, rfl, rfl, (ho5.up hl9), hs12⟩ ?_
 rintro s17 o17 h he17 ρ17 τ17 gs17 ⟨hl17, v18, g19, v21, hρ, rfl, ho20, hs22⟩ hn17
 refine st_es hρ ?_
 refine Z 4 rfl ?_
 obtain ⟨r23, hr24, h⟩ := h
 refine st_ord [1, 0, 0] _ rfl ?_
 refine st_call (foot := [[(b10, .cells #[v21, .int .i64 s17.2.2.1, .int .i64 s17.2.2.2] 93 (0, 0))]]) rfl rfl rfl rfl rfl rfl (callV_fn z_en34 (lens_Lens_Left_ok hr24 τ17 hs22)) ?_
 rintro vτ25 τ25 gsτ25 hl26 ⟨rfl, rfl⟩
 refine Z 2 rfl ?_
 refine st_if rfl h (fun h => ?_) (fun h => ?_)
 ·refine Z 5 rfl ?_
  obtain ⟨r27, hr28, h⟩ := h
  refine st_call (foot := [[(b10, .cells #[v21, .int .i64 s17.2.2.1, .int .i64 s17.2.2.2] 93 (0, 0))]]) rfl rfl rfl rfl rfl rfl (callV_fn z_en35 (lens_Lens_Place_ok hr28 τ25 (hs22.up hl26))) ?_
  rintro vτ29 τ29 gsτ29 hl30 ⟨rfl, rfl⟩
  refine Z 5 rfl ?_
  obtain ⟨r31, hr32, h⟩ := h
  refine st_call (foot := [[(b10, .cells #[v21, .int .i64 s17.2.2.1, .int .i64 s17.2.2.2] 93 (0, 0))]]) rfl rfl rfl rfl rfl rfl (callV_fn z_en36 (lens_Lens_Field_ok hr32 τ29 (hs22.up (hl26.trans hl30)))) ?_
  rintro vτ33 τ33 gsτ33 hl34 ⟨v35, v37, rfl, rfl, hs36, hs38⟩
  refine Z 6 rfl ?_
  obtain ⟨r39, hr40, h⟩ := h
  refine st_call (foot := [[(b10, .cells #[v37, .int .i64 r31.2.2.1, .int .i64 r31.2.2.2] 93 (0, 0))]]) rfl rfl rfl rfl rfl rfl (callV_fn z_en37 (lens_Lens_Err_ok hr40 τ33 hs38)) ?_
  rintro vτ41 τ41 gsτ41 hl42 ⟨rfl, rfl⟩
  refine Z 2 rfl ?_
  refine st_if rfl h (fun h => ?_) (fun h => ?_)
  ·refine Z 3 rfl ?_
   obtain ⟨r43, hr44, h⟩ := h
   refine st_call (foot := [[(b10, .cells #[v37, .int .i64 r31.2.2.1, .int .i64 r31.2.2.2] 93 (0, 0))]]) rfl rfl rfl rfl rfl rfl (callV_fn z_en37 (lens_Lens_Err_ok hr44 τ41 (hs38.up hl42))) ?_
   rintro vτ45 τ45 gsτ45 hl46 ⟨rfl, rfl⟩
   refine Z 2 rfl ?_
   refine st_ord [1, 1] _ rfl ?_
   obtain rfl := he17 _ h
   replace h := hA17
   obtain rfl := Eq.symm h
   exact st_ret (gs' := [[(ba1_0, .cells #[v18] 22 (0, 0))], g19]) Try.func18 rfl (List.Sublist.refl _) ((((((hl9.trans hl17).trans hl26).trans hl30).trans hl34).trans hl42).trans hl46) ⟨_, _, rfl, rfl, (ho20.up ((((hl26.trans hl30).trans hl34).trans hl42).trans hl46))⟩
  ·refine Z 4 rfl ?_
   obtain ⟨r47, hr48, h⟩ := h
   refine st_call (foot := []) rfl rfl rfl rfl rfl rfl (callV_fn z_en38 (log_read_ok hr48 τ41 (hs36.up hl42))) ?_
   rintro vτ49 τ49 gsτ49 hl50 ⟨v51, v52, rfl, rfl, hs53, hs54⟩
   refine Z 3 rfl ?_
   refine o_alloc rfl rfl rfl z_zero31 (fun b55 => ?_)
   refine o_store (j := 0) (vs := [.int .i64 r47.1.1, .int .u32 r47.1.2.1, .int .i64 r47.1.2.2.1, .int .i64 r47.1.2.2.2.1, .int .i64 r47.1.2.2.2.2.1, .int .i64 (r47.1.2.2.2.2.2.1.getD 0 0), .int .i64 (r47.1.2.2.2.2.2.1.getD 1 0), .int .i64 (r47.1.2.2.2.2.2.1.getD 2 0), .int .i64 (r47.1.2.2.2.2.2.1.getD 3 0), .int .i64 (r47.1.2.2.2.2.2.1.getD 4 0), .int .i64 (r47.1.2.2.2.2.2.1.getD 5 0), v51, v52, .string r47.1.2.2.2.2.2.2.2.2.1, .string r47.1.2.2.2.2.2.2.2.2.2]) (cs' := [.int .i64 r47.1.1, .int .u32 r47.1.2.1, .int .i64 r47.1.2.2.1, .int .i64 r47.1.2.2.2.1, .int .i64 r47.1.2.2.2.2.1, .int .i64 (r47.1.2.2.2.2.2.1.getD 0 0), .int .i64 (r47.1.2.2.2.2.2.1.getD 1 0), .int .i64 (r47.1.2.2.2.2.2.1.getD 2 0), .int .i64 (r47.1.2.2.2.2.2.1.getD 3 0), .int .i64 (r47.1.2.2.2.2.2.1.getD 4 0), .int .i64 (r47.1.2.2.2.2.2.1.getD 5 0), v51, v52, .string r47.1.2.2.2.2.2.2.2.2.1, .string r47.1.2.2.2.2.2.2.2.2.2]) rfl rfl rfl z_size31 rfl rfl rfl (ones_cons rfl (ones_cons rfl (ones_cons rfl (ones_cons rfl (ones_cons rfl (ones_cons rfl (ones_cons rfl (ones_cons rfl (ones_cons rfl (ones_cons rfl (ones_cons rfl (ones_cons hs53.one' (ones_cons hs54.one' (ones_cons rfl (ones_cons rfl ones_nil))))))))))))))) rfl rfl rfl ?_
   refine st_gs [[(b55, .cells #[.int .i64 r47.1.1, .int .u32 r47.1.2.1, .int .i64 r47.1.2.2.1, .int .i64 r47.1.2.2.2.1, .int .i64 r47.1.2.2.2.2.1, .int .i64 (r47.1.2.2.2.2.2.1.getD 0 0), .int .i64 (r47.1.2.2.2.2.2.1.getD 1 0), .int .i64 (r47.1.2.2.2.2.2.1.getD 2 0), .int .i64 (r47.1.2.2.2.2.2.1.getD 3 0), .int .i64 (r47.1.2.2.2.2.2.1.getD 4 0), .int .i64 (r47.1.2.2.2.2.2.1.getD 5 0), v51, v52, .string r47.1.2.2.2.2.2.2.2.2.1, .string r47.1.2.2.2.2.2.2.2.2.2] 31 (0, 0))], [(b10, .cells #[v37, .int .i64 r31.2.2.1, .int .i64 r31.2.2.2] 93 (0, 0))], [(ba1_0, .cells #[v18] 22 (0, 0))], g19] rfl ?_
   refine Z 8 rfl ?_
   refine st_if rfl h (fun h => ?_) (fun h => ?_)
   ·refine Z 5 rfl ?_
    refine st_ord [2, 2] _ rfl ?_
    obtain rfl := he17 _ h
    replace h := hA17
    obtain rfl := Eq.symm h
    exact st_ret (gs' := [[(ba1_0, .cells #[v18] 22 (0, 0))], g19]) Try.func18 rfl (List.Sublist.refl _) ((((((hl9.trans hl17).trans hl26).trans hl30).trans hl34).trans hl42).trans hl50) ⟨_, _, rfl, rfl, (ho20.up ((((hl26.trans hl30).trans hl34).trans hl42).trans hl50))⟩
   ·refine Z 2 rfl ?_
    obtain ⟨r56, hr57, r60, hr61, h⟩ := h
    refine st_d41 [[(b55, .cells #[.int .i64 r47.1.1, .int .u32 r47.1.2.1, .int .i64 r47.1.2.2.1, .int .i64 r47.1.2.2.2.1, .int .i64 r47.1.2.2.2.2.1, .int .i64 (r47.1.2.2.2.2.2.1.getD 0 0), .int .i64 (r47.1.2.2.2.2.2.1.getD 1 0), .int .i64 (r47.1.2.2.2.2.2.1.getD 2 0), .int .i64 (r47.1.2.2.2.2.2.1.getD 3 0), .int .i64 (r47.1.2.2.2.2.2.1.getD 4 0), .int .i64 (r47.1.2.2.2.2.2.1.getD 5 0), v51, v52, .string r47.1.2.2.2.2.2.2.2.2.1, .string r47.1.2.2.2.2.2.2.2.2.2] 31 (0, 0))], [(b10, .cells #[v37, .int .i64 r31.2.2.1, .int .i64 r31.2.2.2] 93 (0, 0))]] [[(ba1_0, .cells #[v18] 22 (0, 0))], g19] 7 1 [none, none, none, none, none, some (0, 0), none] [none, none, none, none, none, none, none] [[none, some 37]] [.v (.func (.func 19) #[] #[.pointer (some ⟨ba1_0, 0, none⟩)]), .v (.int .i64 r27), .v (.pointer (some ⟨b10, 0, none⟩)), .v (.int .i64 r56), .v (.agg #[.int .i64 r47.1.1, .int .u32 r47.1.2.1, .int .i64 r47.1.2.2.1, .int .i64 r47.1.2.2.2.1, .int .i64 r47.1.2.2.2.2.1, .int .i64 (r47.1.2.2.2.2.2.1.getD 0 0), .int .i64 (r47.1.2.2.2.2.2.1.getD 1 0), .int .i64 (r47.1.2.2.2.2.2.1.getD 2 0), .int .i64 (r47.1.2.2.2.2.2.1.getD 3 0), .int .i64 (r47.1.2.2.2.2.2.1.getD 4 0), .int .i64 (r47.1.2.2.2.2.2.1.getD 5 0), v51, v52, .string r47.1.2.2.2.2.2.2.2.2.1, .string r47.1.2.2.2.2.2.2.2.2.2]), .v (.bool r60.1), .v (.bool (!r60.1))] [[fun τ u F => F = [[(ba1_0, .cells #[v18] 22 (0, 0))], g19], fun τ u F => ∃ (v67 : Value) (g68 : Grp), F = [[(ba1_0, .cells #[v67] 22 (0, 0))], g68] ∧ Ow (kP (kI .i64) (kP (kI .u32) (kP (kI .i64) (kP (kI .i64) (kP (kI .i64) (kP (kA .i64 6) (kP (kSl (kP (kI .i64) (kI .i64))) (kP (kSl (kI .i64)) (kP kS kS))))))))) 31 τ v67 r60.2 g68]] rfl z_mix rfl trivial ⟨⟨fun _ _ _ _ hl h => h, ⟨fun _ _ _ _ hl h => (let ⟨v67, g68, hF, ho69⟩ := h; ⟨v67, g68, hF, ho69.up hl⟩), trivial⟩⟩, trivial⟩ rfl rfl ?_ (allB_cons (allB_cons (allB_cons (allB_cons (allB_cons (allB_cons (allB_cons allB_nil (p4 dA)) (p4 dA)) (p4 dA)) ?_) ?_) ?_) (p4 dA)) ?_
    ·exact rfl
    ·intro ρ' τ pool rs hl hd hout hw hk
     obtain ⟨_, e2, rfl⟩ := hd 2 rfl _ rfl
     refine st_ord [1, 0, 0] _ rfl ?_
     refine st_call (foot := [[(b10, .cells #[v37, .int .i64 r31.2.2.1, .int .i64 r31.2.2.2] 93 (0, 0))]]) rfl rfl rfl rfl (evs_cons e2 rfl) rfl (callV_fn z_en35 (lens_Lens_Place_ok hr57 τ (hs38.up ((hl42.trans hl50).trans hl)))) ?_
     rintro vτ58 τ58 gsτ58 hl59 ⟨rfl, rfl⟩
     refine st_ord [1, 0, 0] _ rfl ?_
     exact hk _ _ hl59 rfl
    ·intro ρ' τ pool rs hl hd hout hw hk
     refine o_loadN (j := 0) (vs := [.int .i64 r47.1.1, .int .u32 r47.1.2.1, .int .i64 r47.1.2.2.1, .int .i64 r47.1.2.2.2.1, .int .i64 r47.1.2.2.2.2.1, .int .i64 (r47.1.2.2.2.2.2.1.getD 0 0), .int .i64 (r47.1.2.2.2.2.2.1.getD 1 0), .int .i64 (r47.1.2.2.2.2.2.1.getD 2 0), .int .i64 (r47.1.2.2.2.2.2.1.getD 3 0), .int .i64 (r47.1.2.2.2.2.2.1.getD 4 0), .int .i64 (r47.1.2.2.2.2.2.1.getD 5 0), v51, v52, .string r47.1.2.2.2.2.2.2.2.2.1, .string r47.1.2.2.2.2.2.2.2.2.2]) rfl rfl rfl z_agg31 ((hout 8 rfl).trans rfl) rfl rfl ?_
     exact hk _ _ (Sto.Le.refl _) rfl
    ·intro ρ' τ u Fv pool rs hl hI hu hd hout hw hk
     obtain ⟨_, e0, rfl⟩ := hd 0 rfl _ rfl
     obtain ⟨_, e1, rfl⟩ := hd 1 rfl _ rfl
     obtain ⟨_, e3, rfl⟩ := hd 3 rfl _ rfl
     obtain ⟨_, e4, rfl⟩ := hd 4 rfl _ rfl
     have hI0 := hI
     obtain rfl := hI
     refine st_gs [[(b55, .cells #[.int .i64 r47.1.1, .int .u32 r47.1.2.1, .int .i64 r47.1.2.2.1, .int .i64 r47.1.2.2.2.1, .int .i64 r47.1.2.2.2.2.1, .int .i64 (r47.1.2.2.2.2.2.1.getD 0 0), .int .i64 (r47.1.2.2.2.2.2.1.getD 1 0), .int .i64 (r47.1.2.2.2.2.2.1.getD 2 0), .int .i64 (r47.1.2.2.2.2.2.1.getD 3 0), .int .i64 (r47.1.2.2.2.2.2.1.getD 4 0), .int .i64 (r47.1.2.2.2.2.2.1.getD 5 0), v51, v52, .string r47.1.2.2.2.2.2.2.2.2.1, .string r47.1.2.2.2.2.2.2.2.2.2] 31 (0, 0))], [(b10, .cells #[v37, .int .i64 r31.2.2.1, .int .i64 r31.2.2.2] 93 (0, 0))], [(ba1_0, .cells #[v18] 22 (0, 0))], g19, pool] rfl ?_
     refine st_ord [2, 2, 0, 0, 0] _ rfl ?_
     refine st_call (foot := [[(ba1_0, .cells #[v18] 22 (0, 0))], g19]) rfl rfl rfl e0 (evs_cons e1 (evs_cons e3 (evs_cons e4 rfl))) rfl (callV_of2 (caps := [.pointer (some ⟨ba1_0, 0, none⟩)]) z_en19 (log_Parse_1_ok hr61 τ (hs53.up hl) (hs54.up hl) (ho20.up (((((hl26.trans hl30).trans hl34).trans hl42).trans hl50).trans hl))) rfl) ?_
     rintro vτ62 τ62 gsτ62 hl63 ⟨v64, g65, rfl, rfl, ho66⟩
     refine st_ord [2, 2, 0, 0, 0] _ rfl ?_
     exact hk _ _ [[(ba1_0, .cells #[v64] 22 (0, 0))], g65] hl63 rfl (by exact ⟨v64, g65, rfl, ho66⟩)
    intro ρ' τ70 vals u Fv hl70 hI hu hv hout
    obtain ⟨v67, g68, rfl, ho69⟩ := hI
    refine st_gs [[(b55, .cells #[.int .i64 r47.1.1, .int .u32 r47.1.2.1, .int .i64 r47.1.2.2.1, .int .i64 r47.1.2.2.2.1, .int .i64 r47.1.2.2.2.2.1, .int .i64 (r47.1.2.2.2.2.2.1.getD 0 0), .int .i64 (r47.1.2.2.2.2.2.1.getD 1 0), .int .i64 (r47.1.2.2.2.2.2.1.getD 2 0), .int .i64 (r47.1.2.2.2.2.2.1.getD 3 0), .int .i64 (r47.1.2.2.2.2.2.1.getD 4 0), .int .i64 (r47.1.2.2.2.2.2.1.getD 5 0), v51, v52, .string r47.1.2.2.2.2.2.2.2.2.1, .string r47.1.2.2.2.2.2.2.2.2.2] 31 (0, 0))], [(b10, .cells #[v37, .int .i64 r31.2.2.1, .int .i64 r31.2.2.2] 93 (0, 0))], [(ba1_0, .cells #[v67] 22 (0, 0))], g68] rfl ?_
    refine st_env (ρ' := [(38, .bool (!r60.1)), (1, .func (.func 19) #[] #[.pointer (some ⟨ba1_0, 0, none⟩)]), (4, .int .i64 0), (5, .pointer (some ⟨b10, 0, none⟩))]) ⟨(lv4 hv 6 rfl rfl rfl), (hout 1 rfl).trans rfl, (hout 4 rfl).trans rfl, (hout 5 rfl).trans rfl, trivial⟩ ?_
    refine st_end ?_
    refine st_if rfl h (fun h => ?_) (fun h => ?_)
    ·refine st_exit rfl ?_
     obtain rfl := he17 _ h
     replace h := hA17
     refine st_ord [2, 2] _ rfl ?_
     exact hk13 _ _ _ ⟨r60.2, _, _, h, ((((((hl17.trans hl26).trans hl30).trans hl34).trans hl42).trans hl50).trans hl70), rfl, rfl, ho69⟩
    ·refine Z 2 rfl ?_
     refine st_ord [2, 1, 1] _ rfl ?_
     exact hn17 _ _ _ _ h ⟨((((((hl17.trans hl26).trans hl30).trans hl34).trans hl42).trans hl50).trans hl70), _, _, _, rfl, rfl, ho69, (hs38.up ((hl42.trans hl50).trans hl70))⟩
 ·refine st_exit rfl ?_
  obtain rfl := he17 _ h
  replace h := hA17
  refine st_ord [1, 1] _ rfl ?_
  exact hk13 _ _ _ ⟨s17.1, _, _, h, (hl17.trans hl26), rfl, rfl, (ho20.up hl26)⟩
theorem log_Parse_ok {a0 : List Int} {v1 : Value} {r : (List (Int × Int × Int × Int × (Int × List Int × List (Int × Int) × List Int × ByteArray × ByteArray))) × Int} (h : log_Parse a0 r) (σ : Sto) (hs2 : Sl (kI .u8) σ v1 a0) :
    Does Try.prog 9 [v1] σ [] (fun v τ gs => ∃ (v17 : Value), gs = [] ∧ .tuple [v17, .int .i64 r.2].toArray = v ∧ Sl (kP (kI .i64) (kP (kI .u32) (kP (kI .i64) (kP (kI .i64) (kP (kI .i64) (kP (kA .i64 6) (kP (kSl (kP (kI .i64) (kI .i64))) (kP (kSl (kI .i64)) (kP kS kS))))))))) τ v17 r.1) := by
 refine call_of Try.func9 Try.ntmps9 rfl rfl (fun cs fs => ?_)
 refine Z 7 rfl ?_
 refine o_alloc rfl rfl rfl z_zero22 (fun b3 => ?_)
 refine Z 5 rfl ?_
 obtain ⟨r4, hr5, h⟩ := h
 refine st_addNil ?_
 refine st_ord [1, 0] _ rfl ?_
 refine st_call (foot := [[(b3, .cells #[.slice none 0 0] 22 (0, 0))], []]) rfl rfl rfl rfl rfl rfl (callV_fn z_en18 (log_each__log_Parse_1_ok hr5 σ hs2 Ow.nil)) ?_
 rintro vτ6 τ6 gsτ6 hl7 ⟨v8, g9, rfl, rfl, ho10⟩
 refine Z 8 rfl ?_
 refine st_if rfl h (fun h => ?_) (fun h => ?_)
 ·refine Z 6 rfl ?_
  refine st_ord [] _ rfl ?_
  obtain rfl := Eq.symm h
  exact st_ret (gs' := []) Try.func9 rfl (List.Sublist.refl _) hl7 ⟨_, rfl, rfl, Sl.nil⟩
 ·refine ZZ 7 [0] rfl rfl ?_
  refine st_ord [1, 0] _ rfl ?_
  refine st_freeze (fun τ11 hl12 hg13 => ?_)
  have hs14 := ho10.freeze hl12 hg13
  refine st_ord [] _ rfl ?_
  obtain rfl := Eq.symm h
  exact st_ret (gs' := []) Try.func9 rfl (List.Sublist.refl _) (hl7.trans hl12) ⟨_, rfl, rfl, hs14⟩
theorem log_Repair_1_ok {a0 : Int} {a1 : Int} {a2 : Int × Int × Int × Int × (Int × List Int × List (Int × Int) × List Int × ByteArray × ByteArray)} {c0 : Int} {c1 : Int} {v1 : Value} {v2 : Value} {bc0 : Nat} {bc1 : Nat} {r : Bool × Int × Int} (h : log_Repair_1 a0 a1 a2 c0 c1 r) (σ : Sto) (hs3 : Sl (kP (kI .i64) (kI .i64)) σ v1 a2.2.2.2.2.2.2.1) (hs4 : Sl (kI .i64) σ v2 a2.2.2.2.2.2.2.2.1) :
    Does Try.prog 20 [.int .i64 a0, .int .i64 a1, .agg [.int .i64 a2.1, .int .u32 a2.2.1, .int .i64 a2.2.2.1, .int .i64 a2.2.2.2.1, .int .i64 a2.2.2.2.2.1, .int .i64 (a2.2.2.2.2.2.1.getD 0 0), .int .i64 (a2.2.2.2.2.2.1.getD 1 0), .int .i64 (a2.2.2.2.2.2.1.getD 2 0), .int .i64 (a2.2.2.2.2.2.1.getD 3 0), .int .i64 (a2.2.2.2.2.2.1.getD 4 0), .int .i64 (a2.2.2.2.2.2.1.getD 5 0), v1, v2, .string a2.2.2.2.2.2.2.2.2.1, .string a2.2.2.2.2.2.2.2.2.2].toArray, .pointer (some ⟨bc0, 0, none⟩), .pointer (some ⟨bc1, 0, none⟩)] σ [[(bc0, .cells [.int .i64 c0].toArray 3 (0, 0))], [(bc1, .cells [.int .i64 c1].toArray 3 (0, 0))]] (fun v τ gs => gs = [[(bc0, .cells [.int .i64 r.2.1].toArray 3 (0, 0))], [(bc1, .cells [.int .i64 r.2.2].toArray 3 (0, 0))]] ∧ .bool r.1 = v) := by
 refine call_of Try.func20 Try.ntmps20 rfl rfl (fun cs fs => ?_)
 refine Z 2 rfl ?_
 refine o_box (cs := [.int .i64 a2.1, .int .u32 a2.2.1, .int .i64 a2.2.2.1, .int .i64 a2.2.2.2.1, .int .i64 a2.2.2.2.2.1, .int .i64 (a2.2.2.2.2.2.1.getD 0 0), .int .i64 (a2.2.2.2.2.2.1.getD 1 0), .int .i64 (a2.2.2.2.2.2.1.getD 2 0), .int .i64 (a2.2.2.2.2.2.1.getD 3 0), .int .i64 (a2.2.2.2.2.2.1.getD 4 0), .int .i64 (a2.2.2.2.2.2.1.getD 5 0), v1, v2, .string a2.2.2.2.2.2.2.2.2.1, .string a2.2.2.2.2.2.2.2.2.2]) rfl rfl rfl rfl rfl (fun b5 => ?_)
 refine ZZ 14 [1, 1, 2] rfl rfl ?_
 refine st_ord [1, 1] _ rfl ?_
 obtain rfl := Eq.symm h
 exact st_ret (gs' := [[(bc0, .cells #[.int .i64 (IntKind.i64.wrap (c0 + 1))] 3 (0, 0))], [(bc1, .cells #[.int .i64 a1] 3 (0, 0))]]) Try.func20 rfl (List.Sublist.refl _) (Sto.Le.refl _) ⟨rfl, rfl⟩
theorem log_each__log_Repair_1_ok {a0 : List Int} {a1_0 : Int} {a1_1 : Int} {v1 : Value} {ba1_0 : Nat} {ba1_1 : Nat} {r : Int × Int × Int} (h : log_each__log_Repair_1 a0 a1_0 a1_1 r) (σ : Sto) (hs2 : Sl (kI .u8) σ v1 a0) :
    Does Try.prog 18 [v1, .func (.func 20) #[] [.pointer (some ⟨ba1_0, 0, none⟩), .pointer (some ⟨ba1_1, 0, none⟩)].toArray] σ [[(ba1_0, .cells [.int .i64 a1_0].toArray 3 (0, 0))], [(ba1_1, .cells [.int .i64 a1_1].toArray 3 (0, 0))]] (fun v τ gs => gs = [[(ba1_0, .cells [.int .i64 r.2.1].toArray 3 (0, 0))], [(ba1_1, .cells [.int .i64 r.2.2].toArray 3 (0, 0))]] ∧ .int .i64 r.1 = v) := by
 refine call_of Try.func18 Try.ntmps18 rfl rfl (fun cs fs => ?_)
 refine Z 8 rfl ?_
 obtain ⟨r3, hr4, h⟩ := h
 refine st_call (foot := []) rfl rfl rfl rfl rfl rfl (callV_fn z_en33 (lens_New_ok hr4 σ hs2)) ?_
 rintro vτ5 τ5 gsτ5 hl6 ⟨b7, v8, rfl, rfl, hs9⟩
 refine Z 5 rfl ?_
 refine st_cut (fun ρ τ10 gs => ∃ (s10 : Int × Int), log_each__log_Repair_1_j1 s10 r ∧ τ5.Le τ10 ∧ ESub ρ [(4, .int .i64 0)] ∧ gs = [[(ba1_0, .cells #[.int .i64 s10.1] 3 (0, 0))], [(ba1_1, .cells #[.int .i64 s10.2] 3 (0, 0))]]) ?_ (fun hk10 => ?_)
 ·rintro ρ10 τ10 gs10 ⟨s10, h, hl10, hρ, rfl⟩
  refine st_es hρ ?_
  refine Z 4 rfl ?_
  obtain rfl := Eq.symm h
  exact st_ret (gs' := [[(ba1_0, .cells #[.int .i64 s10.1] 3 (0, 0))], [(ba1_1, .cells #[.int .i64 s10.2] 3 (0, 0))]]) Try.func18 rfl (List.Sublist.refl _) (hl6.trans hl10) ⟨rfl, rfl⟩
 obtain ⟨e11, hL11, hA11⟩ := h
 refine st_ord [1, 1, 0] _ rfl ?_
 refine st_loop hL11 (fun (s11 : Int × Int × List Int × Int × Int) ρ τ11 gs => τ5.Le τ11 ∧ ∃ (v12 : Value), ESub ρ [(1, .func (.func 20) #[] #[.pointer (some ⟨ba1_0, 0, none⟩), .pointer (some ⟨ba1_1, 0, none⟩)]), (4, .int .i64 0), (5, .pointer (some ⟨b7, 0, none⟩))] ∧ gs = [[(ba1_0, .cells #[.int .i64 s11.1] 3 (0, 0))], [(ba1_1, .cells #[.int .i64 s11.2.1] 3 (0, 0))], [(b7, .cells #[v12, .int .i64 s11.2.2.2.1, .int .i64 s11.2.2.2.2] 93 (0, 0))]] ∧ Sl (kI .u8) τ11 v12 s11.2.2.1) ⟨Sto.Le.refl _, _, rfl, rfl, hs9⟩ ?_
 rintro s11 o11 h he11 ρ11 τ11 gs11 ⟨hl11, v12, hρ, rfl, hs13⟩ hn11
 refine st_es hρ ?_
 refine Z 4 rfl ?_
 obtain ⟨r14, hr15, h⟩ := h
 refine st_ord [2, 0, 0] _ rfl ?_
 refine st_call (foot := [[(b7, .cells #[v12, .int .i64 s11.2.2.2.1, .int .i64 s11.2.2.2.2] 93 (0, 0))]]) rfl rfl rfl rfl rfl rfl (callV_fn z_en34 (lens_Lens_Left_ok hr15 τ11 hs13)) ?_
 rintro vτ16 τ16 gsτ16 hl17 ⟨rfl, rfl⟩
 refine Z 2 rfl ?_
 refine st_if rfl h (fun h => ?_) (fun h => ?_)
 ·refine Z 5 rfl ?_
  obtain ⟨r18, hr19, h⟩ := h
  refine st_call (foot := [[(b7, .cells #[v12, .int .i64 s11.2.2.2.1, .int .i64 s11.2.2.2.2] 93 (0, 0))]]) rfl rfl rfl rfl rfl rfl (callV_fn z_en35 (lens_Lens_Place_ok hr19 τ16 (hs13.up hl17))) ?_
  rintro vτ20 τ20 gsτ20 hl21 ⟨rfl, rfl⟩
  refine Z 5 rfl ?_
  obtain ⟨r22, hr23, h⟩ := h
  refine st_call (foot := [[(b7, .cells #[v12, .int .i64 s11.2.2.2.1, .int .i64 s11.2.2.2.2] 93 (0, 0))]]) rfl rfl rfl rfl rfl rfl (callV_fn z_en36 (lens_Lens_Field_ok hr23 τ20 (hs13.up (hl17.trans hl21)))) ?_
  rintro vτ24 τ24 gsτ24 hl25 ⟨v26, v28, rfl, rfl, hs27, hs29⟩
  refine Z 6 rfl ?_
  obtain ⟨r30, hr31, h⟩ := h
  refine st_call (foot := [[(b7, .cells #[v28, .int .i64 r22.2.2.1, .int .i64 r22.2.2.2] 93 (0, 0))]]) rfl rfl rfl rfl rfl rfl (callV_fn z_en37 (lens_Lens_Err_ok hr31 τ24 hs29)) ?_
  rintro vτ32 τ32 gsτ32 hl33 ⟨rfl, rfl⟩
  refine Z 2 rfl ?_
  refine st_if rfl h (fun h => ?_) (fun h => ?_)
  ·refine Z 3 rfl ?_
   obtain ⟨r34, hr35, h⟩ := h
   refine st_call (foot := [[(b7, .cells #[v28, .int .i64 r22.2.2.1, .int .i64 r22.2.2.2] 93 (0, 0))]]) rfl rfl rfl rfl rfl rfl (callV_fn z_en37 (lens_Lens_Err_ok hr35 τ32 (hs29.up hl33))) ?_
   rintro vτ36 τ36 gsτ36 hl37 ⟨rfl, rfl⟩
   refine Z 2 rfl ?_
   refine st_ord [1, 1] _ rfl ?_
   obtain rfl := he11 _ h
   replace h := hA11
   obtain rfl := Eq.symm h
   exact st_ret (gs' := [[(ba1_0, .cells #[.int .i64 s11.1] 3 (0, 0))], [(ba1_1, .cells #[.int .i64 s11.2.1] 3 (0, 0))]]) Try.func18 rfl (List.Sublist.refl _) ((((((hl6.trans hl11).trans hl17).trans hl21).trans hl25).trans hl33).trans hl37) ⟨rfl, rfl⟩
  ·refine Z 4 rfl ?_
   obtain ⟨r38, hr39, h⟩ := h
   refine st_call (foot := []) rfl rfl rfl rfl rfl rfl (callV_fn z_en38 (log_read_ok hr39 τ32 (hs27.up hl33))) ?_
   rintro vτ40 τ40 gsτ40 hl41 ⟨v42, v43, rfl, rfl, hs44, hs45⟩
   refine Z 3 rfl ?_
   refine o_alloc rfl rfl rfl z_zero31 (fun b46 => ?_)
   refine o_store (j := 0) (vs := [.int .i64 r38.1.1, .int .u32 r38.1.2.1, .int .i64 r38.1.2.2.1, .int .i64 r38.1.2.2.2.1, .int .i64 r38.1.2.2.2.2.1, .int .i64 (r38.1.2.2.2.2.2.1.getD 0 0), .int .i64 (r38.1.2.2.2.2.2.1.getD 1 0), .int .i64 (r38.1.2.2.2.2.2.1.getD 2 0), .int .i64 (r38.1.2.2.2.2.2.1.getD 3 0), .int .i64 (r38.1.2.2.2.2.2.1.getD 4 0), .int .i64 (r38.1.2.2.2.2.2.1.getD 5 0), v42, v43, .string r38.1.2.2.2.2.2.2.2.2.1, .string r38.1.2.2.2.2.2.2.2.2.2]) (cs' := [.int .i64 r38.1.1, .int .u32 r38.1.2.1, .int .i64 r38.1.2.2.1, .int .i64 r38.1.2.2.2.1, .int .i64 r38.1.2.2.2.2.1, .int .i64 (r38.1.2.2.2.2.2.1.getD 0 0), .int .i64 (r38.1.2.2.2.2.2.1.getD 1 0), .int .i64 (r38.1.2.2.2.2.2.1.getD 2 0), .int .i64 (r38.1.2.2.2.2.2.1.getD 3 0), .int .i64 (r38.1.2.2.2.2.2.1.getD 4 0), .int .i64 (r38.1.2.2.2.2.2.1.getD 5 0), v42, v43, .string r38.1.2.2.2.2.2.2.2.2.1, .string r38.1.2.2.2.2.2.2.2.2.2]) rfl rfl rfl z_size31 rfl rfl rfl (ones_cons rfl (ones_cons rfl (ones_cons rfl (ones_cons rfl (ones_cons rfl (ones_cons rfl (ones_cons rfl (ones_cons rfl (ones_cons rfl (ones_cons rfl (ones_cons rfl (ones_cons hs44.one' (ones_cons hs45.one' (ones_cons rfl (ones_cons rfl ones_nil))))))))))))))) rfl rfl rfl ?_
   refine st_gs [[(b46, .cells #[.int .i64 r38.1.1, .int .u32 r38.1.2.1, .int .i64 r38.1.2.2.1, .int .i64 r38.1.2.2.2.1, .int .i64 r38.1.2.2.2.2.1, .int .i64 (r38.1.2.2.2.2.2.1.getD 0 0), .int .i64 (r38.1.2.2.2.2.2.1.getD 1 0), .int .i64 (r38.1.2.2.2.2.2.1.getD 2 0), .int .i64 (r38.1.2.2.2.2.2.1.getD 3 0), .int .i64 (r38.1.2.2.2.2.2.1.getD 4 0), .int .i64 (r38.1.2.2.2.2.2.1.getD 5 0), v42, v43, .string r38.1.2.2.2.2.2.2.2.2.1, .string r38.1.2.2.2.2.2.2.2.2.2] 31 (0, 0))], [(b7, .cells #[v28, .int .i64 r22.2.2.1, .int .i64 r22.2.2.2] 93 (0, 0))], [(ba1_0, .cells #[.int .i64 s11.1] 3 (0, 0))], [(ba1_1, .cells #[.int .i64 s11.2.1] 3 (0, 0))]] rfl ?_
   refine Z 8 rfl ?_
   refine st_if rfl h (fun h => ?_) (fun h => ?_)
   ·refine Z 5 rfl ?_
    refine st_ord [2, 2] _ rfl ?_
    obtain rfl := he11 _ h
    replace h := hA11
    obtain rfl := Eq.symm h
    exact st_ret (gs' := [[(ba1_0, .cells #[.int .i64 s11.1] 3 (0, 0))], [(ba1_1, .cells #[.int .i64 s11.2.1] 3 (0, 0))]]) Try.func18 rfl (List.Sublist.refl _) ((((((hl6.trans hl11).trans hl17).trans hl21).trans hl25).trans hl33).trans hl41) ⟨rfl, rfl⟩
   ·refine Z 2 rfl ?_
    obtain ⟨r47, hr48, r51, hr52, h⟩ := h
    refine st_d41 [[(b46, .cells #[.int .i64 r38.1.1, .int .u32 r38.1.2.1, .int .i64 r38.1.2.2.1, .int .i64 r38.1.2.2.2.1, .int .i64 r38.1.2.2.2.2.1, .int .i64 (r38.1.2.2.2.2.2.1.getD 0 0), .int .i64 (r38.1.2.2.2.2.2.1.getD 1 0), .int .i64 (r38.1.2.2.2.2.2.1.getD 2 0), .int .i64 (r38.1.2.2.2.2.2.1.getD 3 0), .int .i64 (r38.1.2.2.2.2.2.1.getD 4 0), .int .i64 (r38.1.2.2.2.2.2.1.getD 5 0), v42, v43, .string r38.1.2.2.2.2.2.2.2.2.1, .string r38.1.2.2.2.2.2.2.2.2.2] 31 (0, 0))], [(b7, .cells #[v28, .int .i64 r22.2.2.1, .int .i64 r22.2.2.2] 93 (0, 0))]] [[(ba1_0, .cells #[.int .i64 s11.1] 3 (0, 0))], [(ba1_1, .cells #[.int .i64 s11.2.1] 3 (0, 0))]] 7 1 [none, none, none, none, none, some (0, 0), none] [none, none, none, none, none, none, none] [[none, some 37]] [.v (.func (.func 20) #[] #[.pointer (some ⟨ba1_0, 0, none⟩), .pointer (some ⟨ba1_1, 0, none⟩)]), .v (.int .i64 r18), .v (.pointer (some ⟨b7, 0, none⟩)), .v (.int .i64 r47), .v (.agg #[.int .i64 r38.1.1, .int .u32 r38.1.2.1, .int .i64 r38.1.2.2.1, .int .i64 r38.1.2.2.2.1, .int .i64 r38.1.2.2.2.2.1, .int .i64 (r38.1.2.2.2.2.2.1.getD 0 0), .int .i64 (r38.1.2.2.2.2.2.1.getD 1 0), .int .i64 (r38.1.2.2.2.2.2.1.getD 2 0), .int .i64 (r38.1.2.2.2.2.2.1.getD 3 0), .int .i64 (r38.1.2.2.2.2.2.1.getD 4 0), .int .i64 (r38.1.2.2.2.2.2.1.getD 5 0), v42, v43, .string r38.1.2.2.2.2.2.2.2.2.1, .string r38.1.2.2.2.2.2.2.2.2.2]), .v (.bool r51.1), .v (.bool (!r51.1))] [[fun τ u F => F = [[(ba1_0, .cells #[.int .i64 s11.1] 3 (0, 0))], [(ba1_1, .cells #[.int .i64 s11.2.1] 3 (0, 0))]], fun τ u F => F = [[(ba1_0, .cells #[.int .i64 r51.2.1] 3 (0, 0))], [(ba1_1, .cells #[.int .i64 r51.2.2] 3 (0, 0))]]]] rfl z_mix rfl trivial ⟨⟨fun _ _ _ _ hl h => h, ⟨fun _ _ _ _ hl h => h, trivial⟩⟩, trivial⟩ rfl rfl ?_ (allB_cons (allB_cons (allB_cons (allB_cons (allB_cons (allB_cons (allB_cons allB_nil (p4 dA)) (p4 dA)) (p4 dA)) ?_) ?_) ?_) (p4 dA)) ?_
    ·exact rfl
    ·intro ρ' τ pool rs hl hd hout hw hk
     obtain ⟨_, e2, rfl⟩ := hd 2 rfl _ rfl
     refine st_ord [1, 0, 0] _ rfl ?_
     refine st_call (foot := [[(b7, .cells #[v28, .int .i64 r22.2.2.1, .int .i64 r22.2.2.2] 93 (0, 0))]]) rfl rfl rfl rfl (evs_cons e2 rfl) rfl (callV_fn z_en35 (lens_Lens_Place_ok hr48 τ (hs29.up ((hl33.trans hl41).trans hl)))) ?_
     rintro vτ49 τ49 gsτ49 hl50 ⟨rfl, rfl⟩
     refine st_ord [1, 0, 0] _ rfl ?_
     exact hk _ _ hl50 rfl
    ·intro ρ' τ pool rs hl hd hout hw hk
     refine o_loadN (j := 0) (vs := [.int .i64 r38.1.1, .int .u32 r38.1.2.1, .int .i64 r38.1.2.2.1, .int .i64 r38.1.2.2.2.1, .int .i64 r38.1.2.2.2.2.1, .int .i64 (r38.1.2.2.2.2.2.1.getD 0 0), .int .i64 (r38.1.2.2.2.2.2.1.getD 1 0), .int .i64 (r38.1.2.2.2.2.2.1.getD 2 0), .int .i64 (r38.1.2.2.2.2.2.1.getD 3 0), .int .i64 (r38.1.2.2.2.2.2.1.getD 4 0), .int .i64 (r38.1.2.2.2.2.2.1.getD 5 0), v42, v43, .string r38.1.2.2.2.2.2.2.2.2.1, .string r38.1.2.2.2.2.2.2.2.2.2]) rfl rfl rfl z_agg31 ((hout 8 rfl).trans rfl) rfl rfl ?_
     exact hk _ _ (Sto.Le.refl _) rfl
    ·intro ρ' τ u Fv pool rs hl hI hu hd hout hw hk
     obtain ⟨_, e0, rfl⟩ := hd 0 rfl _ rfl
     obtain ⟨_, e1, rfl⟩ := hd 1 rfl _ rfl
     obtain ⟨_, e3, rfl⟩ := hd 3 rfl _ rfl
     obtain ⟨_, e4, rfl⟩ := hd 4 rfl _ rfl
     have hI0 := hI
     obtain rfl := hI
     refine st_gs [[(b46, .cells #[.int .i64 r38.1.1, .int .u32 r38.1.2.1, .int .i64 r38.1.2.2.1, .int .i64 r38.1.2.2.2.1, .int .i64 r38.1.2.2.2.2.1, .int .i64 (r38.1.2.2.2.2.2.1.getD 0 0), .int .i64 (r38.1.2.2.2.2.2.1.getD 1 0), .int .i64 (r38.1.2.2.2.2.2.1.getD 2 0), .int .i64 (r38.1.2.2.2.2.2.1.getD 3 0), .int .i64 (r38.1.2.2.2.2.2.1.getD 4 0), .int .i64 (r38.1.2.2.2.2.2.1.getD 5 0), v42, v43, .string r38.1.2.2.2.2.2.2.2.2.1, .string r38.1.2.2.2.2.2.2.2.2.2] 31 (0, 0))], [(b7, .cells #[v28, .int .i64 r22.2.2.1, .int .i64 r22.2.2.2] 93 (0, 0))], [(ba1_0, .cells #[.int .i64 s11.1] 3 (0, 0))], [(ba1_1, .cells #[.int .i64 s11.2.1] 3 (0, 0))], pool] rfl ?_
     refine st_ord [2, 2, 0, 0, 0] _ rfl ?_
     refine st_call (foot := [[(ba1_0, .cells #[.int .i64 s11.1] 3 (0, 0))], [(ba1_1, .cells #[.int .i64 s11.2.1] 3 (0, 0))]]) rfl rfl rfl e0 (evs_cons e1 (evs_cons e3 (evs_cons e4 rfl))) rfl (callV_of2 (caps := [.pointer (some ⟨ba1_0, 0, none⟩), .pointer (some ⟨ba1_1, 0, none⟩)]) z_en20 (log_Repair_1_ok hr52 τ (hs44.up hl) (hs45.up hl)) rfl) ?_
     rintro vτ53 τ53 gsτ53 hl54 ⟨rfl, rfl⟩
     refine st_ord [2, 2, 0, 0, 0] _ rfl ?_
     exact hk _ _ [[(ba1_0, .cells #[.int .i64 r51.2.1] 3 (0, 0))], [(ba1_1, .cells #[.int .i64 r51.2.2] 3 (0, 0))]] hl54 rfl (by exact rfl)
    intro ρ' τ55 vals u Fv hl55 hI hu hv hout
    obtain rfl := hI
    refine st_gs [[(b46, .cells #[.int .i64 r38.1.1, .int .u32 r38.1.2.1, .int .i64 r38.1.2.2.1, .int .i64 r38.1.2.2.2.1, .int .i64 r38.1.2.2.2.2.1, .int .i64 (r38.1.2.2.2.2.2.1.getD 0 0), .int .i64 (r38.1.2.2.2.2.2.1.getD 1 0), .int .i64 (r38.1.2.2.2.2.2.1.getD 2 0), .int .i64 (r38.1.2.2.2.2.2.1.getD 3 0), .int .i64 (r38.1.2.2.2.2.2.1.getD 4 0), .int .i64 (r38.1.2.2.2.2.2.1.getD 5 0), v42, v43, .string r38.1.2.2.2.2.2.2.2.2.1, .string r38.1.2.2.2.2.2.2.2.2.2] 31 (0, 0))], [(b7, .cells #[v28, .int .i64 r22.2.2.1, .int .i64 r22.2.2.2] 93 (0, 0))], [(ba1_0, .cells #[.int .i64 r51.2.1] 3 (0, 0))], [(ba1_1, .cells #[.int .i64 r51.2.2] 3 (0, 0))]] rfl ?_
    refine st_env (ρ' := [(38, .bool (!r51.1)), (1, .func (.func 20) #[] #[.pointer (some ⟨ba1_0, 0, none⟩), .pointer (some ⟨ba1_1, 0, none⟩)]), (4, .int .i64 0), (5, .pointer (some ⟨b7, 0, none⟩))]) ⟨(lv4 hv 6 rfl rfl rfl), (hout 1 rfl).trans rfl, (hout 4 rfl).trans rfl, (hout 5 rfl).trans rfl, trivial⟩ ?_
    refine st_end ?_
    refine st_if rfl h (fun h => ?_) (fun h => ?_)
    ·refine st_exit rfl ?_
     obtain rfl := he11 _ h
     replace h := hA11
     refine st_ord [2, 2] _ rfl ?_
     exact hk10 _ _ _ ⟨(r51.2.1, r51.2.2), h, ((((((hl11.trans hl17).trans hl21).trans hl25).trans hl33).trans hl41).trans hl55), rfl, rfl⟩
    ·refine Z 2 rfl ?_
     refine st_ord [2, 2, 1] _ rfl ?_
     exact hn11 _ _ _ _ h ⟨((((((hl11.trans hl17).trans hl21).trans hl25).trans hl33).trans hl41).trans hl55), _, rfl, rfl, (hs29.up ((hl33.trans hl41).trans hl55))⟩
 ·refine st_exit rfl ?_
  obtain rfl := he11 _ h
  replace h := hA11
  refine st_ord [1, 1] _ rfl ?_
  exact hk10 _ _ _ ⟨(s11.1, s11.2.1), h, (hl11.trans hl17), rfl, rfl⟩
theorem log_Repair_ok {a0 : List Int} {v1 : Value} {r : List Int × Int} (h : log_Repair a0 r) (σ : Sto) (hs2 : Sl (kI .u8) σ v1 a0) :
    Does Try.prog 10 [v1] σ [] (fun v τ gs => ∃ (v35 : Value), gs = [] ∧ .tuple [v35, .int .i64 r.2].toArray = v ∧ Sl (kI .u8) τ v35 r.1) := by
 refine call_of Try.func10 Try.ntmps10 rfl rfl (fun cs fs => ?_)
 refine Z 7 rfl ?_
 refine o_alloc rfl rfl rfl z_zero3 (fun b3 => ?_)
 refine o_alloc rfl rfl rfl z_zero3 (fun b4 => ?_)
 refine ZZ 7 [1, 0] rfl rfl ?_
 obtain ⟨r5, hr6, h⟩ := h
 refine st_ord [1, 0] _ rfl ?_
 refine st_call (foot := [[(b3, .cells #[.int .i64 0] 3 (0, 0))], [(b4, .cells #[.int .i64 0] 3 (0, 0))]]) rfl rfl rfl rfl rfl rfl (callV_fn z_en18 (log_each__log_Repair_1_ok hr6 σ hs2)) ?_
 rintro vτ7 τ7 gsτ7 hl8 ⟨rfl, rfl⟩
 refine Z 2 rfl ?_
 obtain ⟨hf15, hf16, hf22, hf23, h⟩ := h
 refine st_d41 [[(b3, .cells #[.int .i64 r5.2.1] 3 (0, 0))], [(b4, .cells #[.int .i64 r5.2.2] 3 (0, 0))]] [] 7 3 [some (0, 0), none, none, none, some (0, 1), none, some (0, 2)] [none, none, none, none, none, none, none] [[none, some 9, some 13, some 2]] [.t fun _ _ => True, .v (v1), .v (.int .i64 r5.2.2), .t fun τ v => ∃ (v17 : Value), (v17 : Value) = v ∧ Sl (kI .u8) τ v17 ((a0.drop (0 : Int).toNat).take ((r5.2.2 : Int) - 0).toNat), .t fun _ _ => True, .v (.int .i64 r5.2.1), .t fun _ _ => True] [[fun τ u F => F = [], fun τ u F => ∃ (v12 : Value) (g13 : Grp), F = [g13] ∧ v12 = u ∧ Ow (kI .u8) 5 τ v12 ([] : List Int) g13, fun τ u F => ∃ (v24 : Value) (g25 : Grp), F = [g25] ∧ v24 = u ∧ Ow (kI .u8) 5 τ v24 (([] : List Int) ++ ((a0.drop (0 : Int).toNat).take ((r5.2.2 : Int) - 0).toNat)) g25, fun τ u F => ∃ (v27 : Value) (g28 : Grp), F = [g28] ∧ v27 = u ∧ Ow (kI .u8) 5 τ v27 (([] : List Int) ++ ((a0.drop (0 : Int).toNat).take ((r5.2.2 : Int) - 0).toNat)) g28]] rfl z_mix rfl ⟨fun _ _ _ _ _ => trivial, ⟨fun _ _ _ hl ⟨v17, hv, hs18⟩ => ⟨v17, hv, hs18.up hl⟩, ⟨fun _ _ _ _ _ => trivial, ⟨fun _ _ _ _ _ => trivial, trivial⟩⟩⟩⟩ ⟨⟨fun _ _ _ _ hl h => h, ⟨fun _ _ _ _ hl h => (let ⟨v12, g13, hF, hU, ho14⟩ := h; ⟨v12, g13, hF, hU, ho14.up hl⟩), ⟨fun _ _ _ _ hl h => (let ⟨v24, g25, hF, hU, ho26⟩ := h; ⟨v24, g25, hF, hU, ho26.up hl⟩), ⟨fun _ _ _ _ hl h => (let ⟨v27, g28, hF, hU, ho29⟩ := h; ⟨v27, g28, hF, hU, ho29.up hl⟩), trivial⟩⟩⟩⟩, trivial⟩ rfl rfl ?_ (allB_cons (allB_cons (allB_cons (allB_cons (allB_cons (allB_cons (allB_cons allB_nil ?_) (p4 dA)) ?_) ?_) ?_) ?_) ?_) ?_
 ·exact rfl
 ·intro ρ' τ u Fv pool rs hl hI hu hd hout hw hk
  have hI0 := hI
  obtain rfl := hI
  refine st_gs [[(b3, .cells #[.int .i64 r5.2.1] 3 (0, 0))], [(b4, .cells #[.int .i64 r5.2.2] 3 (0, 0))], pool] rfl ?_
  refine o_lit (dk := (kI .u8)) (xs := ([] : List Int)) (ps := []) (cs := []) rfl rfl rfl z_slT34 z_zero5 trivial rfl rfl rfl rfl Kd.Many.nil (fun v9 g10 ho11 => ?_)
  refine st_ord [1, 1, 0, 0] _ rfl ?_
  exact hk _ _ [g10] (Sto.Le.refl _) trivial (by exact ⟨v9, g10, rfl, rfl, ho11⟩)
 ·intro ρ' τ pool rs hl hd hout hw hk
  refine o_load (j := 1) (v := .int .i64 r5.2.2) rfl rfl rfl z_sc3 ((hout 5 rfl).trans rfl) rfl rfl ?_
  exact hk _ _ (Sto.Le.refl _) rfl
 ·intro ρ' τ pool rs hl hd hout hw hk
  obtain ⟨_, e1, rfl⟩ := hd 1 rfl _ rfl
  obtain ⟨_, e2, rfl⟩ := hd 2 rfl _ rfl
  refine o_slice (L := 0) (H := r5.2.2) rfl rfl rfl z_slT34 rfl e1 (hs2.up (hl8.trans hl)) rfl ⟨_, e2⟩ (by decide) hf15 hf16 trivial (by simp) (fun v17 hs18 => ?_)
  exact hk _ _ (Sto.Le.refl _) ⟨v17, rfl, hs18⟩
 ·intro ρ' τ u Fv pool rs hl hI hu hd hout hw hk
  obtain ⟨_, e3, v17, rfl, hs18⟩ := hd 3 rfl _ rfl
  obtain ⟨v12, g13, rfl, rfl, ho14⟩ := hI
  refine st_gs [[(b3, .cells #[.int .i64 r5.2.1] 3 (0, 0))], [(b4, .cells #[.int .i64 r5.2.2] 3 (0, 0))], g13, pool] rfl ?_
  refine st_ord [2, 0, 0, 0] _ rfl ?_
  refine o_append (dk := (kI .u8)) (xs := ([] : List Int)) (ys := ((a0.drop (0 : Int).toNat).take ((r5.2.2 : Int) - 0).toNat)) rfl rfl rfl rfl z_slT34 (hu (by decide) _ rfl) ho14 e3 (Sl.src hs18) hf22 hf23 (fun v19 g20 ho21 => ?_)
  refine st_ord [1, 1, 0, 0] _ rfl ?_
  exact hk _ _ [g20] (Sto.Le.refl _) trivial (by exact ⟨v19, g20, rfl, rfl, ho21⟩)
 ·intro ρ' τ pool rs hl hd hout hw hk
  refine o_load (j := 0) (v := .int .i64 r5.2.1) rfl rfl rfl z_sc3 ((hout 4 rfl).trans rfl) rfl rfl ?_
  exact hk _ _ (Sto.Le.refl _) rfl
 ·intro ρ' τ u Fv pool rs hl hI hu hd hout hw hk
  obtain ⟨v24, g25, rfl, rfl, ho26⟩ := hI
  refine st_gs [[(b3, .cells #[.int .i64 r5.2.1] 3 (0, 0))], [(b4, .cells #[.int .i64 r5.2.2] 3 (0, 0))], g25, pool] rfl ?_
  refine o_assign rfl rfl rfl (hu (by decide) _ rfl) ?_
  exact hk _ _ [g25] (Sto.Le.refl _) trivial (by exact ⟨v24, g25, rfl, rfl, ho26⟩)
 intro ρ' τ30 vals u Fv hl30 hI hu hv hout
 obtain ⟨v27, g28, rfl, rfl, ho29⟩ := hI
 refine st_gs [[(b3, .cells #[.int .i64 r5.2.1] 3 (0, 0))], [(b4, .cells #[.int .i64 r5.2.2] 3 (0, 0))], g28] rfl ?_
 refine st_env (ρ' := [(14, .int .i64 r5.2.1), (3, .int .i64 0), (2, v27)]) ⟨(lv4 hv 5 rfl rfl rfl), (hout 3 rfl).trans rfl, (by exact hu _ rfl), trivial⟩ ?_
 refine Z 2 rfl ?_
 refine st_ord [2, 0, 0] _ rfl ?_
 refine st_freeze (fun τ31 hl32 hg33 => ?_)
 have hs34 := ho29.freeze hl32 hg33
 refine st_ord [] _ rfl ?_
 obtain rfl := Eq.symm h
 exact st_ret (gs' := []) Try.func10 rfl (List.Sublist.refl _) ((hl8.trans hl30).trans hl32) ⟨_, rfl, rfl, hs34⟩
theorem law34_LogCuts_ok {a0 : List (Int × Int × Int × Int × (Int × List Int × List (Int × Int) × List Int × ByteArray × ByteArray))} {a1 : List (Int × Int × Int × Int × (Int × List Int × List (Int × Int) × List Int × ByteArray × ByteArray))} {v1 : Value} {v3 : Value} {r : Bool} (h : law34_LogCuts a0 a1 r) (σ : Sto) (hs2 : Sl (kP (kI .i64) (kP (kI .u32) (kP (kI .i64) (kP (kI .i64) (kP (kI .i64) (kP (kA .i64 6) (kP (kSl (kP (kI .i64) (kI .i64))) (kP (kSl (kI .i64)) (kP kS kS))))))))) σ v1 a0) (hs4 : Sl (kP (kI .i64) (kP (kI .u32) (kP (kI .i64) (kP (kI .i64) (kP (kI .i64) (kP (kA .i64 6) (kP (kSl (kP (kI .i64) (kI .i64))) (kP (kSl (kI .i64)) (kP kS kS))))))))) σ v3 a1) :
    Does Try.prog 3 [v1, v3] σ [] (fun v τ gs => gs = [] ∧ .bool r = v) := by
 refine call_of Try.func3 Try.ntmps3 rfl rfl (fun cs fs => ?_)
 refine Z 10 rfl ?_
 refine st_cut (fun ρ τ5 gs => ∃ (s5 : (List (Int × Int × Int × Int × (Int × List Int × List (Int × Int) × List Int × ByteArray × ByteArray)))) (v6 : Value) (g7 : Grp), law34_LogCuts_j1 a1 s5 r ∧ σ.Le τ5 ∧ ESub ρ [(1, v3), (4, .bool false), (5, v6), (6, .slice none 0 0)] ∧ gs = [g7] ∧ Ow (kP (kI .i64) (kP (kI .u32) (kP (kI .i64) (kP (kI .i64) (kP (kI .i64) (kP (kA .i64 6) (kP (kSl (kP (kI .i64) (kI .i64))) (kP (kSl (kI .i64)) (kP kS kS))))))))) 31 τ5 v6 s5 g7) ?_ (fun hk5 => ?_)
 ·rintro ρ5 τ5 gs5 ⟨s5, v6, g7, h, hl5, hρ, rfl, ho8⟩
  refine st_es hρ ?_
  refine st_seq ?_
  refine st_cut (fun ρ τ9 gs => ∃ (s9 : (List (Int × Int × Int × Int × (Int × List Int × List (Int × Int) × List Int × ByteArray × ByteArray)))) (v10 : Value) (g11 : Grp), law34_LogCuts_j2 s5 s9 r ∧ τ5.Le τ9 ∧ ESub ρ [(4, .bool false), (5, v6), (6, v10)] ∧ gs = [g7, g11] ∧ Ow (kP (kI .i64) (kP (kI .u32) (kP (kI .i64) (kP (kI .i64) (kP (kI .i64) (kP (kA .i64 6) (kP (kSl (kP (kI .i64) (kI .i64))) (kP (kSl (kI .i64)) (kP kS kS))))))))) 31 τ9 v10 s9 g11) ?_ (fun hk9 => ?_)
  ·rintro ρ9 τ9 gs9 ⟨s9, v10, g11, h, hl9, hρ, rfl, ho12⟩
   refine st_es hρ ?_
   refine Z 3 rfl ?_
   obtain ⟨r18, hr19, h⟩ := h
   refine st_freeze (fun τ13 hl14 hg15 => ?_)
   have hs16 := ho8.freeze (hl9.trans hl14) hg15
   refine st_call (foot := []) rfl rfl rfl rfl rfl rfl (callV_fn z_en6 (log_Bytes_ok hr19 τ13 hs16)) ?_
   rintro vτ20 τ20 gsτ20 hl21 ⟨v22, rfl, rfl, hs23⟩
   refine Z 9 rfl ?_
   obtain ⟨r29, hr30, h⟩ := h
   refine st_freeze (fun τ24 hl25 hg26 => ?_)
   have hs27 := ho12.freeze ((hl14.trans hl21).trans hl25) hg26
   refine st_call (foot := []) rfl rfl rfl rfl rfl rfl (callV_fn z_en6 (log_Bytes_ok hr30 τ24 hs27)) ?_
   rintro vτ31 τ31 gsτ31 hl32 ⟨v33, rfl, rfl, hs34⟩
   refine Z 8 rfl ?_
   refine o_lit (dk := (kP (kI .i64) (kP (kI .u32) (kP (kI .i64) (kP (kI .i64) (kP (kI .i64) (kP (kA .i64 6) (kP (kSl (kP (kI .i64) (kI .i64))) (kP (kSl (kI .i64)) (kP kS kS)))))))))) (xs := ([] : List (Int × Int × Int × Int × (Int × List Int × List (Int × Int) × List Int × ByteArray × ByteArray)))) (ps := []) (cs := []) rfl rfl rfl z_slT22 z_zero31 trivial rfl rfl rfl rfl Kd.Many.nil (fun v35 g36 ho37 => ?_)
   refine o_move rfl rfl rfl rfl ?_
   obtain ⟨hf41, hf42, h⟩ := h
   refine o_append (dk := (kP (kI .i64) (kP (kI .u32) (kP (kI .i64) (kP (kI .i64) (kP (kI .i64) (kP (kA .i64 6) (kP (kSl (kP (kI .i64) (kI .i64))) (kP (kSl (kI .i64)) (kP kS kS)))))))))) (xs := ([] : List (Int × Int × Int × Int × (Int × List Int × List (Int × Int) × List Int × ByteArray × ByteArray)))) (ys := s5) rfl rfl rfl rfl z_slT22 rfl ho37 rfl (Sl.src (hs16.up ((hl21.trans hl25).trans hl32))) hf41 hf42 (fun v38 g39 ho40 => ?_)
   refine o_move rfl rfl rfl rfl ?_
   obtain ⟨hf46, hf47, h⟩ := h
   refine o_append (dk := (kP (kI .i64) (kP (kI .u32) (kP (kI .i64) (kP (kI .i64) (kP (kI .i64) (kP (kA .i64 6) (kP (kSl (kP (kI .i64) (kI .i64))) (kP (kSl (kI .i64)) (kP kS kS)))))))))) (xs := (([] : List (Int × Int × Int × Int × (Int × List Int × List (Int × Int) × List Int × ByteArray × ByteArray))) ++ s5)) (ys := s9) rfl rfl rfl rfl z_slT22 rfl ho40 rfl (Sl.src (hs27.up hl32)) hf46 hf47 (fun v43 g44 ho45 => ?_)
   obtain ⟨r52, hr53, h⟩ := h
   refine st_freeze (fun τ48 hl49 hg50 => ?_)
   have hs51 := ho45.freeze hl49 hg50
   refine st_call (foot := []) rfl rfl rfl rfl rfl rfl (callV_fn z_en6 (log_Bytes_ok hr53 τ48 hs51)) ?_
   rintro vτ54 τ54 gsτ54 hl55 ⟨v56, rfl, rfl, hs57⟩
   refine Z 8 rfl ?_
   refine st_cut (fun ρ τ58 gs => ∃ (s58 : Bool), law34_LogCuts_j3 s5 r18 s58 r ∧ τ54.Le τ58 ∧ ESub ρ [(4, .bool false), (5, v6), (11, v22), (105, .bool s58)] ∧ gs = []) ?_ (fun hk58 => ?_)
   ·rintro ρ58 τ58 gs58 ⟨s58, h, hl58, hρ, rfl⟩
    refine st_es hρ ?_
    refine st_if rfl h (fun h => ?_) (fun h => ?_)
    ·refine Z 4 rfl ?_
     obtain rfl := Eq.symm h
     exact st_ret (gs' := []) Try.func3 rfl (List.Sublist.refl _) ((((((((hl5.trans hl9).trans hl14).trans hl21).trans hl25).trans hl32).trans hl49).trans hl55).trans hl58) ⟨rfl, rfl⟩
    ·refine Z 5 rfl ?_
     refine o_lenI rfl rfl rfl z_slT34 rfl (hs23.up ((((hl25.trans hl32).trans hl49).trans hl55).trans hl58)) ?_
     refine Z 2 rfl ?_
     refine st_if rfl h (fun h => ?_) (fun h => ?_)
     ·refine st_seq ?_
      refine st_cut (fun ρ τ59 gs => ∃ (s59 : Bool), law34_LogCuts_j4 s59 r ∧ τ58.Le τ59 ∧ ESub ρ [(4, .bool s59), (5, v6), (11, v22)] ∧ gs = []) ?_ (fun hk59 => ?_)
      ·rintro ρ59 τ59 gs59 ⟨s59, h, hl59, hρ, rfl⟩
       refine st_es hρ ?_
       obtain rfl := Eq.symm h
       exact st_ret (gs' := []) Try.func3 rfl (List.Sublist.refl _) (((((((((hl5.trans hl9).trans hl14).trans hl21).trans hl25).trans hl32).trans hl49).trans hl55).trans hl58).trans hl59) ⟨rfl, rfl⟩
      refine st_region ?_
      obtain ⟨r60, hr61, h⟩ := h
      refine st_call (foot := []) rfl rfl rfl rfl rfl rfl (callV_fn z_en8 (law34_known_ok hr61 τ58)) ?_
      rintro vτ62 τ62 gsτ62 hl63 ⟨rfl, rfl⟩
      refine o_mif rfl rfl rfl rfl h (fun h => ?_) (fun h => ?_)
      ·refine o_move rfl rfl rfl rfl ?_
       refine o_lenI rfl rfl rfl z_slT22 rfl (hs16.up ((((((hl21.trans hl25).trans hl32).trans hl49).trans hl55).trans hl58).trans hl63)) ?_
       refine Z 4 rfl ?_
       exact hk59 _ _ _ ⟨(decide ((s5.length : Int) = 0)), h, hl63, rfl, rfl⟩
      ·refine Z 6 rfl ?_
       exact hk59 _ _ _ ⟨false, h, hl63, rfl, rfl⟩
     ·refine Z 5 rfl ?_
      refine o_lenI rfl rfl rfl z_slT34 rfl (hs23.up ((((hl25.trans hl32).trans hl49).trans hl55).trans hl58)) ?_
      refine o_ibin (v := .int .i64 (IntKind.i64.wrap ((r18.1.length : Int) - 1))) rfl rfl rfl rfl rfl rfl ?_
      obtain ⟨hf64, hf65, h⟩ := h
      refine o_slice (L := 0) (H := (IntKind.i64.wrap ((r18.1.length : Int) - 1))) rfl rfl rfl z_slT34 rfl rfl (hs23.up ((((hl25.trans hl32).trans hl49).trans hl55).trans hl58)) rfl ⟨_, rfl⟩ (by decide) hf64 hf65 trivial (by simp) (fun v66 hs67 => ?_)
      obtain ⟨r68, hr69, h⟩ := h
      refine st_call (foot := []) rfl rfl rfl rfl rfl rfl (callV_fn z_en9 (log_Parse_ok hr69 τ58 hs67)) ?_
      rintro vτ70 τ70 gsτ70 hl71 ⟨v72, rfl, rfl, hs73⟩
      refine Z 10 rfl ?_
      refine o_lenI rfl rfl rfl z_slT34 rfl (hs23.up (((((hl25.trans hl32).trans hl49).trans hl55).trans hl58).trans hl71)) ?_
      refine o_ibin (v := .int .i64 (IntKind.i64.wrap ((r18.1.length : Int) - 1))) rfl rfl rfl rfl rfl rfl ?_
      obtain ⟨hf74, hf75, h⟩ := h
      refine o_slice (L := 0) (H := (IntKind.i64.wrap ((r18.1.length : Int) - 1))) rfl rfl rfl z_slT34 rfl rfl (hs23.up (((((hl25.trans hl32).trans hl49).trans hl55).trans hl58).trans hl71)) rfl ⟨_, rfl⟩ (by decide) hf74 hf75 trivial (by simp) (fun v76 hs77 => ?_)
      obtain ⟨r78, hr79, h⟩ := h
      refine st_call (foot := []) rfl rfl rfl rfl rfl rfl (callV_fn z_en10 (log_Repair_ok hr79 τ70 hs77)) ?_
      rintro vτ80 τ80 gsτ80 hl81 ⟨v82, rfl, rfl, hs83⟩
      refine Z 10 rfl ?_
      refine o_lenI rfl rfl rfl z_slT22 rfl (hs16.up (((((((hl21.trans hl25).trans hl32).trans hl49).trans hl55).trans hl58).trans hl71).trans hl81)) ?_
      refine o_ibin (v := .int .i64 (IntKind.i64.wrap ((s5.length : Int) - 1))) rfl rfl rfl rfl rfl rfl ?_
      obtain ⟨hf84, hf85, h⟩ := h
      refine o_slice (L := 0) (H := (IntKind.i64.wrap ((s5.length : Int) - 1))) rfl rfl rfl z_slT22 rfl rfl (hs16.up (((((((hl21.trans hl25).trans hl32).trans hl49).trans hl55).trans hl58).trans hl71).trans hl81)) rfl ⟨_, rfl⟩ (by decide) hf84 hf85 trivial (by simp) (fun v86 hs87 => ?_)
      obtain ⟨r88, hr89, h⟩ := h
      refine st_call (foot := []) rfl rfl rfl rfl rfl rfl (callV_fn z_en6 (log_Bytes_ok hr89 τ80 hs87)) ?_
      rintro vτ90 τ90 gsτ90 hl91 ⟨v92, rfl, rfl, hs93⟩
      refine Z 7 rfl ?_
      refine st_cut (fun ρ τ94 gs => ∃ (s94 : Bool), law34_LogCuts_j5 s94 r ∧ τ90.Le τ94 ∧ ESub ρ [(4, .bool s94)] ∧ gs = []) ?_ (fun hk94 => ?_)
      ·rintro ρ94 τ94 gs94 ⟨s94, h, hl94, hρ, rfl⟩
       refine st_es hρ ?_
       obtain rfl := Eq.symm h
       exact st_ret (gs' := []) Try.func3 rfl (List.Sublist.refl _) ((((((((((((hl5.trans hl9).trans hl14).trans hl21).trans hl25).trans hl32).trans hl49).trans hl55).trans hl58).trans hl71).trans hl81).trans hl91).trans hl94) ⟨rfl, rfl⟩
      refine st_region ?_
      obtain ⟨r95, hr96, h⟩ := h
      refine st_call (foot := []) rfl rfl rfl rfl rfl rfl (callV_fn z_en8 (law34_known_ok hr96 τ90)) ?_
      rintro vτ97 τ97 gsτ97 hl98 ⟨rfl, rfl⟩
      refine o_mif rfl rfl rfl rfl h (fun h => ?_) (fun h => ?_)
      ·refine Z 3 rfl ?_
       refine o_mif rfl rfl rfl rfl h (fun h => ?_) (fun h => ?_)
       ·refine Z 2 rfl ?_
        refine o_lenI rfl rfl rfl z_slT22 rfl (hs16.up (((((((((hl21.trans hl25).trans hl32).trans hl49).trans hl55).trans hl58).trans hl71).trans hl81).trans hl91).trans hl98)) ?_
        refine Z 3 rfl ?_
        refine o_mif rfl rfl rfl rfl h (fun h => ?_) (fun h => ?_)
        ·refine Z 2 rfl ?_
         obtain ⟨r99, hr100, h⟩ := h
         refine st_call (foot := []) rfl rfl rfl rfl rfl rfl (callV_fn z_en7 (ref01_Same_ok hr100 τ97 (hs83.up (hl91.trans hl98)) (hs93.up hl98))) ?_
         rintro vτ101 τ101 gsτ101 hl102 ⟨rfl, rfl⟩
         refine Z 3 rfl ?_
         exact hk94 _ _ _ ⟨r99, h, (hl98.trans hl102), rfl, rfl⟩
        ·refine Z 6 rfl ?_
         exact hk94 _ _ _ ⟨false, h, hl98, rfl, rfl⟩
       ·refine Z 13 rfl ?_
        exact hk94 _ _ _ ⟨false, h, hl98, rfl, rfl⟩
      ·refine Z 17 rfl ?_
       exact hk94 _ _ _ ⟨false, h, hl98, rfl, rfl⟩
   refine Z 3 rfl ?_
   refine o_mif rfl rfl rfl rfl h (fun h => ?_) (fun h => ?_)
   ·refine Z 18 rfl ?_
    exact hk58 _ _ _ ⟨true, h, (Sto.Le.refl _), rfl, rfl⟩
   ·refine Z 3 rfl ?_
    refine o_mif rfl rfl rfl rfl h (fun h => ?_) (fun h => ?_)
    ·refine Z 14 rfl ?_
     exact hk58 _ _ _ ⟨true, h, (Sto.Le.refl _), rfl, rfl⟩
    ·refine Z 3 rfl ?_
     refine o_mif rfl rfl rfl rfl h (fun h => ?_) (fun h => ?_)
     ·refine Z 10 rfl ?_
      exact hk58 _ _ _ ⟨true, h, (Sto.Le.refl _), rfl, rfl⟩
     ·refine o_move rfl rfl rfl rfl ?_
      refine o_lit (dk := (kI .u8)) (xs := ([] : List Int)) (ps := []) (cs := []) rfl rfl rfl z_slT34 z_zero5 trivial rfl rfl rfl rfl Kd.Many.nil (fun v103 g104 ho105 => ?_)
      refine o_move rfl rfl rfl rfl ?_
      obtain ⟨hf109, hf110, h⟩ := h
      refine o_append (dk := (kI .u8)) (xs := ([] : List Int)) (ys := r18.1) rfl rfl rfl rfl z_slT34 rfl ho105 rfl (Sl.src (hs23.up (((hl25.trans hl32).trans hl49).trans hl55))) hf109 hf110 (fun v106 g107 ho108 => ?_)
      refine o_move rfl rfl rfl rfl ?_
      obtain ⟨hf114, hf115, h⟩ := h
      refine o_append (dk := (kI .u8)) (xs := (([] : List Int) ++ r18.1)) (ys := r29.1) rfl rfl rfl rfl z_slT34 rfl ho108 rfl (Sl.src (hs34.up (hl49.trans hl55))) hf114 hf115 (fun v111 g112 ho113 => ?_)
      obtain ⟨r120, hr121, h⟩ := h
      refine st_freeze (fun τ116 hl117 hg118 => ?_)
      have hs119 := ho113.freeze hl117 hg118
      refine st_call (foot := []) rfl rfl rfl rfl rfl rfl (callV_fn z_en7 (ref01_Same_ok hr121 τ116 (hs57.up hl117) hs119)) ?_
      rintro vτ122 τ122 gsτ122 hl123 ⟨rfl, rfl⟩
      refine Z 3 rfl ?_
      exact hk58 _ _ _ ⟨(!r120), h, (hl117.trans hl123), rfl, rfl⟩
  refine Z 4 rfl ?_
  obtain ⟨e124, hL124, hA124⟩ := h
  refine st_addNil ?_
  refine st_ord [1, 0] _ rfl ?_
  refine st_loop hL124 (fun (s124 : (List (Int × Int × Int × Int × (Int × List Int × List (Int × Int) × List Int × ByteArray × ByteArray))) × Int) ρ τ124 gs => τ5.Le τ124 ∧ ∃ (v125 : Value) (g126 : Grp), ESub ρ [(1, v3), (4, .bool false), (5, v6), (6, v125), (9, .int .i64 s124.2)] ∧ gs = [g7, g126] ∧ Ow (kP (kI .i64) (kP (kI .u32) (kP (kI .i64) (kP (kI .i64) (kP (kI .i64) (kP (kA .i64 6) (kP (kSl (kP (kI .i64) (kI .i64))) (kP (kSl (kI .i64)) (kP kS kS))))))))) 31 τ124 v125 s124.1 g126) ⟨Sto.Le.refl _, _, _, rfl, rfl, Ow.nil⟩ ?_
  rintro s124 o124 h he124 ρ124 τ124 gs124 ⟨hl124, v125, g126, hρ, rfl, ho127⟩ hn124
  refine st_es hρ ?_
  refine Z 2 rfl ?_
  refine st_cut (fun ρ τ128 gs => ∃ (s128 : Bool), law34_LogCuts_j7 a1 s124 s128 o124 ∧ τ124.Le τ128 ∧ ESub ρ [(1, v3), (4, .bool false), (5, v6), (6, v125), (9, .int .i64 s124.2), (52, .bool s128)] ∧ gs = [g7, g126]) ?_ (fun hk128 => ?_)
  ·rintro ρ128 τ128 gs128 ⟨s128, h, hl128, hρ, rfl⟩
   refine st_es hρ ?_
   refine st_if rfl h (fun h => ?_) (fun h => ?_)
   ·refine Z 2 rfl ?_
    refine st_cut (fun ρ τ129 gs => ∃ (s129 : (List (Int × Int × Int × Int × (Int × List Int × List (Int × Int) × List Int × ByteArray × ByteArray)))) (v130 : Value) (g131 : Grp), law34_LogCuts_j8 s124 s129 o124 ∧ τ128.Le τ129 ∧ ESub ρ [(1, v3), (4, .bool false), (5, v6), (6, v130), (9, .int .i64 s124.2)] ∧ gs = [g7, g131] ∧ Ow (kP (kI .i64) (kP (kI .u32) (kP (kI .i64) (kP (kI .i64) (kP (kI .i64) (kP (kA .i64 6) (kP (kSl (kP (kI .i64) (kI .i64))) (kP (kSl (kI .i64)) (kP kS kS))))))))) 31 τ129 v130 s129 g131) ?_ (fun hk129 => ?_)
    ·rintro ρ129 τ129 gs129 ⟨s129, v130, g131, h, hl129, hρ, rfl, ho132⟩
     refine st_es hρ ?_
     refine Z 5 rfl ?_
     exact hn124 _ _ _ _ h ⟨((hl124.trans hl128).trans hl129), _, _, rfl, rfl, ho132⟩
    refine Z 5 rfl ?_
    obtain ⟨q133, hf134, h⟩ := h
    refine o_index rfl rfl rfl z_slT22 rfl rfl (hs4.up ((hl5.trans hl124).trans hl128)) rfl hf134 (fun b135 of136 vs hc139 hrep => ?_)
    obtain ⟨_, _, rfl, rfl, ⟨_, _, rfl, rfl, ⟨_, _, rfl, rfl, ⟨_, _, rfl, rfl, ⟨_, _, rfl, rfl, ⟨_, _, rfl, rfl, ⟨_, _, rfl, ⟨v137, rfl, hs140⟩, ⟨_, _, rfl, ⟨v138, rfl, hs141⟩, ⟨_, _, rfl, rfl, rfl⟩⟩⟩⟩⟩⟩⟩⟩⟩ := hrep
    refine o_loadIN (vs := [.int .i64 q133.1, .int .u32 q133.2.1, .int .i64 q133.2.2.1, .int .i64 q133.2.2.2.1, .int .i64 q133.2.2.2.2.1, .int .i64 (q133.2.2.2.2.2.1.getD 0 0), .int .i64 (q133.2.2.2.2.2.1.getD 1 0), .int .i64 (q133.2.2.2.2.2.1.getD 2 0), .int .i64 (q133.2.2.2.2.2.1.getD 3 0), .int .i64 (q133.2.2.2.2.2.1.getD 4 0), .int .i64 (q133.2.2.2.2.2.1.getD 5 0), v137, v138, .string q133.2.2.2.2.2.2.2.2.1, .string q133.2.2.2.2.2.2.2.2.2]) rfl rfl rfl z_agg31 rfl rfl (celn_part 0 rfl hc139) ?_
    obtain ⟨r142, hr143, h⟩ := h
    refine st_call (foot := []) rfl rfl rfl rfl rfl rfl (callV_fn z_en4 (law23_Cut_ok hr143 τ128 hs140 hs141)) ?_
    rintro vτ144 τ144 gsτ144 hl145 ⟨v146, v147, rfl, rfl, hs148, hs149⟩
    refine o_alloc rfl rfl rfl z_zero31 (fun b150 => ?_)
    refine o_store (j := 0) (vs := [.int .i64 r142.1, .int .u32 r142.2.1, .int .i64 r142.2.2.1, .int .i64 r142.2.2.2.1, .int .i64 r142.2.2.2.2.1, .int .i64 (r142.2.2.2.2.2.1.getD 0 0), .int .i64 (r142.2.2.2.2.2.1.getD 1 0), .int .i64 (r142.2.2.2.2.2.1.getD 2 0), .int .i64 (r142.2.2.2.2.2.1.getD 3 0), .int .i64 (r142.2.2.2.2.2.1.getD 4 0), .int .i64 (r142.2.2.2.2.2.1.getD 5 0), v146, v147, .string r142.2.2.2.2.2.2.2.2.1, .string r142.2.2.2.2.2.2.2.2.2]) (cs' := [.int .i64 r142.1, .int .u32 r142.2.1, .int .i64 r142.2.2.1, .int .i64 r142.2.2.2.1, .int .i64 r142.2.2.2.2.1, .int .i64 (r142.2.2.2.2.2.1.getD 0 0), .int .i64 (r142.2.2.2.2.2.1.getD 1 0), .int .i64 (r142.2.2.2.2.2.1.getD 2 0), .int .i64 (r142.2.2.2.2.2.1.getD 3 0), .int .i64 (r142.2.2.2.2.2.1.getD 4 0), .int .i64 (r142.2.2.2.2.2.1.getD 5 0), v146, v147, .string r142.2.2.2.2.2.2.2.2.1, .string r142.2.2.2.2.2.2.2.2.2]) rfl rfl rfl z_size31 rfl rfl rfl (ones_cons rfl (ones_cons rfl (ones_cons rfl (ones_cons rfl (ones_cons rfl (ones_cons rfl (ones_cons rfl (ones_cons rfl (ones_cons rfl (ones_cons rfl (ones_cons rfl (ones_cons hs148.one' (ones_cons hs149.one' (ones_cons rfl (ones_cons rfl ones_nil))))))))))))))) rfl rfl rfl ?_
    refine st_gs [[(b150, .cells #[.int .i64 r142.1, .int .u32 r142.2.1, .int .i64 r142.2.2.1, .int .i64 r142.2.2.2.1, .int .i64 r142.2.2.2.2.1, .int .i64 (r142.2.2.2.2.2.1.getD 0 0), .int .i64 (r142.2.2.2.2.2.1.getD 1 0), .int .i64 (r142.2.2.2.2.2.1.getD 2 0), .int .i64 (r142.2.2.2.2.2.1.getD 3 0), .int .i64 (r142.2.2.2.2.2.1.getD 4 0), .int .i64 (r142.2.2.2.2.2.1.getD 5 0), v146, v147, .string r142.2.2.2.2.2.2.2.2.1, .string r142.2.2.2.2.2.2.2.2.2] 31 (0, 0))], g7, g126] rfl ?_
    refine ZZ 4 [0] rfl rfl ?_
    obtain ⟨r151, hr152, h⟩ := h
    refine st_call (foot := []) rfl rfl rfl rfl rfl rfl (callV_fn z_en5 (log_Check_ok hr152 τ144 hs148 hs149)) ?_
    rintro vτ153 τ153 gsτ153 hl154 ⟨rfl, rfl⟩
    refine Z 2 rfl ?_
    refine st_if rfl h (fun h => ?_) (fun h => ?_)
    ·refine ZZ 3 [0] rfl rfl ?_
     refine o_lit (dk := (kP (kI .i64) (kP (kI .u32) (kP (kI .i64) (kP (kI .i64) (kP (kI .i64) (kP (kA .i64 6) (kP (kSl (kP (kI .i64) (kI .i64))) (kP (kSl (kI .i64)) (kP kS kS)))))))))) (xs := [r142]) (ps := [(0, [.int .i64 r142.1, .int .u32 r142.2.1, .int .i64 r142.2.2.1, .int .i64 r142.2.2.2.1, .int .i64 r142.2.2.2.2.1, .int .i64 (r142.2.2.2.2.2.1.getD 0 0), .int .i64 (r142.2.2.2.2.2.1.getD 1 0), .int .i64 (r142.2.2.2.2.2.1.getD 2 0), .int .i64 (r142.2.2.2.2.2.1.getD 3 0), .int .i64 (r142.2.2.2.2.2.1.getD 4 0), .int .i64 (r142.2.2.2.2.2.1.getD 5 0), v146, v147, .string r142.2.2.2.2.2.2.2.2.1, .string r142.2.2.2.2.2.2.2.2.2])]) (cs := [.int .i64 r142.1, .int .u32 r142.2.1, .int .i64 r142.2.2.1, .int .i64 r142.2.2.2.1, .int .i64 r142.2.2.2.2.1, .int .i64 (r142.2.2.2.2.2.1.getD 0 0), .int .i64 (r142.2.2.2.2.2.1.getD 1 0), .int .i64 (r142.2.2.2.2.2.1.getD 2 0), .int .i64 (r142.2.2.2.2.2.1.getD 3 0), .int .i64 (r142.2.2.2.2.2.1.getD 4 0), .int .i64 (r142.2.2.2.2.2.1.getD 5 0), v146, v147, .string r142.2.2.2.2.2.2.2.2.1, .string r142.2.2.2.2.2.2.2.2.2]) rfl rfl rfl z_slT22 z_zero31 ⟨rfl, ⟨_, rfl, rfl⟩, trivial⟩ rfl rfl rfl rfl (Kd.Many.cons (d := (kP (kI .i64) (kP (kI .u32) (kP (kI .i64) (kP (kI .i64) (kP (kI .i64) (kP (kA .i64 6) (kP (kSl (kP (kI .i64) (kI .i64))) (kP (kSl (kI .i64)) (kP kS kS)))))))))) (x := r142) (a := [.int .i64 r142.1, .int .u32 r142.2.1, .int .i64 r142.2.2.1, .int .i64 r142.2.2.2.1, .int .i64 r142.2.2.2.2.1, .int .i64 (r142.2.2.2.2.2.1.getD 0 0), .int .i64 (r142.2.2.2.2.2.1.getD 1 0), .int .i64 (r142.2.2.2.2.2.1.getD 2 0), .int .i64 (r142.2.2.2.2.2.1.getD 3 0), .int .i64 (r142.2.2.2.2.2.1.getD 4 0), .int .i64 (r142.2.2.2.2.2.1.getD 5 0), v146, v147, .string r142.2.2.2.2.2.2.2.2.1, .string r142.2.2.2.2.2.2.2.2.2]) ⟨[.int .i64 r142.1], _, rfl, rfl, ⟨[.int .u32 r142.2.1], _, rfl, rfl, ⟨[.int .i64 r142.2.2.1], _, rfl, rfl, ⟨[.int .i64 r142.2.2.2.1], _, rfl, rfl, ⟨[.int .i64 r142.2.2.2.2.1], _, rfl, rfl, ⟨[.int .i64 (r142.2.2.2.2.2.1.getD 0 0), .int .i64 (r142.2.2.2.2.2.1.getD 1 0), .int .i64 (r142.2.2.2.2.2.1.getD 2 0), .int .i64 (r142.2.2.2.2.2.1.getD 3 0), .int .i64 (r142.2.2.2.2.2.1.getD 4 0), .int .i64 (r142.2.2.2.2.2.1.getD 5 0)], _, rfl, rfl, ⟨[v146], _, rfl, ⟨_, rfl, (hs148.up hl154)⟩, ⟨[v147], _, rfl, ⟨_, rfl, (hs149.up hl154)⟩, ⟨[.string r142.2.2.2.2.2.2.2.2.1], _, rfl, rfl, rfl⟩⟩⟩⟩⟩⟩⟩⟩⟩ Kd.Many.nil) (fun v155 g156 ho157 => ?_)
     obtain ⟨hf161, hf162, h⟩ := h
     refine st_ord [3, 0, 0, 0] _ rfl ?_
     refine o_append (dk := (kP (kI .i64) (kP (kI .u32) (kP (kI .i64) (kP (kI .i64) (kP (kI .i64) (kP (kA .i64 6) (kP (kSl (kP (kI .i64) (kI .i64))) (kP (kSl (kI .i64)) (kP kS kS)))))))))) (xs := s124.1) (ys := [r142]) rfl rfl rfl rfl z_slT22 rfl (ho127.up ((hl128.trans hl145).trans hl154)) rfl (Ow.src (j := 1) ho157 rfl) hf161 hf162 (fun v158 g159 ho160 => ?_)
     refine Z 3 rfl ?_
     refine st_ord [3, 0] _ rfl ?_
     exact hk129 _ _ _ ⟨(s124.1 ++ [r142]), _, _, h, (hl145.trans hl154), rfl, rfl, ho160⟩
    ·refine Z 2 rfl ?_
     refine st_ord [1, 1] _ rfl ?_
     exact hk129 _ _ _ ⟨s124.1, _, _, h, (hl145.trans hl154), rfl, rfl, (ho127.up ((hl128.trans hl145).trans hl154))⟩
   ·refine st_exit rfl ?_
    obtain rfl := he124 _ h
    replace h := hA124
    exact hk9 _ _ _ ⟨s124.1, _, _, h, (hl124.trans hl128), rfl, rfl, (ho127.up hl128)⟩
  refine Z 3 rfl ?_
  refine o_lenI rfl rfl rfl z_slT22 rfl (hs4.up (hl5.trans hl124)) ?_
  refine o_ibin (v := .bool (decide (s124.2 < (a1.length : Int)))) rfl rfl rfl rfl rfl rfl ?_
  refine o_mif rfl rfl rfl rfl h (fun h => ?_) (fun h => ?_)
  ·refine Z 4 rfl ?_
   exact hk128 _ _ _ ⟨(decide (s124.2 < 20)), h, (Sto.Le.refl _), rfl, rfl⟩
  ·refine Z 4 rfl ?_
   exact hk128 _ _ _ ⟨false, h, (Sto.Le.refl _), rfl, rfl⟩
 refine Z 4 rfl ?_
 obtain ⟨e164, hL164, hA164⟩ := h
 refine st_addNil ?_
 refine st_loop hL164 (fun (s164 : (List (Int × Int × Int × Int × (Int × List Int × List (Int × Int) × List Int × ByteArray × ByteArray))) × Int) ρ τ164 gs => σ.Le τ164 ∧ ∃ (v165 : Value) (g166 : Grp), ESub ρ [(0, v1), (1, v3), (4, .bool false), (5, v165), (6, .slice none 0 0), (7, .int .i64 s164.2)] ∧ gs = [g166] ∧ Ow (kP (kI .i64) (kP (kI .u32) (kP (kI .i64) (kP (kI .i64) (kP (kI .i64) (kP (kA .i64 6) (kP (kSl (kP (kI .i64) (kI .i64))) (kP (kSl (kI .i64)) (kP kS kS))))))))) 31 τ164 v165 s164.1 g166) ⟨Sto.Le.refl _, _, _, rfl, rfl, Ow.nil⟩ ?_
 rintro s164 o164 h he164 ρ164 τ164 gs164 ⟨hl164, v165, g166, hρ, rfl, ho167⟩ hn164
 refine st_es hρ ?_
 refine Z 2 rfl ?_
 refine st_cut (fun ρ τ168 gs => ∃ (s168 : Bool), law34_LogCuts_j10 a0 s164 s168 o164 ∧ τ164.Le τ168 ∧ ESub ρ [(0, v1), (1, v3), (4, .bool false), (5, v165), (6, .slice none 0 0), (7, .int .i64 s164.2), (30, .bool s168)] ∧ gs = [g166]) ?_ (fun hk168 => ?_)
 ·rintro ρ168 τ168 gs168 ⟨s168, h, hl168, hρ, rfl⟩
  refine st_es hρ ?_
  refine st_if rfl h (fun h => ?_) (fun h => ?_)
  ·refine Z 2 rfl ?_
   refine st_cut (fun ρ τ169 gs => ∃ (s169 : (List (Int × Int × Int × Int × (Int × List Int × List (Int × Int) × List Int × ByteArray × ByteArray)))) (v170 : Value) (g171 : Grp), law34_LogCuts_j11 s164 s169 o164 ∧ τ168.Le τ169 ∧ ESub ρ [(0, v1), (1, v3), (4, .bool false), (5, v170), (6, .slice none 0 0), (7, .int .i64 s164.2)] ∧ gs = [g171] ∧ Ow (kP (kI .i64) (kP (kI .u32) (kP (kI .i64) (kP (kI .i64) (kP (kI .i64) (kP (kA .i64 6) (kP (kSl (kP (kI .i64) (kI .i64))) (kP (kSl (kI .i64)) (kP kS kS))))))))) 31 τ169 v170 s169 g171) ?_ (fun hk169 => ?_)
   ·rintro ρ169 τ169 gs169 ⟨s169, v170, g171, h, hl169, hρ, rfl, ho172⟩
    refine st_es hρ ?_
    refine Z 5 rfl ?_
    exact hn164 _ _ _ _ h ⟨((hl164.trans hl168).trans hl169), _, _, rfl, rfl, ho172⟩
   refine Z 5 rfl ?_
   obtain ⟨q173, hf174, h⟩ := h
   refine o_index rfl rfl rfl z_slT22 rfl rfl (hs2.up (hl164.trans hl168)) rfl hf174 (fun b175 of176 vs hc179 hrep => ?_)
   obtain ⟨_, _, rfl, rfl, ⟨_, _, rfl, rfl, ⟨_, _, rfl, rfl, ⟨_, _, rfl, rfl, ⟨_, _, rfl, rfl, ⟨_, _, rfl, rfl, ⟨_, _, rfl, ⟨v177, rfl, hs180⟩, ⟨_, _, rfl, ⟨v178, rfl, hs181⟩, ⟨_, _, rfl, rfl, rfl⟩⟩⟩⟩⟩⟩⟩⟩⟩ := hrep
   refine o_loadIN (vs := [.int .i64 q173.1, .int .u32 q173.2.1, .int .i64 q173.2.2.1, .int .i64 q173.2.2.2.1, .int .i64 q173.2.2.2.2.1, .int .i64 (q173.2.2.2.2.2.1.getD 0 0), .int .i64 (q173.2.2.2.2.2.1.getD 1 0), .int .i64 (q173.2.2.2.2.2.1.getD 2 0), .int .i64 (q173.2.2.2.2.2.1.getD 3 0), .int .i64 (q173.2.2.2.2.2.1.getD 4 0), .int .i64 (q173.2.2.2.2.2.1.getD 5 0), v177, v178, .string q173.2.2.2.2.2.2.2.2.1, .string q173.2.2.2.2.2.2.2.2.2]) rfl rfl rfl z_agg31 rfl rfl (celn_part 0 rfl hc179) ?_
   obtain ⟨r182, hr183, h⟩ := h
   refine st_call (foot := []) rfl rfl rfl rfl rfl rfl (callV_fn z_en4 (law23_Cut_ok hr183 τ168 hs180 hs181)) ?_
   rintro vτ184 τ184 gsτ184 hl185 ⟨v186, v187, rfl, rfl, hs188, hs189⟩
   refine o_alloc rfl rfl rfl z_zero31 (fun b190 => ?_)
   refine o_store (j := 0) (vs := [.int .i64 r182.1, .int .u32 r182.2.1, .int .i64 r182.2.2.1, .int .i64 r182.2.2.2.1, .int .i64 r182.2.2.2.2.1, .int .i64 (r182.2.2.2.2.2.1.getD 0 0), .int .i64 (r182.2.2.2.2.2.1.getD 1 0), .int .i64 (r182.2.2.2.2.2.1.getD 2 0), .int .i64 (r182.2.2.2.2.2.1.getD 3 0), .int .i64 (r182.2.2.2.2.2.1.getD 4 0), .int .i64 (r182.2.2.2.2.2.1.getD 5 0), v186, v187, .string r182.2.2.2.2.2.2.2.2.1, .string r182.2.2.2.2.2.2.2.2.2]) (cs' := [.int .i64 r182.1, .int .u32 r182.2.1, .int .i64 r182.2.2.1, .int .i64 r182.2.2.2.1, .int .i64 r182.2.2.2.2.1, .int .i64 (r182.2.2.2.2.2.1.getD 0 0), .int .i64 (r182.2.2.2.2.2.1.getD 1 0), .int .i64 (r182.2.2.2.2.2.1.getD 2 0), .int .i64 (r182.2.2.2.2.2.1.getD 3 0), .int .i64 (r182.2.2.2.2.2.1.getD 4 0), .int .i64 (r182.2.2.2.2.2.1.getD 5 0), v186, v187, .string r182.2.2.2.2.2.2.2.2.1, .string r182.2.2.2.2.2.2.2.2.2]) rfl rfl rfl z_size31 rfl rfl rfl (ones_cons rfl (ones_cons rfl (ones_cons rfl (ones_cons rfl (ones_cons rfl (ones_cons rfl (ones_cons rfl (ones_cons rfl (ones_cons rfl (ones_cons rfl (ones_cons rfl (ones_cons hs188.one' (ones_cons hs189.one' (ones_cons rfl (ones_cons rfl ones_nil))))))))))))))) rfl rfl rfl ?_
   refine st_gs [[(b190, .cells #[.int .i64 r182.1, .int .u32 r182.2.1, .int .i64 r182.2.2.1, .int .i64 r182.2.2.2.1, .int .i64 r182.2.2.2.2.1, .int .i64 (r182.2.2.2.2.2.1.getD 0 0), .int .i64 (r182.2.2.2.2.2.1.getD 1 0), .int .i64 (r182.2.2.2.2.2.1.getD 2 0), .int .i64 (r182.2.2.2.2.2.1.getD 3 0), .int .i64 (r182.2.2.2.2.2.1.getD 4 0), .int .i64 (r182.2.2.2.2.2.1.getD 5 0), v186, v187, .string r182.2.2.2.2.2.2.2.2.1, .string r182.2.2.2.2.2.2.2.2.2] 31 (0, 0))], g166] rfl ?_
   refine ZZ 4 [0] rfl rfl ?_
   obtain ⟨r191, hr192, h⟩ := h
   refine st_call (foot := []) rfl rfl rfl rfl rfl rfl (callV_fn z_en5 (log_Check_ok hr192 τ184 hs188 hs189)) ?_
   rintro vτ193 τ193 gsτ193 hl194 ⟨rfl, rfl⟩
   refine Z 2 rfl ?_
   refine st_if rfl h (fun h => ?_) (fun h => ?_)
   ·refine ZZ 3 [0] rfl rfl ?_
    refine o_lit (dk := (kP (kI .i64) (kP (kI .u32) (kP (kI .i64) (kP (kI .i64) (kP (kI .i64) (kP (kA .i64 6) (kP (kSl (kP (kI .i64) (kI .i64))) (kP (kSl (kI .i64)) (kP kS kS)))))))))) (xs := [r182]) (ps := [(0, [.int .i64 r182.1, .int .u32 r182.2.1, .int .i64 r182.2.2.1, .int .i64 r182.2.2.2.1, .int .i64 r182.2.2.2.2.1, .int .i64 (r182.2.2.2.2.2.1.getD 0 0), .int .i64 (r182.2.2.2.2.2.1.getD 1 0), .int .i64 (r182.2.2.2.2.2.1.getD 2 0), .int .i64 (r182.2.2.2.2.2.1.getD 3 0), .int .i64 (r182.2.2.2.2.2.1.getD 4 0), .int .i64 (r182.2.2.2.2.2.1.getD 5 0), v186, v187, .string r182.2.2.2.2.2.2.2.2.1, .string r182.2.2.2.2.2.2.2.2.2])]) (cs := [.int .i64 r182.1, .int .u32 r182.2.1, .int .i64 r182.2.2.1, .int .i64 r182.2.2.2.1, .int .i64 r182.2.2.2.2.1, .int .i64 (r182.2.2.2.2.2.1.getD 0 0), .int .i64 (r182.2.2.2.2.2.1.getD 1 0), .int .i64 (r182.2.2.2.2.2.1.getD 2 0), .int .i64 (r182.2.2.2.2.2.1.getD 3 0), .int .i64 (r182.2.2.2.2.2.1.getD 4 0), .int .i64 (r182.2.2.2.2.2.1.getD 5 0), v186, v187, .string r182.2.2.2.2.2.2.2.2.1, .string r182.2.2.2.2.2.2.2.2.2]) rfl rfl rfl z_slT22 z_zero31 ⟨rfl, ⟨_, rfl, rfl⟩, trivial⟩ rfl rfl rfl rfl (Kd.Many.cons (d := (kP (kI .i64) (kP (kI .u32) (kP (kI .i64) (kP (kI .i64) (kP (kI .i64) (kP (kA .i64 6) (kP (kSl (kP (kI .i64) (kI .i64))) (kP (kSl (kI .i64)) (kP kS kS)))))))))) (x := r182) (a := [.int .i64 r182.1, .int .u32 r182.2.1, .int .i64 r182.2.2.1, .int .i64 r182.2.2.2.1, .int .i64 r182.2.2.2.2.1, .int .i64 (r182.2.2.2.2.2.1.getD 0 0), .int .i64 (r182.2.2.2.2.2.1.getD 1 0), .int .i64 (r182.2.2.2.2.2.1.getD 2 0), .int .i64 (r182.2.2.2.2.2.1.getD 3 0), .int .i64 (r182.2.2.2.2.2.1.getD 4 0), .int .i64 (r182.2.2.2.2.2.1.getD 5 0), v186, v187, .string r182.2.2.2.2.2.2.2.2.1, .string r182.2.2.2.2.2.2.2.2.2]) ⟨[.int .i64 r182.1], _, rfl, rfl, ⟨[.int .u32 r182.2.1], _, rfl, rfl, ⟨[.int .i64 r182.2.2.1], _, rfl, rfl, ⟨[.int .i64 r182.2.2.2.1], _, rfl, rfl, ⟨[.int .i64 r182.2.2.2.2.1], _, rfl, rfl, ⟨[.int .i64 (r182.2.2.2.2.2.1.getD 0 0), .int .i64 (r182.2.2.2.2.2.1.getD 1 0), .int .i64 (r182.2.2.2.2.2.1.getD 2 0), .int .i64 (r182.2.2.2.2.2.1.getD 3 0), .int .i64 (r182.2.2.2.2.2.1.getD 4 0), .int .i64 (r182.2.2.2.2.2.1.getD 5 0)], _, rfl, rfl, ⟨[v186], _, rfl, ⟨_, rfl, (hs188.up hl194)⟩, ⟨[v187], _, rfl, ⟨_, rfl, (hs189.up hl194)⟩, ⟨[.string r182.2.2.2.2.2.2.2.2.1], _, rfl, rfl, rfl⟩⟩⟩⟩⟩⟩⟩⟩⟩ Kd.Many.nil) (fun v195 g196 ho197 => ?_)
    obtain ⟨hf201, hf202, h⟩ := h
    refine st_ord [2, 0, 0] _ rfl ?_
    refine o_append (dk := (kP (kI .i64) (kP (kI .u32) (kP (kI .i64) (kP (kI .i64) (kP (kI .i64) (kP (kA .i64 6) (kP (kSl (kP (kI .i64) (kI .i64))) (kP (kSl (kI .i64)) (kP kS kS)))))))))) (xs := s164.1) (ys := [r182]) rfl rfl rfl rfl z_slT22 rfl (ho167.up ((hl168.trans hl185).trans hl194)) rfl (Ow.src (j := 1) ho197 rfl) hf201 hf202 (fun v198 g199 ho200 => ?_)
    refine Z 3 rfl ?_
    refine st_ord [0] _ rfl ?_
    exact hk169 _ _ _ ⟨(s164.1 ++ [r182]), _, _, h, (hl185.trans hl194), rfl, rfl, ho200⟩
   ·refine Z 2 rfl ?_
    refine st_ord [1] _ rfl ?_
    exact hk169 _ _ _ ⟨s164.1, _, _, h, (hl185.trans hl194), rfl, rfl, (ho167.up ((hl168.trans hl185).trans hl194))⟩
  ·refine st_exit rfl ?_
   obtain rfl := he164 _ h
   replace h := hA164
   exact hk5 _ _ _ ⟨s164.1, _, _, h, (hl164.trans hl168), rfl, rfl, (ho167.up hl168)⟩
 refine Z 3 rfl ?_
 refine o_lenI rfl rfl rfl z_slT22 rfl (hs2.up hl164) ?_
 refine o_ibin (v := .bool (decide (s164.2 < (a0.length : Int)))) rfl rfl rfl rfl rfl rfl ?_
 refine o_mif rfl rfl rfl rfl h (fun h => ?_) (fun h => ?_)
 ·refine Z 4 rfl ?_
  exact hk168 _ _ _ ⟨(decide (s164.2 < 20)), h, (Sto.Le.refl _), rfl, rfl⟩
 ·refine Z 4 rfl ?_
  exact hk168 _ _ _ ⟨false, h, (Sto.Le.refl _), rfl, rfl⟩
end Go.Rel
