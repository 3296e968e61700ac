import Derived.Test.YtlamkclnkbnedaaDoorEngP
/-! The functions as plain relations. -/
set_option linter.unusedVariables false
namespace Go.Rel
open Go Go.Eng
def head_wrong_1 (c0 : Int × Int × Int × Int × Int) (S : Type) (Y : (Int × Bool) → S → Bool × S → Prop) (s : S) (r : S × Unit) : Prop :=
  if (decide (c0.1 < 1)) = true then (∃ y1 : Bool, ∃ u2 : S, Y (10, true) s (y1, u2) ∧ if y1 = true then (if (decide (c0.2.1 < 1)) = true then (∃ y8 : Bool, ∃ u9 : S, Y (9, true) u2 (y8, u9) ∧ if y8 = true then (if (decide (c0.2.2.2.2 < 1)) = true then (∃ y15 : Bool, ∃ u16 : S, Y (3, true) u9 (y15, u16) ∧ r = (u16, ())) else (if (decide (255 < c0.2.2.2.2)) = true then (∃ y22 : Bool, ∃ u23 : S, Y (3, true) u9 (y22, u23) ∧ r = (u23, ())) else (if (decide (c0.2.2.2.1 < 0)) = true then (∃ y29 : Bool, ∃ u30 : S, Y (3, true) u9 (y29, u30) ∧ r = (u30, ())) else (∃ y36 : Bool, ∃ u37 : S, Y (3, (decide (c0.2.2.2.2 ≤ c0.2.2.2.1))) u9 (y36, u37) ∧ r = (u37, ()))))) else (r = (u9, ()))) else (∃ y43 : Bool, ∃ u44 : S, Y (9, (decide (5 < c0.2.1))) u2 (y43, u44) ∧ if y43 = true then (if (decide (c0.2.2.2.2 < 1)) = true then (∃ y50 : Bool, ∃ u51 : S, Y (3, true) u44 (y50, u51) ∧ r = (u51, ())) else (if (decide (255 < c0.2.2.2.2)) = true then (∃ y57 : Bool, ∃ u58 : S, Y (3, true) u44 (y57, u58) ∧ r = (u58, ())) else (if (decide (c0.2.2.2.1 < 0)) = true then (∃ y64 : Bool, ∃ u65 : S, Y (3, true) u44 (y64, u65) ∧ r = (u65, ())) else (∃ y71 : Bool, ∃ u72 : S, Y (3, (decide (c0.2.2.2.2 ≤ c0.2.2.2.1))) u44 (y71, u72) ∧ r = (u72, ()))))) else (r = (u44, ())))) else (r = (u2, ()))) else (∃ y78 : Bool, ∃ u79 : S, Y (10, (decide (2 < c0.1))) s (y78, u79) ∧ if y78 = true then (if (decide (c0.2.1 < 1)) = true then (∃ y85 : Bool, ∃ u86 : S, Y (9, true) u79 (y85, u86) ∧ if y85 = true then (if (decide (c0.2.2.2.2 < 1)) = true then (∃ y92 : Bool, ∃ u93 : S, Y (3, true) u86 (y92, u93) ∧ r = (u93, ())) else (if (decide (255 < c0.2.2.2.2)) = true then (∃ y99 : Bool, ∃ u100 : S, Y (3, true) u86 (y99, u100) ∧ r = (u100, ())) else (if (decide (c0.2.2.2.1 < 0)) = true then (∃ y106 : Bool, ∃ u107 : S, Y (3, true) u86 (y106, u107) ∧ r = (u107, ())) else (∃ y113 : Bool, ∃ u114 : S, Y (3, (decide (c0.2.2.2.2 ≤ c0.2.2.2.1))) u86 (y113, u114) ∧ r = (u114, ()))))) else (r = (u86, ()))) else (∃ y120 : Bool, ∃ u121 : S, Y (9, (decide (5 < c0.2.1))) u79 (y120, u121) ∧ if y120 = true then (if (decide (c0.2.2.2.2 < 1)) = true then (∃ y127 : Bool, ∃ u128 : S, Y (3, true) u121 (y127, u128) ∧ r = (u128, ())) else (if (decide (255 < c0.2.2.2.2)) = true then (∃ y134 : Bool, ∃ u135 : S, Y (3, true) u121 (y134, u135) ∧ r = (u135, ())) else (if (decide (c0.2.2.2.1 < 0)) = true then (∃ y141 : Bool, ∃ u142 : S, Y (3, true) u121 (y141, u142) ∧ r = (u142, ())) else (∃ y148 : Bool, ∃ u149 : S, Y (3, (decide (c0.2.2.2.2 ≤ c0.2.2.2.1))) u121 (y148, u149) ∧ r = (u149, ()))))) else (r = (u121, ())))) else (r = (u79, ())))
def head_wrong (a0 : Int × Int × Int × Int × Int) (r : (((S : Type) → ((Int × Bool) → S → Bool × S → Prop) → S → S × Unit → Prop))) : Prop :=
  r = (head_wrong_1 a0)
def head_Check_j1  (s3 : Int) (r : Int) : Prop :=
  r = s3
def head_Check_l2  (x11 : Int × Bool) (s11 : Unit) (o11 : Sum Unit Int) : Prop :=
  if x11.2 = true then (o11 = .inr x11.1) else (o11 = .inl ())
def head_Check (a0 : Int × Int × Int × Int × Int) (r : Int) : Prop :=
  ∃ r4 : (((S : Type) → ((Int × Bool) → S → Bool × S → Prop) → S → S × Unit → Prop)), head_wrong a0 r4 ∧ ∃ (t11 : Sum Unit Int) (w11 : Unit), r4 (Sum Unit Int) (Yof (head_Check_l2)) (.inl ()) (t11, w11) ∧ Aft (fun p15 => head_Check_j1 0 r) (fun p12 => head_Check_j1 p12 r) t11
def head_Bytes (a0 : Int × Int × Int × Int × Int) (r : List Int × Int) : Prop :=
  ∃ r2 : Int, head_Check a0 r2 ∧ if (!(decide (r2 = 0))) = true then (r = ([], r2)) else (r = ([(IntKind.u8.wrap a0.1), (IntKind.u8.wrap a0.2.1), (IntKind.u8.wrap a0.2.2.1), (IntKind.u8.wrap (ishr .u32 a0.2.2.1 8)), (IntKind.u8.wrap (ishr .u32 a0.2.2.1 16)), (IntKind.u8.wrap (ishr .u32 a0.2.2.1 24)), (IntKind.u8.wrap a0.2.2.2.1), (IntKind.u8.wrap a0.2.2.2.2)], 0))
def ref01_Same_j1  (s5 : Unit) (r : Bool) : Prop :=
  r = true
def ref01_Same_l2 (a0 : List Int) (a1 : List Int) (s6 : Int) (o6 : Sum Int (Sum Unit Bool)) : Prop :=
  if (decide (s6 < (a0.length : Int))) = true then (∃ q7 : Int, idx a0 s6 q7 ∧ ∃ q12 : Int, idx a1 s6 q12 ∧ if (!(decide (q7 = q12))) = true then (o6 = .inr (.inr false)) else (o6 = .inl (IntKind.i64.wrap (s6 + 1)))) else (o6 = .inr (.inl ()))
def ref01_Same (a0 : List Int) (a1 : List Int) (r : Bool) : Prop :=
  if (!(decide ((a0.length : Int) = (a1.length : Int)))) = true then (r = false) else (∃ e6 : (Sum Unit Bool), Loops (ref01_Same_l2 a0 a1) 0 e6 ∧ Aft (fun p18 => ref01_Same_j1 p18 r) (fun p19 => r = p19) e6)
def strconv_Itoa (a0 : Int) (r : ByteArray) : Prop := IntOk .i64 a0 ∧ r = bstr (decI a0)
def internal_strconv_FormatUint (a0 : Int) (a1 : Int) (r : ByteArray) : Prop := IntOk .u64 a0 ∧ a1 = 10 ∧ r = bstr (decI a0)
def strconv_FormatUint (a0 : Int) (a1 : Int) (r : ByteArray) : Prop :=
  ∃ r1 : ByteArray, internal_strconv_FormatUint a0 a1 r1 ∧ r = r1
def head_Line (a0 : Int × Int × Int × Int × Int) (r : ByteArray) : Prop :=
  ∃ r2 : ByteArray, strconv_Itoa a0.1 r2 ∧ (bstr [118, 32]).size + r2.size < 4611686018427387904 ∧ ((bstr [118, 32]) ++ r2).size + (bstr [32, 107, 32]).size < 4611686018427387904 ∧ ∃ r8 : ByteArray, strconv_Itoa a0.2.1 r8 ∧ (((bstr [118, 32]) ++ r2) ++ (bstr [32, 107, 32])).size + r8.size < 4611686018427387904 ∧ ((((bstr [118, 32]) ++ r2) ++ (bstr [32, 107, 32])) ++ r8).size + (bstr [32]).size < 4611686018427387904 ∧ ∃ r14 : ByteArray, strconv_FormatUint (IntKind.u64.wrap a0.2.2.1) 10 r14 ∧ (((((bstr [118, 32]) ++ r2) ++ (bstr [32, 107, 32])) ++ r8) ++ (bstr [32])).size + r14.size < 4611686018427387904 ∧ ((((((bstr [118, 32]) ++ r2) ++ (bstr [32, 107, 32])) ++ r8) ++ (bstr [32])) ++ r14).size + (bstr [32]).size < 4611686018427387904 ∧ ∃ r20 : ByteArray, strconv_Itoa a0.2.2.2.1 r20 ∧ (((((((bstr [118, 32]) ++ r2) ++ (bstr [32, 107, 32])) ++ r8) ++ (bstr [32])) ++ r14) ++ (bstr [32])).size + r20.size < 4611686018427387904 ∧ ((((((((bstr [118, 32]) ++ r2) ++ (bstr [32, 107, 32])) ++ r8) ++ (bstr [32])) ++ r14) ++ (bstr [32])) ++ r20).size + (bstr [47]).size < 4611686018427387904 ∧ ∃ r26 : ByteArray, strconv_Itoa a0.2.2.2.2 r26 ∧ (((((((((bstr [118, 32]) ++ r2) ++ (bstr [32, 107, 32])) ++ r8) ++ (bstr [32])) ++ r14) ++ (bstr [32])) ++ r20) ++ (bstr [47])).size + r26.size < 4611686018427387904 ∧ r = ((((((((((bstr [118, 32]) ++ r2) ++ (bstr [32, 107, 32])) ++ r8) ++ (bstr [32])) ++ r14) ++ (bstr [32])) ++ r20) ++ (bstr [47])) ++ r26)
def law07_known_j1  (s9 : Bool) (r : Bool) : Prop :=
  r = s9
def law07_known  (r : Bool) : Prop :=
  ∃ r2 : List Int × Int, head_Bytes (2, 4, 258, 0, 3) r2 ∧ if (decide (r2.2 = 0)) = true then (∃ r17 : Bool, ref01_Same r2.1 [2, 4, 2, 1, 0, 0, 0, 3] r17 ∧ if r17 = true then (∃ r21 : ByteArray, head_Line (2, 4, 77, 0, 3) r21 ∧ law07_known_j1 (decide (r21 = (bstr [118, 32, 50, 32, 107, 32, 52, 32, 55, 55, 32, 48, 47, 51]))) r) else (law07_known_j1 false r)) else (law07_known_j1 false r)
def head_Mates (a0 : Int × Int × Int × Int × Int) (a1 : Int × Int × Int × Int × Int) (r : Bool) : Prop :=
  r = ((decide (a0.1 = a1.1)) && ((decide (a0.2.1 = a1.2.1)) && ((decide (a0.2.2.1 = a1.2.2.1)) && ((decide (a1.2.2.2.1 = a1.2.2.2.1)) && ((decide (a0.2.2.2.2 = a1.2.2.2.2)) && true)))))
def law07_HeadMates_j2  (s5 : Bool) (r : Bool) : Prop :=
  r = s5
def law07_HeadMates_j1 (a0 : Int × Int × Int × Int × Int) (a1 : Int × Int × Int × Int × Int) (s3 : Bool) (r : Bool) : Prop :=
  ∃ r6 : Bool, law07_known r6 ∧ if r6 = true then (∃ r10 : Bool, head_Mates a0 a1 r10 ∧ if (decide (r10 = s3)) = true then (∃ r14 : Bool, head_Mates a1 a0 r14 ∧ if (decide (r14 = s3)) = true then (∃ r18 : Bool, head_Mates a0 (a0.1, a0.2.1, a0.2.2.1, a1.2.2.2.1, a0.2.2.2.2) r18 ∧ law07_HeadMates_j2 r18 r) else (law07_HeadMates_j2 false r)) else (law07_HeadMates_j2 false r)) else (law07_HeadMates_j2 false r)
def law07_HeadMates (a0 : Int × Int × Int × Int × Int) (a1 : Int × Int × Int × Int × Int) (r : Bool) : Prop :=
  if (decide (a0.1 = a1.1)) = true then (if (decide (a0.2.1 = a1.2.1)) = true then (if (decide (a0.2.2.1 = a1.2.2.1)) = true then (law07_HeadMates_j1 a0 a1 (decide (a0.2.2.2.2 = a1.2.2.2.2)) r) else (law07_HeadMates_j1 a0 a1 false r)) else (law07_HeadMates_j1 a0 a1 false r)) else (law07_HeadMates_j1 a0 a1 false r)
def say_Number (a0 : Int) (r : ByteArray) : Prop :=
  ∃ r1 : ByteArray, strconv_Itoa a0 r1 ∧ r = r1
def lens_New (a0 : List Int) (r : (List Int × Int × Int)) : Prop :=
  (([] : List Int).length + a0.length) * 1 ≤ 140737488355328 ∧ ([] : List Int).length + a0.length ≤ 4611686018427387904 ∧ r = ((([] : List Int) ++ a0), 0, 0)
def lens_Lens_left (a0 : List Int × Int × Int) (r : List Int) : Prop :=
  0 ≤ a0.2.1 ∧ a0.2.1 ≤ (a0.1.length : Int) ∧ (a0.1.length : Int) ≤ (a0.1.length : Int) ∧ (a0.1.length : Int) ≤ (a0.1.length : Int) ∧ (a0.1.length : Int) ≤ (a0.1.length : Int) ∧ r = ((a0.1.drop a0.2.1.toNat).take (((a0.1.length : Int) : Int) - a0.2.1).toNat)
def slices_Backward_byte_byte_1_l1 (S : Type) (Y : (Int × Int) → S → Bool × S → Prop) (c0 : List Int) (s3 : S × Int) (o3 : Sum (S × Int) (S × Unit)) : Prop :=
  if (decide (0 ≤ s3.2)) = true then (∃ q6 : Int, idx c0 s3.2 q6 ∧ ∃ y11 : Bool, ∃ u12 : S, Y (s3.2, q6) s3.1 (y11, u12) ∧ if (!y11) = true then (o3 = .inr (u12, ())) else (o3 = .inl (u12, (IntKind.i64.wrap (s3.2 - 1))))) else (o3 = .inr (s3.1, ()))
def slices_Backward_byte_byte_1 (c0 : List Int) (S : Type) (Y : (Int × Int) → S → Bool × S → Prop) (s : S) (r : S × Unit) : Prop :=
  ∃ e3 : S × Unit, Loops (slices_Backward_byte_byte_1_l1 S Y c0) (s, (IntKind.i64.wrap ((c0.length : Int) - 1))) e3 ∧ (r = e3)
def slices_Backward_byte_byte (a0 : List Int) (r : (((S : Type) → ((Int × Int) → S → Bool × S → Prop) → S → S × Unit → Prop))) : Prop :=
  r = (slices_Backward_byte_byte_1 a0)
def lens_Lens_word_1_l1  (x14 : Int × Int) (s14 : Int) (o14 : Sum Int Unit) : Prop :=
  o14 = .inl (ior .u32 (ishl .u32 s14 8) (IntKind.u32.wrap x14.2))
def lens_Lens_word_1 (a0 : List Int) (c0 : Int) (c1 : Int) (r : Int × Int × Int) : Prop :=
  if (decide ((a0.length : Int) < c0)) = true then (r = (0, 4, c1)) else (0 ≤ c0 ∧ c0 ≤ (a0.length : Int) ∧ ∃ r7 : (((S : Type) → ((Int × Int) → S → Bool × S → Prop) → S → S × Unit → Prop)), slices_Backward_byte_byte ((a0.drop (0 : Int).toNat).take ((c0 : Int) - 0).toNat) r7 ∧ ∃ (t14 : Sum Int Unit) (w14 : Unit), r7 (Sum Int Unit) (Yof (lens_Lens_word_1_l1)) (.inl c1) (t14, w14) ∧ Aft (fun p15 => r = (c0, 0, p15)) (fun _ => True) t14)
def lens_Lens_read__lens_Lens_word_1 (a0 : List Int × Int × Int) (a1_0 : Int) (a1_1 : Int) (r : Bool × (List Int × Int × Int) × Int) : Prop :=
  if (!(decide (a0.2.2 = 0))) = true then (r = (false, a0, a1_1)) else (∃ r3 : List Int, lens_Lens_left a0 r3 ∧ ∃ r9 : Int × Int × Int, lens_Lens_word_1 r3 a1_0 a1_1 r9 ∧ if (!(decide (r9.2.1 = 0))) = true then (r = (false, (a0.1, a0.2.1, r9.2.1), r9.2.2)) else (r = (true, (a0.1, (IntKind.i64.wrap (a0.2.1 + r9.1)), a0.2.2), r9.2.2)))
def lens_Lens_word (a0 : List Int × Int × Int) (a1 : Int) (r : Int × (List Int × Int × Int)) : Prop :=
  ∃ r5 : Bool × (List Int × Int × Int) × Int, lens_Lens_read__lens_Lens_word_1 a0 a1 0 r5 ∧ r = (r5.2.2, r5.2.1)
def lens_Lens_U8 (a0 : List Int × Int × Int) (r : Int × (List Int × Int × Int)) : Prop :=
  ∃ r3 : Int × (List Int × Int × Int), lens_Lens_word a0 1 r3 ∧ r = ((IntKind.u8.wrap r3.1), r3.2)
def lens_Lens_U32 (a0 : List Int × Int × Int) (r : Int × (List Int × Int × Int)) : Prop :=
  ∃ r3 : Int × (List Int × Int × Int), lens_Lens_word a0 4 r3 ∧ r = (r3.1, r3.2)
def lens_Lens_Err (a0 : List Int × Int × Int) (r : Int) : Prop :=
  r = a0.2.2
def lens_Lens_Left (a0 : List Int × Int × Int) (r : Int) : Prop :=
  ∃ r3 : List Int, lens_Lens_left a0 r3 ∧ r = (r3.length : Int)
def lens_Lens_End_j1 (r3 : Int) (s7 : Bool) (r : Int) : Prop :=
  if s7 = true then (r = r3) else (r = 3)
def lens_Lens_End (a0 : List Int × Int × Int) (r : Int) : Prop :=
  ∃ r3 : Int, lens_Lens_Err a0 r3 ∧ if (!(decide (r3 = 0))) = true then (lens_Lens_End_j1 r3 true r) else (∃ r8 : Int, lens_Lens_Left a0 r8 ∧ lens_Lens_End_j1 r3 (decide (r8 = 0)) r)
def head_Parse_j1 (r11 : Int × (List Int × Int × Int)) (r17 : Int × (List Int × Int × Int)) (r23 : Int × (List Int × Int × Int)) (r29 : Int × (List Int × Int × Int)) (r35 : Int × (List Int × Int × Int)) (s46 : Int) (r : (Int × Int × Int × Int × Int) × Int) : Prop :=
  if (!(decide (s46 = 0))) = true then (r = ((0, 0, 0, 0, 0), s46)) else (r = (((IntKind.i64.wrap r11.1), (IntKind.i64.wrap r17.1), r23.1, (IntKind.i64.wrap r29.1), (IntKind.i64.wrap r35.1)), 0))
def head_Parse (a0 : List Int) (r : (Int × Int × Int × Int × Int) × Int) : Prop :=
  if (decide ((a0.length : Int) < 8)) = true then (r = ((0, 0, 0, 0, 0), 13)) else (∃ r4 : (List Int × Int × Int), lens_New a0 r4 ∧ ∃ r11 : Int × (List Int × Int × Int), lens_Lens_U8 r4 r11 ∧ ∃ r17 : Int × (List Int × Int × Int), lens_Lens_U8 r11.2 r17 ∧ ∃ r23 : Int × (List Int × Int × Int), lens_Lens_U32 r17.2 r23 ∧ ∃ r29 : Int × (List Int × Int × Int), lens_Lens_U8 r23.2 r29 ∧ ∃ r35 : Int × (List Int × Int × Int), lens_Lens_U8 r29.2 r35 ∧ ∃ r42 : Int, lens_Lens_End r35.2 r42 ∧ if (decide (r42 = 0)) = true then (∃ r47 : Int, head_Check ((IntKind.i64.wrap r11.1), (IntKind.i64.wrap r17.1), r23.1, (IntKind.i64.wrap r29.1), (IntKind.i64.wrap r35.1)) r47 ∧ head_Parse_j1 r11 r17 r23 r29 r35 r47 r) else (head_Parse_j1 r11 r17 r23 r29 r35 r42 r))
def ref07_Check_j3  (s4 : Bool) (r : Int) : Prop :=
  if s4 = true then (r = 3) else (r = 0)
def ref07_Check_j2 (a0 : Int × Int × Int × Int × Int) (s3 : Bool) (r : Int) : Prop :=
  if s3 = true then (r = 9) else (if (decide (a0.2.2.2.2 < 1)) = true then (ref07_Check_j3 true r) else (if (decide (255 < a0.2.2.2.2)) = true then (ref07_Check_j3 true r) else (if (decide (a0.2.2.2.1 < 0)) = true then (ref07_Check_j3 true r) else (ref07_Check_j3 (decide (a0.2.2.2.2 ≤ a0.2.2.2.1)) r))))
def ref07_Check_j1 (a0 : Int × Int × Int × Int × Int) (s2 : Bool) (r : Int) : Prop :=
  if s2 = true then (r = 10) else (if (decide (a0.2.1 < 1)) = true then (ref07_Check_j2 a0 true r) else (ref07_Check_j2 a0 (decide (5 < a0.2.1)) r))
def ref07_Check (a0 : Int × Int × Int × Int × Int) (r : Int) : Prop :=
  if (!(decide (a0.1 = 1))) = true then (ref07_Check_j1 a0 (!(decide (a0.1 = 2))) r) else (ref07_Check_j1 a0 false r)
def ref07_Parse_j1 (a0 : List Int) (s4 : Int) (r : (Int × Int × Int × Int × Int) × Int) : Prop :=
  ∃ q5 : Int, idx a0 0 q5 ∧ ∃ q10 : Int, idx a0 1 q10 ∧ ∃ q15 : Int, idx a0 6 q15 ∧ ∃ q20 : Int, idx a0 7 q20 ∧ ∃ r27 : Int, ref07_Check ((IntKind.i64.wrap q5), (IntKind.i64.wrap q10), s4, (IntKind.i64.wrap q15), (IntKind.i64.wrap q20)) r27 ∧ if (!(decide (r27 = 0))) = true then (∃ r31 : Int, ref07_Check ((IntKind.i64.wrap q5), (IntKind.i64.wrap q10), s4, (IntKind.i64.wrap q15), (IntKind.i64.wrap q20)) r31 ∧ r = ((0, 0, 0, 0, 0), r31)) else (r = (((IntKind.i64.wrap q5), (IntKind.i64.wrap q10), s4, (IntKind.i64.wrap q15), (IntKind.i64.wrap q20)), 0))
def ref07_Parse_l2 (a0 : List Int) (s35 : Int × Int) (o35 : Sum (Int × Int) Int) : Prop :=
  if (decide (1 < s35.2)) = true then (∃ q36 : Int, idx a0 s35.2 q36 ∧ o35 = .inl ((IntKind.u32.wrap ((IntKind.u32.wrap (256 * s35.1)) + (IntKind.u32.wrap q36))), (IntKind.i64.wrap (s35.2 - 1)))) else (o35 = .inr s35.1)
def ref07_Parse (a0 : List Int) (r : (Int × Int × Int × Int × Int) × Int) : Prop :=
  if (decide ((a0.length : Int) < 8)) = true then (r = ((0, 0, 0, 0, 0), 13)) else (if (decide (8 < (a0.length : Int))) = true then (r = ((0, 0, 0, 0, 0), 3)) else (∃ e35 : Int, Loops (ref07_Parse_l2 a0) (0, 5) e35 ∧ (ref07_Parse_j1 a0 e35 r)))
def law07_HeadParses_j2  (s29 : Bool) (r : Bool) : Prop :=
  r = s29
def law07_HeadParses_j1 (a0 : List Int) (r7 : (Int × Int × Int × Int × Int) × Int) (s17 : Bool) (r : Bool) : Prop :=
  if s17 = true then (r = false) else (if (!(decide (r7.2 = 0))) = true then (∃ r18 : Bool, law07_known r18 ∧ r = r18) else (∃ r22 : List Int × Int, head_Bytes r7.1 r22 ∧ ∃ r30 : Bool, law07_known r30 ∧ if r30 = true then (if (decide (r22.2 = 0)) = true then (∃ r34 : Bool, ref01_Same r22.1 ((a0.drop (0 : Int).toNat).take (((min (a0.length : Int) 20) : Int) - 0).toNat) r34 ∧ law07_HeadParses_j2 r34 r) else (law07_HeadParses_j2 false r)) else (law07_HeadParses_j2 false r)))
def law07_HeadParses (a0 : List Int) (r : Bool) : Prop :=
  0 ≤ (min (a0.length : Int) 20) ∧ (min (a0.length : Int) 20) ≤ (a0.length : Int) ∧ ∃ r7 : (Int × Int × Int × Int × Int) × Int, head_Parse ((a0.drop (0 : Int).toNat).take (((min (a0.length : Int) 20) : Int) - 0).toNat) r7 ∧ ∃ r12 : (Int × Int × Int × Int × Int) × Int, ref07_Parse ((a0.drop (0 : Int).toNat).take (((min (a0.length : Int) 20) : Int) - 0).toNat) r12 ∧ if (!((decide (r7.1.1 = r12.1.1)) && ((decide (r7.1.2.1 = r12.1.2.1)) && ((decide (r7.1.2.2.1 = r12.1.2.2.1)) && ((decide (r7.1.2.2.2.1 = r12.1.2.2.2.1)) && ((decide (r7.1.2.2.2.2 = r12.1.2.2.2.2)) && true)))))) = true then (law07_HeadParses_j1 a0 r7 true r) else (law07_HeadParses_j1 a0 r7 (!(decide (r7.2 = r12.2))) r)
def ref07_Digits_j1  (s1 : Int × ByteArray) (r : ByteArray) : Prop :=
  (bstr [45]).size + s1.2.size < 4611686018427387904 ∧ r = ((bstr [45]) ++ s1.2)
def ref07_Digits_l2  (s3 : Int × ByteArray) (o3 : Sum (Int × ByteArray) (Int × ByteArray)) : Prop :=
  if (decide (s3.1 < 0)) = true then ((bstr [(IntKind.u8.wrap (IntKind.i64.wrap (48 - (s3.1.tmod 10))))]).size + s3.2.size < 4611686018427387904 ∧ o3 = .inl ((IntKind.i64.wrap (s3.1.tdiv 10)), ((bstr [(IntKind.u8.wrap (IntKind.i64.wrap (48 - (s3.1.tmod 10))))]) ++ s3.2))) else (o3 = .inr (s3.1, s3.2))
def ref07_Digits_j3  (s13 : Int × ByteArray) (r : ByteArray) : Prop :=
  (bstr [(IntKind.u8.wrap (IntKind.i64.wrap (48 + s13.1)))]).size + s13.2.size < 4611686018427387904 ∧ r = ((bstr [(IntKind.u8.wrap (IntKind.i64.wrap (48 + s13.1)))]) ++ s13.2)
def ref07_Digits_l4  (s22 : Int × ByteArray) (o22 : Sum (Int × ByteArray) (Int × ByteArray)) : Prop :=
  if (decide (10 ≤ s22.1)) = true then ((bstr [(IntKind.u8.wrap (IntKind.i64.wrap (48 + (s22.1.tmod 10))))]).size + s22.2.size < 4611686018427387904 ∧ o22 = .inl ((IntKind.i64.wrap (s22.1.tdiv 10)), ((bstr [(IntKind.u8.wrap (IntKind.i64.wrap (48 + (s22.1.tmod 10))))]) ++ s22.2))) else (o22 = .inr (s22.1, s22.2))
def ref07_Digits (a0 : Int) (r : ByteArray) : Prop :=
  if (decide (a0 < 0)) = true then (∃ e3 : Int × ByteArray, Loops (ref07_Digits_l2) (a0, (bstr [])) e3 ∧ (ref07_Digits_j1 e3 r)) else (∃ e22 : Int × ByteArray, Loops (ref07_Digits_l4) (a0, (bstr [])) e22 ∧ (ref07_Digits_j3 e22 r))
def ref07_Line (a0 : Int × Int × Int × Int × Int) (r : ByteArray) : Prop :=
  ∃ r2 : ByteArray, ref07_Digits a0.1 r2 ∧ (bstr [118, 32]).size + r2.size < 4611686018427387904 ∧ ((bstr [118, 32]) ++ r2).size + (bstr [32, 107, 32]).size < 4611686018427387904 ∧ ∃ r8 : ByteArray, ref07_Digits a0.2.1 r8 ∧ (((bstr [118, 32]) ++ r2) ++ (bstr [32, 107, 32])).size + r8.size < 4611686018427387904 ∧ ((((bstr [118, 32]) ++ r2) ++ (bstr [32, 107, 32])) ++ r8).size + (bstr [32]).size < 4611686018427387904 ∧ ∃ r14 : ByteArray, ref07_Digits (IntKind.i64.wrap a0.2.2.1) r14 ∧ (((((bstr [118, 32]) ++ r2) ++ (bstr [32, 107, 32])) ++ r8) ++ (bstr [32])).size + r14.size < 4611686018427387904 ∧ ((((((bstr [118, 32]) ++ r2) ++ (bstr [32, 107, 32])) ++ r8) ++ (bstr [32])) ++ r14).size + (bstr [32]).size < 4611686018427387904 ∧ ∃ r20 : ByteArray, ref07_Digits a0.2.2.2.1 r20 ∧ (((((((bstr [118, 32]) ++ r2) ++ (bstr [32, 107, 32])) ++ r8) ++ (bstr [32])) ++ r14) ++ (bstr [32])).size + r20.size < 4611686018427387904 ∧ ((((((((bstr [118, 32]) ++ r2) ++ (bstr [32, 107, 32])) ++ r8) ++ (bstr [32])) ++ r14) ++ (bstr [32])) ++ r20).size + (bstr [47]).size < 4611686018427387904 ∧ ∃ r26 : ByteArray, ref07_Digits a0.2.2.2.2 r26 ∧ (((((((((bstr [118, 32]) ++ r2) ++ (bstr [32, 107, 32])) ++ r8) ++ (bstr [32])) ++ r14) ++ (bstr [32])) ++ r20) ++ (bstr [47])).size + r26.size < 4611686018427387904 ∧ r = ((((((((((bstr [118, 32]) ++ r2) ++ (bstr [32, 107, 32])) ++ r8) ++ (bstr [32])) ++ r14) ++ (bstr [32])) ++ r20) ++ (bstr [47])) ++ r26)
def ref02_Word_j1  (s1 : List Int) (r : List Int) : Prop :=
  r = s1
def ref02_Word_l2 (a1 : Int) (s11 : Int × List Int × Int) (o11 : Sum (Int × List Int × Int) (List Int)) : Prop :=
  if (decide (s11.2.2 < a1)) = true then ((s11.2.1.length + [(IntKind.u8.wrap (s11.1.tmod 256))].length) * 1 ≤ 140737488355328 ∧ s11.2.1.length + [(IntKind.u8.wrap (s11.1.tmod 256))].length ≤ 4611686018427387904 ∧ o11 = .inl ((IntKind.u32.wrap (s11.1.tdiv 256)), (s11.2.1 ++ [(IntKind.u8.wrap (s11.1.tmod 256))]), (IntKind.i64.wrap (s11.2.2 + 1)))) else (o11 = .inr s11.2.1)
def ref02_Word (a0 : Int) (a1 : Int) (r : List Int) : Prop :=
  ∃ e11 : List Int, Loops (ref02_Word_l2 a1) (a0, [], 0) e11 ∧ (ref02_Word_j1 e11 r)
def ref07_Bytes (a0 : Int × Int × Int × Int × Int) (r : List Int) : Prop :=
  ∃ r8 : List Int, ref02_Word a0.2.2.1 4 r8 ∧ ([(IntKind.u8.wrap a0.1), (IntKind.u8.wrap a0.2.1)].length + r8.length) * 1 ≤ 140737488355328 ∧ [(IntKind.u8.wrap a0.1), (IntKind.u8.wrap a0.2.1)].length + r8.length ≤ 4611686018427387904 ∧ (([(IntKind.u8.wrap a0.1), (IntKind.u8.wrap a0.2.1)] ++ r8).length + [(IntKind.u8.wrap a0.2.2.2.1), (IntKind.u8.wrap a0.2.2.2.2)].length) * 1 ≤ 140737488355328 ∧ ([(IntKind.u8.wrap a0.1), (IntKind.u8.wrap a0.2.1)] ++ r8).length + [(IntKind.u8.wrap a0.2.2.2.1), (IntKind.u8.wrap a0.2.2.2.2)].length ≤ 4611686018427387904 ∧ r = (([(IntKind.u8.wrap a0.1), (IntKind.u8.wrap a0.2.1)] ++ r8) ++ [(IntKind.u8.wrap a0.2.2.2.1), (IntKind.u8.wrap a0.2.2.2.2)])
def head_Last (a0 : Int × Int × Int × Int × Int) (r : Bool) : Prop :=
  r = (decide ((IntKind.i64.wrap (a0.2.2.2.2 - 1)) = a0.2.2.2.1))
def law07_HeadTells_j1  (s26 : Bool) (r : Bool) : Prop :=
  r = s26
def law07_HeadTells (a0 : Int × Int × Int × Int × Int) (r : Bool) : Prop :=
  ∃ r2 : List Int × Int, head_Bytes a0 r2 ∧ ∃ r9 : Int, ref07_Check a0 r9 ∧ ∃ r13 : Int, head_Check a0 r13 ∧ ∃ r17 : ByteArray, (((!(decide (r13 = r9))) || (!(decide (r2.2 = r9)))) = false → head_Line a0 r17) ∧ ∃ r21 : ByteArray, (((!(decide (r13 = r9))) || (!(decide (r2.2 = r9)))) = false → ref07_Line a0 r21) ∧ if (((!(decide (r13 = r9))) || (!(decide (r2.2 = r9)))) || (!(decide (r17 = r21)))) = true then (r = false) else (if (!(decide (r9 = 0))) = true then (∃ r27 : Bool, law07_known r27 ∧ if r27 = true then (law07_HeadTells_j1 (decide ((r2.1.length : Int) = 0)) r) else (law07_HeadTells_j1 false r)) else (∃ r31 : (Int × Int × Int × Int × Int) × Int, head_Parse r2.1 r31 ∧ ∃ r36 : Bool, law07_known r36 ∧ ∃ r40 : List Int, (r36 = true → ref07_Bytes a0 r40) ∧ ∃ r46 : Bool, (r36 = true → ref01_Same r2.1 r40 r46) ∧ ∃ r50 : Bool, (((((r36 && r46) && ((decide (r31.1.1 = a0.1)) && ((decide (r31.1.2.1 = a0.2.1)) && ((decide (r31.1.2.2.1 = a0.2.2.1)) && ((decide (r31.1.2.2.2.1 = a0.2.2.2.1)) && ((decide (r31.1.2.2.2.2 = a0.2.2.2.2)) && true)))))) && (decide (r31.2 = 0))) && (decide ((r2.1.length : Int) = 8))) = true → head_Last a0 r50) ∧ r = (((((r36 && r46) && ((decide (r31.1.1 = a0.1)) && ((decide (r31.1.2.1 = a0.2.1)) && ((decide (r31.1.2.2.1 = a0.2.2.1)) && ((decide (r31.1.2.2.2.1 = a0.2.2.2.1)) && ((decide (r31.1.2.2.2.2 = a0.2.2.2.2)) && true)))))) && (decide (r31.2 = 0))) && (decide ((r2.1.length : Int) = 8))) && (decide (r50 = (decide (a0.2.2.2.1 = (IntKind.i64.wrap (a0.2.2.2.2 - 1)))))))))
def pen_New (a0 : Int) (r : ((List Int × Int × Bool))) : Prop :=
  r = ([], (max a0 0), false)
def pen_Pen_Raw (a0 : (List Int × Int × Bool)) (a1 : List Int) (r : Int × ((List Int × Int × Bool))) : Prop :=
  if (a0.2.2 || (decide ((IntKind.i64.wrap (a0.2.1 - (a0.1.length : Int))) < (a1.length : Int)))) = true then (r = (2, (a0.1, a0.2.1, true))) else ((a0.1.length + a1.length) * 1 ≤ 140737488355328 ∧ a0.1.length + a1.length ≤ 4611686018427387904 ∧ r = (0, ((a0.1 ++ a1), a0.2.1, a0.2.2)))
def pen_Pen_word (a0 : (List Int × Int × Bool)) (a1 : Int) (a2 : Int) (r : Int × ((List Int × Int × Bool))) : Prop :=
  0 ≤ a2 ∧ a2 ≤ 4 ∧ a2 ≤ 4 ∧ ∃ r13 : Int × ((List Int × Int × Bool)), pen_Pen_Raw a0 (([(IntKind.u8.wrap a1), (IntKind.u8.wrap (ishr .u32 a1 8)), (IntKind.u8.wrap (ishr .u32 a1 16)), (IntKind.u8.wrap (ishr .u32 a1 24))].drop (0 : Int).toNat).take ((a2 : Int) - 0).toNat) r13 ∧ r = (r13.1, r13.2)
def pen_Pen_U32 (a0 : (List Int × Int × Bool)) (a1 : Int) (r : Int × ((List Int × Int × Bool))) : Prop :=
  ∃ r4 : Int × ((List Int × Int × Bool)), pen_Pen_word a0 a1 4 r4 ∧ r = (r4.1, r4.2)
def crc_shift_j1  (s1 : Int) (r : Int) : Prop :=
  r = s1
def crc_shift_l2  (s2 : Int × Int) (o2 : Sum (Int × Int) Int) : Prop :=
  if (decide (s2.2 < 8)) = true then (o2 = .inl ((ixor .u32 (ishr .u32 s2.1 1) (iand .u32 3988292384 (IntKind.u32.wrap (0 - (iand .u32 s2.1 1))))), (IntKind.i64.wrap (s2.2 + 1)))) else (o2 = .inr s2.1)
def crc_shift (a0 : Int) (r : Int) : Prop :=
  ∃ e2 : Int, Loops (crc_shift_l2) (a0, 0) e2 ∧ (crc_shift_j1 e2 r)
def crc_New_j1  (s2 : List Int) (r : List Int) : Prop :=
  r = s2
def crc_New_j3 (s6 : Int × List Int) (s7 : List Int) (o6 : Sum (Int × List Int) (List Int)) : Prop :=
  o6 = .inl ((IntKind.i64.wrap (s6.1 + 1)), s7)
def crc_New_l4 (s6 : Int × List Int) (s8 : Int × Int × List Int) (o8 : Sum (Int × Int × List Int) (List Int)) : Prop :=
  if (decide (s8.2.1 < 4)) = true then (∃ r9 : Int, crc_shift s8.1 r9 ∧ 0 ≤ s8.2.1 ∧ s8.2.1 < 4 ∧ 0 ≤ s6.1 ∧ s6.1 < 256 ∧ o8 = .inl (r9, (IntKind.i64.wrap (s8.2.1 + 1)), (putN 1024 0 s8.2.2 (s8.2.1.toNat * 256 + s6.1.toNat) r9))) else (o8 = .inr s8.2.2)
def crc_New_l2  (s6 : Int × List Int) (o6 : Sum (Int × List Int) (List Int)) : Prop :=
  if (decide (s6.1 < 256)) = true then (∃ e8 : List Int, Loops (crc_New_l4 s6) ((IntKind.u32.wrap s6.1), 0, s6.2) e8 ∧ (crc_New_j3 s6 e8 o6)) else (o6 = .inr s6.2)
def crc_New  (r : List Int) : Prop :=
  ∃ e6 : List Int, Loops (crc_New_l2) (0, (List.replicate 1024 0)) e6 ∧ (crc_New_j1 e6 r)
def pen_Pen_Bytes (a0 : (List Int × Int × Bool)) (r : List Int) : Prop :=
  (([] : List Int).length + a0.1.length) * 1 ≤ 140737488355328 ∧ ([] : List Int).length + a0.1.length ≤ 4611686018427387904 ∧ r = (([] : List Int) ++ a0.1)
def crc_Table_Begin (a0 : List Int) (r : Int) : Prop :=
  r = 4294967295
def crc_Table_Add_j2  (s8 : Int) (r : Int) : Prop :=
  r = s8
def crc_Table_Add_l3 (a0 : List Int) (s5 : Int × List Int) (s9 : Int × Int) (o9 : Sum (Int × Int) Int) : Prop :=
  if (decide (s9.2 < (s5.2.length : Int))) = true then (∃ q10 : Int, idx s5.2 s9.2 q10 ∧ 0 ≤ (ixor .u8 (IntKind.u8.wrap s9.1) q10) ∧ (ixor .u8 (IntKind.u8.wrap s9.1) q10) < 256 ∧ o9 = .inl ((ixor .u32 (ishr .u32 s9.1 8) (a0.getD ((ixor .u8 (IntKind.u8.wrap s9.1) q10).toNat) 0)), (IntKind.i64.wrap (s9.2 + 1)))) else (o9 = .inr s9.1)
def crc_Table_Add_j1 (a0 : List Int) (s5 : Int × List Int) (r : Int) : Prop :=
  ∃ e9 : Int, Loops (crc_Table_Add_l3 a0 s5) (s5.1, 0) e9 ∧ (crc_Table_Add_j2 e9 r)
def crc_Table_Add_l4 (a0 : List Int) (s18 : Int × List Int) (o18 : Sum (Int × List Int) (Int × List Int)) : Prop :=
  if (decide ((s18.2.length : Int) < 4)) = true then (o18 = .inr (s18.1, s18.2)) else (∃ q21 : Int, idx s18.2 0 q21 ∧ ∃ q26 : Int, idx s18.2 1 q26 ∧ ∃ q31 : Int, idx s18.2 2 q31 ∧ ∃ q36 : Int, idx s18.2 3 q36 ∧ 0 ≤ (iand .u32 (ixor .u32 s18.1 (ior .u32 (ior .u32 (ior .u32 (IntKind.u32.wrap q21) (ishl .u32 (IntKind.u32.wrap q26) 8)) (ishl .u32 (IntKind.u32.wrap q31) 16)) (ishl .u32 (IntKind.u32.wrap q36) 24))) 255) ∧ (iand .u32 (ixor .u32 s18.1 (ior .u32 (ior .u32 (ior .u32 (IntKind.u32.wrap q21) (ishl .u32 (IntKind.u32.wrap q26) 8)) (ishl .u32 (IntKind.u32.wrap q31) 16)) (ishl .u32 (IntKind.u32.wrap q36) 24))) 255) < 256 ∧ 0 ≤ (iand .u32 (ishr .u32 (ixor .u32 s18.1 (ior .u32 (ior .u32 (ior .u32 (IntKind.u32.wrap q21) (ishl .u32 (IntKind.u32.wrap q26) 8)) (ishl .u32 (IntKind.u32.wrap q31) 16)) (ishl .u32 (IntKind.u32.wrap q36) 24))) 8) 255) ∧ (iand .u32 (ishr .u32 (ixor .u32 s18.1 (ior .u32 (ior .u32 (ior .u32 (IntKind.u32.wrap q21) (ishl .u32 (IntKind.u32.wrap q26) 8)) (ishl .u32 (IntKind.u32.wrap q31) 16)) (ishl .u32 (IntKind.u32.wrap q36) 24))) 8) 255) < 256 ∧ 0 ≤ (iand .u32 (ishr .u32 (ixor .u32 s18.1 (ior .u32 (ior .u32 (ior .u32 (IntKind.u32.wrap q21) (ishl .u32 (IntKind.u32.wrap q26) 8)) (ishl .u32 (IntKind.u32.wrap q31) 16)) (ishl .u32 (IntKind.u32.wrap q36) 24))) 16) 255) ∧ (iand .u32 (ishr .u32 (ixor .u32 s18.1 (ior .u32 (ior .u32 (ior .u32 (IntKind.u32.wrap q21) (ishl .u32 (IntKind.u32.wrap q26) 8)) (ishl .u32 (IntKind.u32.wrap q31) 16)) (ishl .u32 (IntKind.u32.wrap q36) 24))) 16) 255) < 256 ∧ 0 ≤ (ishr .u32 (ixor .u32 s18.1 (ior .u32 (ior .u32 (ior .u32 (IntKind.u32.wrap q21) (ishl .u32 (IntKind.u32.wrap q26) 8)) (ishl .u32 (IntKind.u32.wrap q31) 16)) (ishl .u32 (IntKind.u32.wrap q36) 24))) 24) ∧ (ishr .u32 (ixor .u32 s18.1 (ior .u32 (ior .u32 (ior .u32 (IntKind.u32.wrap q21) (ishl .u32 (IntKind.u32.wrap q26) 8)) (ishl .u32 (IntKind.u32.wrap q31) 16)) (ishl .u32 (IntKind.u32.wrap q36) 24))) 24) < 256 ∧ 4 ≤ (s18.2.length : Int) ∧ (s18.2.length : Int) ≤ (s18.2.length : Int) ∧ o18 = .inl ((ixor .u32 (ixor .u32 (ixor .u32 (a0.getD (768 + (iand .u32 (ixor .u32 s18.1 (ior .u32 (ior .u32 (ior .u32 (IntKind.u32.wrap q21) (ishl .u32 (IntKind.u32.wrap q26) 8)) (ishl .u32 (IntKind.u32.wrap q31) 16)) (ishl .u32 (IntKind.u32.wrap q36) 24))) 255).toNat) 0) (a0.getD (512 + (iand .u32 (ishr .u32 (ixor .u32 s18.1 (ior .u32 (ior .u32 (ior .u32 (IntKind.u32.wrap q21) (ishl .u32 (IntKind.u32.wrap q26) 8)) (ishl .u32 (IntKind.u32.wrap q31) 16)) (ishl .u32 (IntKind.u32.wrap q36) 24))) 8) 255).toNat) 0)) (a0.getD (256 + (iand .u32 (ishr .u32 (ixor .u32 s18.1 (ior .u32 (ior .u32 (ior .u32 (IntKind.u32.wrap q21) (ishl .u32 (IntKind.u32.wrap q26) 8)) (ishl .u32 (IntKind.u32.wrap q31) 16)) (ishl .u32 (IntKind.u32.wrap q36) 24))) 16) 255).toNat) 0)) (a0.getD ((ishr .u32 (ixor .u32 s18.1 (ior .u32 (ior .u32 (ior .u32 (IntKind.u32.wrap q21) (ishl .u32 (IntKind.u32.wrap q26) 8)) (ishl .u32 (IntKind.u32.wrap q31) 16)) (ishl .u32 (IntKind.u32.wrap q36) 24))) 24).toNat) 0)), ((s18.2.drop (4 : Int).toNat).take (((s18.2.length : Int) : Int) - 4).toNat)))
def crc_Table_Add (a0 : List Int) (a1 : Int) (a2 : List Int) (r : Int) : Prop :=
  ∃ e18 : Int × List Int, Loops (crc_Table_Add_l4 a0) (a1, a2) e18 ∧ (crc_Table_Add_j1 a0 e18 r)
def crc_Table_End (a0 : List Int) (a1 : Int) (r : Int) : Prop :=
  r = (icompl .u32 a1)
def crc_Table_Sum_j1 (a0 : List Int) (s9 : Int) (r : Int) : Prop :=
  ∃ r10 : Int, crc_Table_End a0 s9 r10 ∧ r = r10
def crc_Table_Sum_l2 (a0 : List Int) (a1 : List (List Int)) (s14 : Int × Int) (o14 : Sum (Int × Int) Int) : Prop :=
  if (decide (s14.2 < (a1.length : Int))) = true then (∃ q15 : List Int, idx a1 s14.2 q15 ∧ ∃ r22 : Int, crc_Table_Add a0 s14.1 q15 r22 ∧ o14 = .inl (r22, (IntKind.i64.wrap (s14.2 + 1)))) else (o14 = .inr s14.1)
def crc_Table_Sum (a0 : List Int) (a1 : List (List Int)) (r : Int) : Prop :=
  ∃ r5 : Int, crc_Table_Begin a0 r5 ∧ ∃ e14 : Int, Loops (crc_Table_Sum_l2 a0 a1) (r5, 0) e14 ∧ (crc_Table_Sum_j1 a0 e14 r)
def crc_bytes (a0 : Int) (r : List Int) : Prop :=
  r = [(IntKind.u8.wrap a0), (IntKind.u8.wrap (ishr .u32 a0 8)), (IntKind.u8.wrap (ishr .u32 a0 16)), (IntKind.u8.wrap (ishr .u32 a0 24))]
def crc_Seal (a0 : List Int) (a1 : List Int) (r : List Int) : Prop :=
  ∃ r12 : Int, crc_Table_Sum a0 [a1] r12 ∧ ∃ r16 : List Int, crc_bytes r12 r16 ∧ (([] : List Int).length + a1.length) * 1 ≤ 140737488355328 ∧ ([] : List Int).length + a1.length ≤ 4611686018427387904 ∧ ((([] : List Int) ++ a1).length + [(r16.getD 0 0), (r16.getD 1 0), (r16.getD 2 0), (r16.getD 3 0)].length) * 1 ≤ 140737488355328 ∧ (([] : List Int) ++ a1).length + [(r16.getD 0 0), (r16.getD 1 0), (r16.getD 2 0), (r16.getD 3 0)].length ≤ 4611686018427387904 ∧ r = ((([] : List Int) ++ a1) ++ [(r16.getD 0 0), (r16.getD 1 0), (r16.getD 2 0), (r16.getD 3 0)])
def ack_Bytes_j1  (s10 : List Int × Int × Bool) (r : List Int) : Prop :=
  ∃ r14 : List Int, crc_New r14 ∧ ∃ r20 : List Int, pen_Pen_Bytes s10 r20 ∧ ∃ r26 : List Int, crc_Seal r14 r20 r26 ∧ r = r26
def ack_Bytes_l2 (a0 : Int × Int) (s32 : Int × List Int × Int × Bool) (o32 : Sum (Int × List Int × Int × Bool) (List Int × Int × Bool)) : Prop :=
  if (decide (s32.1 < 3)) = true then (0 ≤ s32.1 ∧ s32.1 < 3 ∧ ∃ r38 : Int × ((List Int × Int × Bool)), pen_Pen_U32 s32.2 ([a0.1, (IntKind.u32.wrap a0.2), (IntKind.u32.wrap (ishr .u64 a0.2 32))].getD s32.1.toNat 0) r38 ∧ o32 = .inl ((IntKind.i64.wrap (s32.1 + 1)), r38.2.1, r38.2.2.1, r38.2.2.2)) else (o32 = .inr (s32.2.1, s32.2.2.1, s32.2.2.2))
def ack_Bytes (a0 : Int × Int) (r : List Int) : Prop :=
  ∃ r2 : ((List Int × Int × Bool)), pen_New 16 r2 ∧ ∃ e32 : List Int × Int × Bool, Loops (ack_Bytes_l2 a0) (0, r2.1, r2.2.1, r2.2.2) e32 ∧ (ack_Bytes_j1 e32 r)
def crc_Open (a0 : List Int) (a1 : List Int) (r : List Int × Int) : Prop :=
  if (decide ((IntKind.i64.wrap ((a1.length : Int) - 4)) < 0)) = true then (r = ([], 13)) else (0 ≤ (IntKind.i64.wrap ((a1.length : Int) - 4)) ∧ (IntKind.i64.wrap ((a1.length : Int) - 4)) ≤ (a1.length : Int) ∧ (IntKind.i64.wrap ((a1.length : Int) - 4)) ≤ (IntKind.i64.wrap ((a1.length : Int) - 4)) ∧ (IntKind.i64.wrap ((a1.length : Int) - 4)) ≤ (a1.length : Int) ∧ ∃ r21 : Int, crc_Table_Sum a0 [((a1.drop (0 : Int).toNat).take (((IntKind.i64.wrap ((a1.length : Int) - 4)) : Int) - 0).toNat)] r21 ∧ ∃ r25 : List Int, crc_bytes r21 r25 ∧ 0 ≤ (IntKind.i64.wrap ((a1.length : Int) - 4)) ∧ (IntKind.i64.wrap ((a1.length : Int) - 4)) ≤ (a1.length : Int) ∧ (a1.length : Int) ≤ (a1.length : Int) ∧ 4 ≤ ((a1.drop (IntKind.i64.wrap ((a1.length : Int) - 4)).toNat).take (((a1.length : Int) : Int) - (IntKind.i64.wrap ((a1.length : Int) - 4))).toNat).length ∧ if (!(eqN 4 0 r25 ((a1.drop (IntKind.i64.wrap ((a1.length : Int) - 4)).toNat).take (((a1.length : Int) : Int) - (IntKind.i64.wrap ((a1.length : Int) - 4))).toNat))) = true then (r = ([], 11)) else ((([] : List Int).length + ((a1.drop (0 : Int).toNat).take (((IntKind.i64.wrap ((a1.length : Int) - 4)) : Int) - 0).toNat).length) * 1 ≤ 140737488355328 ∧ ([] : List Int).length + ((a1.drop (0 : Int).toNat).take (((IntKind.i64.wrap ((a1.length : Int) - 4)) : Int) - 0).toNat).length ≤ 4611686018427387904 ∧ r = ((([] : List Int) ++ ((a1.drop (0 : Int).toNat).take (((IntKind.i64.wrap ((a1.length : Int) - 4)) : Int) - 0).toNat)), 0)))
def lens_Lens_Words_1_j2 (S : Type) (Y : Int → S → Bool × S → Prop) (c0 : Int) (s3 : S × List Int × Int × Int) (s8 : S × Bool) (o3 : Sum (S × List Int × Int × Int) (S × (List Int × Int × Int))) : Prop :=
  if s8.2 = true then (∃ r11 : Int, lens_Lens_Err s3.2 r11 ∧ ∃ r15 : Int, ((!(decide (r11 = 0))) = false → lens_Lens_Left s3.2 r15) ∧ ∃ r19 : Int × (List Int × Int × Int), (((!(decide (r11 = 0))) || (decide (r15 < c0))) = false → lens_Lens_word s3.2 c0 r19) ∧ ∃ y27 : Bool, ∃ u28 : S, (((!(decide (r11 = 0))) || (decide (r15 < c0))) = false → Y r19.1 s8.1 (y27, u28)) ∧ if ((!(decide (r11 = 0))) || (decide (r15 < c0))) = false then (if (((!(decide (r11 = 0))) || (decide (r15 < c0))) || (!y27)) = true then (o3 = .inr (u28, r19.2)) else (o3 = .inl (u28, r19.2.1, r19.2.2.1, r19.2.2.2))) else (if (((!(decide (r11 = 0))) || (decide (r15 < c0))) || (!y27)) = true then (o3 = .inr (s8.1, s3.2)) else (o3 = .inl (s8.1, s3.2.1, s3.2.2.1, s3.2.2.2)))) else (o3 = .inr (s8.1, s3.2))
def lens_Lens_Words_1_l1 (S : Type) (Y : Int → S → Bool × S → Prop) (c0 : Int) (s3 : S × List Int × Int × Int) (o3 : Sum (S × List Int × Int × Int) (S × (List Int × Int × Int))) : Prop :=
  if (decide (c0 = 1)) = true then (lens_Lens_Words_1_j2 S Y c0 s3 (s3.1, true) o3) else (if (decide (c0 = 2)) = true then (lens_Lens_Words_1_j2 S Y c0 s3 (s3.1, true) o3) else (lens_Lens_Words_1_j2 S Y c0 s3 (s3.1, (decide (c0 = 4))) o3))
def lens_Lens_Words_1 (c0 : Int) (c1 : List Int × Int × Int) (S : Type) (Y : Int → S → Bool × S → Prop) (s : S) (r : S × (List Int × Int × Int)) : Prop :=
  ∃ e3 : S × (List Int × Int × Int), Loops (lens_Lens_Words_1_l1 S Y c0) (s, c1.1, c1.2.1, c1.2.2) e3 ∧ (r = e3)
def lens_Lens_Words (a0 : List Int × Int × Int) (a1 : Int) (r : (((List Int × Int × Int) → (S : Type) → (Int → S → Bool × S → Prop) → S → S × (List Int × Int × Int) → Prop))) : Prop :=
  r = (lens_Lens_Words_1 a1)
def ack_Parse_j1  (s25 : Int × Int × Int) (r : (Int × Int) × Int) : Prop :=
  r = ((s25.1, (ior .u64 (ishl .u64 (IntKind.u64.wrap s25.2.2) 32) (IntKind.u64.wrap s25.2.1))), 0)
def ack_Parse_l2  (x40 : Int) (s40 : Int × Int × Int × Int) (o40 : Sum (Int × Int × Int × Int) (Int × Int × Int × Int)) : Prop :=
  0 ≤ s40.2.2.2 ∧ s40.2.2.2 < 3 ∧ if (decide (s40.2.2.2 = 2)) = true then (o40 = .inr (((putN 3 0 [s40.1, s40.2.1, s40.2.2.1] s40.2.2.2.toNat x40).getD 0 0), ((putN 3 0 [s40.1, s40.2.1, s40.2.2.1] s40.2.2.2.toNat x40).getD 1 0), ((putN 3 0 [s40.1, s40.2.1, s40.2.2.1] s40.2.2.2.toNat x40).getD 2 0), s40.2.2.2)) else (o40 = .inl (((putN 3 0 [s40.1, s40.2.1, s40.2.2.1] s40.2.2.2.toNat x40).getD 0 0), ((putN 3 0 [s40.1, s40.2.1, s40.2.2.1] s40.2.2.2.toNat x40).getD 1 0), ((putN 3 0 [s40.1, s40.2.1, s40.2.2.1] s40.2.2.2.toNat x40).getD 2 0), (IntKind.i64.wrap (s40.2.2.2 + 1))))
def ack_Parse (a0 : List Int) (r : (Int × Int) × Int) : Prop :=
  if (decide ((a0.length : Int) < 16)) = true then (r = ((0, 0), 13)) else (if (decide (16 < (a0.length : Int))) = true then (r = ((0, 0), 3)) else (∃ r4 : List Int, crc_New r4 ∧ ∃ r10 : List Int × Int, crc_Open r4 a0 r10 ∧ if (!(decide (r10.2 = 0))) = true then (r = ((0, 0), r10.2)) else (∃ r16 : (List Int × Int × Int), lens_New r10.1 r16 ∧ ∃ r26 : (((List Int × Int × Int) → (S : Type) → (Int → S → Bool × S → Prop) → S → S × (List Int × Int × Int) → Prop)), lens_Lens_Words r16 4 r26 ∧ ∃ (t40 : Sum (Int × Int × Int × Int) (Int × Int × Int × Int)) (w40 : (List Int × Int × Int)), r26 r16 (Sum (Int × Int × Int × Int) (Int × Int × Int × Int)) (Yof (ack_Parse_l2)) (.inl (0, 0, 0, 0)) (t40, w40) ∧ Aft (fun p49 => ack_Parse_j1 (p49.1, p49.2.1, p49.2.2.1) r) (fun p43 => ack_Parse_j1 (p43.1, p43.2.1, p43.2.2.1) r) t40)))
def ref10_Add_j1 (a0 : Int) (s1 : Int) (r : Int) : Prop :=
  r = (IntKind.u32.wrap ((IntKind.u64.wrap ((IntKind.u64.wrap a0) + (IntKind.u64.wrap s1))).tmod 4294967296))
def ref10_Add (a0 : Int) (a1 : Int) (r : Int) : Prop :=
  if (decide ((a1.tmod 4294967296) < 0)) = true then (ref10_Add_j1 a0 (IntKind.i64.wrap ((a1.tmod 4294967296) + 4294967296)) r) else (ref10_Add_j1 a0 (a1.tmod 4294967296) r)
def ref32_bit_j1  (s1 : Int) (r : Bool) : Prop :=
  r = (decide ((s1.tmod 2) = 1))
def ref32_bit_l2 (a1 : Int) (s2 : Int × Int) (o2 : Sum (Int × Int) Int) : Prop :=
  if (decide (s2.2 < a1)) = true then (o2 = .inl ((IntKind.u64.wrap (s2.1.tdiv 2)), (IntKind.i64.wrap (s2.2 + 1)))) else (o2 = .inr s2.1)
def ref32_bit (a0 : Int) (a1 : Int) (r : Bool) : Prop :=
  ∃ e2 : Int, Loops (ref32_bit_l2 a1) (a0, 0) e2 ∧ (ref32_bit_j1 e2 r)
def ref10_Way (a0 : Int) (a1 : Int) (r : Int) : Prop :=
  r = (IntKind.u32.wrap ((IntKind.u64.wrap ((IntKind.u64.wrap ((IntKind.u64.wrap a1) + 4294967296)) - (IntKind.u64.wrap a0))).tmod 4294967296))
def ref10_After_j1  (s1 : Bool) (r : Bool) : Prop :=
  r = s1
def ref10_After (a0 : Int) (a1 : Int) (r : Bool) : Prop :=
  ∃ r2 : Int, ref10_Way a1 a0 r2 ∧ if (decide (1 ≤ r2)) = true then (∃ r6 : Int, ref10_Way a1 a0 r6 ∧ ref10_After_j1 (decide (r6 < 2147483648)) r) else (ref10_After_j1 false r)
def ref32_Has_j1 (a0 : Int × Int) (a1 : Int) (s2 : Unit) (r : Bool) : Prop :=
  ∃ r3 : Bool, ref10_After a1 a0.1 r3 ∧ r = (!r3)
def ref32_Has_l2 (a0 : Int × Int) (a1 : Int) (s7 : Int) (o7 : Sum Int (Sum Unit Bool)) : Prop :=
  if (decide (s7 < 64)) = true then (∃ r8 : Int, ref10_Add a0.1 (IntKind.i64.wrap (0 - s7)) r8 ∧ if (decide (r8 = a1)) = true then (∃ r12 : Bool, ref32_bit a0.2 s7 r12 ∧ o7 = .inr (.inr r12)) else (o7 = .inl (IntKind.i64.wrap (s7 + 1)))) else (o7 = .inr (.inl ()))
def ref32_Has (a0 : Int × Int) (a1 : Int) (r : Bool) : Prop :=
  ∃ e7 : (Sum Unit Bool), Loops (ref32_Has_l2 a0 a1) 0 e7 ∧ Aft (fun p16 => ref32_Has_j1 a0 a1 p16 r) (fun p17 => r = p17) e7
def serial_Add (a0 : Int) (a1 : Int) (r : Int) : Prop :=
  r = (IntKind.u32.wrap (a0 + (IntKind.u32.wrap a1)))
def window_New (a0 : Int) (r : ((Int × Int))) : Prop :=
  ∃ r1 : Int, serial_Add a0 (-1) r1 ∧ r = (r1, 18446744073709551615)
def window_Window_Top (a0 : (Int × Int)) (r : Int) : Prop :=
  r = a0.1
def window_Window_Bits (a0 : (Int × Int)) (r : Int) : Prop :=
  r = a0.2
def ack_Of (a0 : (Int × Int)) (r : (Int × Int)) : Prop :=
  ∃ r2 : Int, window_Window_Top a0 r2 ∧ ∃ r6 : Int, window_Window_Bits a0 r6 ∧ r = (r2, r6)
def serial_Way (a0 : Int) (a1 : Int) (r : Int) : Prop :=
  r = (IntKind.u32.wrap (a1 - a0))
def serial_Diff (a0 : Int) (a1 : Int) (r : Int) : Prop :=
  r = (IntKind.i64.wrap (IntKind.i32.wrap (IntKind.u32.wrap (a0 - a1))))
def serial_After (a0 : Int) (a1 : Int) (r : Bool) : Prop :=
  ∃ r1 : Int, serial_Diff a0 a1 r1 ∧ r = (decide (0 < r1))
def ack_Lacks (a0 : Int × Int) (a1 : Int) (r : Bool) : Prop :=
  ∃ r2 : Int, serial_Way a1 a0.1 r2 ∧ if (decide (r2 < 64)) = true then (0 ≤ r2 ∧ r = (decide ((iand .u64 (ishr .u64 a0.2 r2) 1) = 0))) else (∃ r7 : Bool, serial_After a1 a0.1 r7 ∧ r = r7)
def ack_Has (a0 : Int × Int) (a1 : Int) (r : Bool) : Prop :=
  ∃ r2 : Bool, ack_Lacks a0 a1 r2 ∧ r = (!r2)
def law32_known_j1  (s11 : Bool) (r : Bool) : Prop :=
  r = s11
def law32_known  (r : Bool) : Prop :=
  ∃ r1 : ((Int × Int)), window_New 5 r1 ∧ ∃ r6 : (Int × Int), ack_Of r1 r6 ∧ if (decide (r6.1 = 4)) = true then (if (decide (r6.2 = 18446744073709551615)) = true then (∃ r12 : Bool, ack_Has r6 4 r12 ∧ if r12 = true then (∃ r16 : Bool, ack_Has r6 5 r16 ∧ law32_known_j1 (!r16) r) else (law32_known_j1 false r)) else (law32_known_j1 false r)) else (law32_known_j1 false r)
def ack_Newer_j1  (s7 : Bool) (r : Bool) : Prop :=
  r = s7
def ack_Newer (a0 : Int × Int) (a1 : Int × Int) (r : Bool) : Prop :=
  if (!(decide (a0.1 = a1.1))) = true then (∃ r3 : Bool, serial_After a0.1 a1.1 r3 ∧ r = r3) else (if (!(decide (a0.2 = a1.2))) = true then (ack_Newer_j1 (decide ((iand .u64 a0.2 a1.2) = a1.2)) r) else (ack_Newer_j1 false r))
def ref32_Newer_j1  (s7 : Bool) (r : Bool) : Prop :=
  r = s7
def ref32_Newer_j3 (s8 : Bool × Int) (s9 : Bool) (o8 : Sum (Bool × Int) (Sum Bool Bool)) : Prop :=
  o8 = .inl (s9, (IntKind.i64.wrap (s8.2 + 1)))
def ref32_Newer_j4 (a0 : Int × Int) (a1 : Int × Int) (s8 : Bool × Int) (s10 : Bool) (o8 : Sum (Bool × Int) (Sum Bool Bool)) : Prop :=
  if s10 = true then (o8 = .inr (.inr false)) else (if s8.1 = true then (ref32_Newer_j3 s8 true o8) else (∃ r11 : Bool, ref32_bit a0.2 s8.2 r11 ∧ if r11 = true then (∃ r15 : Bool, ref32_bit a1.2 s8.2 r15 ∧ ref32_Newer_j3 s8 (!r15) o8) else (ref32_Newer_j3 s8 false o8)))
def ref32_Newer_l2 (a0 : Int × Int) (a1 : Int × Int) (s8 : Bool × Int) (o8 : Sum (Bool × Int) (Sum Bool Bool)) : Prop :=
  if (decide (s8.2 < 64)) = true then (∃ r19 : Bool, ref32_bit a1.2 s8.2 r19 ∧ if r19 = true then (∃ r23 : Bool, ref32_bit a0.2 s8.2 r23 ∧ ref32_Newer_j4 a0 a1 s8 (!r23) o8) else (ref32_Newer_j4 a0 a1 s8 false o8)) else (o8 = .inr (.inl s8.1))
def ref32_Newer (a0 : Int × Int) (a1 : Int × Int) (r : Bool) : Prop :=
  if (!(decide (a0.1 = a1.1))) = true then (∃ r3 : Bool, ref10_After a0.1 a1.1 r3 ∧ r = r3) else (∃ e8 : (Sum Bool Bool), Loops (ref32_Newer_l2 a0 a1) (false, 0) e8 ∧ Aft (fun p27 => ref32_Newer_j1 p27 r) (fun p28 => r = p28) e8)
def ref04_Of_j1  (s3 : List Bool) (r : List Bool) : Prop :=
  r = s3
def ref04_Of_l2  (s4 : Int × Int × List Bool) (o4 : Sum (Int × Int × List Bool) (List Bool)) : Prop :=
  if (decide (s4.2.1 < 32)) = true then (0 ≤ s4.2.1 ∧ s4.2.1 < 32 ∧ o4 = .inl ((IntKind.u32.wrap (s4.1.tdiv 2)), (IntKind.i64.wrap (s4.2.1 + 1)), (putN 32 false s4.2.2 s4.2.1.toNat (decide ((s4.1.tmod 2) = 1))))) else (o4 = .inr s4.2.2)
def ref04_Of (a0 : Int) (r : List Bool) : Prop :=
  ∃ e4 : List Bool, Loops (ref04_Of_l2) (a0, 0, (List.replicate 32 false)) e4 ∧ (ref04_Of_j1 e4 r)
def ref04_Xor_j1  (s4 : List Bool) (r : List Bool) : Prop :=
  r = s4
def ref04_Xor_l2 (a1 : List Bool) (s5 : Int × List Bool) (o5 : Sum (Int × List Bool) (List Bool)) : Prop :=
  if (decide (s5.1 < 32)) = true then (0 ≤ s5.1 ∧ s5.1 < 32 ∧ 0 ≤ s5.1 ∧ s5.1 < 32 ∧ 0 ≤ s5.1 ∧ s5.1 < 32 ∧ o5 = .inl ((IntKind.i64.wrap (s5.1 + 1)), (putN 32 false s5.2 s5.1.toNat (!(decide ((s5.2.getD s5.1.toNat false) = (a1.getD s5.1.toNat false))))))) else (o5 = .inr s5.2)
def ref04_Xor (a0 : List Bool) (a1 : List Bool) (r : List Bool) : Prop :=
  ∃ e5 : List Bool, Loops (ref04_Xor_l2 a1) (0, a0) e5 ∧ (ref04_Xor_j1 e5 r)
def ref04_Shift_j1  (s8 : List Bool) (r : List Bool) : Prop :=
  r = s8
def ref04_Shift_j3 (s9 : Int × List Bool) (s10 : List Bool) (o9 : Sum (Int × List Bool) (List Bool)) : Prop :=
  o9 = .inl ((IntKind.i64.wrap (s9.1 + 1)), s10)
def ref04_Shift_j4 (r3 : List Bool) (s9 : Int × List Bool) (s11 : List Bool) (o9 : Sum (Int × List Bool) (List Bool)) : Prop :=
  if (s9.2.getD 0 false) = true then (∃ r12 : List Bool, ref04_Xor (putN 32 false s11 31 false) r3 r12 ∧ ref04_Shift_j3 s9 r12 o9) else (ref04_Shift_j3 s9 (putN 32 false s11 31 false) o9)
def ref04_Shift_l5  (s16 : Int × List Bool) (o16 : Sum (Int × List Bool) (List Bool)) : Prop :=
  if (decide (s16.1 < 31)) = true then (0 ≤ (IntKind.i64.wrap (s16.1 + 1)) ∧ (IntKind.i64.wrap (s16.1 + 1)) < 32 ∧ 0 ≤ s16.1 ∧ s16.1 < 32 ∧ o16 = .inl ((IntKind.i64.wrap (s16.1 + 1)), (putN 32 false s16.2 s16.1.toNat (s16.2.getD ((IntKind.i64.wrap (s16.1 + 1)).toNat) false)))) else (o16 = .inr s16.2)
def ref04_Shift_l2 (r3 : List Bool) (s9 : Int × List Bool) (o9 : Sum (Int × List Bool) (List Bool)) : Prop :=
  if (decide (s9.1 < 8)) = true then (∃ e16 : List Bool, Loops (ref04_Shift_l5) (0, s9.2) e16 ∧ (ref04_Shift_j4 r3 s9 e16 o9)) else (o9 = .inr s9.2)
def ref04_Shift (a0 : List Bool) (r : List Bool) : Prop :=
  ∃ r3 : List Bool, ref04_Of 3988292384 r3 ∧ ∃ e9 : List Bool, Loops (ref04_Shift_l2 r3) (0, a0) e9 ∧ (ref04_Shift_j1 e9 r)
def ref04_Word_j1  (s2 : Int) (r : Int) : Prop :=
  r = s2
def ref04_Word_j3 (s3 : Int × Int) (s4 : Int) (o3 : Sum (Int × Int) Int) : Prop :=
  o3 = .inl (s4, (IntKind.i64.wrap (s3.2 - 1)))
def ref04_Word_l2 (a0 : List Bool) (s3 : Int × Int) (o3 : Sum (Int × Int) Int) : Prop :=
  if (decide (0 ≤ s3.2)) = true then (0 ≤ s3.2 ∧ s3.2 < 32 ∧ if (a0.getD s3.2.toNat false) = true then (ref04_Word_j3 s3 (IntKind.u32.wrap ((IntKind.u32.wrap (2 * s3.1)) + 1)) o3) else (ref04_Word_j3 s3 (IntKind.u32.wrap (2 * s3.1)) o3)) else (o3 = .inr s3.1)
def ref04_Word (a0 : List Bool) (r : Int) : Prop :=
  ∃ e3 : Int, Loops (ref04_Word_l2 a0) (0, 31) e3 ∧ (ref04_Word_j1 e3 r)
def ref04_Sum_j1  (s8 : List Bool) (r : Int) : Prop :=
  ∃ r9 : Int, ref04_Word s8 r9 ∧ r = (IntKind.u32.wrap (4294967295 - r9))
def ref04_Sum_l2 (a0 : List Int) (s13 : Int × List Bool) (o13 : Sum (Int × List Bool) (List Bool)) : Prop :=
  if (decide (s13.1 < (a0.length : Int))) = true then (∃ q14 : Int, idx a0 s13.1 q14 ∧ ∃ r19 : List Bool, ref04_Of (IntKind.u32.wrap q14) r19 ∧ ∃ r23 : List Bool, ref04_Xor s13.2 r19 r23 ∧ ∃ r27 : List Bool, ref04_Shift r23 r27 ∧ o13 = .inl ((IntKind.i64.wrap (s13.1 + 1)), r27)) else (o13 = .inr s13.2)
def ref04_Sum (a0 : List Int) (r : Int) : Prop :=
  ∃ r3 : List Bool, ref04_Of 4294967295 r3 ∧ ∃ e13 : List Bool, Loops (ref04_Sum_l2 a0) (0, r3) e13 ∧ (ref04_Sum_j1 e13 r)
def ref04_Bytes (a0 : Int) (r : List Int) : Prop :=
  r = [(IntKind.u8.wrap (a0.tmod 256)), (IntKind.u8.wrap ((IntKind.u32.wrap (a0.tdiv 256)).tmod 256)), (IntKind.u8.wrap ((IntKind.u32.wrap (a0.tdiv 65536)).tmod 256)), (IntKind.u8.wrap (IntKind.u32.wrap (a0.tdiv 16777216)))]
def ref32_Bytes (a0 : Int × Int) (r : List Int) : Prop :=
  ∃ r2 : List Int, ref02_Word a0.1 4 r2 ∧ ∃ r9 : List Int, ref02_Word (IntKind.u32.wrap (a0.2.tmod 4294967296)) 4 r9 ∧ (r2.length + r9.length) * 1 ≤ 140737488355328 ∧ r2.length + r9.length ≤ 4611686018427387904 ∧ ∃ r23 : List Int, ref02_Word (IntKind.u32.wrap (IntKind.u64.wrap (a0.2.tdiv 4294967296))) 4 r23 ∧ ((r2 ++ r9).length + r23.length) * 1 ≤ 140737488355328 ∧ (r2 ++ r9).length + r23.length ≤ 4611686018427387904 ∧ (([] : List Int).length + ((r2 ++ r9) ++ r23).length) * 1 ≤ 140737488355328 ∧ ([] : List Int).length + ((r2 ++ r9) ++ r23).length ≤ 4611686018427387904 ∧ ∃ r53 : Int, ref04_Sum ((r2 ++ r9) ++ r23) r53 ∧ ∃ r57 : List Int, ref04_Bytes r53 r57 ∧ ((([] : List Int) ++ ((r2 ++ r9) ++ r23)).length + r57.length) * 1 ≤ 140737488355328 ∧ (([] : List Int) ++ ((r2 ++ r9) ++ r23)).length + r57.length ≤ 4611686018427387904 ∧ r = ((([] : List Int) ++ ((r2 ++ r9) ++ r23)) ++ r57)
def ack_Line_j1 (a0 : Int × Int) (s5 : List Int) (r : ByteArray) : Prop :=
  ∃ r13 : ByteArray, say_Number (IntKind.i64.wrap a0.1) r13 ∧ (bstr [97, 99, 107, 32]).size + r13.size < 4611686018427387904 ∧ ((bstr [97, 99, 107, 32]) ++ r13).size + (bstr [32]).size < 4611686018427387904 ∧ (((bstr [97, 99, 107, 32]) ++ r13) ++ (bstr [32])).size + (bstr s5).size < 4611686018427387904 ∧ r = ((((bstr [97, 99, 107, 32]) ++ r13) ++ (bstr [32])) ++ (bstr s5))
def ack_Line_l2 (a0 : Int × Int) (s21 : List Int × Int) (o21 : Sum (List Int × Int) (List Int)) : Prop :=
  if (decide (s21.2 < ((List.replicate (16 : Int).toNat 0).length : Int))) = true then (0 ≤ (IntKind.i64.wrap (4 * (IntKind.i64.wrap (15 - s21.2)))) ∧ ∃ q26 : Int, idx (bints (bstr [48, 49, 50, 51, 52, 53, 54, 55, 56, 57, 97, 98, 99, 100, 101, 102])) (iand .u64 (ishr .u64 a0.2 (IntKind.i64.wrap (4 * (IntKind.i64.wrap (15 - s21.2))))) 15) q26 ∧ ∃ q28 : Int, idx s21.1 s21.2 q28 ∧ o21 = .inl ((s21.1.set s21.2.toNat q26), (IntKind.i64.wrap (s21.2 + 1)))) else (o21 = .inr s21.1)
def ack_Line (a0 : Int × Int) (r : ByteArray) : Prop :=
  ∃ e21 : List Int, Loops (ack_Line_l2 a0) ((List.replicate (16 : Int).toNat 0), 0) e21 ∧ (ack_Line_j1 a0 e21 r)
def ref32_Line_j1 (a0 : Int × Int) (s2 : ByteArray) (r : ByteArray) : Prop :=
  ∃ r3 : ByteArray, ref07_Digits (IntKind.i64.wrap a0.1) r3 ∧ (bstr [97, 99, 107, 32]).size + r3.size < 4611686018427387904 ∧ ((bstr [97, 99, 107, 32]) ++ r3).size + (bstr [32]).size < 4611686018427387904 ∧ (((bstr [97, 99, 107, 32]) ++ r3) ++ (bstr [32])).size + s2.size < 4611686018427387904 ∧ r = ((((bstr [97, 99, 107, 32]) ++ r3) ++ (bstr [32])) ++ s2)
def ref32_Line_j3 (s10 : ByteArray × Int × Int) (s11 : ByteArray) (o10 : Sum (ByteArray × Int × Int) ByteArray) : Prop :=
  o10 = .inl (s11, (IntKind.u64.wrap (s10.2.1.tdiv 16)), (IntKind.i64.wrap (s10.2.2 + 1)))
def ref32_Line_l2  (s10 : ByteArray × Int × Int) (o10 : Sum (ByteArray × Int × Int) ByteArray) : Prop :=
  if (decide (s10.2.2 < 16)) = true then (if (decide ((IntKind.u8.wrap (s10.2.1.tmod 16)) < 10)) = true then ((bstr [(IntKind.u8.wrap (48 + (IntKind.u8.wrap (s10.2.1.tmod 16))))]).size + s10.1.size < 4611686018427387904 ∧ ref32_Line_j3 s10 ((bstr [(IntKind.u8.wrap (48 + (IntKind.u8.wrap (s10.2.1.tmod 16))))]) ++ s10.1) o10) else ((bstr [(IntKind.u8.wrap (87 + (IntKind.u8.wrap (s10.2.1.tmod 16))))]).size + s10.1.size < 4611686018427387904 ∧ ref32_Line_j3 s10 ((bstr [(IntKind.u8.wrap (87 + (IntKind.u8.wrap (s10.2.1.tmod 16))))]) ++ s10.1) o10)) else (o10 = .inr s10.1)
def ref32_Line (a0 : Int × Int) (r : ByteArray) : Prop :=
  ∃ e10 : ByteArray, Loops (ref32_Line_l2) ((bstr []), a0.2, 0) e10 ∧ (ref32_Line_j1 a0 e10 r)
def law32_AckTells (a0 : Int × Int) (a1 : Int × Int) (a2 : Int) (r : Bool) : Prop :=
  ∃ r3 : List Int, ack_Bytes a0 r3 ∧ ∃ r9 : (Int × Int) × Int, ack_Parse r3 r9 ∧ ∃ r14 : Bool, ref32_Has a0 a2 r14 ∧ ∃ r18 : Bool, law32_known r18 ∧ ∃ r22 : Bool, (r18 = true → ack_Has a0 a2 r22) ∧ ∃ r26 : Bool, ((r18 && (decide (r22 = r14))) = true → ack_Lacks a0 a2 r26) ∧ ∃ r30 : Bool, (((r18 && (decide (r22 = r14))) && (!(decide (r26 = r14)))) = true → ack_Newer a0 a1 r30) ∧ ∃ r34 : Bool, (((r18 && (decide (r22 = r14))) && (!(decide (r26 = r14)))) = true → ref32_Newer a0 a1 r34) ∧ ∃ r38 : Bool, ((((r18 && (decide (r22 = r14))) && (!(decide (r26 = r14)))) && (decide (r30 = r34))) = true → ack_Newer a0 a0 r38) ∧ ∃ r42 : List Int, (((((r18 && (decide (r22 = r14))) && (!(decide (r26 = r14)))) && (decide (r30 = r34))) && (!r38)) = true → ref32_Bytes a0 r42) ∧ ∃ r48 : Bool, (((((r18 && (decide (r22 = r14))) && (!(decide (r26 = r14)))) && (decide (r30 = r34))) && (!r38)) = true → ref01_Same r3 r42 r48) ∧ ∃ r52 : ByteArray, ((((((((r18 && (decide (r22 = r14))) && (!(decide (r26 = r14)))) && (decide (r30 = r34))) && (!r38)) && r48) && ((decide (r9.1.1 = a0.1)) && ((decide (r9.1.2 = a0.2)) && true))) && (decide (r9.2 = 0))) = true → ack_Line a0 r52) ∧ ∃ r56 : ByteArray, ((((((((r18 && (decide (r22 = r14))) && (!(decide (r26 = r14)))) && (decide (r30 = r34))) && (!r38)) && r48) && ((decide (r9.1.1 = a0.1)) && ((decide (r9.1.2 = a0.2)) && true))) && (decide (r9.2 = 0))) = true → ref32_Line a0 r56) ∧ r = ((((((((r18 && (decide (r22 = r14))) && (!(decide (r26 = r14)))) && (decide (r30 = r34))) && (!r38)) && r48) && ((decide (r9.1.1 = a0.1)) && ((decide (r9.1.2 = a0.2)) && true))) && (decide (r9.2 = 0))) && (decide (r52 = r56)))
def window_state_bit (a0 : Int × Int) (a1 : Int) (r : Int) : Prop :=
  ∃ r2 : Int, serial_Way a1 a0.1 r2 ∧ if (decide (r2 < 64)) = true then (0 ≤ r2 ∧ r = (ishl .u64 1 r2)) else (r = 0)
def window_Window_Look (a0 : (Int × Int)) (a1 : Int) (r : Int) : Prop :=
  ∃ r1 : Bool, serial_After a1 a0.1 r1 ∧ if r1 = true then (r = 0) else (∃ r5 : Int, window_state_bit a0 a1 r5 ∧ if (decide (r5 = 0)) = true then (r = 15) else (∃ r9 : Int, window_state_bit a0 a1 r9 ∧ if (!(decide ((iand .u64 a0.2 r9) = 0))) = true then (r = 14) else (r = 0)))
def window_Window_Mark_j2  (s12 : Int × Int) (r : Int × ((Int × Int))) : Prop :=
  r = (0, s12)
def window_Window_Mark_j1 (a0 : (Int × Int)) (a1 : Int) (s6 : Int × Int) (r : Int × ((Int × Int))) : Prop :=
  ∃ r7 : Int, window_state_bit s6 a1 r7 ∧ if (!((decide (s6.1 = a0.1)) && ((decide ((ior .u64 s6.2 r7) = a0.2)) && true))) = true then (window_Window_Mark_j2 (s6.1, (ior .u64 s6.2 r7)) r) else (window_Window_Mark_j2 (a0.1, a0.2) r)
def window_Window_Mark (a0 : (Int × Int)) (a1 : Int) (r : Int × ((Int × Int))) : Prop :=
  ∃ r1 : Int, window_Window_Look a0 a1 r1 ∧ if (!(decide (r1 = 0))) = true then (r = (r1, a0)) else (∃ r14 : Bool, serial_After a1 a0.1 r14 ∧ if r14 = true then (∃ r18 : Int, serial_Way a0.1 a1 r18 ∧ 0 ≤ r18 ∧ window_Window_Mark_j1 a0 a1 (a1, (ishl .u64 a0.2 r18)) r) else (window_Window_Mark_j1 a0 a1 (a0.1, a0.2) r))
def window_Window_Top_nil  (r : Int) : Prop :=
  r = 0
def window_Window_Bits_nil  (r : Int) : Prop :=
  r = 0
def ack_Of_nil  (r : (Int × Int)) : Prop :=
  ∃ r2 : Int, window_Window_Top_nil r2 ∧ ∃ r6 : Int, window_Window_Bits_nil r6 ∧ r = (r2, r6)
def law32_AckWindow_j2  (s9 : Bool) (r : Bool) : Prop :=
  r = s9
def law32_AckWindow_j1  (s8 : Unit) (r : Bool) : Prop :=
  ∃ r10 : Bool, law32_known r10 ∧ if r10 = true then (∃ r14 : (Int × Int), ack_Of_nil r14 ∧ law32_AckWindow_j2 ((decide (r14.1 = 0)) && ((decide (r14.2 = 0)) && true)) r) else (law32_AckWindow_j2 false r)
def law32_AckWindow_j4 (a1 : List Int) (a2 : Int) (s18 : Int × Int × Int) (s19 : Bool) (o18 : Sum (Int × Int × Int) (Sum Unit Bool)) : Prop :=
  if s19 = true then (∃ r20 : (Int × Int), ack_Of s18.2 r20 ∧ ∃ r25 : Bool, ack_Lacks r20 a2 r25 ∧ ∃ r29 : Int, window_Window_Look s18.2 a2 r29 ∧ ∃ q33 : Int, ((!(decide (r25 = (decide (r29 = 0))))) = false → idx a1 s18.1 q33) ∧ ∃ r38 : Bool, ((!(decide (r25 = (decide (r29 = 0))))) = false → ack_Lacks r20 q33 r38) ∧ ∃ q42 : Int, ((!(decide (r25 = (decide (r29 = 0))))) = false → idx a1 s18.1 q42) ∧ ∃ r47 : Int, ((!(decide (r25 = (decide (r29 = 0))))) = false → window_Window_Look s18.2 q42 r47) ∧ if ((!(decide (r25 = (decide (r29 = 0))))) || (!(decide (r38 = (decide (r47 = 0)))))) = true then (o18 = .inr (.inr false)) else (∃ q52 : Int, idx a1 s18.1 q52 ∧ ∃ r57 : Int × ((Int × Int)), window_Window_Mark s18.2 q52 r57 ∧ ∃ r61 : (Int × Int), ack_Of r57.2 r61 ∧ ∃ r66 : Bool, ack_Newer r61 r20 r66 ∧ ∃ q70 : Int, ((!(decide (r66 = (decide (r57.1 = 0))))) = false → idx a1 s18.1 q70) ∧ ∃ r75 : Bool, ((!(decide (r66 = (decide (r57.1 = 0))))) = false → ack_Lacks r61 q70 r75) ∧ if ((!(decide (r66 = (decide (r57.1 = 0))))) || r75) = true then (o18 = .inr (.inr false)) else (o18 = .inl ((IntKind.i64.wrap (s18.1 + 1)), r57.2.1, r57.2.2)))) else (o18 = .inr (.inl ()))
def law32_AckWindow_l3 (a1 : List Int) (a2 : Int) (s18 : Int × Int × Int) (o18 : Sum (Int × Int × Int) (Sum Unit Bool)) : Prop :=
  if (decide (s18.1 < (a1.length : Int))) = true then (law32_AckWindow_j4 a1 a2 s18 (decide (s18.1 < 100)) o18) else (law32_AckWindow_j4 a1 a2 s18 false o18)
def law32_AckWindow (a0 : Int) (a1 : List Int) (a2 : Int) (r : Bool) : Prop :=
  ∃ r3 : ((Int × Int)), window_New a0 r3 ∧ ∃ e18 : (Sum Unit Bool), Loops (law32_AckWindow_l3 a1 a2) (0, r3.1, r3.2) e18 ∧ Aft (fun p80 => law32_AckWindow_j1 p80 r) (fun p81 => r = p81) e18
def ref04_Open_j1 (a0 : List Int) (s17 : Unit) (r : List Int × Int) : Prop :=
  0 ≤ (IntKind.i64.wrap ((a0.length : Int) - 4)) ∧ (IntKind.i64.wrap ((a0.length : Int) - 4)) ≤ (a0.length : Int) ∧ (([] : List Int).length + ((a0.drop (0 : Int).toNat).take (((IntKind.i64.wrap ((a0.length : Int) - 4)) : Int) - 0).toNat).length) * 1 ≤ 140737488355328 ∧ ([] : List Int).length + ((a0.drop (0 : Int).toNat).take (((IntKind.i64.wrap ((a0.length : Int) - 4)) : Int) - 0).toNat).length ≤ 4611686018427387904 ∧ r = ((([] : List Int) ++ ((a0.drop (0 : Int).toNat).take (((IntKind.i64.wrap ((a0.length : Int) - 4)) : Int) - 0).toNat)), 0)
def ref04_Open_l2 (a0 : List Int) (r11 : List Int) (s35 : Int) (o35 : Sum Int (Sum Unit (List Int × Int))) : Prop :=
  if (decide (s35 < 4)) = true then (∃ q36 : Int, idx r11 s35 q36 ∧ ∃ q41 : Int, idx a0 (IntKind.i64.wrap ((IntKind.i64.wrap ((a0.length : Int) - 4)) + s35)) q41 ∧ if (!(decide (q36 = q41))) = true then (o35 = .inr (.inr ([], 11))) else (o35 = .inl (IntKind.i64.wrap (s35 + 1)))) else (o35 = .inr (.inl ()))
def ref04_Open (a0 : List Int) (r : List Int × Int) : Prop :=
  if (decide ((a0.length : Int) < 4)) = true then (r = ([], 13)) else (0 ≤ (IntKind.i64.wrap ((a0.length : Int) - 4)) ∧ (IntKind.i64.wrap ((a0.length : Int) - 4)) ≤ (a0.length : Int) ∧ ∃ r7 : Int, ref04_Sum ((a0.drop (0 : Int).toNat).take (((IntKind.i64.wrap ((a0.length : Int) - 4)) : Int) - 0).toNat) r7 ∧ ∃ r11 : List Int, ref04_Bytes r7 r11 ∧ ∃ e35 : (Sum Unit (List Int × Int)), Loops (ref04_Open_l2 a0 r11) 0 e35 ∧ Aft (fun p47 => ref04_Open_j1 a0 p47 r) (fun p48 => r = p48) e35)
def ref32_Parse_j2 (s11 : Int) (s12 : Int) (r : (Int × Int) × Int) : Prop :=
  r = ((s11, s12), 0)
def ref32_Parse_l3 (r4 : List Int × Int) (s13 : Int × Int) (o13 : Sum (Int × Int) Int) : Prop :=
  if (decide (4 ≤ s13.1)) = true then (∃ q14 : Int, idx r4.1 s13.1 q14 ∧ o13 = .inl ((IntKind.i64.wrap (s13.1 - 1)), (IntKind.u64.wrap ((IntKind.u64.wrap (256 * s13.2)) + (IntKind.u64.wrap q14))))) else (o13 = .inr s13.2)
def ref32_Parse_j1 (r4 : List Int × Int) (s11 : Int) (r : (Int × Int) × Int) : Prop :=
  ∃ e13 : Int, Loops (ref32_Parse_l3 r4) (11, 0) e13 ∧ (ref32_Parse_j2 s11 e13 r)
def ref32_Parse_l4 (r4 : List Int × Int) (s21 : Int × Int) (o21 : Sum (Int × Int) Int) : Prop :=
  if (decide (0 ≤ s21.1)) = true then (∃ q22 : Int, idx r4.1 s21.1 q22 ∧ o21 = .inl ((IntKind.i64.wrap (s21.1 - 1)), (IntKind.u32.wrap ((IntKind.u32.wrap (256 * s21.2)) + (IntKind.u32.wrap q22))))) else (o21 = .inr s21.2)
def ref32_Parse (a0 : List Int) (r : (Int × Int) × Int) : Prop :=
  if (decide ((a0.length : Int) < 16)) = true then (r = ((0, 0), 13)) else (if (decide (16 < (a0.length : Int))) = true then (r = ((0, 0), 3)) else (∃ r4 : List Int × Int, ref04_Open a0 r4 ∧ if (!(decide (r4.2 = 0))) = true then (r = ((0, 0), r4.2)) else (∃ e21 : Int, Loops (ref32_Parse_l4 r4) (3, 0) e21 ∧ (ref32_Parse_j1 r4 e21 r))))
def law32_AckParses_j1  (s17 : Bool) (r : Bool) : Prop :=
  r = s17
def law32_AckParses (a0 : List Int) (r : Bool) : Prop :=
  0 ≤ (min (a0.length : Int) 20) ∧ (min (a0.length : Int) 20) ≤ (a0.length : Int) ∧ ∃ r7 : (Int × Int) × Int, ack_Parse ((a0.drop (0 : Int).toNat).take (((min (a0.length : Int) 20) : Int) - 0).toNat) r7 ∧ ∃ r12 : (Int × Int) × Int, ref32_Parse ((a0.drop (0 : Int).toNat).take (((min (a0.length : Int) 20) : Int) - 0).toNat) r12 ∧ ∃ r18 : Bool, law32_known r18 ∧ if r18 = true then (if ((decide (r7.1.1 = r12.1.1)) && ((decide (r7.1.2 = r12.1.2)) && true)) = true then (if (decide (r7.2 = r12.2)) = true then (if (!(decide (r7.2 = 0))) = true then (law32_AckParses_j1 true r) else (∃ r22 : List Int, ack_Bytes r7.1 r22 ∧ ∃ r28 : Bool, ref01_Same r22 ((a0.drop (0 : Int).toNat).take (((min (a0.length : Int) 20) : Int) - 0).toNat) r28 ∧ law32_AckParses_j1 r28 r)) else (law32_AckParses_j1 false r)) else (law32_AckParses_j1 false r)) else (law32_AckParses_j1 false r)
end Go.Rel
