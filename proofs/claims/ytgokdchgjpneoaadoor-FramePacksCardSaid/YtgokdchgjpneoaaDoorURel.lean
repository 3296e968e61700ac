import Derived.Test.YtgokdchgjpneoaaDoorEngP
/-! The functions as plain relations. -/
set_option linter.unusedVariables false
namespace Go.Rel
open Go Go.Eng
def strconv_Itoa (a0 : Int) (r : ByteArray) : Prop := IntOk .i64 a0 ∧ r = bstr (decI a0)
def ref07_Digits_j1  (s1 : Int × ByteArray) (r : ByteArray) : Prop :=
  (bstr [45]).size + s1.2.size < 4611686018427387904 ∧ r = ((bstr [45]) ++ s1.2)
def ref07_Digits_l2  (s3 : Int × ByteArray) (o3 : Sum (Int × ByteArray) (Int × ByteArray)) : Prop :=
  if (decide (s3.1 < 0)) = true then ((bstr [(IntKind.u8.wrap (IntKind.i64.wrap (48 - (s3.1.tmod 10))))]).size + s3.2.size < 4611686018427387904 ∧ o3 = .inl ((IntKind.i64.wrap (s3.1.tdiv 10)), ((bstr [(IntKind.u8.wrap (IntKind.i64.wrap (48 - (s3.1.tmod 10))))]) ++ s3.2))) else (o3 = .inr (s3.1, s3.2))
def ref07_Digits_j3  (s13 : Int × ByteArray) (r : ByteArray) : Prop :=
  (bstr [(IntKind.u8.wrap (IntKind.i64.wrap (48 + s13.1)))]).size + s13.2.size < 4611686018427387904 ∧ r = ((bstr [(IntKind.u8.wrap (IntKind.i64.wrap (48 + s13.1)))]) ++ s13.2)
def ref07_Digits_l4  (s22 : Int × ByteArray) (o22 : Sum (Int × ByteArray) (Int × ByteArray)) : Prop :=
  if (decide (10 ≤ s22.1)) = true then ((bstr [(IntKind.u8.wrap (IntKind.i64.wrap (48 + (s22.1.tmod 10))))]).size + s22.2.size < 4611686018427387904 ∧ o22 = .inl ((IntKind.i64.wrap (s22.1.tdiv 10)), ((bstr [(IntKind.u8.wrap (IntKind.i64.wrap (48 + (s22.1.tmod 10))))]) ++ s22.2))) else (o22 = .inr (s22.1, s22.2))
def ref07_Digits (a0 : Int) (r : ByteArray) : Prop :=
  if (decide (a0 < 0)) = true then (∃ e3 : Int × ByteArray, Loops (ref07_Digits_l2) (a0, (bstr [])) e3 ∧ (ref07_Digits_j1 e3 r)) else (∃ e22 : Int × ByteArray, Loops (ref07_Digits_l4) (a0, (bstr [])) e22 ∧ (ref07_Digits_j3 e22 r))
def ref06_Split_j1  (s3 : List (List Int) × List Int × List Int) (r : List (List Int) × List Int × List Int) : Prop :=
  r = (s3.1, s3.2.1, s3.2.2)
def ref06_Split_j3 (s31 : List (List Int) × List Int × List Int × Int) (s41 : List (List Int) × List Int × List Int) (o31 : Sum (List (List Int) × List Int × List Int × Int) (List (List Int) × List Int × List Int)) : Prop :=
  o31 = .inl (s41.1, s41.2.1, s41.2.2, (IntKind.i64.wrap (s31.2.2.2 + 1)))
def ref06_Split_j4 (s31 : List (List Int) × List Int × List Int × Int) (s69 : List (List Int) × List Int) (o31 : Sum (List (List Int) × List Int × List Int × Int) (List (List Int) × List Int × List Int)) : Prop :=
  ref06_Split_j3 s31 (s69.1, s69.2, []) o31
def ref06_Split_l2 (a0 : List Int) (s31 : List (List Int) × List Int × List Int × Int) (o31 : Sum (List (List Int) × List Int × List Int × Int) (List (List Int) × List Int × List Int)) : Prop :=
  if (decide (s31.2.2.2 < (a0.length : Int))) = true then (∃ q51 : Int, idx a0 s31.2.2.2 q51 ∧ if (!(decide (q51 = 0))) = true then (∃ q56 : Int, idx a0 s31.2.2.2 q56 ∧ (s31.2.2.1.length + [q56].length) * 1 ≤ 140737488355328 ∧ s31.2.2.1.length + [q56].length ≤ 4611686018427387904 ∧ ref06_Split_j3 s31 (s31.1, s31.2.1, (s31.2.2.1 ++ [q56])) o31) else (if (decide (0 < (s31.2.2.1.length : Int))) = true then ((s31.1.length + [s31.2.2.1].length) * 24 ≤ 140737488355328 ∧ s31.1.length + [s31.2.2.1].length ≤ 4611686018427387904 ∧ (s31.2.1.length + [(IntKind.i64.wrap (s31.2.2.2 - (s31.2.2.1.length : Int)))].length) * 8 ≤ 140737488355328 ∧ s31.2.1.length + [(IntKind.i64.wrap (s31.2.2.2 - (s31.2.2.1.length : Int)))].length ≤ 4611686018427387904 ∧ ref06_Split_j4 s31 ((s31.1 ++ [s31.2.2.1]), (s31.2.1 ++ [(IntKind.i64.wrap (s31.2.2.2 - (s31.2.2.1.length : Int)))])) o31) else (ref06_Split_j4 s31 (s31.1, s31.2.1) o31))) else (o31 = .inr (s31.1, s31.2.1, s31.2.2.1))
def ref06_Split (a0 : List Int) (r : List (List Int) × List Int × List Int) : Prop :=
  ∃ e31 : List (List Int) × List Int × List Int, Loops (ref06_Split_l2 a0) ([], [], [], 0) e31 ∧ (ref06_Split_j1 e31 r)
def ref05_Blocks_j2  (s10 : List (List Int)) (r : List (List Int)) : Prop :=
  r = s10
def ref05_Blocks_j1  (s3 : List (List Int) × List Int × Bool) (r : List (List Int)) : Prop :=
  if (!s3.2.2) = true then ((s3.1.length + [s3.2.1].length) * 24 ≤ 140737488355328 ∧ s3.1.length + [s3.2.1].length ≤ 4611686018427387904 ∧ ref05_Blocks_j2 (s3.1 ++ [s3.2.1]) r) else (ref05_Blocks_j2 s3.1 r)
def ref05_Blocks_j4 (s33 : List (List Int) × List Int × Bool × Int) (s40 : List (List Int) × List Int × Bool) (o33 : Sum (List (List Int) × List Int × Bool × Int) (List (List Int) × List Int × Bool)) : Prop :=
  o33 = .inl (s40.1, s40.2.1, s40.2.2, (IntKind.i64.wrap (s33.2.2.2 + 1)))
def ref05_Blocks_l3 (a0 : List Int) (s33 : List (List Int) × List Int × Bool × Int) (o33 : Sum (List (List Int) × List Int × Bool × Int) (List (List Int) × List Int × Bool)) : Prop :=
  if (decide (s33.2.2.2 < (a0.length : Int))) = true then (∃ q47 : Int, idx a0 s33.2.2.2 q47 ∧ if (decide (q47 = 0)) = true then ((s33.1.length + [s33.2.1].length) * 24 ≤ 140737488355328 ∧ s33.1.length + [s33.2.1].length ≤ 4611686018427387904 ∧ ref05_Blocks_j4 s33 ((s33.1 ++ [s33.2.1]), [], false) o33) else (∃ q65 : Int, idx a0 s33.2.2.2 q65 ∧ (s33.2.1.length + [q65].length) * 1 ≤ 140737488355328 ∧ s33.2.1.length + [q65].length ≤ 4611686018427387904 ∧ if (decide (((s33.2.1 ++ [q65]).length : Int) = 254)) = true then ((s33.1.length + [(s33.2.1 ++ [q65])].length) * 24 ≤ 140737488355328 ∧ s33.1.length + [(s33.2.1 ++ [q65])].length ≤ 4611686018427387904 ∧ ref05_Blocks_j4 s33 ((s33.1 ++ [(s33.2.1 ++ [q65])]), [], true) o33) else (ref05_Blocks_j4 s33 (s33.1, (s33.2.1 ++ [q65]), false) o33))) else (o33 = .inr (s33.1, s33.2.1, s33.2.2.1))
def ref05_Blocks (a0 : List Int) (r : List (List Int)) : Prop :=
  ∃ e33 : List (List Int) × List Int × Bool, Loops (ref05_Blocks_l3 a0) ([], [], false, 0) e33 ∧ (ref05_Blocks_j1 e33 r)
def ref05_Encode_j1  (s9 : List Int) (r : List Int) : Prop :=
  r = s9
def ref05_Encode_l2 (r3 : List (List Int)) (s19 : List Int × Int) (o19 : Sum (List Int × Int) (List Int)) : Prop :=
  if (decide (s19.2 < (r3.length : Int))) = true then (∃ q23 : List Int, idx r3 s19.2 q23 ∧ (s19.1.length + [(IntKind.u8.wrap (IntKind.i64.wrap ((q23.length : Int) + 1)))].length) * 1 ≤ 140737488355328 ∧ s19.1.length + [(IntKind.u8.wrap (IntKind.i64.wrap ((q23.length : Int) + 1)))].length ≤ 4611686018427387904 ∧ ∃ q38 : List Int, idx r3 s19.2 q38 ∧ ((s19.1 ++ [(IntKind.u8.wrap (IntKind.i64.wrap ((q23.length : Int) + 1)))]).length + q38.length) * 1 ≤ 140737488355328 ∧ (s19.1 ++ [(IntKind.u8.wrap (IntKind.i64.wrap ((q23.length : Int) + 1)))]).length + q38.length ≤ 4611686018427387904 ∧ o19 = .inl (((s19.1 ++ [(IntKind.u8.wrap (IntKind.i64.wrap ((q23.length : Int) + 1)))]) ++ q38), (IntKind.i64.wrap (s19.2 + 1)))) else (o19 = .inr s19.1)
def ref05_Encode (a0 : List Int) (r : List Int) : Prop :=
  ∃ r3 : List (List Int), ref05_Blocks a0 r3 ∧ ∃ e19 : List Int, Loops (ref05_Encode_l2 r3) ([], 0) e19 ∧ (ref05_Encode_j1 e19 r)
def ref01_Same_j1  (s5 : Unit) (r : Bool) : Prop :=
  r = true
def ref01_Same_l2 (a0 : List Int) (a1 : List Int) (s6 : Int) (o6 : Sum Int (Sum Unit Bool)) : Prop :=
  if (decide (s6 < (a0.length : Int))) = true then (∃ q7 : Int, idx a0 s6 q7 ∧ ∃ q12 : Int, idx a1 s6 q12 ∧ if (!(decide (q7 = q12))) = true then (o6 = .inr (.inr false)) else (o6 = .inl (IntKind.i64.wrap (s6 + 1)))) else (o6 = .inr (.inl ()))
def ref01_Same (a0 : List Int) (a1 : List Int) (r : Bool) : Prop :=
  if (!(decide ((a0.length : Int) = (a1.length : Int)))) = true then (r = false) else (∃ e6 : (Sum Unit Bool), Loops (ref01_Same_l2 a0 a1) 0 e6 ∧ Aft (fun p18 => ref01_Same_j1 p18 r) (fun p19 => r = p19) e6)
def ref05_Decode_j1 (a0 : List Int) (s3 : List Int) (r : List Int × Int) : Prop :=
  ∃ r12 : List Int, ref05_Encode s3 r12 ∧ ∃ r18 : Bool, ref01_Same r12 a0 r18 ∧ if (!r18) = true then (r = ([], 12)) else (r = (s3, 0))
def ref05_Decode_j4 (s22 : List Int × Int) (q26 : Int) (s31 : List Int) (s35 : Bool) (o22 : Sum (List Int × Int) (Sum (List Int) (List Int × Int))) : Prop :=
  if s35 = true then ((s31.length + [0].length) * 1 ≤ 140737488355328 ∧ s31.length + [0].length ≤ 4611686018427387904 ∧ o22 = .inl ((s31 ++ [0]), (IntKind.i64.wrap (s22.2 + (IntKind.i64.wrap q26))))) else (o22 = .inl (s31, (IntKind.i64.wrap (s22.2 + (IntKind.i64.wrap q26)))))
def ref05_Decode_j3 (a0 : List Int) (s22 : List Int × Int) (q26 : Int) (s31 : List Int) (o22 : Sum (List Int × Int) (Sum (List Int) (List Int × Int))) : Prop :=
  if (decide ((IntKind.i64.wrap q26) = 0)) = true then (o22 = .inr (.inr ([], 12))) else (if (decide ((IntKind.i64.wrap q26) < 255)) = true then (ref05_Decode_j4 s22 q26 s31 (decide ((IntKind.i64.wrap (s22.2 + (IntKind.i64.wrap q26))) < (a0.length : Int))) o22) else (ref05_Decode_j4 s22 q26 s31 false o22))
def ref05_Decode_j6 (a0 : List Int) (s22 : List Int × Int) (s44 : List Int × Int) (s48 : Bool) (o44 : Sum (List Int × Int) (List Int)) : Prop :=
  if s48 = true then (∃ q49 : Int, idx a0 (IntKind.i64.wrap (s22.2 + s44.2)) q49 ∧ (s44.1.length + [q49].length) * 1 ≤ 140737488355328 ∧ s44.1.length + [q49].length ≤ 4611686018427387904 ∧ o44 = .inl ((s44.1 ++ [q49]), (IntKind.i64.wrap (s44.2 + 1)))) else (o44 = .inr s44.1)
def ref05_Decode_l5 (a0 : List Int) (s22 : List Int × Int) (q26 : Int) (s44 : List Int × Int) (o44 : Sum (List Int × Int) (List Int)) : Prop :=
  if (decide (s44.2 < (IntKind.i64.wrap q26))) = true then (ref05_Decode_j6 a0 s22 s44 (decide ((IntKind.i64.wrap (s22.2 + s44.2)) < (a0.length : Int))) o44) else (ref05_Decode_j6 a0 s22 s44 false o44)
def ref05_Decode_l2 (a0 : List Int) (s22 : List Int × Int) (o22 : Sum (List Int × Int) (Sum (List Int) (List Int × Int))) : Prop :=
  if (decide (s22.2 < (a0.length : Int))) = true then (∃ q26 : Int, idx a0 s22.2 q26 ∧ ∃ e44 : List Int, Loops (ref05_Decode_l5 a0 s22 q26) (s22.1, 1) e44 ∧ (ref05_Decode_j3 a0 s22 q26 e44 o22)) else (o22 = .inr (.inl s22.1))
def ref05_Decode (a0 : List Int) (r : List Int × Int) : Prop :=
  ∃ e22 : (Sum (List Int) (List Int × Int)), Loops (ref05_Decode_l2 a0) ([], 0) e22 ∧ Aft (fun p63 => ref05_Decode_j1 a0 p63 r) (fun p64 => r = p64) e22
def ref04_Of_j1  (s3 : List Bool) (r : List Bool) : Prop :=
  r = s3
def ref04_Of_l2  (s4 : Int × Int × List Bool) (o4 : Sum (Int × Int × List Bool) (List Bool)) : Prop :=
  if (decide (s4.2.1 < 32)) = true then (0 ≤ s4.2.1 ∧ s4.2.1 < 32 ∧ o4 = .inl ((IntKind.u32.wrap (s4.1.tdiv 2)), (IntKind.i64.wrap (s4.2.1 + 1)), (putN 32 false s4.2.2 s4.2.1.toNat (decide ((s4.1.tmod 2) = 1))))) else (o4 = .inr s4.2.2)
def ref04_Of (a0 : Int) (r : List Bool) : Prop :=
  ∃ e4 : List Bool, Loops (ref04_Of_l2) (a0, 0, (List.replicate 32 false)) e4 ∧ (ref04_Of_j1 e4 r)
def ref04_Xor_j1  (s4 : List Bool) (r : List Bool) : Prop :=
  r = s4
def ref04_Xor_l2 (a1 : List Bool) (s5 : Int × List Bool) (o5 : Sum (Int × List Bool) (List Bool)) : Prop :=
  if (decide (s5.1 < 32)) = true then (0 ≤ s5.1 ∧ s5.1 < 32 ∧ 0 ≤ s5.1 ∧ s5.1 < 32 ∧ 0 ≤ s5.1 ∧ s5.1 < 32 ∧ o5 = .inl ((IntKind.i64.wrap (s5.1 + 1)), (putN 32 false s5.2 s5.1.toNat (!(decide ((s5.2.getD s5.1.toNat false) = (a1.getD s5.1.toNat false))))))) else (o5 = .inr s5.2)
def ref04_Xor (a0 : List Bool) (a1 : List Bool) (r : List Bool) : Prop :=
  ∃ e5 : List Bool, Loops (ref04_Xor_l2 a1) (0, a0) e5 ∧ (ref04_Xor_j1 e5 r)
def ref04_Shift_j1  (s8 : List Bool) (r : List Bool) : Prop :=
  r = s8
def ref04_Shift_j3 (s9 : Int × List Bool) (s10 : List Bool) (o9 : Sum (Int × List Bool) (List Bool)) : Prop :=
  o9 = .inl ((IntKind.i64.wrap (s9.1 + 1)), s10)
def ref04_Shift_j4 (r3 : List Bool) (s9 : Int × List Bool) (s11 : List Bool) (o9 : Sum (Int × List Bool) (List Bool)) : Prop :=
  if (s9.2.getD 0 false) = true then (∃ r12 : List Bool, ref04_Xor (putN 32 false s11 31 false) r3 r12 ∧ ref04_Shift_j3 s9 r12 o9) else (ref04_Shift_j3 s9 (putN 32 false s11 31 false) o9)
def ref04_Shift_l5  (s16 : Int × List Bool) (o16 : Sum (Int × List Bool) (List Bool)) : Prop :=
  if (decide (s16.1 < 31)) = true then (0 ≤ (IntKind.i64.wrap (s16.1 + 1)) ∧ (IntKind.i64.wrap (s16.1 + 1)) < 32 ∧ 0 ≤ s16.1 ∧ s16.1 < 32 ∧ o16 = .inl ((IntKind.i64.wrap (s16.1 + 1)), (putN 32 false s16.2 s16.1.toNat (s16.2.getD ((IntKind.i64.wrap (s16.1 + 1)).toNat) false)))) else (o16 = .inr s16.2)
def ref04_Shift_l2 (r3 : List Bool) (s9 : Int × List Bool) (o9 : Sum (Int × List Bool) (List Bool)) : Prop :=
  if (decide (s9.1 < 8)) = true then (∃ e16 : List Bool, Loops (ref04_Shift_l5) (0, s9.2) e16 ∧ (ref04_Shift_j4 r3 s9 e16 o9)) else (o9 = .inr s9.2)
def ref04_Shift (a0 : List Bool) (r : List Bool) : Prop :=
  ∃ r3 : List Bool, ref04_Of 3988292384 r3 ∧ ∃ e9 : List Bool, Loops (ref04_Shift_l2 r3) (0, a0) e9 ∧ (ref04_Shift_j1 e9 r)
def ref04_Word_j1  (s2 : Int) (r : Int) : Prop :=
  r = s2
def ref04_Word_j3 (s3 : Int × Int) (s4 : Int) (o3 : Sum (Int × Int) Int) : Prop :=
  o3 = .inl (s4, (IntKind.i64.wrap (s3.2 - 1)))
def ref04_Word_l2 (a0 : List Bool) (s3 : Int × Int) (o3 : Sum (Int × Int) Int) : Prop :=
  if (decide (0 ≤ s3.2)) = true then (0 ≤ s3.2 ∧ s3.2 < 32 ∧ if (a0.getD s3.2.toNat false) = true then (ref04_Word_j3 s3 (IntKind.u32.wrap ((IntKind.u32.wrap (2 * s3.1)) + 1)) o3) else (ref04_Word_j3 s3 (IntKind.u32.wrap (2 * s3.1)) o3)) else (o3 = .inr s3.1)
def ref04_Word (a0 : List Bool) (r : Int) : Prop :=
  ∃ e3 : Int, Loops (ref04_Word_l2 a0) (0, 31) e3 ∧ (ref04_Word_j1 e3 r)
def ref04_Sum_j1  (s8 : List Bool) (r : Int) : Prop :=
  ∃ r9 : Int, ref04_Word s8 r9 ∧ r = (IntKind.u32.wrap (4294967295 - r9))
def ref04_Sum_l2 (a0 : List Int) (s13 : Int × List Bool) (o13 : Sum (Int × List Bool) (List Bool)) : Prop :=
  if (decide (s13.1 < (a0.length : Int))) = true then (∃ q14 : Int, idx a0 s13.1 q14 ∧ ∃ r19 : List Bool, ref04_Of (IntKind.u32.wrap q14) r19 ∧ ∃ r23 : List Bool, ref04_Xor s13.2 r19 r23 ∧ ∃ r27 : List Bool, ref04_Shift r23 r27 ∧ o13 = .inl ((IntKind.i64.wrap (s13.1 + 1)), r27)) else (o13 = .inr s13.2)
def ref04_Sum (a0 : List Int) (r : Int) : Prop :=
  ∃ r3 : List Bool, ref04_Of 4294967295 r3 ∧ ∃ e13 : List Bool, Loops (ref04_Sum_l2 a0) (0, r3) e13 ∧ (ref04_Sum_j1 e13 r)
def ref04_Bytes (a0 : Int) (r : List Int) : Prop :=
  r = [(IntKind.u8.wrap (a0.tmod 256)), (IntKind.u8.wrap ((IntKind.u32.wrap (a0.tdiv 256)).tmod 256)), (IntKind.u8.wrap ((IntKind.u32.wrap (a0.tdiv 65536)).tmod 256)), (IntKind.u8.wrap (IntKind.u32.wrap (a0.tdiv 16777216)))]
def ref04_Open_j1 (a0 : List Int) (s17 : Unit) (r : List Int × Int) : Prop :=
  0 ≤ (IntKind.i64.wrap ((a0.length : Int) - 4)) ∧ (IntKind.i64.wrap ((a0.length : Int) - 4)) ≤ (a0.length : Int) ∧ (([] : List Int).length + ((a0.drop (0 : Int).toNat).take (((IntKind.i64.wrap ((a0.length : Int) - 4)) : Int) - 0).toNat).length) * 1 ≤ 140737488355328 ∧ ([] : List Int).length + ((a0.drop (0 : Int).toNat).take (((IntKind.i64.wrap ((a0.length : Int) - 4)) : Int) - 0).toNat).length ≤ 4611686018427387904 ∧ r = ((([] : List Int) ++ ((a0.drop (0 : Int).toNat).take (((IntKind.i64.wrap ((a0.length : Int) - 4)) : Int) - 0).toNat)), 0)
def ref04_Open_l2 (a0 : List Int) (r11 : List Int) (s35 : Int) (o35 : Sum Int (Sum Unit (List Int × Int))) : Prop :=
  if (decide (s35 < 4)) = true then (∃ q36 : Int, idx r11 s35 q36 ∧ ∃ q41 : Int, idx a0 (IntKind.i64.wrap ((IntKind.i64.wrap ((a0.length : Int) - 4)) + s35)) q41 ∧ if (!(decide (q36 = q41))) = true then (o35 = .inr (.inr ([], 11))) else (o35 = .inl (IntKind.i64.wrap (s35 + 1)))) else (o35 = .inr (.inl ()))
def ref04_Open (a0 : List Int) (r : List Int × Int) : Prop :=
  if (decide ((a0.length : Int) < 4)) = true then (r = ([], 13)) else (0 ≤ (IntKind.i64.wrap ((a0.length : Int) - 4)) ∧ (IntKind.i64.wrap ((a0.length : Int) - 4)) ≤ (a0.length : Int) ∧ ∃ r7 : Int, ref04_Sum ((a0.drop (0 : Int).toNat).take (((IntKind.i64.wrap ((a0.length : Int) - 4)) : Int) - 0).toNat) r7 ∧ ∃ r11 : List Int, ref04_Bytes r7 r11 ∧ ∃ e35 : (Sum Unit (List Int × Int)), Loops (ref04_Open_l2 a0 r11) 0 e35 ∧ Aft (fun p47 => ref04_Open_j1 a0 p47 r) (fun p48 => r = p48) e35)
def ref07_Check_j3  (s4 : Bool) (r : Int) : Prop :=
  if s4 = true then (r = 3) else (r = 0)
def ref07_Check_j2 (a0 : Int × Int × Int × Int × Int) (s3 : Bool) (r : Int) : Prop :=
  if s3 = true then (r = 9) else (if (decide (a0.2.2.2.2 < 1)) = true then (ref07_Check_j3 true r) else (if (decide (255 < a0.2.2.2.2)) = true then (ref07_Check_j3 true r) else (if (decide (a0.2.2.2.1 < 0)) = true then (ref07_Check_j3 true r) else (ref07_Check_j3 (decide (a0.2.2.2.2 ≤ a0.2.2.2.1)) r))))
def ref07_Check_j1 (a0 : Int × Int × Int × Int × Int) (s2 : Bool) (r : Int) : Prop :=
  if s2 = true then (r = 10) else (if (decide (a0.2.1 < 1)) = true then (ref07_Check_j2 a0 true r) else (ref07_Check_j2 a0 (decide (5 < a0.2.1)) r))
def ref07_Check (a0 : Int × Int × Int × Int × Int) (r : Int) : Prop :=
  if (!(decide (a0.1 = 1))) = true then (ref07_Check_j1 a0 (!(decide (a0.1 = 2))) r) else (ref07_Check_j1 a0 false r)
def ref07_Parse_j1 (a0 : List Int) (s4 : Int) (r : (Int × Int × Int × Int × Int) × Int) : Prop :=
  ∃ q5 : Int, idx a0 0 q5 ∧ ∃ q10 : Int, idx a0 1 q10 ∧ ∃ q15 : Int, idx a0 6 q15 ∧ ∃ q20 : Int, idx a0 7 q20 ∧ ∃ r27 : Int, ref07_Check ((IntKind.i64.wrap q5), (IntKind.i64.wrap q10), s4, (IntKind.i64.wrap q15), (IntKind.i64.wrap q20)) r27 ∧ if (!(decide (r27 = 0))) = true then (∃ r31 : Int, ref07_Check ((IntKind.i64.wrap q5), (IntKind.i64.wrap q10), s4, (IntKind.i64.wrap q15), (IntKind.i64.wrap q20)) r31 ∧ r = ((0, 0, 0, 0, 0), r31)) else (r = (((IntKind.i64.wrap q5), (IntKind.i64.wrap q10), s4, (IntKind.i64.wrap q15), (IntKind.i64.wrap q20)), 0))
def ref07_Parse_l2 (a0 : List Int) (s35 : Int × Int) (o35 : Sum (Int × Int) Int) : Prop :=
  if (decide (1 < s35.2)) = true then (∃ q36 : Int, idx a0 s35.2 q36 ∧ o35 = .inl ((IntKind.u32.wrap ((IntKind.u32.wrap (256 * s35.1)) + (IntKind.u32.wrap q36))), (IntKind.i64.wrap (s35.2 - 1)))) else (o35 = .inr s35.1)
def ref07_Parse (a0 : List Int) (r : (Int × Int × Int × Int × Int) × Int) : Prop :=
  if (decide ((a0.length : Int) < 8)) = true then (r = ((0, 0, 0, 0, 0), 13)) else (if (decide (8 < (a0.length : Int))) = true then (r = ((0, 0, 0, 0, 0), 3)) else (∃ e35 : Int, Loops (ref07_Parse_l2 a0) (0, 5) e35 ∧ (ref07_Parse_j1 a0 e35 r)))
def ref08_Unpack (a0 : List Int) (r : ((Int × Int × Int × Int × Int) × List Int) × Int) : Prop :=
  if (decide (255 < (a0.length : Int))) = true then (r = (((0, 0, 0, 0, 0), []), 2)) else (∃ r4 : List Int × Int, ref05_Decode a0 r4 ∧ if (!(decide (r4.2 = 0))) = true then (r = (((0, 0, 0, 0, 0), []), r4.2)) else (if (decide ((r4.1.length : Int) < 13)) = true then (r = (((0, 0, 0, 0, 0), []), 13)) else (∃ r10 : List Int × Int, ref04_Open r4.1 r10 ∧ if (!(decide (r10.2 = 0))) = true then (r = (((0, 0, 0, 0, 0), []), r10.2)) else (8 ≤ (r10.1.length : Int) ∧ ∃ r19 : (Int × Int × Int × Int × Int) × Int, ref07_Parse ((r10.1.drop (0 : Int).toNat).take ((8 : Int) - 0).toNat) r19 ∧ if (!(decide (r19.2 = 0))) = true then (r = (((0, 0, 0, 0, 0), []), r19.2)) else (8 ≤ (r10.1.length : Int) ∧ (r10.1.length : Int) ≤ (r10.1.length : Int) ∧ (([] : List Int).length + ((r10.1.drop (8 : Int).toNat).take (((r10.1.length : Int) : Int) - 8).toNat).length) * 1 ≤ 140737488355328 ∧ ([] : List Int).length + ((r10.1.drop (8 : Int).toNat).take (((r10.1.length : Int) : Int) - 8).toNat).length ≤ 4611686018427387904 ∧ r = ((r19.1, (([] : List Int) ++ ((r10.1.drop (8 : Int).toNat).take (((r10.1.length : Int) : Int) - 8).toNat))), 0))))))
def ref07_Line (a0 : Int × Int × Int × Int × Int) (r : ByteArray) : Prop :=
  ∃ r2 : ByteArray, ref07_Digits a0.1 r2 ∧ (bstr [118, 32]).size + r2.size < 4611686018427387904 ∧ ((bstr [118, 32]) ++ r2).size + (bstr [32, 107, 32]).size < 4611686018427387904 ∧ ∃ r8 : ByteArray, ref07_Digits a0.2.1 r8 ∧ (((bstr [118, 32]) ++ r2) ++ (bstr [32, 107, 32])).size + r8.size < 4611686018427387904 ∧ ((((bstr [118, 32]) ++ r2) ++ (bstr [32, 107, 32])) ++ r8).size + (bstr [32]).size < 4611686018427387904 ∧ ∃ r14 : ByteArray, ref07_Digits (IntKind.i64.wrap a0.2.2.1) r14 ∧ (((((bstr [118, 32]) ++ r2) ++ (bstr [32, 107, 32])) ++ r8) ++ (bstr [32])).size + r14.size < 4611686018427387904 ∧ ((((((bstr [118, 32]) ++ r2) ++ (bstr [32, 107, 32])) ++ r8) ++ (bstr [32])) ++ r14).size + (bstr [32]).size < 4611686018427387904 ∧ ∃ r20 : ByteArray, ref07_Digits a0.2.2.2.1 r20 ∧ (((((((bstr [118, 32]) ++ r2) ++ (bstr [32, 107, 32])) ++ r8) ++ (bstr [32])) ++ r14) ++ (bstr [32])).size + r20.size < 4611686018427387904 ∧ ((((((((bstr [118, 32]) ++ r2) ++ (bstr [32, 107, 32])) ++ r8) ++ (bstr [32])) ++ r14) ++ (bstr [32])) ++ r20).size + (bstr [47]).size < 4611686018427387904 ∧ ∃ r26 : ByteArray, ref07_Digits a0.2.2.2.2 r26 ∧ (((((((((bstr [118, 32]) ++ r2) ++ (bstr [32, 107, 32])) ++ r8) ++ (bstr [32])) ++ r14) ++ (bstr [32])) ++ r20) ++ (bstr [47])).size + r26.size < 4611686018427387904 ∧ r = ((((((((((bstr [118, 32]) ++ r2) ++ (bstr [32, 107, 32])) ++ r8) ++ (bstr [32])) ++ r14) ++ (bstr [32])) ++ r20) ++ (bstr [47])) ++ r26)
def ref08_Line (a0 : (Int × Int × Int × Int × Int) × List Int) (r : ByteArray) : Prop :=
  ∃ r4 : ByteArray, ref07_Line a0.1 r4 ∧ r4.size + (bstr [32]).size < 4611686018427387904 ∧ ∃ r9 : ByteArray, ref07_Digits (a0.2.length : Int) r9 ∧ (r4 ++ (bstr [32])).size + r9.size < 4611686018427387904 ∧ r = ((r4 ++ (bstr [32])) ++ r9)
def crc_shift_j1  (s1 : Int) (r : Int) : Prop :=
  r = s1
def crc_shift_l2  (s2 : Int × Int) (o2 : Sum (Int × Int) Int) : Prop :=
  if (decide (s2.2 < 8)) = true then (o2 = .inl ((ixor .u32 (ishr .u32 s2.1 1) (iand .u32 3988292384 (IntKind.u32.wrap (0 - (iand .u32 s2.1 1))))), (IntKind.i64.wrap (s2.2 + 1)))) else (o2 = .inr s2.1)
def crc_shift (a0 : Int) (r : Int) : Prop :=
  ∃ e2 : Int, Loops (crc_shift_l2) (a0, 0) e2 ∧ (crc_shift_j1 e2 r)
def crc_New_j1  (s2 : List Int) (r : List Int) : Prop :=
  r = s2
def crc_New_j3 (s6 : Int × List Int) (s7 : List Int) (o6 : Sum (Int × List Int) (List Int)) : Prop :=
  o6 = .inl ((IntKind.i64.wrap (s6.1 + 1)), s7)
def crc_New_l4 (s6 : Int × List Int) (s8 : Int × Int × List Int) (o8 : Sum (Int × Int × List Int) (List Int)) : Prop :=
  if (decide (s8.2.1 < 4)) = true then (∃ r9 : Int, crc_shift s8.1 r9 ∧ 0 ≤ s8.2.1 ∧ s8.2.1 < 4 ∧ 0 ≤ s6.1 ∧ s6.1 < 256 ∧ o8 = .inl (r9, (IntKind.i64.wrap (s8.2.1 + 1)), (putN 1024 0 s8.2.2 (s8.2.1.toNat * 256 + s6.1.toNat) r9))) else (o8 = .inr s8.2.2)
def crc_New_l2  (s6 : Int × List Int) (o6 : Sum (Int × List Int) (List Int)) : Prop :=
  if (decide (s6.1 < 256)) = true then (∃ e8 : List Int, Loops (crc_New_l4 s6) ((IntKind.u32.wrap s6.1), 0, s6.2) e8 ∧ (crc_New_j3 s6 e8 o6)) else (o6 = .inr s6.2)
def crc_New  (r : List Int) : Prop :=
  ∃ e6 : List Int, Loops (crc_New_l2) (0, (List.replicate 1024 0)) e6 ∧ (crc_New_j1 e6 r)
def frame_New  (r : List Int) : Prop :=
  ∃ r1 : List Int, crc_New r1 ∧ r = r1
def fence_Segments_1_j2 (S : Type) (Y : (Int × List Int) → S → Bool × S → Prop) (s3 : S × Int × Int) (s6 : S × Int) (o3 : Sum (S × Int × Int) (S × Unit)) : Prop :=
  o3 = .inl (s6.1, s6.2, (IntKind.i64.wrap (s3.2.2 + 1)))
def fence_Segments_1_j3 (S : Type) (Y : (Int × List Int) → S → Bool × S → Prop) (s3 : S × Int × Int) (s14 : S × Bool) (o3 : Sum (S × Int × Int) (S × Unit)) : Prop :=
  if s14.2 = true then (o3 = .inr (s14.1, ())) else (fence_Segments_1_j2 S Y s3 (s14.1, (IntKind.i64.wrap (s3.2.2 + 1))) o3)
def fence_Segments_1_l1 (S : Type) (Y : (Int × List Int) → S → Bool × S → Prop) (c0 : List Int) (s3 : S × Int × Int) (o3 : Sum (S × Int × Int) (S × Unit)) : Prop :=
  if (decide (s3.2.2 < (c0.length : Int))) = true then (∃ q9 : Int, idx c0 s3.2.2 q9 ∧ if (!(decide (q9 = 0))) = true then (fence_Segments_1_j2 S Y s3 (s3.1, s3.2.1) o3) else (if (decide (s3.2.1 < s3.2.2)) = true then (0 ≤ s3.2.1 ∧ s3.2.1 ≤ s3.2.2 ∧ s3.2.2 ≤ (c0.length : Int) ∧ s3.2.2 ≤ s3.2.2 ∧ s3.2.2 ≤ (c0.length : Int) ∧ (([] : List Int).length + ((c0.drop s3.2.1.toNat).take ((s3.2.2 : Int) - s3.2.1).toNat).length) * 1 ≤ 140737488355328 ∧ ([] : List Int).length + ((c0.drop s3.2.1.toNat).take ((s3.2.2 : Int) - s3.2.1).toNat).length ≤ 4611686018427387904 ∧ ∃ y36 : Bool, ∃ u37 : S, Y (s3.2.1, (([] : List Int) ++ ((c0.drop s3.2.1.toNat).take ((s3.2.2 : Int) - s3.2.1).toNat))) s3.1 (y36, u37) ∧ fence_Segments_1_j3 S Y s3 (u37, (!y36)) o3) else (fence_Segments_1_j3 S Y s3 (s3.1, false) o3))) else (o3 = .inr (s3.1, ()))
def fence_Segments_1 (c0 : List Int) (S : Type) (Y : (Int × List Int) → S → Bool × S → Prop) (s : S) (r : S × Unit) : Prop :=
  ∃ e3 : S × Unit, Loops (fence_Segments_1_l1 S Y c0) (s, 0, 0) e3 ∧ (r = e3)
def fence_Segments (a0 : List Int) (r : (((S : Type) → ((Int × List Int) → S → Bool × S → Prop) → S → S × Unit → Prop))) : Prop :=
  r = (fence_Segments_1 a0)
def cobs_Decode_j1  (s3 : Unit) (r : List Int × Int) : Prop :=
  r = ([], 12)
def cobs_Decode_j2  (s4 : List Int) (r : List Int × Int) : Prop :=
  r = (s4, 0)
def cobs_Decode_j6 (s14 : List Int × List Int × Bool) (q20 : Int) (s41 : Bool) (o14 : Sum (List Int × List Int × Bool) (Sum Unit (List Int))) : Prop :=
  if s41 = true then (o14 = .inr (.inl ())) else (if (decide ((((s14.2.1.drop (IntKind.i64.wrap ((IntKind.i64.wrap ((IntKind.i64.wrap q20) - 1)) + 1)).toNat).take (((s14.2.1.length : Int) : Int) - (IntKind.i64.wrap ((IntKind.i64.wrap ((IntKind.i64.wrap q20) - 1)) + 1))).toNat).length : Int) = 0)) = true then (o14 = .inr (.inr (s14.1 ++ ((s14.2.1.drop (1 : Int).toNat).take (((IntKind.i64.wrap ((IntKind.i64.wrap ((IntKind.i64.wrap q20) - 1)) + 1)) : Int) - 1).toNat)))) else (if (!(decide ((IntKind.i64.wrap ((IntKind.i64.wrap q20) - 1)) = 254))) = true then (((s14.1 ++ ((s14.2.1.drop (1 : Int).toNat).take (((IntKind.i64.wrap ((IntKind.i64.wrap ((IntKind.i64.wrap q20) - 1)) + 1)) : Int) - 1).toNat)).length + [0].length) * 1 ≤ 140737488355328 ∧ (s14.1 ++ ((s14.2.1.drop (1 : Int).toNat).take (((IntKind.i64.wrap ((IntKind.i64.wrap ((IntKind.i64.wrap q20) - 1)) + 1)) : Int) - 1).toNat)).length + [0].length ≤ 4611686018427387904 ∧ o14 = .inl (((s14.1 ++ ((s14.2.1.drop (1 : Int).toNat).take (((IntKind.i64.wrap ((IntKind.i64.wrap ((IntKind.i64.wrap q20) - 1)) + 1)) : Int) - 1).toNat)) ++ [0]), ((s14.2.1.drop (IntKind.i64.wrap ((IntKind.i64.wrap ((IntKind.i64.wrap q20) - 1)) + 1)).toNat).take (((s14.2.1.length : Int) : Int) - (IntKind.i64.wrap ((IntKind.i64.wrap ((IntKind.i64.wrap q20) - 1)) + 1))).toNat), (decide ((IntKind.i64.wrap ((IntKind.i64.wrap q20) - 1)) = 254)))) else (o14 = .inl ((s14.1 ++ ((s14.2.1.drop (1 : Int).toNat).take (((IntKind.i64.wrap ((IntKind.i64.wrap ((IntKind.i64.wrap q20) - 1)) + 1)) : Int) - 1).toNat)), ((s14.2.1.drop (IntKind.i64.wrap ((IntKind.i64.wrap ((IntKind.i64.wrap q20) - 1)) + 1)).toNat).take (((s14.2.1.length : Int) : Int) - (IntKind.i64.wrap ((IntKind.i64.wrap ((IntKind.i64.wrap q20) - 1)) + 1))).toNat), (decide ((IntKind.i64.wrap ((IntKind.i64.wrap q20) - 1)) = 254))))))
def cobs_Decode_j5 (s14 : List Int × List Int × Bool) (q20 : Int) (s26 : Unit) (o14 : Sum (List Int × List Int × Bool) (Sum Unit (List Int))) : Prop :=
  1 ≤ (IntKind.i64.wrap ((IntKind.i64.wrap ((IntKind.i64.wrap q20) - 1)) + 1)) ∧ (IntKind.i64.wrap ((IntKind.i64.wrap ((IntKind.i64.wrap q20) - 1)) + 1)) ≤ (s14.2.1.length : Int) ∧ (s14.1.length + ((s14.2.1.drop (1 : Int).toNat).take (((IntKind.i64.wrap ((IntKind.i64.wrap ((IntKind.i64.wrap q20) - 1)) + 1)) : Int) - 1).toNat).length) * 1 ≤ 140737488355328 ∧ s14.1.length + ((s14.2.1.drop (1 : Int).toNat).take (((IntKind.i64.wrap ((IntKind.i64.wrap ((IntKind.i64.wrap q20) - 1)) + 1)) : Int) - 1).toNat).length ≤ 4611686018427387904 ∧ 0 ≤ (IntKind.i64.wrap ((IntKind.i64.wrap ((IntKind.i64.wrap q20) - 1)) + 1)) ∧ (IntKind.i64.wrap ((IntKind.i64.wrap ((IntKind.i64.wrap q20) - 1)) + 1)) ≤ (s14.2.1.length : Int) ∧ (s14.2.1.length : Int) ≤ (s14.2.1.length : Int) ∧ if (decide ((((s14.2.1.drop (IntKind.i64.wrap ((IntKind.i64.wrap ((IntKind.i64.wrap q20) - 1)) + 1)).toNat).take (((s14.2.1.length : Int) : Int) - (IntKind.i64.wrap ((IntKind.i64.wrap ((IntKind.i64.wrap q20) - 1)) + 1))).toNat).length : Int) = 0)) = true then (if s14.2.2 = true then (cobs_Decode_j6 s14 q20 (decide ((IntKind.i64.wrap ((IntKind.i64.wrap q20) - 1)) = 0)) o14) else (cobs_Decode_j6 s14 q20 false o14)) else (cobs_Decode_j6 s14 q20 false o14)
def cobs_Decode_l7 (s14 : List Int × List Int × Bool) (q20 : Int) (s54 : Int) (o54 : Sum Int (Sum Unit Unit)) : Prop :=
  if (decide (s54 < (((s14.2.1.drop (1 : Int).toNat).take (((IntKind.i64.wrap ((IntKind.i64.wrap ((IntKind.i64.wrap q20) - 1)) + 1)) : Int) - 1).toNat).length : Int))) = true then (∃ q55 : Int, idx ((s14.2.1.drop (1 : Int).toNat).take (((IntKind.i64.wrap ((IntKind.i64.wrap ((IntKind.i64.wrap q20) - 1)) + 1)) : Int) - 1).toNat) s54 q55 ∧ if (decide (q55 = 0)) = true then (o54 = .inr (.inr ())) else (o54 = .inl (IntKind.i64.wrap (s54 + 1)))) else (o54 = .inr (.inl ()))
def cobs_Decode_j4 (s14 : List Int × List Int × Bool) (q20 : Int) (s25 : Bool) (o14 : Sum (List Int × List Int × Bool) (Sum Unit (List Int))) : Prop :=
  if s25 = true then (o14 = .inr (.inl ())) else (1 ≤ (IntKind.i64.wrap ((IntKind.i64.wrap ((IntKind.i64.wrap q20) - 1)) + 1)) ∧ (IntKind.i64.wrap ((IntKind.i64.wrap ((IntKind.i64.wrap q20) - 1)) + 1)) ≤ (s14.2.1.length : Int) ∧ ∃ e54 : (Sum Unit Unit), Loops (cobs_Decode_l7 s14 q20) 0 e54 ∧ Aft (fun p60 => cobs_Decode_j5 s14 q20 p60 o14) (fun p61 => o14 = .inr (.inl p61)) e54)
def cobs_Decode_l3  (s14 : List Int × List Int × Bool) (o14 : Sum (List Int × List Int × Bool) (Sum Unit (List Int))) : Prop :=
  ∃ q20 : Int, idx s14.2.1 0 q20 ∧ if (decide ((IntKind.i64.wrap ((IntKind.i64.wrap q20) - 1)) < 0)) = true then (cobs_Decode_j4 s14 q20 true o14) else (cobs_Decode_j4 s14 q20 (decide ((s14.2.1.length : Int) ≤ (IntKind.i64.wrap ((IntKind.i64.wrap q20) - 1)))) o14)
def cobs_Decode (a0 : List Int) (r : List Int × Int) : Prop :=
  if (decide ((a0.length : Int) = 0)) = true then (cobs_Decode_j1 () r) else (∃ e14 : (Sum Unit (List Int)), Loops (cobs_Decode_l3) ([], a0, false) e14 ∧ Aft (fun p62 => cobs_Decode_j1 p62 r) (fun p63 => cobs_Decode_j2 p63 r) e14)
def crc_Table_Begin (a0 : List Int) (r : Int) : Prop :=
  r = 4294967295
def crc_Table_Add_j2  (s8 : Int) (r : Int) : Prop :=
  r = s8
def crc_Table_Add_l3 (a0 : List Int) (s5 : Int × List Int) (s9 : Int × Int) (o9 : Sum (Int × Int) Int) : Prop :=
  if (decide (s9.2 < (s5.2.length : Int))) = true then (∃ q10 : Int, idx s5.2 s9.2 q10 ∧ 0 ≤ (ixor .u8 (IntKind.u8.wrap s9.1) q10) ∧ (ixor .u8 (IntKind.u8.wrap s9.1) q10) < 256 ∧ o9 = .inl ((ixor .u32 (ishr .u32 s9.1 8) (a0.getD ((ixor .u8 (IntKind.u8.wrap s9.1) q10).toNat) 0)), (IntKind.i64.wrap (s9.2 + 1)))) else (o9 = .inr s9.1)
def crc_Table_Add_j1 (a0 : List Int) (s5 : Int × List Int) (r : Int) : Prop :=
  ∃ e9 : Int, Loops (crc_Table_Add_l3 a0 s5) (s5.1, 0) e9 ∧ (crc_Table_Add_j2 e9 r)
def crc_Table_Add_l4 (a0 : List Int) (s18 : Int × List Int) (o18 : Sum (Int × List Int) (Int × List Int)) : Prop :=
  if (decide ((s18.2.length : Int) < 4)) = true then (o18 = .inr (s18.1, s18.2)) else (∃ q21 : Int, idx s18.2 0 q21 ∧ ∃ q26 : Int, idx s18.2 1 q26 ∧ ∃ q31 : Int, idx s18.2 2 q31 ∧ ∃ q36 : Int, idx s18.2 3 q36 ∧ 0 ≤ (iand .u32 (ixor .u32 s18.1 (ior .u32 (ior .u32 (ior .u32 (IntKind.u32.wrap q21) (ishl .u32 (IntKind.u32.wrap q26) 8)) (ishl .u32 (IntKind.u32.wrap q31) 16)) (ishl .u32 (IntKind.u32.wrap q36) 24))) 255) ∧ (iand .u32 (ixor .u32 s18.1 (ior .u32 (ior .u32 (ior .u32 (IntKind.u32.wrap q21) (ishl .u32 (IntKind.u32.wrap q26) 8)) (ishl .u32 (IntKind.u32.wrap q31) 16)) (ishl .u32 (IntKind.u32.wrap q36) 24))) 255) < 256 ∧ 0 ≤ (iand .u32 (ishr .u32 (ixor .u32 s18.1 (ior .u32 (ior .u32 (ior .u32 (IntKind.u32.wrap q21) (ishl .u32 (IntKind.u32.wrap q26) 8)) (ishl .u32 (IntKind.u32.wrap q31) 16)) (ishl .u32 (IntKind.u32.wrap q36) 24))) 8) 255) ∧ (iand .u32 (ishr .u32 (ixor .u32 s18.1 (ior .u32 (ior .u32 (ior .u32 (IntKind.u32.wrap q21) (ishl .u32 (IntKind.u32.wrap q26) 8)) (ishl .u32 (IntKind.u32.wrap q31) 16)) (ishl .u32 (IntKind.u32.wrap q36) 24))) 8) 255) < 256 ∧ 0 ≤ (iand .u32 (ishr .u32 (ixor .u32 s18.1 (ior .u32 (ior .u32 (ior .u32 (IntKind.u32.wrap q21) (ishl .u32 (IntKind.u32.wrap q26) 8)) (ishl .u32 (IntKind.u32.wrap q31) 16)) (ishl .u32 (IntKind.u32.wrap q36) 24))) 16) 255) ∧ (iand .u32 (ishr .u32 (ixor .u32 s18.1 (ior .u32 (ior .u32 (ior .u32 (IntKind.u32.wrap q21) (ishl .u32 (IntKind.u32.wrap q26) 8)) (ishl .u32 (IntKind.u32.wrap q31) 16)) (ishl .u32 (IntKind.u32.wrap q36) 24))) 16) 255) < 256 ∧ 0 ≤ (ishr .u32 (ixor .u32 s18.1 (ior .u32 (ior .u32 (ior .u32 (IntKind.u32.wrap q21) (ishl .u32 (IntKind.u32.wrap q26) 8)) (ishl .u32 (IntKind.u32.wrap q31) 16)) (ishl .u32 (IntKind.u32.wrap q36) 24))) 24) ∧ (ishr .u32 (ixor .u32 s18.1 (ior .u32 (ior .u32 (ior .u32 (IntKind.u32.wrap q21) (ishl .u32 (IntKind.u32.wrap q26) 8)) (ishl .u32 (IntKind.u32.wrap q31) 16)) (ishl .u32 (IntKind.u32.wrap q36) 24))) 24) < 256 ∧ 4 ≤ (s18.2.length : Int) ∧ (s18.2.length : Int) ≤ (s18.2.length : Int) ∧ o18 = .inl ((ixor .u32 (ixor .u32 (ixor .u32 (a0.getD (768 + (iand .u32 (ixor .u32 s18.1 (ior .u32 (ior .u32 (ior .u32 (IntKind.u32.wrap q21) (ishl .u32 (IntKind.u32.wrap q26) 8)) (ishl .u32 (IntKind.u32.wrap q31) 16)) (ishl .u32 (IntKind.u32.wrap q36) 24))) 255).toNat) 0) (a0.getD (512 + (iand .u32 (ishr .u32 (ixor .u32 s18.1 (ior .u32 (ior .u32 (ior .u32 (IntKind.u32.wrap q21) (ishl .u32 (IntKind.u32.wrap q26) 8)) (ishl .u32 (IntKind.u32.wrap q31) 16)) (ishl .u32 (IntKind.u32.wrap q36) 24))) 8) 255).toNat) 0)) (a0.getD (256 + (iand .u32 (ishr .u32 (ixor .u32 s18.1 (ior .u32 (ior .u32 (ior .u32 (IntKind.u32.wrap q21) (ishl .u32 (IntKind.u32.wrap q26) 8)) (ishl .u32 (IntKind.u32.wrap q31) 16)) (ishl .u32 (IntKind.u32.wrap q36) 24))) 16) 255).toNat) 0)) (a0.getD ((ishr .u32 (ixor .u32 s18.1 (ior .u32 (ior .u32 (ior .u32 (IntKind.u32.wrap q21) (ishl .u32 (IntKind.u32.wrap q26) 8)) (ishl .u32 (IntKind.u32.wrap q31) 16)) (ishl .u32 (IntKind.u32.wrap q36) 24))) 24).toNat) 0)), ((s18.2.drop (4 : Int).toNat).take (((s18.2.length : Int) : Int) - 4).toNat)))
def crc_Table_Add (a0 : List Int) (a1 : Int) (a2 : List Int) (r : Int) : Prop :=
  ∃ e18 : Int × List Int, Loops (crc_Table_Add_l4 a0) (a1, a2) e18 ∧ (crc_Table_Add_j1 a0 e18 r)
def crc_Table_End (a0 : List Int) (a1 : Int) (r : Int) : Prop :=
  r = (icompl .u32 a1)
def crc_Table_Sum_j1 (a0 : List Int) (s9 : Int) (r : Int) : Prop :=
  ∃ r10 : Int, crc_Table_End a0 s9 r10 ∧ r = r10
def crc_Table_Sum_l2 (a0 : List Int) (a1 : List (List Int)) (s14 : Int × Int) (o14 : Sum (Int × Int) Int) : Prop :=
  if (decide (s14.2 < (a1.length : Int))) = true then (∃ q15 : List Int, idx a1 s14.2 q15 ∧ ∃ r22 : Int, crc_Table_Add a0 s14.1 q15 r22 ∧ o14 = .inl (r22, (IntKind.i64.wrap (s14.2 + 1)))) else (o14 = .inr s14.1)
def crc_Table_Sum (a0 : List Int) (a1 : List (List Int)) (r : Int) : Prop :=
  ∃ r5 : Int, crc_Table_Begin a0 r5 ∧ ∃ e14 : Int, Loops (crc_Table_Sum_l2 a0 a1) (r5, 0) e14 ∧ (crc_Table_Sum_j1 a0 e14 r)
def crc_bytes (a0 : Int) (r : List Int) : Prop :=
  r = [(IntKind.u8.wrap a0), (IntKind.u8.wrap (ishr .u32 a0 8)), (IntKind.u8.wrap (ishr .u32 a0 16)), (IntKind.u8.wrap (ishr .u32 a0 24))]
def crc_Open (a0 : List Int) (a1 : List Int) (r : List Int × Int) : Prop :=
  if (decide ((IntKind.i64.wrap ((a1.length : Int) - 4)) < 0)) = true then (r = ([], 13)) else (0 ≤ (IntKind.i64.wrap ((a1.length : Int) - 4)) ∧ (IntKind.i64.wrap ((a1.length : Int) - 4)) ≤ (a1.length : Int) ∧ (IntKind.i64.wrap ((a1.length : Int) - 4)) ≤ (IntKind.i64.wrap ((a1.length : Int) - 4)) ∧ (IntKind.i64.wrap ((a1.length : Int) - 4)) ≤ (a1.length : Int) ∧ ∃ r18 : Int, crc_Table_Sum a0 [((a1.drop (0 : Int).toNat).take (((IntKind.i64.wrap ((a1.length : Int) - 4)) : Int) - 0).toNat)] r18 ∧ ∃ r22 : List Int, crc_bytes r18 r22 ∧ 0 ≤ (IntKind.i64.wrap ((a1.length : Int) - 4)) ∧ (IntKind.i64.wrap ((a1.length : Int) - 4)) ≤ (a1.length : Int) ∧ (a1.length : Int) ≤ (a1.length : Int) ∧ 4 ≤ ((a1.drop (IntKind.i64.wrap ((a1.length : Int) - 4)).toNat).take (((a1.length : Int) : Int) - (IntKind.i64.wrap ((a1.length : Int) - 4))).toNat).length ∧ if (!(eqN 4 0 r22 ((a1.drop (IntKind.i64.wrap ((a1.length : Int) - 4)).toNat).take (((a1.length : Int) : Int) - (IntKind.i64.wrap ((a1.length : Int) - 4))).toNat))) = true then (r = ([], 11)) else ((([] : List Int).length + ((a1.drop (0 : Int).toNat).take (((IntKind.i64.wrap ((a1.length : Int) - 4)) : Int) - 0).toNat).length) * 1 ≤ 140737488355328 ∧ ([] : List Int).length + ((a1.drop (0 : Int).toNat).take (((IntKind.i64.wrap ((a1.length : Int) - 4)) : Int) - 0).toNat).length ≤ 4611686018427387904 ∧ r = ((([] : List Int) ++ ((a1.drop (0 : Int).toNat).take (((IntKind.i64.wrap ((a1.length : Int) - 4)) : Int) - 0).toNat)), 0)))
def lens_New (a0 : List Int) (r : (List Int × Int × Int)) : Prop :=
  (([] : List Int).length + a0.length) * 1 ≤ 140737488355328 ∧ ([] : List Int).length + a0.length ≤ 4611686018427387904 ∧ r = ((([] : List Int) ++ a0), 0, 0)
def lens_Lens_left (a0 : List Int × Int × Int) (r : List Int) : Prop :=
  0 ≤ a0.2.1 ∧ a0.2.1 ≤ (a0.1.length : Int) ∧ (a0.1.length : Int) ≤ (a0.1.length : Int) ∧ (a0.1.length : Int) ≤ (a0.1.length : Int) ∧ (a0.1.length : Int) ≤ (a0.1.length : Int) ∧ r = ((a0.1.drop a0.2.1.toNat).take (((a0.1.length : Int) : Int) - a0.2.1).toNat)
def slices_Backward_byte_byte_1_l1 (S : Type) (Y : (Int × Int) → S → Bool × S → Prop) (c0 : List Int) (s3 : S × Int) (o3 : Sum (S × Int) (S × Unit)) : Prop :=
  if (decide (0 ≤ s3.2)) = true then (∃ q6 : Int, idx c0 s3.2 q6 ∧ ∃ y11 : Bool, ∃ u12 : S, Y (s3.2, q6) s3.1 (y11, u12) ∧ if (!y11) = true then (o3 = .inr (u12, ())) else (o3 = .inl (u12, (IntKind.i64.wrap (s3.2 - 1))))) else (o3 = .inr (s3.1, ()))
def slices_Backward_byte_byte_1 (c0 : List Int) (S : Type) (Y : (Int × Int) → S → Bool × S → Prop) (s : S) (r : S × Unit) : Prop :=
  ∃ e3 : S × Unit, Loops (slices_Backward_byte_byte_1_l1 S Y c0) (s, (IntKind.i64.wrap ((c0.length : Int) - 1))) e3 ∧ (r = e3)
def slices_Backward_byte_byte (a0 : List Int) (r : (((S : Type) → ((Int × Int) → S → Bool × S → Prop) → S → S × Unit → Prop))) : Prop :=
  r = (slices_Backward_byte_byte_1 a0)
def lens_Lens_word_1_l1  (x14 : Int × Int) (s14 : Int) (o14 : Sum Int Unit) : Prop :=
  o14 = .inl (ior .u32 (ishl .u32 s14 8) (IntKind.u32.wrap x14.2))
def lens_Lens_word_1 (a0 : List Int) (c0 : Int) (c1 : Int) (r : Int × Int × Int) : Prop :=
  if (decide ((a0.length : Int) < c0)) = true then (r = (0, 4, c1)) else (0 ≤ c0 ∧ c0 ≤ (a0.length : Int) ∧ ∃ r7 : (((S : Type) → ((Int × Int) → S → Bool × S → Prop) → S → S × Unit → Prop)), slices_Backward_byte_byte ((a0.drop (0 : Int).toNat).take ((c0 : Int) - 0).toNat) r7 ∧ ∃ (t14 : Sum Int Unit) (w14 : Unit), r7 (Sum Int Unit) (Yof (lens_Lens_word_1_l1)) (.inl c1) (t14, w14) ∧ Aft (fun p15 => r = (c0, 0, p15)) (fun _ => True) t14)
def lens_Lens_read__lens_Lens_word_1 (a0 : List Int × Int × Int) (a1_0 : Int) (a1_1 : Int) (r : Bool × (List Int × Int × Int) × Int) : Prop :=
  if (!(decide (a0.2.2 = 0))) = true then (r = (false, a0, a1_1)) else (∃ r3 : List Int, lens_Lens_left a0 r3 ∧ ∃ r9 : Int × Int × Int, lens_Lens_word_1 r3 a1_0 a1_1 r9 ∧ if (!(decide (r9.2.1 = 0))) = true then (r = (false, (a0.1, a0.2.1, r9.2.1), r9.2.2)) else (r = (true, (a0.1, (IntKind.i64.wrap (a0.2.1 + r9.1)), a0.2.2), r9.2.2)))
def lens_Lens_word (a0 : List Int × Int × Int) (a1 : Int) (r : Int × (List Int × Int × Int)) : Prop :=
  ∃ r5 : Bool × (List Int × Int × Int) × Int, lens_Lens_read__lens_Lens_word_1 a0 a1 0 r5 ∧ r = (r5.2.2, r5.2.1)
def lens_Lens_U8 (a0 : List Int × Int × Int) (r : Int × (List Int × Int × Int)) : Prop :=
  ∃ r3 : Int × (List Int × Int × Int), lens_Lens_word a0 1 r3 ∧ r = ((IntKind.u8.wrap r3.1), r3.2)
def lens_Lens_U32 (a0 : List Int × Int × Int) (r : Int × (List Int × Int × Int)) : Prop :=
  ∃ r3 : Int × (List Int × Int × Int), lens_Lens_word a0 4 r3 ∧ r = (r3.1, r3.2)
def lens_Lens_Err (a0 : List Int × Int × Int) (r : Int) : Prop :=
  r = a0.2.2
def lens_Lens_Left (a0 : List Int × Int × Int) (r : Int) : Prop :=
  ∃ r3 : List Int, lens_Lens_left a0 r3 ∧ r = (r3.length : Int)
def lens_Lens_End_j1 (r3 : Int) (s7 : Bool) (r : Int) : Prop :=
  if s7 = true then (r = r3) else (r = 3)
def lens_Lens_End (a0 : List Int × Int × Int) (r : Int) : Prop :=
  ∃ r3 : Int, lens_Lens_Err a0 r3 ∧ if (!(decide (r3 = 0))) = true then (lens_Lens_End_j1 r3 true r) else (∃ r8 : Int, lens_Lens_Left a0 r8 ∧ lens_Lens_End_j1 r3 (decide (r8 = 0)) r)
def head_wrong_1 (c0 : Int × Int × Int × Int × Int) (S : Type) (Y : (Int × Bool) → S → Bool × S → Prop) (s : S) (r : S × Unit) : Prop :=
  if (decide (c0.1 < 1)) = true then (∃ y1 : Bool, ∃ u2 : S, Y (10, true) s (y1, u2) ∧ if y1 = true then (if (decide (c0.2.1 < 1)) = true then (∃ y8 : Bool, ∃ u9 : S, Y (9, true) u2 (y8, u9) ∧ if y8 = true then (if (decide (c0.2.2.2.2 < 1)) = true then (∃ y15 : Bool, ∃ u16 : S, Y (3, true) u9 (y15, u16) ∧ r = (u16, ())) else (if (decide (255 < c0.2.2.2.2)) = true then (∃ y22 : Bool, ∃ u23 : S, Y (3, true) u9 (y22, u23) ∧ r = (u23, ())) else (if (decide (c0.2.2.2.1 < 0)) = true then (∃ y29 : Bool, ∃ u30 : S, Y (3, true) u9 (y29, u30) ∧ r = (u30, ())) else (∃ y36 : Bool, ∃ u37 : S, Y (3, (decide (c0.2.2.2.2 ≤ c0.2.2.2.1))) u9 (y36, u37) ∧ r = (u37, ()))))) else (r = (u9, ()))) else (∃ y43 : Bool, ∃ u44 : S, Y (9, (decide (5 < c0.2.1))) u2 (y43, u44) ∧ if y43 = true then (if (decide (c0.2.2.2.2 < 1)) = true then (∃ y50 : Bool, ∃ u51 : S, Y (3, true) u44 (y50, u51) ∧ r = (u51, ())) else (if (decide (255 < c0.2.2.2.2)) = true then (∃ y57 : Bool, ∃ u58 : S, Y (3, true) u44 (y57, u58) ∧ r = (u58, ())) else (if (decide (c0.2.2.2.1 < 0)) = true then (∃ y64 : Bool, ∃ u65 : S, Y (3, true) u44 (y64, u65) ∧ r = (u65, ())) else (∃ y71 : Bool, ∃ u72 : S, Y (3, (decide (c0.2.2.2.2 ≤ c0.2.2.2.1))) u44 (y71, u72) ∧ r = (u72, ()))))) else (r = (u44, ())))) else (r = (u2, ()))) else (∃ y78 : Bool, ∃ u79 : S, Y (10, (decide (2 < c0.1))) s (y78, u79) ∧ if y78 = true then (if (decide (c0.2.1 < 1)) = true then (∃ y85 : Bool, ∃ u86 : S, Y (9, true) u79 (y85, u86) ∧ if y85 = true then (if (decide (c0.2.2.2.2 < 1)) = true then (∃ y92 : Bool, ∃ u93 : S, Y (3, true) u86 (y92, u93) ∧ r = (u93, ())) else (if (decide (255 < c0.2.2.2.2)) = true then (∃ y99 : Bool, ∃ u100 : S, Y (3, true) u86 (y99, u100) ∧ r = (u100, ())) else (if (decide (c0.2.2.2.1 < 0)) = true then (∃ y106 : Bool, ∃ u107 : S, Y (3, true) u86 (y106, u107) ∧ r = (u107, ())) else (∃ y113 : Bool, ∃ u114 : S, Y (3, (decide (c0.2.2.2.2 ≤ c0.2.2.2.1))) u86 (y113, u114) ∧ r = (u114, ()))))) else (r = (u86, ()))) else (∃ y120 : Bool, ∃ u121 : S, Y (9, (decide (5 < c0.2.1))) u79 (y120, u121) ∧ if y120 = true then (if (decide (c0.2.2.2.2 < 1)) = true then (∃ y127 : Bool, ∃ u128 : S, Y (3, true) u121 (y127, u128) ∧ r = (u128, ())) else (if (decide (255 < c0.2.2.2.2)) = true then (∃ y134 : Bool, ∃ u135 : S, Y (3, true) u121 (y134, u135) ∧ r = (u135, ())) else (if (decide (c0.2.2.2.1 < 0)) = true then (∃ y141 : Bool, ∃ u142 : S, Y (3, true) u121 (y141, u142) ∧ r = (u142, ())) else (∃ y148 : Bool, ∃ u149 : S, Y (3, (decide (c0.2.2.2.2 ≤ c0.2.2.2.1))) u121 (y148, u149) ∧ r = (u149, ()))))) else (r = (u121, ())))) else (r = (u79, ())))
def head_wrong (a0 : Int × Int × Int × Int × Int) (r : (((S : Type) → ((Int × Bool) → S → Bool × S → Prop) → S → S × Unit → Prop))) : Prop :=
  r = (head_wrong_1 a0)
def head_Check_j1  (s3 : Int) (r : Int) : Prop :=
  r = s3
def head_Check_l2  (x11 : Int × Bool) (s11 : Unit) (o11 : Sum Unit Int) : Prop :=
  if x11.2 = true then (o11 = .inr x11.1) else (o11 = .inl ())
def head_Check (a0 : Int × Int × Int × Int × Int) (r : Int) : Prop :=
  ∃ r4 : (((S : Type) → ((Int × Bool) → S → Bool × S → Prop) → S → S × Unit → Prop)), head_wrong a0 r4 ∧ ∃ (t11 : Sum Unit Int) (w11 : Unit), r4 (Sum Unit Int) (Yof (head_Check_l2)) (.inl ()) (t11, w11) ∧ Aft (fun p15 => head_Check_j1 0 r) (fun p12 => head_Check_j1 p12 r) t11
def head_Parse_j1 (r11 : Int × (List Int × Int × Int)) (r17 : Int × (List Int × Int × Int)) (r23 : Int × (List Int × Int × Int)) (r29 : Int × (List Int × Int × Int)) (r35 : Int × (List Int × Int × Int)) (s46 : Int) (r : (Int × Int × Int × Int × Int) × Int) : Prop :=
  if (!(decide (s46 = 0))) = true then (r = ((0, 0, 0, 0, 0), s46)) else (r = (((IntKind.i64.wrap r11.1), (IntKind.i64.wrap r17.1), r23.1, (IntKind.i64.wrap r29.1), (IntKind.i64.wrap r35.1)), 0))
def head_Parse (a0 : List Int) (r : (Int × Int × Int × Int × Int) × Int) : Prop :=
  if (decide ((a0.length : Int) < 8)) = true then (r = ((0, 0, 0, 0, 0), 13)) else (∃ r4 : (List Int × Int × Int), lens_New a0 r4 ∧ ∃ r11 : Int × (List Int × Int × Int), lens_Lens_U8 r4 r11 ∧ ∃ r17 : Int × (List Int × Int × Int), lens_Lens_U8 r11.2 r17 ∧ ∃ r23 : Int × (List Int × Int × Int), lens_Lens_U32 r17.2 r23 ∧ ∃ r29 : Int × (List Int × Int × Int), lens_Lens_U8 r23.2 r29 ∧ ∃ r35 : Int × (List Int × Int × Int), lens_Lens_U8 r29.2 r35 ∧ ∃ r42 : Int, lens_Lens_End r35.2 r42 ∧ if (decide (r42 = 0)) = true then (∃ r47 : Int, head_Check ((IntKind.i64.wrap r11.1), (IntKind.i64.wrap r17.1), r23.1, (IntKind.i64.wrap r29.1), (IntKind.i64.wrap r35.1)) r47 ∧ head_Parse_j1 r11 r17 r23 r29 r35 r47 r) else (head_Parse_j1 r11 r17 r23 r29 r35 r42 r))
def frame_Codec_Unpack (a0 : List Int) (a1 : List Int) (r : ((Int × Int × Int × Int × Int) × List Int) × Int) : Prop :=
  if (decide (255 < (a1.length : Int))) = true then (r = (((0, 0, 0, 0, 0), []), 2)) else (∃ r8 : List Int × Int, cobs_Decode a1 r8 ∧ if (!(decide (r8.2 = 0))) = true then (r = (((0, 0, 0, 0, 0), []), r8.2)) else (if (decide ((r8.1.length : Int) ≤ 12)) = true then (r = (((0, 0, 0, 0, 0), []), 13)) else (∃ r14 : List Int × Int, crc_Open a0 r8.1 r14 ∧ if (!(decide (r14.2 = 0))) = true then (r = (((0, 0, 0, 0, 0), []), r14.2)) else (8 ≤ (r14.1.length : Int) ∧ ∃ r23 : (Int × Int × Int × Int × Int) × Int, head_Parse ((r14.1.drop (0 : Int).toNat).take ((8 : Int) - 0).toNat) r23 ∧ if (!(decide (r23.2 = 0))) = true then (r = (((0, 0, 0, 0, 0), []), r23.2)) else (8 ≤ (r14.1.length : Int) ∧ (r14.1.length : Int) ≤ (r14.1.length : Int) ∧ r = ((r23.1, ((r14.1.drop (8 : Int).toNat).take (((r14.1.length : Int) : Int) - 8).toNat)), 0))))))
def internal_strconv_FormatUint (a0 : Int) (a1 : Int) (r : ByteArray) : Prop := IntOk .u64 a0 ∧ a1 = 10 ∧ r = bstr (decI a0)
def strconv_FormatUint (a0 : Int) (a1 : Int) (r : ByteArray) : Prop :=
  ∃ r1 : ByteArray, internal_strconv_FormatUint a0 a1 r1 ∧ r = r1
def head_Line (a0 : Int × Int × Int × Int × Int) (r : ByteArray) : Prop :=
  ∃ r2 : ByteArray, strconv_Itoa a0.1 r2 ∧ (bstr [118, 32]).size + r2.size < 4611686018427387904 ∧ ((bstr [118, 32]) ++ r2).size + (bstr [32, 107, 32]).size < 4611686018427387904 ∧ ∃ r8 : ByteArray, strconv_Itoa a0.2.1 r8 ∧ (((bstr [118, 32]) ++ r2) ++ (bstr [32, 107, 32])).size + r8.size < 4611686018427387904 ∧ ((((bstr [118, 32]) ++ r2) ++ (bstr [32, 107, 32])) ++ r8).size + (bstr [32]).size < 4611686018427387904 ∧ ∃ r14 : ByteArray, strconv_FormatUint (IntKind.u64.wrap a0.2.2.1) 10 r14 ∧ (((((bstr [118, 32]) ++ r2) ++ (bstr [32, 107, 32])) ++ r8) ++ (bstr [32])).size + r14.size < 4611686018427387904 ∧ ((((((bstr [118, 32]) ++ r2) ++ (bstr [32, 107, 32])) ++ r8) ++ (bstr [32])) ++ r14).size + (bstr [32]).size < 4611686018427387904 ∧ ∃ r20 : ByteArray, strconv_Itoa a0.2.2.2.1 r20 ∧ (((((((bstr [118, 32]) ++ r2) ++ (bstr [32, 107, 32])) ++ r8) ++ (bstr [32])) ++ r14) ++ (bstr [32])).size + r20.size < 4611686018427387904 ∧ ((((((((bstr [118, 32]) ++ r2) ++ (bstr [32, 107, 32])) ++ r8) ++ (bstr [32])) ++ r14) ++ (bstr [32])) ++ r20).size + (bstr [47]).size < 4611686018427387904 ∧ ∃ r26 : ByteArray, strconv_Itoa a0.2.2.2.2 r26 ∧ (((((((((bstr [118, 32]) ++ r2) ++ (bstr [32, 107, 32])) ++ r8) ++ (bstr [32])) ++ r14) ++ (bstr [32])) ++ r20) ++ (bstr [47])).size + r26.size < 4611686018427387904 ∧ r = ((((((((((bstr [118, 32]) ++ r2) ++ (bstr [32, 107, 32])) ++ r8) ++ (bstr [32])) ++ r14) ++ (bstr [32])) ++ r20) ++ (bstr [47])) ++ r26)
def frame_Line (a0 : (Int × Int × Int × Int × Int) × List Int) (r : ByteArray) : Prop :=
  ∃ r4 : ByteArray, head_Line a0.1 r4 ∧ r4.size + (bstr [32]).size < 4611686018427387904 ∧ ∃ r9 : ByteArray, strconv_Itoa (a0.2.length : Int) r9 ∧ (r4 ++ (bstr [32])).size + r9.size < 4611686018427387904 ∧ r = ((r4 ++ (bstr [32])) ++ r9)
def law08_Cut (a0 : (Int × Int × Int × Int × Int) × List Int) (r : ((Int × Int × Int × Int × Int) × List Int)) : Prop :=
  0 ≤ (min (a0.2.length : Int) 250) ∧ (min (a0.2.length : Int) 250) ≤ (a0.2.length : Int) ∧ r = (a0.1, ((a0.2.drop (0 : Int).toNat).take (((min (a0.2.length : Int) 250) : Int) - 0).toNat))
def law08_Of (a0 : (Int × Int × Int × Int × Int) × List Int) (r : ((Int × Int × Int × Int × Int) × List Int)) : Prop :=
  r = a0
def ref08_Check (a0 : (Int × Int × Int × Int × Int) × List Int) (r : Int) : Prop :=
  ∃ r4 : Int, ref07_Check a0.1 r4 ∧ if (!(decide (r4 = 0))) = true then (∃ r8 : Int, ref07_Check a0.1 r8 ∧ r = r8) else (if (decide ((a0.2.length : Int) = 0)) = true then (r = 13) else (if (decide (242 < (a0.2.length : Int))) = true then (r = 2) else (r = 0)))
def frame_Codec_Check (a0 : List Int) (a1 : (Int × Int × Int × Int × Int) × List Int) (r : Int) : Prop :=
  ∃ r8 : Int, head_Check a1.1 r8 ∧ if (!(decide (r8 = 0))) = true then (r = r8) else (if (decide ((a1.2.length : Int) = 0)) = true then (r = 13) else (if (decide (242 < (a1.2.length : Int))) = true then (r = 2) else (r = 0)))
def bytes_Equal (a0 : List Int) (a1 : List Int) (r : Bool) : Prop :=
  r = (decide ((bstr a0) = (bstr a1)))
def frame_Same_j1  (s7 : Bool) (r : Bool) : Prop :=
  r = s7
def frame_Same (a0 : (Int × Int × Int × Int × Int) × List Int) (a1 : (Int × Int × Int × Int × Int) × List Int) (r : Bool) : Prop :=
  if ((decide (a0.1.1 = a1.1.1)) && ((decide (a0.1.2.1 = a1.1.2.1)) && ((decide (a0.1.2.2.1 = a1.1.2.2.1)) && ((decide (a0.1.2.2.2.1 = a1.1.2.2.2.1)) && ((decide (a0.1.2.2.2.2 = a1.1.2.2.2.2)) && true))))) = true then (∃ r8 : Bool, bytes_Equal a0.2 a1.2 r8 ∧ frame_Same_j1 r8 r) else (frame_Same_j1 false r)
def ref08_Same_j1  (s7 : Bool) (r : Bool) : Prop :=
  r = s7
def ref08_Same (a0 : (Int × Int × Int × Int × Int) × List Int) (a1 : (Int × Int × Int × Int × Int) × List Int) (r : Bool) : Prop :=
  if ((decide (a0.1.1 = a1.1.1)) && ((decide (a0.1.2.1 = a1.1.2.1)) && ((decide (a0.1.2.2.1 = a1.1.2.2.1)) && ((decide (a0.1.2.2.2.1 = a1.1.2.2.2.1)) && ((decide (a0.1.2.2.2.2 = a1.1.2.2.2.2)) && true))))) = true then (∃ r8 : Bool, ref01_Same a0.2 a1.2 r8 ∧ ref08_Same_j1 r8 r) else (ref08_Same_j1 false r)
def head_Bytes (a0 : Int × Int × Int × Int × Int) (r : List Int × Int) : Prop :=
  ∃ r2 : Int, head_Check a0 r2 ∧ if (!(decide (r2 = 0))) = true then (r = ([], r2)) else (r = ([(IntKind.u8.wrap a0.1), (IntKind.u8.wrap a0.2.1), (IntKind.u8.wrap a0.2.2.1), (IntKind.u8.wrap (ishr .u32 a0.2.2.1 8)), (IntKind.u8.wrap (ishr .u32 a0.2.2.1 16)), (IntKind.u8.wrap (ishr .u32 a0.2.2.1 24)), (IntKind.u8.wrap a0.2.2.2.1), (IntKind.u8.wrap a0.2.2.2.2)], 0))
def crc_Seal (a0 : List Int) (a1 : List Int) (r : List Int) : Prop :=
  ∃ r12 : Int, crc_Table_Sum a0 [a1] r12 ∧ ∃ r16 : List Int, crc_bytes r12 r16 ∧ (([] : List Int).length + a1.length) * 1 ≤ 140737488355328 ∧ ([] : List Int).length + a1.length ≤ 4611686018427387904 ∧ ((([] : List Int) ++ a1).length + [(r16.getD 0 0), (r16.getD 1 0), (r16.getD 2 0), (r16.getD 3 0)].length) * 1 ≤ 140737488355328 ∧ (([] : List Int) ++ a1).length + [(r16.getD 0 0), (r16.getD 1 0), (r16.getD 2 0), (r16.getD 3 0)].length ≤ 4611686018427387904 ∧ r = ((([] : List Int) ++ a1) ++ [(r16.getD 0 0), (r16.getD 1 0), (r16.getD 2 0), (r16.getD 3 0)])
def cobs_block_j1 (a0 : List Int) (s3 : Unit) (r : Int × Int × Bool) : Prop :=
  if (decide (254 ≤ (a0.length : Int))) = true then (r = (254, 254, (decide (254 < (a0.length : Int))))) else (r = ((a0.length : Int), (a0.length : Int), false))
def cobs_block_l2 (a0 : List Int) (s8 : Int) (o8 : Sum Int (Sum Unit (Int × Int × Bool))) : Prop :=
  if (decide (s8 < (((a0.drop (0 : Int).toNat).take (((min (a0.length : Int) 254) : Int) - 0).toNat).length : Int))) = true then (∃ q9 : Int, idx ((a0.drop (0 : Int).toNat).take (((min (a0.length : Int) 254) : Int) - 0).toNat) s8 q9 ∧ if (decide (q9 = 0)) = true then (o8 = .inr (.inr (s8, (IntKind.i64.wrap (s8 + 1)), true))) else (o8 = .inl (IntKind.i64.wrap (s8 + 1)))) else (o8 = .inr (.inl ()))
def cobs_block (a0 : List Int) (r : Int × Int × Bool) : Prop :=
  0 ≤ (min (a0.length : Int) 254) ∧ (min (a0.length : Int) 254) ≤ (a0.length : Int) ∧ ∃ e8 : (Sum Unit (Int × Int × Bool)), Loops (cobs_block_l2 a0) 0 e8 ∧ Aft (fun p14 => cobs_block_j1 a0 p14 r) (fun p15 => r = p15) e8
def cobs_Blocks_1_l1 (S : Type) (Y : (List Int) → S → Bool × S → Prop) (s3 : S × List Int × Bool) (o3 : Sum (S × List Int × Bool) (S × Unit)) : Prop :=
  if s3.2.2 = true then (∃ r8 : Int × Int × Bool, cobs_block s3.2.1 r8 ∧ 0 ≤ r8.1 ∧ r8.1 ≤ (s3.2.1.length : Int) ∧ r8.1 ≤ r8.1 ∧ r8.1 ≤ (s3.2.1.length : Int) ∧ (([] : List Int).length + ((s3.2.1.drop (0 : Int).toNat).take ((r8.1 : Int) - 0).toNat).length) * 1 ≤ 140737488355328 ∧ ([] : List Int).length + ((s3.2.1.drop (0 : Int).toNat).take ((r8.1 : Int) - 0).toNat).length ≤ 4611686018427387904 ∧ ∃ y30 : Bool, ∃ u31 : S, Y (([] : List Int) ++ ((s3.2.1.drop (0 : Int).toNat).take ((r8.1 : Int) - 0).toNat)) s3.1 (y30, u31) ∧ if (!y30) = true then (o3 = .inr (u31, ())) else (0 ≤ r8.2.1 ∧ r8.2.1 ≤ (s3.2.1.length : Int) ∧ (s3.2.1.length : Int) ≤ (s3.2.1.length : Int) ∧ o3 = .inl (u31, ((s3.2.1.drop r8.2.1.toNat).take (((s3.2.1.length : Int) : Int) - r8.2.1).toNat), r8.2.2))) else (o3 = .inr (s3.1, ()))
def cobs_Blocks_1 (c0 : List Int) (S : Type) (Y : (List Int) → S → Bool × S → Prop) (s : S) (r : S × Unit) : Prop :=
  ∃ e3 : S × Unit, Loops (cobs_Blocks_1_l1 S Y) (s, c0, true) e3 ∧ (r = e3)
def cobs_Blocks (a0 : List Int) (r : (((S : Type) → ((List Int) → S → Bool × S → Prop) → S → S × Unit → Prop))) : Prop :=
  r = (cobs_Blocks_1 a0)
def cobs_Encode_l1  (x11 : List Int) (s11 : List Int) (o11 : Sum (List Int) Unit) : Prop :=
  (s11.length + [(IntKind.u8.wrap (IntKind.i64.wrap ((x11.length : Int) + 1)))].length) * 1 ≤ 140737488355328 ∧ s11.length + [(IntKind.u8.wrap (IntKind.i64.wrap ((x11.length : Int) + 1)))].length ≤ 4611686018427387904 ∧ ((s11 ++ [(IntKind.u8.wrap (IntKind.i64.wrap ((x11.length : Int) + 1)))]).length + x11.length) * 1 ≤ 140737488355328 ∧ (s11 ++ [(IntKind.u8.wrap (IntKind.i64.wrap ((x11.length : Int) + 1)))]).length + x11.length ≤ 4611686018427387904 ∧ o11 = .inl ((s11 ++ [(IntKind.u8.wrap (IntKind.i64.wrap ((x11.length : Int) + 1)))]) ++ x11)
def cobs_Encode (a0 : List Int) (r : List Int) : Prop :=
  ∃ r4 : (((S : Type) → ((List Int) → S → Bool × S → Prop) → S → S × Unit → Prop)), cobs_Blocks a0 r4 ∧ ∃ (t11 : Sum (List Int) Unit) (w11 : Unit), r4 (Sum (List Int) Unit) (Yof (cobs_Encode_l1)) (.inl []) (t11, w11) ∧ Aft (fun p30 => r = p30) (fun _ => True) t11
def frame_Codec_Segment (a0 : List Int) (a1 : (Int × Int × Int × Int × Int) × List Int) (r : List Int × Int) : Prop :=
  ∃ r8 : Int, frame_Codec_Check a0 a1 r8 ∧ if (!(decide (r8 = 0))) = true then (r = ([], r8)) else (∃ r12 : List Int × Int, head_Bytes a1.1 r12 ∧ (r12.1.length + a1.2.length) * 1 ≤ 140737488355328 ∧ r12.1.length + a1.2.length ≤ 4611686018427387904 ∧ ∃ r25 : List Int, crc_Seal a0 (r12.1 ++ a1.2) r25 ∧ ∃ r31 : List Int, cobs_Encode r25 r31 ∧ r = (r31, r12.2))
def fence_Wrap_j1  (s3 : List Int) (r : List Int) : Prop :=
  r = s3
def fence_Wrap_l2 (a0 : List (List Int)) (s13 : List Int × Int) (o13 : Sum (List Int × Int) (List Int)) : Prop :=
  if (decide (s13.2 < (a0.length : Int))) = true then (∃ q17 : List Int, idx a0 s13.2 q17 ∧ (s13.1.length + [0].length) * 1 ≤ 140737488355328 ∧ s13.1.length + [0].length ≤ 4611686018427387904 ∧ ((s13.1 ++ [0]).length + q17.length) * 1 ≤ 140737488355328 ∧ (s13.1 ++ [0]).length + q17.length ≤ 4611686018427387904 ∧ (((s13.1 ++ [0]) ++ q17).length + [0].length) * 1 ≤ 140737488355328 ∧ ((s13.1 ++ [0]) ++ q17).length + [0].length ≤ 4611686018427387904 ∧ o13 = .inl ((((s13.1 ++ [0]) ++ q17) ++ [0]), (IntKind.i64.wrap (s13.2 + 1)))) else (o13 = .inr s13.1)
def fence_Wrap (a0 : List (List Int)) (r : List Int) : Prop :=
  ∃ e13 : List Int, Loops (fence_Wrap_l2 a0) ([], 0) e13 ∧ (fence_Wrap_j1 e13 r)
def frame_Codec_Pack_j1  (s7 : List (List Int) × Int) (r : List Int × Int) : Prop :=
  ∃ r16 : List Int, fence_Wrap s7.1 r16 ∧ r = (r16, s7.2)
def frame_Codec_Pack_l2 (a0 : List Int) (a1 : List ((Int × Int × Int × Int × Int) × List Int)) (s22 : List (List Int) × Int) (o22 : Sum (List (List Int) × Int) (List (List Int) × Int)) : Prop :=
  if (decide (s22.2 < (a1.length : Int))) = true then (∃ q26 : (Int × Int × Int × Int × Int) × List Int, idx a1 s22.2 q26 ∧ ∃ r34 : List Int × Int, frame_Codec_Segment a0 q26 r34 ∧ if (!(decide (r34.2 = 0))) = true then (o22 = .inr ([], r34.2)) else ((s22.1.length + [r34.1].length) * 24 ≤ 140737488355328 ∧ s22.1.length + [r34.1].length ≤ 4611686018427387904 ∧ o22 = .inl ((s22.1 ++ [r34.1]), (IntKind.i64.wrap (s22.2 + 1))))) else (o22 = .inr (s22.1, 0))
def frame_Codec_Pack (a0 : List Int) (a1 : List ((Int × Int × Int × Int × Int) × List Int)) (r : List Int × Int) : Prop :=
  ∃ e22 : List (List Int) × Int, Loops (frame_Codec_Pack_l2 a0 a1) ([], 0) e22 ∧ (frame_Codec_Pack_j1 e22 r)
def cobs_Most_j1 (a0 : Int) (s1 : Int) (r : Int) : Prop :=
  r = (IntKind.i64.wrap (a0 + (max s1 1)))
def cobs_Most (a0 : Int) (r : Int) : Prop :=
  if (decide (a0 < 0)) = true then (r = 0) else (if (!(decide ((a0.tmod 254) = 0))) = true then (cobs_Most_j1 a0 (IntKind.i64.wrap ((IntKind.i64.wrap (a0.tdiv 254)) + 1)) r) else (cobs_Most_j1 a0 (IntKind.i64.wrap (a0.tdiv 254)) r))
def frame_Wire_j1 (a0 : Int) (s1 : Bool) (r : Int) : Prop :=
  if s1 = true then (r = 0) else (∃ r2 : Int, cobs_Most (IntKind.i64.wrap (a0 + 12)) r2 ∧ r = (IntKind.i64.wrap (r2 + 2)))
def frame_Wire (a0 : Int) (r : Int) : Prop :=
  if (decide (a0 < 1)) = true then (frame_Wire_j1 a0 true r) else (frame_Wire_j1 a0 (decide (242 < a0)) r)
def frame_Room (a0 : Int) (r : Int) : Prop :=
  ∃ r1 : Int, frame_Wire 1 r1 ∧ if (decide (a0 < r1)) = true then (r = 0) else (∃ r5 : Int, frame_Wire 1 r5 ∧ r = (min (IntKind.i64.wrap ((IntKind.i64.wrap (a0 - r5)) + 1)) 242))
def law08_known_j1  (s33 : Bool) (r : Bool) : Prop :=
  r = s33
def law08_known  (r : Bool) : Prop :=
  ∃ r11 : List Int, frame_New r11 ∧ ∃ r26 : List Int × Int, frame_Codec_Pack r11 [((1, 1, 0, 0, 1), [7])] r26 ∧ if (decide (r26.2 = 0)) = true then (if (decide ((r26.1.length : Int) = 16)) = true then (∃ r34 : Int, frame_Wire 1 r34 ∧ if (decide (r34 = 16)) = true then (∃ r38 : Int, frame_Room 16 r38 ∧ if (decide (r38 = 1)) = true then (∃ r42 : Int, frame_Room 257 r42 ∧ if (decide (r42 = 242)) = true then (∃ r46 : Int, frame_Room 15 r46 ∧ law08_known_j1 (decide (r46 = 0)) r) else (law08_known_j1 false r)) else (law08_known_j1 false r)) else (law08_known_j1 false r)) else (law08_known_j1 false r)) else (law08_known_j1 false r)
def frame_Codec_Frames_1_l1 (S : Type) (Y : (((Int × Int × Int × Int × Int) × List Int) × Int) → S → Bool × S → Prop) (c0 : List Int) (x15 : Int × List Int) (s15 : S) (o15 : Sum S S) : Prop :=
  ∃ r20 : ((Int × Int × Int × Int × Int) × List Int) × Int, frame_Codec_Unpack c0 x15.2 r20 ∧ ∃ y26 : Bool, ∃ u27 : S, Y (r20.1, r20.2) s15 (y26, u27) ∧ if (!y26) = true then (o15 = .inr u27) else (o15 = .inl u27)
def frame_Codec_Frames_1 (c0 : List Int) (c1 : List Int) (S : Type) (Y : (((Int × Int × Int × Int × Int) × List Int) × Int) → S → Bool × S → Prop) (s : S) (r : S × Unit) : Prop :=
  ∃ r8 : (((S : Type) → ((Int × List Int) → S → Bool × S → Prop) → S → S × Unit → Prop)), fence_Segments c1 r8 ∧ ∃ (t15 : Sum S S) (w15 : Unit), r8 (Sum S S) (Yof (frame_Codec_Frames_1_l1 S Y c0)) (.inl s) (t15, w15) ∧ Aft (fun p41 => r = (p41, ())) (fun p36 => r = (p36, ())) t15
def frame_Codec_Frames (a0 : List Int) (a1 : List Int) (r : (((S : Type) → ((((Int × Int × Int × Int × Int) × List Int) × Int) → S → Bool × S → Prop) → S → S × Unit → Prop))) : Prop :=
  r = (frame_Codec_Frames_1 a0 a1)
def ref02_Word_j1  (s1 : List Int) (r : List Int) : Prop :=
  r = s1
def ref02_Word_l2 (a1 : Int) (s11 : Int × List Int × Int) (o11 : Sum (Int × List Int × Int) (List Int)) : Prop :=
  if (decide (s11.2.2 < a1)) = true then ((s11.2.1.length + [(IntKind.u8.wrap (s11.1.tmod 256))].length) * 1 ≤ 140737488355328 ∧ s11.2.1.length + [(IntKind.u8.wrap (s11.1.tmod 256))].length ≤ 4611686018427387904 ∧ o11 = .inl ((IntKind.u32.wrap (s11.1.tdiv 256)), (s11.2.1 ++ [(IntKind.u8.wrap (s11.1.tmod 256))]), (IntKind.i64.wrap (s11.2.2 + 1)))) else (o11 = .inr s11.2.1)
def ref02_Word (a0 : Int) (a1 : Int) (r : List Int) : Prop :=
  ∃ e11 : List Int, Loops (ref02_Word_l2 a1) (a0, [], 0) e11 ∧ (ref02_Word_j1 e11 r)
def ref07_Bytes (a0 : Int × Int × Int × Int × Int) (r : List Int) : Prop :=
  ∃ r8 : List Int, ref02_Word a0.2.2.1 4 r8 ∧ ([(IntKind.u8.wrap a0.1), (IntKind.u8.wrap a0.2.1)].length + r8.length) * 1 ≤ 140737488355328 ∧ [(IntKind.u8.wrap a0.1), (IntKind.u8.wrap a0.2.1)].length + r8.length ≤ 4611686018427387904 ∧ (([(IntKind.u8.wrap a0.1), (IntKind.u8.wrap a0.2.1)] ++ r8).length + [(IntKind.u8.wrap a0.2.2.2.1), (IntKind.u8.wrap a0.2.2.2.2)].length) * 1 ≤ 140737488355328 ∧ ([(IntKind.u8.wrap a0.1), (IntKind.u8.wrap a0.2.1)] ++ r8).length + [(IntKind.u8.wrap a0.2.2.2.1), (IntKind.u8.wrap a0.2.2.2.2)].length ≤ 4611686018427387904 ∧ r = (([(IntKind.u8.wrap a0.1), (IntKind.u8.wrap a0.2.1)] ++ r8) ++ [(IntKind.u8.wrap a0.2.2.2.1), (IntKind.u8.wrap a0.2.2.2.2)])
def ref08_Segment (a0 : (Int × Int × Int × Int × Int) × List Int) (r : List Int) : Prop :=
  ∃ r4 : List Int, ref07_Bytes a0.1 r4 ∧ (r4.length + a0.2.length) * 1 ≤ 140737488355328 ∧ r4.length + a0.2.length ≤ 4611686018427387904 ∧ (([] : List Int).length + (r4 ++ a0.2).length) * 1 ≤ 140737488355328 ∧ ([] : List Int).length + (r4 ++ a0.2).length ≤ 4611686018427387904 ∧ ∃ r38 : Int, ref04_Sum (r4 ++ a0.2) r38 ∧ ∃ r42 : List Int, ref04_Bytes r38 r42 ∧ ((([] : List Int) ++ (r4 ++ a0.2)).length + r42.length) * 1 ≤ 140737488355328 ∧ (([] : List Int) ++ (r4 ++ a0.2)).length + r42.length ≤ 4611686018427387904 ∧ ∃ r57 : List Int, ref05_Encode ((([] : List Int) ++ (r4 ++ a0.2)) ++ r42) r57 ∧ r = r57
def ref08_Wire_j1  (s3 : List Int) (r : List Int) : Prop :=
  r = s3
def ref08_Wire_l2 (a0 : List ((Int × Int × Int × Int × Int) × List Int)) (s13 : List Int × Int) (o13 : Sum (List Int × Int) (List Int)) : Prop :=
  if (decide (s13.2 < (a0.length : Int))) = true then ((s13.1.length + [0].length) * 1 ≤ 140737488355328 ∧ s13.1.length + [0].length ≤ 4611686018427387904 ∧ ∃ q25 : (Int × Int × Int × Int × Int) × List Int, idx a0 s13.2 q25 ∧ ∃ r32 : List Int, ref08_Segment q25 r32 ∧ ((s13.1 ++ [0]).length + r32.length) * 1 ≤ 140737488355328 ∧ (s13.1 ++ [0]).length + r32.length ≤ 4611686018427387904 ∧ (((s13.1 ++ [0]) ++ r32).length + [0].length) * 1 ≤ 140737488355328 ∧ ((s13.1 ++ [0]) ++ r32).length + [0].length ≤ 4611686018427387904 ∧ o13 = .inl ((((s13.1 ++ [0]) ++ r32) ++ [0]), (IntKind.i64.wrap (s13.2 + 1)))) else (o13 = .inr s13.1)
def ref08_Wire (a0 : List ((Int × Int × Int × Int × Int) × List Int)) (r : List Int) : Prop :=
  ∃ e13 : List Int, Loops (ref08_Wire_l2 a0) ([], 0) e13 ∧ (ref08_Wire_j1 e13 r)
def law08_FramePacks_j3  (s32 : Bool) (r : Bool) : Prop :=
  r = s32
def law08_FramePacks_l4 (s13 : (List ((Int × Int × Int × Int × Int) × List Int)) × Int × (List ((Int × Int × Int × Int × Int) × List Int))) (x45 : ((Int × Int × Int × Int × Int) × List Int) × Int) (s45 : Int) (o45 : Sum Int Int) : Prop :=
  ∃ q49 : (Int × Int × Int × Int × Int) × List Int, (((decide ((s13.2.2.length : Int) ≤ s45)) || (!(decide (x45.2 = 0)))) = false → idx s13.2.2 s45 q49) ∧ ∃ r57 : Bool, (((decide ((s13.2.2.length : Int) ≤ s45)) || (!(decide (x45.2 = 0)))) = false → frame_Same x45.1 q49 r57) ∧ if (((decide ((s13.2.2.length : Int) ≤ s45)) || (!(decide (x45.2 = 0)))) || (!r57)) = true then (o45 = .inr s45) else (o45 = .inl (IntKind.i64.wrap (s45 + 1)))
def law08_FramePacks_j5  (s68 : Bool) (r : Bool) : Prop :=
  r = s68
def law08_FramePacks_j2 (r4 : List Int) (s13 : (List ((Int × Int × Int × Int × Int) × List Int)) × Int × (List ((Int × Int × Int × Int × Int) × List Int))) (r25 : List Int × Int) (s31 : Bool) (r : Bool) : Prop :=
  if s31 = true then (∃ r33 : Bool, law08_known r33 ∧ if r33 = true then (if (decide (r25.2 = s13.2.1)) = true then (law08_FramePacks_j3 (decide ((r25.1.length : Int) = 0)) r) else (law08_FramePacks_j3 false r)) else (law08_FramePacks_j3 false r)) else (∃ r38 : (((S : Type) → ((((Int × Int × Int × Int × Int) × List Int) × Int) → S → Bool × S → Prop) → S → S × Unit → Prop)), frame_Codec_Frames r4 r25.1 r38 ∧ ∃ (t45 : Sum Int Int) (w45 : Unit), r38 (Sum Int Int) (Yof (law08_FramePacks_l4 s13)) (.inl 0) (t45, w45) ∧ Aft (fun p65 => ∃ r69 : Bool, law08_known r69 ∧ if r69 = true then (∃ r78 : List Int, ref08_Wire s13.1 r78 ∧ ∃ r84 : Bool, ref01_Same r25.1 r78 r84 ∧ if r84 = true then (law08_FramePacks_j5 (decide (p65 = (s13.2.2.length : Int))) r) else (law08_FramePacks_j5 false r)) else (law08_FramePacks_j5 false r)) (fun p62 => r = false) t45)
def law08_FramePacks_j1 (r4 : List Int) (s13 : (List ((Int × Int × Int × Int × Int) × List Int)) × Int × (List ((Int × Int × Int × Int × Int) × List Int))) (r : Bool) : Prop :=
  ∃ r25 : List Int × Int, frame_Codec_Pack r4 s13.2.2 r25 ∧ if (!(decide (r25.2 = s13.2.1))) = true then (law08_FramePacks_j2 r4 s13 r25 true r) else (law08_FramePacks_j2 r4 s13 r25 (!(decide (s13.2.1 = 0))) r)
def law08_FramePacks_j8 (s88 : (List ((Int × Int × Int × Int × Int) × List Int)) × Int × Int × (List ((Int × Int × Int × Int × Int) × List Int))) (s96 : (List ((Int × Int × Int × Int × Int) × List Int)) × Int × (List ((Int × Int × Int × Int × Int) × List Int))) (o88 : Sum ((List ((Int × Int × Int × Int × Int) × List Int)) × Int × Int × (List ((Int × Int × Int × Int × Int) × List Int))) (Sum ((List ((Int × Int × Int × Int × Int) × List Int)) × Int × (List ((Int × Int × Int × Int × Int) × List Int))) Bool)) : Prop :=
  o88 = .inl (s96.1, s96.2.1, (IntKind.i64.wrap (s88.2.2.1 + 1)), s96.2.2)
def law08_FramePacks_j7 (a0 : List ((Int × Int × Int × Int × Int) × List Int)) (r4 : List Int) (s88 : (List ((Int × Int × Int × Int × Int) × List Int)) × Int × Int × (List ((Int × Int × Int × Int × Int) × List Int))) (s95 : Bool) (o88 : Sum ((List ((Int × Int × Int × Int × Int) × List Int)) × Int × Int × (List ((Int × Int × Int × Int × Int) × List Int))) (Sum ((List ((Int × Int × Int × Int × Int) × List Int)) × Int × (List ((Int × Int × Int × Int × Int) × List Int))) Bool)) : Prop :=
  if s95 = true then (∃ q103 : (Int × Int × Int × Int × Int) × List Int, idx a0 s88.2.2.1 q103 ∧ ∃ r110 : ((Int × Int × Int × Int × Int) × List Int), law08_Cut q103 r110 ∧ (s88.2.2.2.length + [r110].length) * 64 ≤ 140737488355328 ∧ s88.2.2.2.length + [r110].length ≤ 4611686018427387904 ∧ ∃ r125 : ((Int × Int × Int × Int × Int) × List Int), law08_Of r110 r125 ∧ (s88.1.length + [r125].length) * 64 ≤ 140737488355328 ∧ s88.1.length + [r125].length ≤ 4611686018427387904 ∧ ∃ r139 : ((Int × Int × Int × Int × Int) × List Int), law08_Of r110 r139 ∧ ∃ r145 : Int, ref08_Check r139 r145 ∧ ∃ r149 : Int, frame_Codec_Check r4 r110 r149 ∧ ∃ r153 : Bool, ((!(decide (r149 = r145))) = false → frame_Same r110 r110 r153) ∧ ∃ r157 : ByteArray, (((!(decide (r149 = r145))) || (!r153)) = false → frame_Line r110 r157) ∧ ∃ r161 : ((Int × Int × Int × Int × Int) × List Int), (((!(decide (r149 = r145))) || (!r153)) = false → law08_Of r110 r161) ∧ ∃ r167 : ByteArray, (((!(decide (r149 = r145))) || (!r153)) = false → ref08_Line r161 r167) ∧ ∃ q171 : (Int × Int × Int × Int × Int) × List Int, ((((!(decide (r149 = r145))) || (!r153)) || (!(decide (r157 = r167)))) = false → idx (s88.2.2.2 ++ [r110]) 0 q171) ∧ ∃ r180 : Bool, ((((!(decide (r149 = r145))) || (!r153)) || (!(decide (r157 = r167)))) = false → frame_Same r110 q171 r180) ∧ ∃ r184 : ((Int × Int × Int × Int × Int) × List Int), ((((!(decide (r149 = r145))) || (!r153)) || (!(decide (r157 = r167)))) = false → law08_Of r110 r184) ∧ ∃ q190 : (Int × Int × Int × Int × Int) × List Int, ((((!(decide (r149 = r145))) || (!r153)) || (!(decide (r157 = r167)))) = false → idx (s88.1 ++ [r125]) 0 q190) ∧ ∃ r199 : Bool, ((((!(decide (r149 = r145))) || (!r153)) || (!(decide (r157 = r167)))) = false → ref08_Same r184 q190 r199) ∧ if ((((!(decide (r149 = r145))) || (!r153)) || (!(decide (r157 = r167)))) || (!(decide (r180 = r199)))) = true then (o88 = .inr (.inr false)) else (if (decide (s88.2.1 = 0)) = true then (law08_FramePacks_j8 s88 ((s88.1 ++ [r125]), r145, (s88.2.2.2 ++ [r110])) o88) else (law08_FramePacks_j8 s88 ((s88.1 ++ [r125]), s88.2.1, (s88.2.2.2 ++ [r110])) o88))) else (o88 = .inr (.inl (s88.1, s88.2.1, s88.2.2.2)))
def law08_FramePacks_l6 (a0 : List ((Int × Int × Int × Int × Int) × List Int)) (r4 : List Int) (s88 : (List ((Int × Int × Int × Int × Int) × List Int)) × Int × Int × (List ((Int × Int × Int × Int × Int) × List Int))) (o88 : Sum ((List ((Int × Int × Int × Int × Int) × List Int)) × Int × Int × (List ((Int × Int × Int × Int × Int) × List Int))) (Sum ((List ((Int × Int × Int × Int × Int) × List Int)) × Int × (List ((Int × Int × Int × Int × Int) × List Int))) Bool)) : Prop :=
  if (decide (s88.2.2.1 < (a0.length : Int))) = true then (law08_FramePacks_j7 a0 r4 s88 (decide (s88.2.2.1 < 10)) o88) else (law08_FramePacks_j7 a0 r4 s88 false o88)
def law08_FramePacks (a0 : List ((Int × Int × Int × Int × Int) × List Int)) (r : Bool) : Prop :=
  ∃ r4 : List Int, frame_New r4 ∧ ∃ e88 : (Sum ((List ((Int × Int × Int × Int × Int) × List Int)) × Int × (List ((Int × Int × Int × Int × Int) × List Int))) Bool), Loops (law08_FramePacks_l6 a0 r4) ([], 0, 0, []) e88 ∧ Aft (fun p204 => law08_FramePacks_j1 r4 p204 r) (fun p205 => r = p205) e88
def pen_Pen_Raw (a0 : (List Int × Int × Bool)) (a1 : List Int) (r : Int × ((List Int × Int × Bool))) : Prop :=
  if (a0.2.2 || (decide ((IntKind.i64.wrap (a0.2.1 - (a0.1.length : Int))) < (a1.length : Int)))) = true then (r = (2, (a0.1, a0.2.1, true))) else ((a0.1.length + a1.length) * 1 ≤ 140737488355328 ∧ a0.1.length + a1.length ≤ 4611686018427387904 ∧ r = (0, ((a0.1 ++ a1), a0.2.1, a0.2.2)))
def pen_Pen_word (a0 : (List Int × Int × Bool)) (a1 : Int) (a2 : Int) (r : Int × ((List Int × Int × Bool))) : Prop :=
  0 ≤ a2 ∧ a2 ≤ 4 ∧ a2 ≤ 4 ∧ ∃ r13 : Int × ((List Int × Int × Bool)), pen_Pen_Raw a0 (([(IntKind.u8.wrap a1), (IntKind.u8.wrap (ishr .u32 a1 8)), (IntKind.u8.wrap (ishr .u32 a1 16)), (IntKind.u8.wrap (ishr .u32 a1 24))].drop (0 : Int).toNat).take ((a2 : Int) - 0).toNat) r13 ∧ r = (r13.1, r13.2)
def pen_Pen_U32 (a0 : (List Int × Int × Bool)) (a1 : Int) (r : Int × ((List Int × Int × Bool))) : Prop :=
  ∃ r4 : Int × ((List Int × Int × Bool)), pen_Pen_word a0 a1 4 r4 ∧ r = (r4.1, r4.2)
def pen_Pen_Bytes (a0 : (List Int × Int × Bool)) (r : List Int) : Prop :=
  (([] : List Int).length + a0.1.length) * 1 ≤ 140737488355328 ∧ ([] : List Int).length + a0.1.length ≤ 4611686018427387904 ∧ r = (([] : List Int) ++ a0.1)
def ref08_Frames_j1  (s13 : (List ((Int × Int × Int × Int × Int) × List Int)) × List Int) (r : (List ((Int × Int × Int × Int × Int) × List Int)) × List Int) : Prop :=
  r = (s13.1, s13.2)
def ref08_Frames_l2 (r3 : List (List Int) × List Int × List Int) (s32 : (List ((Int × Int × Int × Int × Int) × List Int)) × List Int × Int) (o32 : Sum ((List ((Int × Int × Int × Int × Int) × List Int)) × List Int × Int) ((List ((Int × Int × Int × Int × Int) × List Int)) × List Int)) : Prop :=
  if (decide (s32.2.2 < (r3.1.length : Int))) = true then (∃ q39 : List Int, idx r3.1 s32.2.2 q39 ∧ ∃ r46 : ((Int × Int × Int × Int × Int) × List Int) × Int, ref08_Unpack q39 r46 ∧ (s32.1.length + [r46.1].length) * 64 ≤ 140737488355328 ∧ s32.1.length + [r46.1].length ≤ 4611686018427387904 ∧ (s32.2.1.length + [r46.2].length) * 8 ≤ 140737488355328 ∧ s32.2.1.length + [r46.2].length ≤ 4611686018427387904 ∧ o32 = .inl ((s32.1 ++ [r46.1]), (s32.2.1 ++ [r46.2]), (IntKind.i64.wrap (s32.2.2 + 1)))) else (o32 = .inr (s32.1, s32.2.1))
def ref08_Frames (a0 : List Int) (r : (List ((Int × Int × Int × Int × Int) × List Int)) × List Int) : Prop :=
  ∃ r3 : List (List Int) × List Int × List Int, ref06_Split a0 r3 ∧ ∃ e32 : (List ((Int × Int × Int × Int × Int) × List Int)) × List Int, Loops (ref08_Frames_l2 r3) ([], [], 0) e32 ∧ (ref08_Frames_j1 e32 r)
def law08_FrameStream_l1 (r17 : (List ((Int × Int × Int × Int × Int) × List Int)) × List Int) (x35 : ((Int × Int × Int × Int × Int) × List Int) × Int) (s35 : Int) (o35 : Sum Int Int) : Prop :=
  ∃ q39 : Int, ((decide ((r17.1.length : Int) ≤ s35)) = false → idx r17.2 s35 q39) ∧ ∃ r44 : ((Int × Int × Int × Int × Int) × List Int), (((decide ((r17.1.length : Int) ≤ s35)) || (!(decide (x35.2 = q39)))) = false → law08_Of x35.1 r44) ∧ ∃ q50 : (Int × Int × Int × Int × Int) × List Int, (((decide ((r17.1.length : Int) ≤ s35)) || (!(decide (x35.2 = q39)))) = false → idx r17.1 s35 q50) ∧ ∃ r58 : Bool, (((decide ((r17.1.length : Int) ≤ s35)) || (!(decide (x35.2 = q39)))) = false → ref08_Same r44 q50 r58) ∧ if (((decide ((r17.1.length : Int) ≤ s35)) || (!(decide (x35.2 = q39)))) || (!r58)) = true then (o35 = .inr s35) else (o35 = .inl (IntKind.i64.wrap (s35 + 1)))
def law08_FrameStream_j4  (s79 : Bool) (r : Bool) : Prop :=
  r = s79
def law08_FrameStream_j3 (r17 : (List ((Int × Int × Int × Int × Int) × List Int)) × List Int) (p66 : Int) (s77 : Int) (s78 : Int) (r : Bool) : Prop :=
  ∃ r80 : Bool, law08_known r80 ∧ if r80 = true then (if (decide (p66 = (r17.1.length : Int))) = true then (law08_FrameStream_j4 (decide (s77 = s78)) r) else (law08_FrameStream_j4 false r)) else (law08_FrameStream_j4 false r)
def law08_FrameStream_j5 (a1 : Int) (r17 : (List ((Int × Int × Int × Int × Int) × List Int)) × List Int) (p66 : Int) (s77 : Int) (s84 : Bool) (r : Bool) : Prop :=
  if s84 = true then (law08_FrameStream_j3 r17 p66 s77 (IntKind.i64.wrap (a1 + 1)) r) else (law08_FrameStream_j3 r17 p66 s77 (r17.1.length : Int) r)
def law08_FrameStream_j2 (a1 : Int) (r17 : (List ((Int × Int × Int × Int × Int) × List Int)) × List Int) (p66 : Int) (s77 : Int) (r : Bool) : Prop :=
  if (decide (0 ≤ a1)) = true then (law08_FrameStream_j5 a1 r17 p66 s77 (decide (a1 < (r17.1.length : Int))) r) else (law08_FrameStream_j5 a1 r17 p66 s77 false r)
def law08_FrameStream_l6 (a1 : Int) (x85 : ((Int × Int × Int × Int × Int) × List Int) × Int) (s85 : Int) (o85 : Sum Int Int) : Prop :=
  if (decide ((IntKind.i64.wrap ((IntKind.i64.wrap (s85 + 1)) - 1)) = a1)) = true then (o85 = .inr (IntKind.i64.wrap (s85 + 1))) else (o85 = .inl (IntKind.i64.wrap (s85 + 1)))
def law08_FrameStream (a0 : List Int) (a1 : Int) (r : Bool) : Prop :=
  0 ≤ (min (a0.length : Int) 900) ∧ (min (a0.length : Int) 900) ≤ (a0.length : Int) ∧ ∃ r9 : List Int, frame_New r9 ∧ ∃ r17 : (List ((Int × Int × Int × Int × Int) × List Int)) × List Int, ref08_Frames ((a0.drop (0 : Int).toNat).take (((min (a0.length : Int) 900) : Int) - 0).toNat) r17 ∧ ∃ r28 : (((S : Type) → ((((Int × Int × Int × Int × Int) × List Int) × Int) → S → Bool × S → Prop) → S → S × Unit → Prop)), frame_Codec_Frames r9 ((a0.drop (0 : Int).toNat).take (((min (a0.length : Int) 900) : Int) - 0).toNat) r28 ∧ ∃ (t35 : Sum Int Int) (w35 : Unit), r28 (Sum Int Int) (Yof (law08_FrameStream_l1 r17)) (.inl 0) (t35, w35) ∧ Aft (fun p66 => ∃ r70 : (((S : Type) → ((((Int × Int × Int × Int × Int) × List Int) × Int) → S → Bool × S → Prop) → S → S × Unit → Prop)), frame_Codec_Frames r9 ((a0.drop (0 : Int).toNat).take (((min (a0.length : Int) 900) : Int) - 0).toNat) r70 ∧ ∃ (t85 : Sum Int Int) (w85 : Unit), r70 (Sum Int Int) (Yof (law08_FrameStream_l6 a1)) (.inl 0) (t85, w85) ∧ Aft (fun p91 => law08_FrameStream_j2 a1 r17 p66 p91 r) (fun p88 => law08_FrameStream_j2 a1 r17 p66 p88 r) t85) (fun p63 => r = false) t35
def law07_known_j1  (s9 : Bool) (r : Bool) : Prop :=
  r = s9
def law07_known  (r : Bool) : Prop :=
  ∃ r2 : List Int × Int, head_Bytes (2, 4, 258, 0, 3) r2 ∧ if (decide (r2.2 = 0)) = true then (∃ r17 : Bool, ref01_Same r2.1 [2, 4, 2, 1, 0, 0, 0, 3] r17 ∧ if r17 = true then (∃ r21 : ByteArray, head_Line (2, 4, 77, 0, 3) r21 ∧ law07_known_j1 (decide (r21 = (bstr [118, 32, 50, 32, 107, 32, 52, 32, 55, 55, 32, 48, 47, 51]))) r) else (law07_known_j1 false r)) else (law07_known_j1 false r)
def head_Mates (a0 : Int × Int × Int × Int × Int) (a1 : Int × Int × Int × Int × Int) (r : Bool) : Prop :=
  r = ((decide (a0.1 = a1.1)) && ((decide (a0.2.1 = a1.2.1)) && ((decide (a0.2.2.1 = a1.2.2.1)) && ((decide (a1.2.2.2.1 = a1.2.2.2.1)) && ((decide (a0.2.2.2.2 = a1.2.2.2.2)) && true)))))
def law07_HeadMates_j2  (s5 : Bool) (r : Bool) : Prop :=
  r = s5
def law07_HeadMates_j1 (a0 : Int × Int × Int × Int × Int) (a1 : Int × Int × Int × Int × Int) (s3 : Bool) (r : Bool) : Prop :=
  ∃ r6 : Bool, law07_known r6 ∧ if r6 = true then (∃ r10 : Bool, head_Mates a0 a1 r10 ∧ if (decide (r10 = s3)) = true then (∃ r14 : Bool, head_Mates a1 a0 r14 ∧ if (decide (r14 = s3)) = true then (∃ r18 : Bool, head_Mates a0 (a0.1, a0.2.1, a0.2.2.1, a1.2.2.2.1, a0.2.2.2.2) r18 ∧ law07_HeadMates_j2 r18 r) else (law07_HeadMates_j2 false r)) else (law07_HeadMates_j2 false r)) else (law07_HeadMates_j2 false r)
def law07_HeadMates (a0 : Int × Int × Int × Int × Int) (a1 : Int × Int × Int × Int × Int) (r : Bool) : Prop :=
  if (decide (a0.1 = a1.1)) = true then (if (decide (a0.2.1 = a1.2.1)) = true then (if (decide (a0.2.2.1 = a1.2.2.1)) = true then (law07_HeadMates_j1 a0 a1 (decide (a0.2.2.2.2 = a1.2.2.2.2)) r) else (law07_HeadMates_j1 a0 a1 false r)) else (law07_HeadMates_j1 a0 a1 false r)) else (law07_HeadMates_j1 a0 a1 false r)
def law07_HeadParses_j2  (s29 : Bool) (r : Bool) : Prop :=
  r = s29
def law07_HeadParses_j1 (a0 : List Int) (r7 : (Int × Int × Int × Int × Int) × Int) (s17 : Bool) (r : Bool) : Prop :=
  if s17 = true then (r = false) else (if (!(decide (r7.2 = 0))) = true then (∃ r18 : Bool, law07_known r18 ∧ r = r18) else (∃ r22 : List Int × Int, head_Bytes r7.1 r22 ∧ ∃ r30 : Bool, law07_known r30 ∧ if r30 = true then (if (decide (r22.2 = 0)) = true then (∃ r34 : Bool, ref01_Same r22.1 ((a0.drop (0 : Int).toNat).take (((min (a0.length : Int) 20) : Int) - 0).toNat) r34 ∧ law07_HeadParses_j2 r34 r) else (law07_HeadParses_j2 false r)) else (law07_HeadParses_j2 false r)))
def law07_HeadParses (a0 : List Int) (r : Bool) : Prop :=
  0 ≤ (min (a0.length : Int) 20) ∧ (min (a0.length : Int) 20) ≤ (a0.length : Int) ∧ ∃ r7 : (Int × Int × Int × Int × Int) × Int, head_Parse ((a0.drop (0 : Int).toNat).take (((min (a0.length : Int) 20) : Int) - 0).toNat) r7 ∧ ∃ r12 : (Int × Int × Int × Int × Int) × Int, ref07_Parse ((a0.drop (0 : Int).toNat).take (((min (a0.length : Int) 20) : Int) - 0).toNat) r12 ∧ if (!((decide (r7.1.1 = r12.1.1)) && ((decide (r7.1.2.1 = r12.1.2.1)) && ((decide (r7.1.2.2.1 = r12.1.2.2.1)) && ((decide (r7.1.2.2.2.1 = r12.1.2.2.2.1)) && ((decide (r7.1.2.2.2.2 = r12.1.2.2.2.2)) && true)))))) = true then (law07_HeadParses_j1 a0 r7 true r) else (law07_HeadParses_j1 a0 r7 (!(decide (r7.2 = r12.2))) r)
def head_Last (a0 : Int × Int × Int × Int × Int) (r : Bool) : Prop :=
  r = (decide ((IntKind.i64.wrap (a0.2.2.2.2 - 1)) = a0.2.2.2.1))
def law07_HeadTells_j1  (s26 : Bool) (r : Bool) : Prop :=
  r = s26
def law07_HeadTells (a0 : Int × Int × Int × Int × Int) (r : Bool) : Prop :=
  ∃ r2 : List Int × Int, head_Bytes a0 r2 ∧ ∃ r9 : Int, ref07_Check a0 r9 ∧ ∃ r13 : Int, head_Check a0 r13 ∧ ∃ r17 : ByteArray, (((!(decide (r13 = r9))) || (!(decide (r2.2 = r9)))) = false → head_Line a0 r17) ∧ ∃ r21 : ByteArray, (((!(decide (r13 = r9))) || (!(decide (r2.2 = r9)))) = false → ref07_Line a0 r21) ∧ if (((!(decide (r13 = r9))) || (!(decide (r2.2 = r9)))) || (!(decide (r17 = r21)))) = true then (r = false) else (if (!(decide (r9 = 0))) = true then (∃ r27 : Bool, law07_known r27 ∧ if r27 = true then (law07_HeadTells_j1 (decide ((r2.1.length : Int) = 0)) r) else (law07_HeadTells_j1 false r)) else (∃ r31 : (Int × Int × Int × Int × Int) × Int, head_Parse r2.1 r31 ∧ ∃ r36 : Bool, law07_known r36 ∧ ∃ r40 : List Int, (r36 = true → ref07_Bytes a0 r40) ∧ ∃ r46 : Bool, (r36 = true → ref01_Same r2.1 r40 r46) ∧ ∃ r50 : Bool, (((((r36 && r46) && ((decide (r31.1.1 = a0.1)) && ((decide (r31.1.2.1 = a0.2.1)) && ((decide (r31.1.2.2.1 = a0.2.2.1)) && ((decide (r31.1.2.2.2.1 = a0.2.2.2.1)) && ((decide (r31.1.2.2.2.2 = a0.2.2.2.2)) && true)))))) && (decide (r31.2 = 0))) && (decide ((r2.1.length : Int) = 8))) = true → head_Last a0 r50) ∧ r = (((((r36 && r46) && ((decide (r31.1.1 = a0.1)) && ((decide (r31.1.2.1 = a0.2.1)) && ((decide (r31.1.2.2.1 = a0.2.2.1)) && ((decide (r31.1.2.2.2.1 = a0.2.2.2.1)) && ((decide (r31.1.2.2.2.2 = a0.2.2.2.2)) && true)))))) && (decide (r31.2 = 0))) && (decide ((r2.1.length : Int) = 8))) && (decide (r50 = (decide (a0.2.2.2.1 = (IntKind.i64.wrap (a0.2.2.2.2 - 1)))))))))
end Go.Rel
