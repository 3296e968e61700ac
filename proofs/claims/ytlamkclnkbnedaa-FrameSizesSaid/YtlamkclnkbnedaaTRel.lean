import Derived.Test.YtlamkclnkbnedaaEngP
/-! The functions as plain relations. -/
set_option linter.unusedVariables false
namespace Go.Rel
open Go Go.Eng
def crc_shift_j1  (s1 : Int) (r : Int) : Prop :=
  r = s1
def crc_shift_l2  (s2 : Int × Int) (o2 : Sum (Int × Int) Int) : Prop :=
  if (decide (s2.2 < 8)) = true then (o2 = .inl ((ixor .u32 (ishr .u32 s2.1 1) (iand .u32 3988292384 (IntKind.u32.wrap (0 - (iand .u32 s2.1 1))))), (IntKind.i64.wrap (s2.2 + 1)))) else (o2 = .inr s2.1)
def crc_shift (a0 : Int) (r : Int) : Prop :=
  ∃ e2 : Int, Loops (crc_shift_l2) (a0, 0) e2 ∧ (crc_shift_j1 e2 r)
def crc_New_j1  (s2 : List Int) (r : List Int) : Prop :=
  r = s2
def crc_New_j3 (s6 : Int × List Int) (s7 : List Int) (o6 : Sum (Int × List Int) (List Int)) : Prop :=
  o6 = .inl ((IntKind.i64.wrap (s6.1 + 1)), s7)
def crc_New_l4 (s6 : Int × List Int) (s8 : Int × Int × List Int) (o8 : Sum (Int × Int × List Int) (List Int)) : Prop :=
  if (decide (s8.2.1 < 4)) = true then (∃ r9 : Int, crc_shift s8.1 r9 ∧ 0 ≤ s8.2.1 ∧ s8.2.1 < 4 ∧ 0 ≤ s6.1 ∧ s6.1 < 256 ∧ o8 = .inl (r9, (IntKind.i64.wrap (s8.2.1 + 1)), (putN 1024 0 s8.2.2 (s8.2.1.toNat * 256 + s6.1.toNat) r9))) else (o8 = .inr s8.2.2)
def crc_New_l2  (s6 : Int × List Int) (o6 : Sum (Int × List Int) (List Int)) : Prop :=
  if (decide (s6.1 < 256)) = true then (∃ e8 : List Int, Loops (crc_New_l4 s6) ((IntKind.u32.wrap s6.1), 0, s6.2) e8 ∧ (crc_New_j3 s6 e8 o6)) else (o6 = .inr s6.2)
def crc_New  (r : List Int) : Prop :=
  ∃ e6 : List Int, Loops (crc_New_l2) (0, (List.replicate 1024 0)) e6 ∧ (crc_New_j1 e6 r)
def frame_New  (r : List Int) : Prop :=
  ∃ r1 : List Int, crc_New r1 ∧ r = r1
def head_wrong_1 (c0 : Int × Int × Int × Int × Int) (S : Type) (Y : (Int × Bool) → S → Bool × S → Prop) (s : S) (r : S × Unit) : Prop :=
  if (decide (c0.1 < 1)) = true then (∃ y1 : Bool, ∃ u2 : S, Y (10, true) s (y1, u2) ∧ if y1 = true then (if (decide (c0.2.1 < 1)) = true then (∃ y8 : Bool, ∃ u9 : S, Y (9, true) u2 (y8, u9) ∧ if y8 = true then (if (decide (c0.2.2.2.2 < 1)) = true then (∃ y15 : Bool, ∃ u16 : S, Y (3, true) u9 (y15, u16) ∧ r = (u16, ())) else (if (decide (255 < c0.2.2.2.2)) = true then (∃ y22 : Bool, ∃ u23 : S, Y (3, true) u9 (y22, u23) ∧ r = (u23, ())) else (if (decide (c0.2.2.2.1 < 0)) = true then (∃ y29 : Bool, ∃ u30 : S, Y (3, true) u9 (y29, u30) ∧ r = (u30, ())) else (∃ y36 : Bool, ∃ u37 : S, Y (3, (decide (c0.2.2.2.2 ≤ c0.2.2.2.1))) u9 (y36, u37) ∧ r = (u37, ()))))) else (r = (u9, ()))) else (∃ y43 : Bool, ∃ u44 : S, Y (9, (decide (5 < c0.2.1))) u2 (y43, u44) ∧ if y43 = true then (if (decide (c0.2.2.2.2 < 1)) = true then (∃ y50 : Bool, ∃ u51 : S, Y (3, true) u44 (y50, u51) ∧ r = (u51, ())) else (if (decide (255 < c0.2.2.2.2)) = true then (∃ y57 : Bool, ∃ u58 : S, Y (3, true) u44 (y57, u58) ∧ r = (u58, ())) else (if (decide (c0.2.2.2.1 < 0)) = true then (∃ y64 : Bool, ∃ u65 : S, Y (3, true) u44 (y64, u65) ∧ r = (u65, ())) else (∃ y71 : Bool, ∃ u72 : S, Y (3, (decide (c0.2.2.2.2 ≤ c0.2.2.2.1))) u44 (y71, u72) ∧ r = (u72, ()))))) else (r = (u44, ())))) else (r = (u2, ()))) else (∃ y78 : Bool, ∃ u79 : S, Y (10, (decide (2 < c0.1))) s (y78, u79) ∧ if y78 = true then (if (decide (c0.2.1 < 1)) = true then (∃ y85 : Bool, ∃ u86 : S, Y (9, true) u79 (y85, u86) ∧ if y85 = true then (if (decide (c0.2.2.2.2 < 1)) = true then (∃ y92 : Bool, ∃ u93 : S, Y (3, true) u86 (y92, u93) ∧ r = (u93, ())) else (if (decide (255 < c0.2.2.2.2)) = true then (∃ y99 : Bool, ∃ u100 : S, Y (3, true) u86 (y99, u100) ∧ r = (u100, ())) else (if (decide (c0.2.2.2.1 < 0)) = true then (∃ y106 : Bool, ∃ u107 : S, Y (3, true) u86 (y106, u107) ∧ r = (u107, ())) else (∃ y113 : Bool, ∃ u114 : S, Y (3, (decide (c0.2.2.2.2 ≤ c0.2.2.2.1))) u86 (y113, u114) ∧ r = (u114, ()))))) else (r = (u86, ()))) else (∃ y120 : Bool, ∃ u121 : S, Y (9, (decide (5 < c0.2.1))) u79 (y120, u121) ∧ if y120 = true then (if (decide (c0.2.2.2.2 < 1)) = true then (∃ y127 : Bool, ∃ u128 : S, Y (3, true) u121 (y127, u128) ∧ r = (u128, ())) else (if (decide (255 < c0.2.2.2.2)) = true then (∃ y134 : Bool, ∃ u135 : S, Y (3, true) u121 (y134, u135) ∧ r = (u135, ())) else (if (decide (c0.2.2.2.1 < 0)) = true then (∃ y141 : Bool, ∃ u142 : S, Y (3, true) u121 (y141, u142) ∧ r = (u142, ())) else (∃ y148 : Bool, ∃ u149 : S, Y (3, (decide (c0.2.2.2.2 ≤ c0.2.2.2.1))) u121 (y148, u149) ∧ r = (u149, ()))))) else (r = (u121, ())))) else (r = (u79, ())))
def head_wrong (a0 : Int × Int × Int × Int × Int) (r : (((S : Type) → ((Int × Bool) → S → Bool × S → Prop) → S → S × Unit → Prop))) : Prop :=
  r = (head_wrong_1 a0)
def head_Check_j1  (s3 : Int) (r : Int) : Prop :=
  r = s3
def head_Check_l2  (x11 : Int × Bool) (s11 : Unit) (o11 : Sum Unit Int) : Prop :=
  if x11.2 = true then (o11 = .inr x11.1) else (o11 = .inl ())
def head_Check (a0 : Int × Int × Int × Int × Int) (r : Int) : Prop :=
  ∃ r4 : (((S : Type) → ((Int × Bool) → S → Bool × S → Prop) → S → S × Unit → Prop)), head_wrong a0 r4 ∧ ∃ (t11 : Sum Unit Int) (w11 : Unit), r4 (Sum Unit Int) (Yof (head_Check_l2)) (.inl ()) (t11, w11) ∧ Aft (fun p15 => head_Check_j1 0 r) (fun p12 => head_Check_j1 p12 r) t11
def frame_Codec_Check (a0 : List Int) (a1 : (Int × Int × Int × Int × Int) × List Int) (r : Int) : Prop :=
  ∃ r8 : Int, head_Check a1.1 r8 ∧ if (!(decide (r8 = 0))) = true then (r = r8) else (if (decide ((a1.2.length : Int) = 0)) = true then (r = 13) else (if (decide (242 < (a1.2.length : Int))) = true then (r = 2) else (r = 0)))
def head_Bytes (a0 : Int × Int × Int × Int × Int) (r : List Int × Int) : Prop :=
  ∃ r2 : Int, head_Check a0 r2 ∧ if (!(decide (r2 = 0))) = true then (r = ([], r2)) else (r = ([(IntKind.u8.wrap a0.1), (IntKind.u8.wrap a0.2.1), (IntKind.u8.wrap a0.2.2.1), (IntKind.u8.wrap (ishr .u32 a0.2.2.1 8)), (IntKind.u8.wrap (ishr .u32 a0.2.2.1 16)), (IntKind.u8.wrap (ishr .u32 a0.2.2.1 24)), (IntKind.u8.wrap a0.2.2.2.1), (IntKind.u8.wrap a0.2.2.2.2)], 0))
def crc_Table_Begin (a0 : List Int) (r : Int) : Prop :=
  r = 4294967295
def crc_Table_Add_j2  (s8 : Int) (r : Int) : Prop :=
  r = s8
def crc_Table_Add_l3 (a0 : List Int) (s5 : Int × List Int) (s9 : Int × Int) (o9 : Sum (Int × Int) Int) : Prop :=
  if (decide (s9.2 < (s5.2.length : Int))) = true then (∃ q10 : Int, idx s5.2 s9.2 q10 ∧ 0 ≤ (ixor .u8 (IntKind.u8.wrap s9.1) q10) ∧ (ixor .u8 (IntKind.u8.wrap s9.1) q10) < 256 ∧ o9 = .inl ((ixor .u32 (ishr .u32 s9.1 8) (a0.getD ((ixor .u8 (IntKind.u8.wrap s9.1) q10).toNat) 0)), (IntKind.i64.wrap (s9.2 + 1)))) else (o9 = .inr s9.1)
def crc_Table_Add_j1 (a0 : List Int) (s5 : Int × List Int) (r : Int) : Prop :=
  ∃ e9 : Int, Loops (crc_Table_Add_l3 a0 s5) (s5.1, 0) e9 ∧ (crc_Table_Add_j2 e9 r)
def crc_Table_Add_l4 (a0 : List Int) (s18 : Int × List Int) (o18 : Sum (Int × List Int) (Int × List Int)) : Prop :=
  if (decide ((s18.2.length : Int) < 4)) = true then (o18 = .inr (s18.1, s18.2)) else (∃ q21 : Int, idx s18.2 0 q21 ∧ ∃ q26 : Int, idx s18.2 1 q26 ∧ ∃ q31 : Int, idx s18.2 2 q31 ∧ ∃ q36 : Int, idx s18.2 3 q36 ∧ 0 ≤ (iand .u32 (ixor .u32 s18.1 (ior .u32 (ior .u32 (ior .u32 (IntKind.u32.wrap q21) (ishl .u32 (IntKind.u32.wrap q26) 8)) (ishl .u32 (IntKind.u32.wrap q31) 16)) (ishl .u32 (IntKind.u32.wrap q36) 24))) 255) ∧ (iand .u32 (ixor .u32 s18.1 (ior .u32 (ior .u32 (ior .u32 (IntKind.u32.wrap q21) (ishl .u32 (IntKind.u32.wrap q26) 8)) (ishl .u32 (IntKind.u32.wrap q31) 16)) (ishl .u32 (IntKind.u32.wrap q36) 24))) 255) < 256 ∧ 0 ≤ (iand .u32 (ishr .u32 (ixor .u32 s18.1 (ior .u32 (ior .u32 (ior .u32 (IntKind.u32.wrap q21) (ishl .u32 (IntKind.u32.wrap q26) 8)) (ishl .u32 (IntKind.u32.wrap q31) 16)) (ishl .u32 (IntKind.u32.wrap q36) 24))) 8) 255) ∧ (iand .u32 (ishr .u32 (ixor .u32 s18.1 (ior .u32 (ior .u32 (ior .u32 (IntKind.u32.wrap q21) (ishl .u32 (IntKind.u32.wrap q26) 8)) (ishl .u32 (IntKind.u32.wrap q31) 16)) (ishl .u32 (IntKind.u32.wrap q36) 24))) 8) 255) < 256 ∧ 0 ≤ (iand .u32 (ishr .u32 (ixor .u32 s18.1 (ior .u32 (ior .u32 (ior .u32 (IntKind.u32.wrap q21) (ishl .u32 (IntKind.u32.wrap q26) 8)) (ishl .u32 (IntKind.u32.wrap q31) 16)) (ishl .u32 (IntKind.u32.wrap q36) 24))) 16) 255) ∧ (iand .u32 (ishr .u32 (ixor .u32 s18.1 (ior .u32 (ior .u32 (ior .u32 (IntKind.u32.wrap q21) (ishl .u32 (IntKind.u32.wrap q26) 8)) (ishl .u32 (IntKind.u32.wrap q31) 16)) (ishl .u32 (IntKind.u32.wrap q36) 24))) 16) 255) < 256 ∧ 0 ≤ (ishr .u32 (ixor .u32 s18.1 (ior .u32 (ior .u32 (ior .u32 (IntKind.u32.wrap q21) (ishl .u32 (IntKind.u32.wrap q26) 8)) (ishl .u32 (IntKind.u32.wrap q31) 16)) (ishl .u32 (IntKind.u32.wrap q36) 24))) 24) ∧ (ishr .u32 (ixor .u32 s18.1 (ior .u32 (ior .u32 (ior .u32 (IntKind.u32.wrap q21) (ishl .u32 (IntKind.u32.wrap q26) 8)) (ishl .u32 (IntKind.u32.wrap q31) 16)) (ishl .u32 (IntKind.u32.wrap q36) 24))) 24) < 256 ∧ 4 ≤ (s18.2.length : Int) ∧ (s18.2.length : Int) ≤ (s18.2.length : Int) ∧ o18 = .inl ((ixor .u32 (ixor .u32 (ixor .u32 (a0.getD (768 + (iand .u32 (ixor .u32 s18.1 (ior .u32 (ior .u32 (ior .u32 (IntKind.u32.wrap q21) (ishl .u32 (IntKind.u32.wrap q26) 8)) (ishl .u32 (IntKind.u32.wrap q31) 16)) (ishl .u32 (IntKind.u32.wrap q36) 24))) 255).toNat) 0) (a0.getD (512 + (iand .u32 (ishr .u32 (ixor .u32 s18.1 (ior .u32 (ior .u32 (ior .u32 (IntKind.u32.wrap q21) (ishl .u32 (IntKind.u32.wrap q26) 8)) (ishl .u32 (IntKind.u32.wrap q31) 16)) (ishl .u32 (IntKind.u32.wrap q36) 24))) 8) 255).toNat) 0)) (a0.getD (256 + (iand .u32 (ishr .u32 (ixor .u32 s18.1 (ior .u32 (ior .u32 (ior .u32 (IntKind.u32.wrap q21) (ishl .u32 (IntKind.u32.wrap q26) 8)) (ishl .u32 (IntKind.u32.wrap q31) 16)) (ishl .u32 (IntKind.u32.wrap q36) 24))) 16) 255).toNat) 0)) (a0.getD ((ishr .u32 (ixor .u32 s18.1 (ior .u32 (ior .u32 (ior .u32 (IntKind.u32.wrap q21) (ishl .u32 (IntKind.u32.wrap q26) 8)) (ishl .u32 (IntKind.u32.wrap q31) 16)) (ishl .u32 (IntKind.u32.wrap q36) 24))) 24).toNat) 0)), ((s18.2.drop (4 : Int).toNat).take (((s18.2.length : Int) : Int) - 4).toNat)))
def crc_Table_Add (a0 : List Int) (a1 : Int) (a2 : List Int) (r : Int) : Prop :=
  ∃ e18 : Int × List Int, Loops (crc_Table_Add_l4 a0) (a1, a2) e18 ∧ (crc_Table_Add_j1 a0 e18 r)
def crc_Table_End (a0 : List Int) (a1 : Int) (r : Int) : Prop :=
  r = (icompl .u32 a1)
def crc_Table_Sum_j1 (a0 : List Int) (s9 : Int) (r : Int) : Prop :=
  ∃ r10 : Int, crc_Table_End a0 s9 r10 ∧ r = r10
def crc_Table_Sum_l2 (a0 : List Int) (a1 : List (List Int)) (s14 : Int × Int) (o14 : Sum (Int × Int) Int) : Prop :=
  if (decide (s14.2 < (a1.length : Int))) = true then (∃ q15 : List Int, idx a1 s14.2 q15 ∧ ∃ r22 : Int, crc_Table_Add a0 s14.1 q15 r22 ∧ o14 = .inl (r22, (IntKind.i64.wrap (s14.2 + 1)))) else (o14 = .inr s14.1)
def crc_Table_Sum (a0 : List Int) (a1 : List (List Int)) (r : Int) : Prop :=
  ∃ r5 : Int, crc_Table_Begin a0 r5 ∧ ∃ e14 : Int, Loops (crc_Table_Sum_l2 a0 a1) (r5, 0) e14 ∧ (crc_Table_Sum_j1 a0 e14 r)
def crc_bytes (a0 : Int) (r : List Int) : Prop :=
  r = [(IntKind.u8.wrap a0), (IntKind.u8.wrap (ishr .u32 a0 8)), (IntKind.u8.wrap (ishr .u32 a0 16)), (IntKind.u8.wrap (ishr .u32 a0 24))]
def crc_Seal (a0 : List Int) (a1 : List Int) (r : List Int) : Prop :=
  ∃ r12 : Int, crc_Table_Sum a0 [a1] r12 ∧ ∃ r16 : List Int, crc_bytes r12 r16 ∧ (([] : List Int).length + a1.length) * 1 ≤ 140737488355328 ∧ ([] : List Int).length + a1.length ≤ 4611686018427387904 ∧ ((([] : List Int) ++ a1).length + [(r16.getD 0 0), (r16.getD 1 0), (r16.getD 2 0), (r16.getD 3 0)].length) * 1 ≤ 140737488355328 ∧ (([] : List Int) ++ a1).length + [(r16.getD 0 0), (r16.getD 1 0), (r16.getD 2 0), (r16.getD 3 0)].length ≤ 4611686018427387904 ∧ r = ((([] : List Int) ++ a1) ++ [(r16.getD 0 0), (r16.getD 1 0), (r16.getD 2 0), (r16.getD 3 0)])
def cobs_block_j1 (a0 : List Int) (s3 : Unit) (r : Int × Int × Bool) : Prop :=
  if (decide (254 ≤ (a0.length : Int))) = true then (r = (254, 254, (decide (254 < (a0.length : Int))))) else (r = ((a0.length : Int), (a0.length : Int), false))
def cobs_block_l2 (a0 : List Int) (s8 : Int) (o8 : Sum Int (Sum Unit (Int × Int × Bool))) : Prop :=
  if (decide (s8 < (((a0.drop (0 : Int).toNat).take (((min (a0.length : Int) 254) : Int) - 0).toNat).length : Int))) = true then (∃ q9 : Int, idx ((a0.drop (0 : Int).toNat).take (((min (a0.length : Int) 254) : Int) - 0).toNat) s8 q9 ∧ if (decide (q9 = 0)) = true then (o8 = .inr (.inr (s8, (IntKind.i64.wrap (s8 + 1)), true))) else (o8 = .inl (IntKind.i64.wrap (s8 + 1)))) else (o8 = .inr (.inl ()))
def cobs_block (a0 : List Int) (r : Int × Int × Bool) : Prop :=
  0 ≤ (min (a0.length : Int) 254) ∧ (min (a0.length : Int) 254) ≤ (a0.length : Int) ∧ ∃ e8 : (Sum Unit (Int × Int × Bool)), Loops (cobs_block_l2 a0) 0 e8 ∧ Aft (fun p14 => cobs_block_j1 a0 p14 r) (fun p15 => r = p15) e8
def cobs_Blocks_1_l1 (S : Type) (Y : (List Int) → S → Bool × S → Prop) (s3 : S × List Int × Bool) (o3 : Sum (S × List Int × Bool) (S × Unit)) : Prop :=
  if s3.2.2 = true then (∃ r8 : Int × Int × Bool, cobs_block s3.2.1 r8 ∧ 0 ≤ r8.1 ∧ r8.1 ≤ (s3.2.1.length : Int) ∧ r8.1 ≤ r8.1 ∧ r8.1 ≤ (s3.2.1.length : Int) ∧ (([] : List Int).length + ((s3.2.1.drop (0 : Int).toNat).take ((r8.1 : Int) - 0).toNat).length) * 1 ≤ 140737488355328 ∧ ([] : List Int).length + ((s3.2.1.drop (0 : Int).toNat).take ((r8.1 : Int) - 0).toNat).length ≤ 4611686018427387904 ∧ ∃ y30 : Bool, ∃ u31 : S, Y (([] : List Int) ++ ((s3.2.1.drop (0 : Int).toNat).take ((r8.1 : Int) - 0).toNat)) s3.1 (y30, u31) ∧ if (!y30) = true then (o3 = .inr (u31, ())) else (0 ≤ r8.2.1 ∧ r8.2.1 ≤ (s3.2.1.length : Int) ∧ (s3.2.1.length : Int) ≤ (s3.2.1.length : Int) ∧ o3 = .inl (u31, ((s3.2.1.drop r8.2.1.toNat).take (((s3.2.1.length : Int) : Int) - r8.2.1).toNat), r8.2.2))) else (o3 = .inr (s3.1, ()))
def cobs_Blocks_1 (c0 : List Int) (S : Type) (Y : (List Int) → S → Bool × S → Prop) (s : S) (r : S × Unit) : Prop :=
  ∃ e3 : S × Unit, Loops (cobs_Blocks_1_l1 S Y) (s, c0, true) e3 ∧ (r = e3)
def cobs_Blocks (a0 : List Int) (r : (((S : Type) → ((List Int) → S → Bool × S → Prop) → S → S × Unit → Prop))) : Prop :=
  r = (cobs_Blocks_1 a0)
def cobs_Encode_l1  (x11 : List Int) (s11 : List Int) (o11 : Sum (List Int) Unit) : Prop :=
  (s11.length + [(IntKind.u8.wrap (IntKind.i64.wrap ((x11.length : Int) + 1)))].length) * 1 ≤ 140737488355328 ∧ s11.length + [(IntKind.u8.wrap (IntKind.i64.wrap ((x11.length : Int) + 1)))].length ≤ 4611686018427387904 ∧ ((s11 ++ [(IntKind.u8.wrap (IntKind.i64.wrap ((x11.length : Int) + 1)))]).length + x11.length) * 1 ≤ 140737488355328 ∧ (s11 ++ [(IntKind.u8.wrap (IntKind.i64.wrap ((x11.length : Int) + 1)))]).length + x11.length ≤ 4611686018427387904 ∧ o11 = .inl ((s11 ++ [(IntKind.u8.wrap (IntKind.i64.wrap ((x11.length : Int) + 1)))]) ++ x11)
def cobs_Encode (a0 : List Int) (r : List Int) : Prop :=
  ∃ r4 : (((S : Type) → ((List Int) → S → Bool × S → Prop) → S → S × Unit → Prop)), cobs_Blocks a0 r4 ∧ ∃ (t11 : Sum (List Int) Unit) (w11 : Unit), r4 (Sum (List Int) Unit) (Yof (cobs_Encode_l1)) (.inl []) (t11, w11) ∧ Aft (fun p30 => r = p30) (fun _ => True) t11
def frame_Codec_Segment (a0 : List Int) (a1 : (Int × Int × Int × Int × Int) × List Int) (r : List Int × Int) : Prop :=
  ∃ r8 : Int, frame_Codec_Check a0 a1 r8 ∧ if (!(decide (r8 = 0))) = true then (r = ([], r8)) else (∃ r12 : List Int × Int, head_Bytes a1.1 r12 ∧ (r12.1.length + a1.2.length) * 1 ≤ 140737488355328 ∧ r12.1.length + a1.2.length ≤ 4611686018427387904 ∧ ∃ r25 : List Int, crc_Seal a0 (r12.1 ++ a1.2) r25 ∧ ∃ r31 : List Int, cobs_Encode r25 r31 ∧ r = (r31, r12.2))
def fence_Wrap_j1  (s3 : List Int) (r : List Int) : Prop :=
  r = s3
def fence_Wrap_l2 (a0 : List (List Int)) (s13 : List Int × Int) (o13 : Sum (List Int × Int) (List Int)) : Prop :=
  if (decide (s13.2 < (a0.length : Int))) = true then (∃ q17 : List Int, idx a0 s13.2 q17 ∧ (s13.1.length + [0].length) * 1 ≤ 140737488355328 ∧ s13.1.length + [0].length ≤ 4611686018427387904 ∧ ((s13.1 ++ [0]).length + q17.length) * 1 ≤ 140737488355328 ∧ (s13.1 ++ [0]).length + q17.length ≤ 4611686018427387904 ∧ (((s13.1 ++ [0]) ++ q17).length + [0].length) * 1 ≤ 140737488355328 ∧ ((s13.1 ++ [0]) ++ q17).length + [0].length ≤ 4611686018427387904 ∧ o13 = .inl ((((s13.1 ++ [0]) ++ q17) ++ [0]), (IntKind.i64.wrap (s13.2 + 1)))) else (o13 = .inr s13.1)
def fence_Wrap (a0 : List (List Int)) (r : List Int) : Prop :=
  ∃ e13 : List Int, Loops (fence_Wrap_l2 a0) ([], 0) e13 ∧ (fence_Wrap_j1 e13 r)
def frame_Codec_Pack_j1  (s7 : List (List Int) × Int) (r : List Int × Int) : Prop :=
  ∃ r16 : List Int, fence_Wrap s7.1 r16 ∧ r = (r16, s7.2)
def frame_Codec_Pack_l2 (a0 : List Int) (a1 : List ((Int × Int × Int × Int × Int) × List Int)) (s22 : List (List Int) × Int) (o22 : Sum (List (List Int) × Int) (List (List Int) × Int)) : Prop :=
  if (decide (s22.2 < (a1.length : Int))) = true then (∃ q26 : (Int × Int × Int × Int × Int) × List Int, idx a1 s22.2 q26 ∧ ∃ r34 : List Int × Int, frame_Codec_Segment a0 q26 r34 ∧ if (!(decide (r34.2 = 0))) = true then (o22 = .inr ([], r34.2)) else ((s22.1.length + [r34.1].length) * 24 ≤ 140737488355328 ∧ s22.1.length + [r34.1].length ≤ 4611686018427387904 ∧ o22 = .inl ((s22.1 ++ [r34.1]), (IntKind.i64.wrap (s22.2 + 1))))) else (o22 = .inr (s22.1, 0))
def frame_Codec_Pack (a0 : List Int) (a1 : List ((Int × Int × Int × Int × Int) × List Int)) (r : List Int × Int) : Prop :=
  ∃ e22 : List (List Int) × Int, Loops (frame_Codec_Pack_l2 a0 a1) ([], 0) e22 ∧ (frame_Codec_Pack_j1 e22 r)
def cobs_Most_j1 (a0 : Int) (s1 : Int) (r : Int) : Prop :=
  r = (IntKind.i64.wrap (a0 + (max s1 1)))
def cobs_Most (a0 : Int) (r : Int) : Prop :=
  if (decide (a0 < 0)) = true then (r = 0) else (if (!(decide ((a0.tmod 254) = 0))) = true then (cobs_Most_j1 a0 (IntKind.i64.wrap ((IntKind.i64.wrap (a0.tdiv 254)) + 1)) r) else (cobs_Most_j1 a0 (IntKind.i64.wrap (a0.tdiv 254)) r))
def frame_Wire_j1 (a0 : Int) (s1 : Bool) (r : Int) : Prop :=
  if s1 = true then (r = 0) else (∃ r2 : Int, cobs_Most (IntKind.i64.wrap (a0 + 12)) r2 ∧ r = (IntKind.i64.wrap (r2 + 2)))
def frame_Wire (a0 : Int) (r : Int) : Prop :=
  if (decide (a0 < 1)) = true then (frame_Wire_j1 a0 true r) else (frame_Wire_j1 a0 (decide (242 < a0)) r)
def frame_Room (a0 : Int) (r : Int) : Prop :=
  ∃ r1 : Int, frame_Wire 1 r1 ∧ if (decide (a0 < r1)) = true then (r = 0) else (∃ r5 : Int, frame_Wire 1 r5 ∧ r = (min (IntKind.i64.wrap ((IntKind.i64.wrap (a0 - r5)) + 1)) 242))
def law08_known_j1  (s33 : Bool) (r : Bool) : Prop :=
  r = s33
def law08_known  (r : Bool) : Prop :=
  ∃ r11 : List Int, frame_New r11 ∧ ∃ r26 : List Int × Int, frame_Codec_Pack r11 [((1, 1, 0, 0, 1), [7])] r26 ∧ if (decide (r26.2 = 0)) = true then (if (decide ((r26.1.length : Int) = 16)) = true then (∃ r34 : Int, frame_Wire 1 r34 ∧ if (decide (r34 = 16)) = true then (∃ r38 : Int, frame_Room 16 r38 ∧ if (decide (r38 = 1)) = true then (∃ r42 : Int, frame_Room 257 r42 ∧ if (decide (r42 = 242)) = true then (∃ r46 : Int, frame_Room 15 r46 ∧ law08_known_j1 (decide (r46 = 0)) r) else (law08_known_j1 false r)) else (law08_known_j1 false r)) else (law08_known_j1 false r)) else (law08_known_j1 false r)) else (law08_known_j1 false r)
def law08_FrameSizes_j3  (s23 : Bool) (r : Bool) : Prop :=
  r = s23
def law08_FrameSizes_j2 (r18 : Int) (s22 : Unit) (r : Bool) : Prop :=
  ∃ r24 : Bool, law08_known r24 ∧ if r24 = true then (if (decide (0 ≤ r18)) = true then (∃ r28 : Int, frame_Wire (-1) r28 ∧ law08_FrameSizes_j3 (decide (r28 = 0)) r) else (law08_FrameSizes_j3 false r)) else (law08_FrameSizes_j3 false r)
def law08_FrameSizes_j6 (s32 : Int) (s34 : Bool) (o32 : Sum Int (Sum Unit Bool)) : Prop :=
  if s34 = true then (o32 = .inr (.inr false)) else (o32 = .inl (IntKind.i64.wrap (s32 + 1)))
def law08_FrameSizes_j5 (r18 : Int) (s32 : Int) (s33 : Bool) (o32 : Sum Int (Sum Unit Bool)) : Prop :=
  if (decide (1 ≤ s32)) = true then (if (!(decide (s33 = (decide (s32 ≤ r18))))) = true then (law08_FrameSizes_j6 s32 true o32) else (∃ r35 : Int, frame_Wire s32 r35 ∧ if (decide (1 ≤ s32)) = true then (law08_FrameSizes_j6 s32 (!(decide ((!(decide (r35 = 0))) = (decide (s32 ≤ 242))))) o32) else (law08_FrameSizes_j6 s32 (!(decide ((!(decide (r35 = 0))) = false))) o32))) else (if (!(decide (s33 = false))) = true then (law08_FrameSizes_j6 s32 true o32) else (∃ r39 : Int, frame_Wire s32 r39 ∧ if (decide (1 ≤ s32)) = true then (law08_FrameSizes_j6 s32 (!(decide ((!(decide (r39 = 0))) = (decide (s32 ≤ 242))))) o32) else (law08_FrameSizes_j6 s32 (!(decide ((!(decide (r39 = 0))) = false))) o32)))
def law08_FrameSizes_l4 (a2 : Int) (r18 : Int) (s32 : Int) (o32 : Sum Int (Sum Unit Bool)) : Prop :=
  if (decide (s32 < 300)) = true then (if (decide (1 ≤ s32)) = true then (if (decide (s32 ≤ 242)) = true then (law08_FrameSizes_j5 r18 s32 (decide ((IntKind.i64.wrap (s32 + 15)) ≤ a2)) o32) else (law08_FrameSizes_j5 r18 s32 false o32)) else (law08_FrameSizes_j5 r18 s32 false o32)) else (o32 = .inr (.inl ()))
def law08_FrameSizes_j1 (a2 : Int) (s17 : Unit) (r : Bool) : Prop :=
  ∃ r18 : Int, frame_Room a2 r18 ∧ ∃ e32 : (Sum Unit Bool), Loops (law08_FrameSizes_l4 a2 r18) 0 e32 ∧ Aft (fun p43 => law08_FrameSizes_j2 r18 p43 r) (fun p44 => r = p44) e32
def law08_FrameSizes_j7 (a2 : Int) (s62 : Bool) (r : Bool) : Prop :=
  if s62 = true then (r = false) else (law08_FrameSizes_j1 a2 () r)
def law08_FrameSizes (a0 : Int × Int × Int × Int × Int) (a1 : List Int) (a2 : Int) (r : Bool) : Prop :=
  0 ≤ (min (a1.length : Int) 242) ∧ (min (a1.length : Int) 242) ≤ (a1.length : Int) ∧ ∃ r9 : List Int, frame_New r9 ∧ ∃ r45 : Int, frame_Codec_Check r9 (a0, ((a1.drop (0 : Int).toNat).take (((min (a1.length : Int) 242) : Int) - 0).toNat)) r45 ∧ if (decide (r45 = 0)) = true then (∃ r56 : List Int × Int, frame_Codec_Pack r9 [(a0, ((a1.drop (0 : Int).toNat).take (((min (a1.length : Int) 242) : Int) - 0).toNat))] r56 ∧ if (!(decide (r56.2 = 0))) = true then (law08_FrameSizes_j7 a2 true r) else (∃ r63 : Int, frame_Wire (((a1.drop (0 : Int).toNat).take (((min (a1.length : Int) 242) : Int) - 0).toNat).length : Int) r63 ∧ if (!(decide ((r56.1.length : Int) = r63))) = true then (law08_FrameSizes_j7 a2 true r) else (law08_FrameSizes_j7 a2 (!(decide ((r56.1.length : Int) = (IntKind.i64.wrap ((IntKind.i64.wrap ((IntKind.i64.wrap ((((a1.drop (0 : Int).toNat).take (((min (a1.length : Int) 242) : Int) - 0).toNat).length : Int) + 12)) + (max 1 (IntKind.i64.wrap ((IntKind.i64.wrap ((IntKind.i64.wrap ((((a1.drop (0 : Int).toNat).take (((min (a1.length : Int) 242) : Int) - 0).toNat).length : Int) + 12)) + 253)).tdiv 254))))) + 2))))) r))) else (law08_FrameSizes_j1 a2 () r)
end Go.Rel
