import Derived.Test.YtnlghjmngfgmcabGreatDoorEngQ
/-! The functions as plain relations. -/
set_option linter.unusedVariables false
namespace Go.Rel
open Go Go.Eng
def crc_shift_j1  (s1 : Int) (r : Int) : Prop :=
  r = s1
def crc_shift_l2  (s2 : Int × Int) (o2 : Sum (Int × Int) Int) : Prop :=
  if (decide (s2.2 < 8)) = true then (o2 = .inl ((ixor .u32 (ishr .u32 s2.1 1) (iand .u32 3988292384 (IntKind.u32.wrap (0 - (iand .u32 s2.1 1))))), (IntKind.i64.wrap (s2.2 + 1)))) else (o2 = .inr s2.1)
def crc_shift (a0 : Int) (r : Int) : Prop :=
  ∃ e2 : Int, Loops (crc_shift_l2) (a0, 0) e2 ∧ (crc_shift_j1 e2 r)
def crc_New_j1  (s2 : List Int) (r : List Int) : Prop :=
  r = s2
def crc_New_j3 (s6 : Int × List Int) (s7 : List Int) (o6 : Sum (Int × List Int) (List Int)) : Prop :=
  o6 = .inl ((IntKind.i64.wrap (s6.1 + 1)), s7)
def crc_New_l4 (s6 : Int × List Int) (s8 : Int × Int × List Int) (o8 : Sum (Int × Int × List Int) (List Int)) : Prop :=
  if (decide (s8.2.1 < 4)) = true then (∃ r9 : Int, crc_shift s8.1 r9 ∧ 0 ≤ s8.2.1 ∧ s8.2.1 < 4 ∧ 0 ≤ s6.1 ∧ s6.1 < 256 ∧ o8 = .inl (r9, (IntKind.i64.wrap (s8.2.1 + 1)), (putN 1024 0 s8.2.2 (s8.2.1.toNat * 256 + s6.1.toNat) r9))) else (o8 = .inr s8.2.2)
def crc_New_l2  (s6 : Int × List Int) (o6 : Sum (Int × List Int) (List Int)) : Prop :=
  if (decide (s6.1 < 256)) = true then (∃ e8 : List Int, Loops (crc_New_l4 s6) ((IntKind.u32.wrap s6.1), 0, s6.2) e8 ∧ (crc_New_j3 s6 e8 o6)) else (o6 = .inr s6.2)
def crc_New  (r : List Int) : Prop :=
  ∃ e6 : List Int, Loops (crc_New_l2) (0, (List.replicate 1024 0)) e6 ∧ (crc_New_j1 e6 r)
def frame_New  (r : List Int) : Prop :=
  ∃ r1 : List Int, crc_New r1 ∧ r = r1
def ref01_Same_j1  (s5 : Unit) (r : Bool) : Prop :=
  r = true
def ref01_Same_l2 (a0 : List Int) (a1 : List Int) (s6 : Int) (o6 : Sum Int (Sum Unit Bool)) : Prop :=
  if (decide (s6 < (a0.length : Int))) = true then (∃ q7 : Int, idx a0 s6 q7 ∧ ∃ q12 : Int, idx a1 s6 q12 ∧ if (!(decide (q7 = q12))) = true then (o6 = .inr (.inr false)) else (o6 = .inl (IntKind.i64.wrap (s6 + 1)))) else (o6 = .inr (.inl ()))
def ref01_Same (a0 : List Int) (a1 : List Int) (r : Bool) : Prop :=
  if (!(decide ((a0.length : Int) = (a1.length : Int)))) = true then (r = false) else (∃ e6 : (Sum Unit Bool), Loops (ref01_Same_l2 a0 a1) 0 e6 ∧ Aft (fun p18 => ref01_Same_j1 p18 r) (fun p19 => r = p19) e6)
def fence_Segments_1_j2 (S : Type) (Y : (Int × List Int) → S → Bool × S → Prop) (s3 : S × Int × Int) (s6 : S × Int) (o3 : Sum (S × Int × Int) (S × Unit)) : Prop :=
  o3 = .inl (s6.1, s6.2, (IntKind.i64.wrap (s3.2.2 + 1)))
def fence_Segments_1_j3 (S : Type) (Y : (Int × List Int) → S → Bool × S → Prop) (s3 : S × Int × Int) (s14 : S × Bool) (o3 : Sum (S × Int × Int) (S × Unit)) : Prop :=
  if s14.2 = true then (o3 = .inr (s14.1, ())) else (fence_Segments_1_j2 S Y s3 (s14.1, (IntKind.i64.wrap (s3.2.2 + 1))) o3)
def fence_Segments_1_l1 (S : Type) (Y : (Int × List Int) → S → Bool × S → Prop) (c0 : List Int) (s3 : S × Int × Int) (o3 : Sum (S × Int × Int) (S × Unit)) : Prop :=
  if (decide (s3.2.2 < (c0.length : Int))) = true then (∃ q9 : Int, idx c0 s3.2.2 q9 ∧ if (!(decide (q9 = 0))) = true then (fence_Segments_1_j2 S Y s3 (s3.1, s3.2.1) o3) else (if (decide (s3.2.1 < s3.2.2)) = true then (0 ≤ s3.2.1 ∧ s3.2.1 ≤ s3.2.2 ∧ s3.2.2 ≤ (c0.length : Int) ∧ s3.2.2 ≤ s3.2.2 ∧ s3.2.2 ≤ (c0.length : Int) ∧ (([] : List Int).length + ((c0.drop s3.2.1.toNat).take ((s3.2.2 : Int) - s3.2.1).toNat).length) * 1 ≤ 140737488355328 ∧ ([] : List Int).length + ((c0.drop s3.2.1.toNat).take ((s3.2.2 : Int) - s3.2.1).toNat).length ≤ 4611686018427387904 ∧ ∃ y36 : Bool, ∃ u37 : S, Y (s3.2.1, (([] : List Int) ++ ((c0.drop s3.2.1.toNat).take ((s3.2.2 : Int) - s3.2.1).toNat))) s3.1 (y36, u37) ∧ fence_Segments_1_j3 S Y s3 (u37, (!y36)) o3) else (fence_Segments_1_j3 S Y s3 (s3.1, false) o3))) else (o3 = .inr (s3.1, ()))
def fence_Segments_1 (c0 : List Int) (S : Type) (Y : (Int × List Int) → S → Bool × S → Prop) (s : S) (r : S × Unit) : Prop :=
  ∃ e3 : S × Unit, Loops (fence_Segments_1_l1 S Y c0) (s, 0, 0) e3 ∧ (r = e3)
def fence_Segments (a0 : List Int) (r : (((S : Type) → ((Int × List Int) → S → Bool × S → Prop) → S → S × Unit → Prop))) : Prop :=
  r = (fence_Segments_1 a0)
def cobs_Decode_j1  (s3 : Unit) (r : List Int × Int) : Prop :=
  r = ([], 12)
def cobs_Decode_j2  (s4 : List Int) (r : List Int × Int) : Prop :=
  r = (s4, 0)
def cobs_Decode_j6 (s14 : List Int × List Int × Bool) (q20 : Int) (s41 : Bool) (o14 : Sum (List Int × List Int × Bool) (Sum Unit (List Int))) : Prop :=
  if s41 = true then (o14 = .inr (.inl ())) else (if (decide ((((s14.2.1.drop (IntKind.i64.wrap ((IntKind.i64.wrap ((IntKind.i64.wrap q20) - 1)) + 1)).toNat).take (((s14.2.1.length : Int) : Int) - (IntKind.i64.wrap ((IntKind.i64.wrap ((IntKind.i64.wrap q20) - 1)) + 1))).toNat).length : Int) = 0)) = true then (o14 = .inr (.inr (s14.1 ++ ((s14.2.1.drop (1 : Int).toNat).take (((IntKind.i64.wrap ((IntKind.i64.wrap ((IntKind.i64.wrap q20) - 1)) + 1)) : Int) - 1).toNat)))) else (if (!(decide ((IntKind.i64.wrap ((IntKind.i64.wrap q20) - 1)) = 254))) = true then (((s14.1 ++ ((s14.2.1.drop (1 : Int).toNat).take (((IntKind.i64.wrap ((IntKind.i64.wrap ((IntKind.i64.wrap q20) - 1)) + 1)) : Int) - 1).toNat)).length + [0].length) * 1 ≤ 140737488355328 ∧ (s14.1 ++ ((s14.2.1.drop (1 : Int).toNat).take (((IntKind.i64.wrap ((IntKind.i64.wrap ((IntKind.i64.wrap q20) - 1)) + 1)) : Int) - 1).toNat)).length + [0].length ≤ 4611686018427387904 ∧ o14 = .inl (((s14.1 ++ ((s14.2.1.drop (1 : Int).toNat).take (((IntKind.i64.wrap ((IntKind.i64.wrap ((IntKind.i64.wrap q20) - 1)) + 1)) : Int) - 1).toNat)) ++ [0]), ((s14.2.1.drop (IntKind.i64.wrap ((IntKind.i64.wrap ((IntKind.i64.wrap q20) - 1)) + 1)).toNat).take (((s14.2.1.length : Int) : Int) - (IntKind.i64.wrap ((IntKind.i64.wrap ((IntKind.i64.wrap q20) - 1)) + 1))).toNat), (decide ((IntKind.i64.wrap ((IntKind.i64.wrap q20) - 1)) = 254)))) else (o14 = .inl ((s14.1 ++ ((s14.2.1.drop (1 : Int).toNat).take (((IntKind.i64.wrap ((IntKind.i64.wrap ((IntKind.i64.wrap q20) - 1)) + 1)) : Int) - 1).toNat)), ((s14.2.1.drop (IntKind.i64.wrap ((IntKind.i64.wrap ((IntKind.i64.wrap q20) - 1)) + 1)).toNat).take (((s14.2.1.length : Int) : Int) - (IntKind.i64.wrap ((IntKind.i64.wrap ((IntKind.i64.wrap q20) - 1)) + 1))).toNat), (decide ((IntKind.i64.wrap ((IntKind.i64.wrap q20) - 1)) = 254))))))
def cobs_Decode_j5 (s14 : List Int × List Int × Bool) (q20 : Int) (s26 : Unit) (o14 : Sum (List Int × List Int × Bool) (Sum Unit (List Int))) : Prop :=
  1 ≤ (IntKind.i64.wrap ((IntKind.i64.wrap ((IntKind.i64.wrap q20) - 1)) + 1)) ∧ (IntKind.i64.wrap ((IntKind.i64.wrap ((IntKind.i64.wrap q20) - 1)) + 1)) ≤ (s14.2.1.length : Int) ∧ (s14.1.length + ((s14.2.1.drop (1 : Int).toNat).take (((IntKind.i64.wrap ((IntKind.i64.wrap ((IntKind.i64.wrap q20) - 1)) + 1)) : Int) - 1).toNat).length) * 1 ≤ 140737488355328 ∧ s14.1.length + ((s14.2.1.drop (1 : Int).toNat).take (((IntKind.i64.wrap ((IntKind.i64.wrap ((IntKind.i64.wrap q20) - 1)) + 1)) : Int) - 1).toNat).length ≤ 4611686018427387904 ∧ 0 ≤ (IntKind.i64.wrap ((IntKind.i64.wrap ((IntKind.i64.wrap q20) - 1)) + 1)) ∧ (IntKind.i64.wrap ((IntKind.i64.wrap ((IntKind.i64.wrap q20) - 1)) + 1)) ≤ (s14.2.1.length : Int) ∧ (s14.2.1.length : Int) ≤ (s14.2.1.length : Int) ∧ if (decide ((((s14.2.1.drop (IntKind.i64.wrap ((IntKind.i64.wrap ((IntKind.i64.wrap q20) - 1)) + 1)).toNat).take (((s14.2.1.length : Int) : Int) - (IntKind.i64.wrap ((IntKind.i64.wrap ((IntKind.i64.wrap q20) - 1)) + 1))).toNat).length : Int) = 0)) = true then (if s14.2.2 = true then (cobs_Decode_j6 s14 q20 (decide ((IntKind.i64.wrap ((IntKind.i64.wrap q20) - 1)) = 0)) o14) else (cobs_Decode_j6 s14 q20 false o14)) else (cobs_Decode_j6 s14 q20 false o14)
def cobs_Decode_l7 (s14 : List Int × List Int × Bool) (q20 : Int) (s54 : Int) (o54 : Sum Int (Sum Unit Unit)) : Prop :=
  if (decide (s54 < (((s14.2.1.drop (1 : Int).toNat).take (((IntKind.i64.wrap ((IntKind.i64.wrap ((IntKind.i64.wrap q20) - 1)) + 1)) : Int) - 1).toNat).length : Int))) = true then (∃ q55 : Int, idx ((s14.2.1.drop (1 : Int).toNat).take (((IntKind.i64.wrap ((IntKind.i64.wrap ((IntKind.i64.wrap q20) - 1)) + 1)) : Int) - 1).toNat) s54 q55 ∧ if (decide (q55 = 0)) = true then (o54 = .inr (.inr ())) else (o54 = .inl (IntKind.i64.wrap (s54 + 1)))) else (o54 = .inr (.inl ()))
def cobs_Decode_j4 (s14 : List Int × List Int × Bool) (q20 : Int) (s25 : Bool) (o14 : Sum (List Int × List Int × Bool) (Sum Unit (List Int))) : Prop :=
  if s25 = true then (o14 = .inr (.inl ())) else (1 ≤ (IntKind.i64.wrap ((IntKind.i64.wrap ((IntKind.i64.wrap q20) - 1)) + 1)) ∧ (IntKind.i64.wrap ((IntKind.i64.wrap ((IntKind.i64.wrap q20) - 1)) + 1)) ≤ (s14.2.1.length : Int) ∧ ∃ e54 : (Sum Unit Unit), Loops (cobs_Decode_l7 s14 q20) 0 e54 ∧ Aft (fun p60 => cobs_Decode_j5 s14 q20 p60 o14) (fun p61 => o14 = .inr (.inl p61)) e54)
def cobs_Decode_l3  (s14 : List Int × List Int × Bool) (o14 : Sum (List Int × List Int × Bool) (Sum Unit (List Int))) : Prop :=
  ∃ q20 : Int, idx s14.2.1 0 q20 ∧ if (decide ((IntKind.i64.wrap ((IntKind.i64.wrap q20) - 1)) < 0)) = true then (cobs_Decode_j4 s14 q20 true o14) else (cobs_Decode_j4 s14 q20 (decide ((s14.2.1.length : Int) ≤ (IntKind.i64.wrap ((IntKind.i64.wrap q20) - 1)))) o14)
def cobs_Decode (a0 : List Int) (r : List Int × Int) : Prop :=
  if (decide ((a0.length : Int) = 0)) = true then (cobs_Decode_j1 () r) else (∃ e14 : (Sum Unit (List Int)), Loops (cobs_Decode_l3) ([], a0, false) e14 ∧ Aft (fun p62 => cobs_Decode_j1 p62 r) (fun p63 => cobs_Decode_j2 p63 r) e14)
def crc_Table_Begin (a0 : List Int) (r : Int) : Prop :=
  r = 4294967295
def crc_Table_Add_j2  (s8 : Int) (r : Int) : Prop :=
  r = s8
def crc_Table_Add_l3 (a0 : List Int) (s5 : Int × List Int) (s9 : Int × Int) (o9 : Sum (Int × Int) Int) : Prop :=
  if (decide (s9.2 < (s5.2.length : Int))) = true then (∃ q10 : Int, idx s5.2 s9.2 q10 ∧ 0 ≤ (ixor .u8 (IntKind.u8.wrap s9.1) q10) ∧ (ixor .u8 (IntKind.u8.wrap s9.1) q10) < 256 ∧ o9 = .inl ((ixor .u32 (ishr .u32 s9.1 8) (a0.getD ((ixor .u8 (IntKind.u8.wrap s9.1) q10).toNat) 0)), (IntKind.i64.wrap (s9.2 + 1)))) else (o9 = .inr s9.1)
def crc_Table_Add_j1 (a0 : List Int) (s5 : Int × List Int) (r : Int) : Prop :=
  ∃ e9 : Int, Loops (crc_Table_Add_l3 a0 s5) (s5.1, 0) e9 ∧ (crc_Table_Add_j2 e9 r)
def crc_Table_Add_l4 (a0 : List Int) (s18 : Int × List Int) (o18 : Sum (Int × List Int) (Int × List Int)) : Prop :=
  if (decide ((s18.2.length : Int) < 4)) = true then (o18 = .inr (s18.1, s18.2)) else (∃ q21 : Int, idx s18.2 0 q21 ∧ ∃ q26 : Int, idx s18.2 1 q26 ∧ ∃ q31 : Int, idx s18.2 2 q31 ∧ ∃ q36 : Int, idx s18.2 3 q36 ∧ 0 ≤ (iand .u32 (ixor .u32 s18.1 (ior .u32 (ior .u32 (ior .u32 (IntKind.u32.wrap q21) (ishl .u32 (IntKind.u32.wrap q26) 8)) (ishl .u32 (IntKind.u32.wrap q31) 16)) (ishl .u32 (IntKind.u32.wrap q36) 24))) 255) ∧ (iand .u32 (ixor .u32 s18.1 (ior .u32 (ior .u32 (ior .u32 (IntKind.u32.wrap q21) (ishl .u32 (IntKind.u32.wrap q26) 8)) (ishl .u32 (IntKind.u32.wrap q31) 16)) (ishl .u32 (IntKind.u32.wrap q36) 24))) 255) < 256 ∧ 0 ≤ (iand .u32 (ishr .u32 (ixor .u32 s18.1 (ior .u32 (ior .u32 (ior .u32 (IntKind.u32.wrap q21) (ishl .u32 (IntKind.u32.wrap q26) 8)) (ishl .u32 (IntKind.u32.wrap q31) 16)) (ishl .u32 (IntKind.u32.wrap q36) 24))) 8) 255) ∧ (iand .u32 (ishr .u32 (ixor .u32 s18.1 (ior .u32 (ior .u32 (ior .u32 (IntKind.u32.wrap q21) (ishl .u32 (IntKind.u32.wrap q26) 8)) (ishl .u32 (IntKind.u32.wrap q31) 16)) (ishl .u32 (IntKind.u32.wrap q36) 24))) 8) 255) < 256 ∧ 0 ≤ (iand .u32 (ishr .u32 (ixor .u32 s18.1 (ior .u32 (ior .u32 (ior .u32 (IntKind.u32.wrap q21) (ishl .u32 (IntKind.u32.wrap q26) 8)) (ishl .u32 (IntKind.u32.wrap q31) 16)) (ishl .u32 (IntKind.u32.wrap q36) 24))) 16) 255) ∧ (iand .u32 (ishr .u32 (ixor .u32 s18.1 (ior .u32 (ior .u32 (ior .u32 (IntKind.u32.wrap q21) (ishl .u32 (IntKind.u32.wrap q26) 8)) (ishl .u32 (IntKind.u32.wrap q31) 16)) (ishl .u32 (IntKind.u32.wrap q36) 24))) 16) 255) < 256 ∧ 0 ≤ (ishr .u32 (ixor .u32 s18.1 (ior .u32 (ior .u32 (ior .u32 (IntKind.u32.wrap q21) (ishl .u32 (IntKind.u32.wrap q26) 8)) (ishl .u32 (IntKind.u32.wrap q31) 16)) (ishl .u32 (IntKind.u32.wrap q36) 24))) 24) ∧ (ishr .u32 (ixor .u32 s18.1 (ior .u32 (ior .u32 (ior .u32 (IntKind.u32.wrap q21) (ishl .u32 (IntKind.u32.wrap q26) 8)) (ishl .u32 (IntKind.u32.wrap q31) 16)) (ishl .u32 (IntKind.u32.wrap q36) 24))) 24) < 256 ∧ 4 ≤ (s18.2.length : Int) ∧ (s18.2.length : Int) ≤ (s18.2.length : Int) ∧ o18 = .inl ((ixor .u32 (ixor .u32 (ixor .u32 (a0.getD (768 + (iand .u32 (ixor .u32 s18.1 (ior .u32 (ior .u32 (ior .u32 (IntKind.u32.wrap q21) (ishl .u32 (IntKind.u32.wrap q26) 8)) (ishl .u32 (IntKind.u32.wrap q31) 16)) (ishl .u32 (IntKind.u32.wrap q36) 24))) 255).toNat) 0) (a0.getD (512 + (iand .u32 (ishr .u32 (ixor .u32 s18.1 (ior .u32 (ior .u32 (ior .u32 (IntKind.u32.wrap q21) (ishl .u32 (IntKind.u32.wrap q26) 8)) (ishl .u32 (IntKind.u32.wrap q31) 16)) (ishl .u32 (IntKind.u32.wrap q36) 24))) 8) 255).toNat) 0)) (a0.getD (256 + (iand .u32 (ishr .u32 (ixor .u32 s18.1 (ior .u32 (ior .u32 (ior .u32 (IntKind.u32.wrap q21) (ishl .u32 (IntKind.u32.wrap q26) 8)) (ishl .u32 (IntKind.u32.wrap q31) 16)) (ishl .u32 (IntKind.u32.wrap q36) 24))) 16) 255).toNat) 0)) (a0.getD ((ishr .u32 (ixor .u32 s18.1 (ior .u32 (ior .u32 (ior .u32 (IntKind.u32.wrap q21) (ishl .u32 (IntKind.u32.wrap q26) 8)) (ishl .u32 (IntKind.u32.wrap q31) 16)) (ishl .u32 (IntKind.u32.wrap q36) 24))) 24).toNat) 0)), ((s18.2.drop (4 : Int).toNat).take (((s18.2.length : Int) : Int) - 4).toNat)))
def crc_Table_Add (a0 : List Int) (a1 : Int) (a2 : List Int) (r : Int) : Prop :=
  ∃ e18 : Int × List Int, Loops (crc_Table_Add_l4 a0) (a1, a2) e18 ∧ (crc_Table_Add_j1 a0 e18 r)
def crc_Table_End (a0 : List Int) (a1 : Int) (r : Int) : Prop :=
  r = (icompl .u32 a1)
def crc_Table_Sum_j1 (a0 : List Int) (s9 : Int) (r : Int) : Prop :=
  ∃ r10 : Int, crc_Table_End a0 s9 r10 ∧ r = r10
def crc_Table_Sum_l2 (a0 : List Int) (a1 : List (List Int)) (s14 : Int × Int) (o14 : Sum (Int × Int) Int) : Prop :=
  if (decide (s14.2 < (a1.length : Int))) = true then (∃ q15 : List Int, idx a1 s14.2 q15 ∧ ∃ r22 : Int, crc_Table_Add a0 s14.1 q15 r22 ∧ o14 = .inl (r22, (IntKind.i64.wrap (s14.2 + 1)))) else (o14 = .inr s14.1)
def crc_Table_Sum (a0 : List Int) (a1 : List (List Int)) (r : Int) : Prop :=
  ∃ r5 : Int, crc_Table_Begin a0 r5 ∧ ∃ e14 : Int, Loops (crc_Table_Sum_l2 a0 a1) (r5, 0) e14 ∧ (crc_Table_Sum_j1 a0 e14 r)
def crc_bytes (a0 : Int) (r : List Int) : Prop :=
  r = [(IntKind.u8.wrap a0), (IntKind.u8.wrap (ishr .u32 a0 8)), (IntKind.u8.wrap (ishr .u32 a0 16)), (IntKind.u8.wrap (ishr .u32 a0 24))]
def crc_Open (a0 : List Int) (a1 : List Int) (r : List Int × Int) : Prop :=
  if (decide ((IntKind.i64.wrap ((a1.length : Int) - 4)) < 0)) = true then (r = ([], 13)) else (0 ≤ (IntKind.i64.wrap ((a1.length : Int) - 4)) ∧ (IntKind.i64.wrap ((a1.length : Int) - 4)) ≤ (a1.length : Int) ∧ (IntKind.i64.wrap ((a1.length : Int) - 4)) ≤ (IntKind.i64.wrap ((a1.length : Int) - 4)) ∧ (IntKind.i64.wrap ((a1.length : Int) - 4)) ≤ (a1.length : Int) ∧ ∃ r18 : Int, crc_Table_Sum a0 [((a1.drop (0 : Int).toNat).take (((IntKind.i64.wrap ((a1.length : Int) - 4)) : Int) - 0).toNat)] r18 ∧ ∃ r22 : List Int, crc_bytes r18 r22 ∧ 0 ≤ (IntKind.i64.wrap ((a1.length : Int) - 4)) ∧ (IntKind.i64.wrap ((a1.length : Int) - 4)) ≤ (a1.length : Int) ∧ (a1.length : Int) ≤ (a1.length : Int) ∧ 4 ≤ ((a1.drop (IntKind.i64.wrap ((a1.length : Int) - 4)).toNat).take (((a1.length : Int) : Int) - (IntKind.i64.wrap ((a1.length : Int) - 4))).toNat).length ∧ if (!(eqN 4 0 r22 ((a1.drop (IntKind.i64.wrap ((a1.length : Int) - 4)).toNat).take (((a1.length : Int) : Int) - (IntKind.i64.wrap ((a1.length : Int) - 4))).toNat))) = true then (r = ([], 11)) else ((([] : List Int).length + ((a1.drop (0 : Int).toNat).take (((IntKind.i64.wrap ((a1.length : Int) - 4)) : Int) - 0).toNat).length) * 1 ≤ 140737488355328 ∧ ([] : List Int).length + ((a1.drop (0 : Int).toNat).take (((IntKind.i64.wrap ((a1.length : Int) - 4)) : Int) - 0).toNat).length ≤ 4611686018427387904 ∧ r = ((([] : List Int) ++ ((a1.drop (0 : Int).toNat).take (((IntKind.i64.wrap ((a1.length : Int) - 4)) : Int) - 0).toNat)), 0)))
def lens_New (a0 : List Int) (r : (List Int × Int × Int)) : Prop :=
  (([] : List Int).length + a0.length) * 1 ≤ 140737488355328 ∧ ([] : List Int).length + a0.length ≤ 4611686018427387904 ∧ r = ((([] : List Int) ++ a0), 0, 0)
def lens_Lens_left (a0 : List Int × Int × Int) (r : List Int) : Prop :=
  0 ≤ a0.2.1 ∧ a0.2.1 ≤ (a0.1.length : Int) ∧ (a0.1.length : Int) ≤ (a0.1.length : Int) ∧ (a0.1.length : Int) ≤ (a0.1.length : Int) ∧ (a0.1.length : Int) ≤ (a0.1.length : Int) ∧ r = ((a0.1.drop a0.2.1.toNat).take (((a0.1.length : Int) : Int) - a0.2.1).toNat)
def slices_Backward_byte_byte_1_l1 (S : Type) (Y : (Int × Int) → S → Bool × S → Prop) (c0 : List Int) (s3 : S × Int) (o3 : Sum (S × Int) (S × Unit)) : Prop :=
  if (decide (0 ≤ s3.2)) = true then (∃ q6 : Int, idx c0 s3.2 q6 ∧ ∃ y11 : Bool, ∃ u12 : S, Y (s3.2, q6) s3.1 (y11, u12) ∧ if (!y11) = true then (o3 = .inr (u12, ())) else (o3 = .inl (u12, (IntKind.i64.wrap (s3.2 - 1))))) else (o3 = .inr (s3.1, ()))
def slices_Backward_byte_byte_1 (c0 : List Int) (S : Type) (Y : (Int × Int) → S → Bool × S → Prop) (s : S) (r : S × Unit) : Prop :=
  ∃ e3 : S × Unit, Loops (slices_Backward_byte_byte_1_l1 S Y c0) (s, (IntKind.i64.wrap ((c0.length : Int) - 1))) e3 ∧ (r = e3)
def slices_Backward_byte_byte (a0 : List Int) (r : (((S : Type) → ((Int × Int) → S → Bool × S → Prop) → S → S × Unit → Prop))) : Prop :=
  r = (slices_Backward_byte_byte_1 a0)
def lens_Lens_word_1_l1  (x14 : Int × Int) (s14 : Int) (o14 : Sum Int Unit) : Prop :=
  o14 = .inl (ior .u32 (ishl .u32 s14 8) (IntKind.u32.wrap x14.2))
def lens_Lens_word_1 (a0 : List Int) (c0 : Int) (c1 : Int) (r : Int × Int × Int) : Prop :=
  if (decide ((a0.length : Int) < c0)) = true then (r = (0, 4, c1)) else (0 ≤ c0 ∧ c0 ≤ (a0.length : Int) ∧ ∃ r7 : (((S : Type) → ((Int × Int) → S → Bool × S → Prop) → S → S × Unit → Prop)), slices_Backward_byte_byte ((a0.drop (0 : Int).toNat).take ((c0 : Int) - 0).toNat) r7 ∧ ∃ (t14 : Sum Int Unit) (w14 : Unit), r7 (Sum Int Unit) (Yof (lens_Lens_word_1_l1)) (.inl c1) (t14, w14) ∧ Aft (fun p15 => r = (c0, 0, p15)) (fun _ => True) t14)
def lens_Lens_read__lens_Lens_word_1 (a0 : List Int × Int × Int) (a1_0 : Int) (a1_1 : Int) (r : Bool × (List Int × Int × Int) × Int) : Prop :=
  if (!(decide (a0.2.2 = 0))) = true then (r = (false, a0, a1_1)) else (∃ r3 : List Int, lens_Lens_left a0 r3 ∧ ∃ r9 : Int × Int × Int, lens_Lens_word_1 r3 a1_0 a1_1 r9 ∧ if (!(decide (r9.2.1 = 0))) = true then (r = (false, (a0.1, a0.2.1, r9.2.1), r9.2.2)) else (r = (true, (a0.1, (IntKind.i64.wrap (a0.2.1 + r9.1)), a0.2.2), r9.2.2)))
def lens_Lens_word (a0 : List Int × Int × Int) (a1 : Int) (r : Int × (List Int × Int × Int)) : Prop :=
  ∃ r5 : Bool × (List Int × Int × Int) × Int, lens_Lens_read__lens_Lens_word_1 a0 a1 0 r5 ∧ r = (r5.2.2, r5.2.1)
def lens_Lens_U8 (a0 : List Int × Int × Int) (r : Int × (List Int × Int × Int)) : Prop :=
  ∃ r3 : Int × (List Int × Int × Int), lens_Lens_word a0 1 r3 ∧ r = ((IntKind.u8.wrap r3.1), r3.2)
def lens_Lens_U32 (a0 : List Int × Int × Int) (r : Int × (List Int × Int × Int)) : Prop :=
  ∃ r3 : Int × (List Int × Int × Int), lens_Lens_word a0 4 r3 ∧ r = (r3.1, r3.2)
def lens_Lens_Err (a0 : List Int × Int × Int) (r : Int) : Prop :=
  r = a0.2.2
def lens_Lens_Left (a0 : List Int × Int × Int) (r : Int) : Prop :=
  ∃ r3 : List Int, lens_Lens_left a0 r3 ∧ r = (r3.length : Int)
def lens_Lens_End_j1 (r3 : Int) (s7 : Bool) (r : Int) : Prop :=
  if s7 = true then (r = r3) else (r = 3)
def lens_Lens_End (a0 : List Int × Int × Int) (r : Int) : Prop :=
  ∃ r3 : Int, lens_Lens_Err a0 r3 ∧ if (!(decide (r3 = 0))) = true then (lens_Lens_End_j1 r3 true r) else (∃ r8 : Int, lens_Lens_Left a0 r8 ∧ lens_Lens_End_j1 r3 (decide (r8 = 0)) r)
def head_wrong_1 (c0 : Int × Int × Int × Int × Int) (S : Type) (Y : (Int × Bool) → S → Bool × S → Prop) (s : S) (r : S × Unit) : Prop :=
  if (decide (c0.1 < 1)) = true then (∃ y1 : Bool, ∃ u2 : S, Y (10, true) s (y1, u2) ∧ if y1 = true then (if (decide (c0.2.1 < 1)) = true then (∃ y8 : Bool, ∃ u9 : S, Y (9, true) u2 (y8, u9) ∧ if y8 = true then (if (decide (c0.2.2.2.2 < 1)) = true then (∃ y15 : Bool, ∃ u16 : S, Y (3, true) u9 (y15, u16) ∧ r = (u16, ())) else (if (decide (255 < c0.2.2.2.2)) = true then (∃ y22 : Bool, ∃ u23 : S, Y (3, true) u9 (y22, u23) ∧ r = (u23, ())) else (if (decide (c0.2.2.2.1 < 0)) = true then (∃ y29 : Bool, ∃ u30 : S, Y (3, true) u9 (y29, u30) ∧ r = (u30, ())) else (∃ y36 : Bool, ∃ u37 : S, Y (3, (decide (c0.2.2.2.2 ≤ c0.2.2.2.1))) u9 (y36, u37) ∧ r = (u37, ()))))) else (r = (u9, ()))) else (∃ y43 : Bool, ∃ u44 : S, Y (9, (decide (5 < c0.2.1))) u2 (y43, u44) ∧ if y43 = true then (if (decide (c0.2.2.2.2 < 1)) = true then (∃ y50 : Bool, ∃ u51 : S, Y (3, true) u44 (y50, u51) ∧ r = (u51, ())) else (if (decide (255 < c0.2.2.2.2)) = true then (∃ y57 : Bool, ∃ u58 : S, Y (3, true) u44 (y57, u58) ∧ r = (u58, ())) else (if (decide (c0.2.2.2.1 < 0)) = true then (∃ y64 : Bool, ∃ u65 : S, Y (3, true) u44 (y64, u65) ∧ r = (u65, ())) else (∃ y71 : Bool, ∃ u72 : S, Y (3, (decide (c0.2.2.2.2 ≤ c0.2.2.2.1))) u44 (y71, u72) ∧ r = (u72, ()))))) else (r = (u44, ())))) else (r = (u2, ()))) else (∃ y78 : Bool, ∃ u79 : S, Y (10, (decide (2 < c0.1))) s (y78, u79) ∧ if y78 = true then (if (decide (c0.2.1 < 1)) = true then (∃ y85 : Bool, ∃ u86 : S, Y (9, true) u79 (y85, u86) ∧ if y85 = true then (if (decide (c0.2.2.2.2 < 1)) = true then (∃ y92 : Bool, ∃ u93 : S, Y (3, true) u86 (y92, u93) ∧ r = (u93, ())) else (if (decide (255 < c0.2.2.2.2)) = true then (∃ y99 : Bool, ∃ u100 : S, Y (3, true) u86 (y99, u100) ∧ r = (u100, ())) else (if (decide (c0.2.2.2.1 < 0)) = true then (∃ y106 : Bool, ∃ u107 : S, Y (3, true) u86 (y106, u107) ∧ r = (u107, ())) else (∃ y113 : Bool, ∃ u114 : S, Y (3, (decide (c0.2.2.2.2 ≤ c0.2.2.2.1))) u86 (y113, u114) ∧ r = (u114, ()))))) else (r = (u86, ()))) else (∃ y120 : Bool, ∃ u121 : S, Y (9, (decide (5 < c0.2.1))) u79 (y120, u121) ∧ if y120 = true then (if (decide (c0.2.2.2.2 < 1)) = true then (∃ y127 : Bool, ∃ u128 : S, Y (3, true) u121 (y127, u128) ∧ r = (u128, ())) else (if (decide (255 < c0.2.2.2.2)) = true then (∃ y134 : Bool, ∃ u135 : S, Y (3, true) u121 (y134, u135) ∧ r = (u135, ())) else (if (decide (c0.2.2.2.1 < 0)) = true then (∃ y141 : Bool, ∃ u142 : S, Y (3, true) u121 (y141, u142) ∧ r = (u142, ())) else (∃ y148 : Bool, ∃ u149 : S, Y (3, (decide (c0.2.2.2.2 ≤ c0.2.2.2.1))) u121 (y148, u149) ∧ r = (u149, ()))))) else (r = (u121, ())))) else (r = (u79, ())))
def head_wrong (a0 : Int × Int × Int × Int × Int) (r : (((S : Type) → ((Int × Bool) → S → Bool × S → Prop) → S → S × Unit → Prop))) : Prop :=
  r = (head_wrong_1 a0)
def head_Check_j1  (s3 : Int) (r : Int) : Prop :=
  r = s3
def head_Check_l2  (x11 : Int × Bool) (s11 : Unit) (o11 : Sum Unit Int) : Prop :=
  if x11.2 = true then (o11 = .inr x11.1) else (o11 = .inl ())
def head_Check (a0 : Int × Int × Int × Int × Int) (r : Int) : Prop :=
  ∃ r4 : (((S : Type) → ((Int × Bool) → S → Bool × S → Prop) → S → S × Unit → Prop)), head_wrong a0 r4 ∧ ∃ (t11 : Sum Unit Int) (w11 : Unit), r4 (Sum Unit Int) (Yof (head_Check_l2)) (.inl ()) (t11, w11) ∧ Aft (fun p15 => head_Check_j1 0 r) (fun p12 => head_Check_j1 p12 r) t11
def head_Parse_j1 (r11 : Int × (List Int × Int × Int)) (r17 : Int × (List Int × Int × Int)) (r23 : Int × (List Int × Int × Int)) (r29 : Int × (List Int × Int × Int)) (r35 : Int × (List Int × Int × Int)) (s46 : Int) (r : (Int × Int × Int × Int × Int) × Int) : Prop :=
  if (!(decide (s46 = 0))) = true then (r = ((0, 0, 0, 0, 0), s46)) else (r = (((IntKind.i64.wrap r11.1), (IntKind.i64.wrap r17.1), r23.1, (IntKind.i64.wrap r29.1), (IntKind.i64.wrap r35.1)), 0))
def head_Parse (a0 : List Int) (r : (Int × Int × Int × Int × Int) × Int) : Prop :=
  if (decide ((a0.length : Int) < 8)) = true then (r = ((0, 0, 0, 0, 0), 13)) else (∃ r4 : (List Int × Int × Int), lens_New a0 r4 ∧ ∃ r11 : Int × (List Int × Int × Int), lens_Lens_U8 r4 r11 ∧ ∃ r17 : Int × (List Int × Int × Int), lens_Lens_U8 r11.2 r17 ∧ ∃ r23 : Int × (List Int × Int × Int), lens_Lens_U32 r17.2 r23 ∧ ∃ r29 : Int × (List Int × Int × Int), lens_Lens_U8 r23.2 r29 ∧ ∃ r35 : Int × (List Int × Int × Int), lens_Lens_U8 r29.2 r35 ∧ ∃ r42 : Int, lens_Lens_End r35.2 r42 ∧ if (decide (r42 = 0)) = true then (∃ r47 : Int, head_Check ((IntKind.i64.wrap r11.1), (IntKind.i64.wrap r17.1), r23.1, (IntKind.i64.wrap r29.1), (IntKind.i64.wrap r35.1)) r47 ∧ head_Parse_j1 r11 r17 r23 r29 r35 r47 r) else (head_Parse_j1 r11 r17 r23 r29 r35 r42 r))
def frame_Codec_Unpack (a0 : List Int) (a1 : List Int) (r : ((Int × Int × Int × Int × Int) × List Int) × Int) : Prop :=
  if (decide (255 < (a1.length : Int))) = true then (r = (((0, 0, 0, 0, 0), []), 2)) else (∃ r8 : List Int × Int, cobs_Decode a1 r8 ∧ if (!(decide (r8.2 = 0))) = true then (r = (((0, 0, 0, 0, 0), []), r8.2)) else (if (decide ((r8.1.length : Int) ≤ 12)) = true then (r = (((0, 0, 0, 0, 0), []), 13)) else (∃ r14 : List Int × Int, crc_Open a0 r8.1 r14 ∧ if (!(decide (r14.2 = 0))) = true then (r = (((0, 0, 0, 0, 0), []), r14.2)) else (8 ≤ (r14.1.length : Int) ∧ ∃ r23 : (Int × Int × Int × Int × Int) × Int, head_Parse ((r14.1.drop (0 : Int).toNat).take ((8 : Int) - 0).toNat) r23 ∧ if (!(decide (r23.2 = 0))) = true then (r = (((0, 0, 0, 0, 0), []), r23.2)) else (8 ≤ (r14.1.length : Int) ∧ (r14.1.length : Int) ≤ (r14.1.length : Int) ∧ r = ((r23.1, ((r14.1.drop (8 : Int).toNat).take (((r14.1.length : Int) : Int) - 8).toNat)), 0))))))
def noise_Forged_1_j3 (S : Type) (Y : Int → S → Bool × S → Prop) (x27 : Int × List Int) (s39 : S × Bool) (o27 : Sum S S) : Prop :=
  if s39.2 = true then (o27 = .inl s39.1) else (∃ y42 : Bool, ∃ u43 : S, Y x27.1 s39.1 (y42, u43) ∧ if (!y42) = true then (o27 = .inr u43) else (o27 = .inl u43))
def noise_Forged_1_l2 (S : Type) (Y : Int → S → Bool × S → Prop) (c0 : List Int) (s14 : S × (List (ByteArray × Bool))) (x27 : Int × List Int) (s27 : S) (o27 : Sum S S) : Prop :=
  ∃ r32 : ((Int × Int × Int × Int × Int) × List Int) × Int, frame_Codec_Unpack c0 x27.2 r32 ∧ if (!(decide (r32.2 = 0))) = true then (noise_Forged_1_j3 S Y x27 (s27, true) o27) else (noise_Forged_1_j3 S Y x27 (s27, ((mget s14.2 (bstr x27.2)).getD false)) o27)
def noise_Forged_1_j1 (S : Type) (Y : Int → S → Bool × S → Prop) (c0 : List Int) (c2 : List Int) (s14 : S × (List (ByteArray × Bool))) (r : S × Unit) : Prop :=
  ∃ r20 : (((S : Type) → ((Int × List Int) → S → Bool × S → Prop) → S → S × Unit → Prop)), fence_Segments c2 r20 ∧ ∃ (t27 : Sum S S) (w27 : Unit), r20 (Sum S S) (Yof (noise_Forged_1_l2 S Y c0 s14)) (.inl s14.1) (t27, w27) ∧ Aft (fun p54 => r = (p54, ())) (fun p49 => r = (p49, ())) t27
def noise_Forged_1_l5 (S : Type) (Y : Int → S → Bool × S → Prop) (x79 : Int × List Int) (s79 : S × (List (ByteArray × Bool))) (o79 : Sum (S × (List (ByteArray × Bool))) Unit) : Prop :=
  o79 = .inl (s79.1, (mput s79.2 (bstr x79.2) true))
def noise_Forged_1_l4 (S : Type) (Y : Int → S → Bool × S → Prop) (c1 : List (List Int)) (s59 : S × Int × (List (ByteArray × Bool))) (o59 : Sum (S × Int × (List (ByteArray × Bool))) (S × (List (ByteArray × Bool)))) : Prop :=
  if (decide (s59.2.1 < (c1.length : Int))) = true then (∃ q65 : List Int, idx c1 s59.2.1 q65 ∧ ∃ r72 : (((S : Type) → ((Int × List Int) → S → Bool × S → Prop) → S → S × Unit → Prop)), fence_Segments q65 r72 ∧ ∃ (t79 : Sum (S × (List (ByteArray × Bool))) Unit) (w79 : Unit), r72 (Sum (S × (List (ByteArray × Bool))) Unit) (Yof (noise_Forged_1_l5 S Y)) (.inl (s59.1, s59.2.2)) (t79, w79) ∧ Aft (fun p89 => o59 = .inl (p89.1, (IntKind.i64.wrap (s59.2.1 + 1)), p89.2)) (fun _ => True) t79) else (o59 = .inr (s59.1, s59.2.2))
def noise_Forged_1 (c0 : List Int) (c1 : List (List Int)) (c2 : List Int) (S : Type) (Y : Int → S → Bool × S → Prop) (s : S) (r : S × Unit) : Prop :=
  ∃ e59 : S × (List (ByteArray × Bool)), Loops (noise_Forged_1_l4 S Y c1) (s, 0, ([] : List (ByteArray × Bool))) e59 ∧ (noise_Forged_1_j1 S Y c0 c2 e59 r)
def noise_Forged (a0 : List Int) (a1 : List (List Int)) (a2 : List Int) (r : (((S : Type) → (Int → S → Bool × S → Prop) → S → S × Unit → Prop))) : Prop :=
  r = (noise_Forged_1 a0 a1 a2)
def noise_word (a0 : Int) (r : ByteArray × Int) : Prop :=
  if (decide (a0 = 1)) = true then (r = ((bstr [119, 104, 111, 108, 101]), 1)) else (if (decide (a0 = 2)) = true then (r = ((bstr [99, 117, 116]), 3)) else (if (decide (a0 = 3)) = true then (r = ((bstr [116, 117, 114, 110]), 3)) else (if (decide (a0 = 4)) = true then (r = ((bstr [106, 117, 110, 107]), 0)) else (r = ((bstr []), 0)))))
def noise_Check_j2  (s9 : Bool) (r : Int) : Prop :=
  if s9 = true then (r = 5) else (r = 0)
def noise_Check_j1 (a0 : Int × Int × Int × Int × List Int) (s8 : Bool) (r : Int) : Prop :=
  if s8 = true then (r = 7) else (if (decide (a0.1 = 2)) = true then (if (decide (a0.2.2.1 < 0)) = true then (noise_Check_j2 true r) else (if (decide (a0.2.2.2.1 < 0)) = true then (noise_Check_j2 true r) else (if (decide (a0.1 = 3)) = true then (noise_Check_j2 (decide (255 < a0.2.2.2.1)) r) else (noise_Check_j2 false r)))) else (if (decide (a0.1 = 3)) = true then (if (decide (a0.2.2.1 < 0)) = true then (noise_Check_j2 true r) else (if (decide (a0.2.2.2.1 < 0)) = true then (noise_Check_j2 true r) else (if (decide (a0.1 = 3)) = true then (noise_Check_j2 (decide (255 < a0.2.2.2.1)) r) else (noise_Check_j2 false r)))) else (if (decide (a0.1 = 3)) = true then (noise_Check_j2 (decide (255 < a0.2.2.2.1)) r) else (noise_Check_j2 false r))))
def noise_Check (a0 : Int × Int × Int × Int × List Int) (a1 : Int) (r : Int) : Prop :=
  ∃ r4 : ByteArray × Int, noise_word a0.1 r4 ∧ if (decide (r4.1 = (bstr []))) = true then (r = 9) else (if (!(decide (a0.1 = 4))) = true then (if (decide (a0.2.1 < 0)) = true then (noise_Check_j1 a0 true r) else (noise_Check_j1 a0 (decide (a1 ≤ a0.2.1)) r)) else (noise_Check_j1 a0 false r))
def noise_Bytes_j1  (s38 : List Int) (r : List Int) : Prop :=
  r = s38
def noise_Bytes (a0 : List (List Int)) (a1 : Int × Int × Int × Int × List Int) (r : List Int) : Prop :=
  ∃ r6 : Int, noise_Check a1 (a0.length : Int) r6 ∧ if (!(decide (r6 = 0))) = true then (r = []) else (if (decide (a1.1 = 4)) = true then ((([] : List Int).length + a1.2.2.2.2.length) * 1 ≤ 140737488355328 ∧ ([] : List Int).length + a1.2.2.2.2.length ≤ 4611686018427387904 ∧ r = (([] : List Int) ++ a1.2.2.2.2)) else (∃ q26 : List Int, idx a0 a1.2.1 q26 ∧ (([] : List Int).length + q26.length) * 1 ≤ 140737488355328 ∧ ([] : List Int).length + q26.length ≤ 4611686018427387904 ∧ if (decide (a1.1 = 2)) = true then (0 ≤ (min a1.2.2.1 ((([] : List Int) ++ q26).length : Int)) ∧ (min a1.2.2.1 ((([] : List Int) ++ q26).length : Int)) ≤ ((([] : List Int) ++ q26).length : Int) ∧ ((([] : List Int) ++ q26).length : Int) ≤ ((([] : List Int) ++ q26).length : Int) ∧ 0 ≤ (min a1.2.2.2.1 ((((([] : List Int) ++ q26).drop (min a1.2.2.1 ((([] : List Int) ++ q26).length : Int)).toNat).take ((((([] : List Int) ++ q26).length : Int) : Int) - (min a1.2.2.1 ((([] : List Int) ++ q26).length : Int))).toNat).length : Int)) ∧ (min a1.2.2.2.1 ((((([] : List Int) ++ q26).drop (min a1.2.2.1 ((([] : List Int) ++ q26).length : Int)).toNat).take ((((([] : List Int) ++ q26).length : Int) : Int) - (min a1.2.2.1 ((([] : List Int) ++ q26).length : Int))).toNat).length : Int)) ≤ ((((([] : List Int) ++ q26).drop (min a1.2.2.1 ((([] : List Int) ++ q26).length : Int)).toNat).take ((((([] : List Int) ++ q26).length : Int) : Int) - (min a1.2.2.1 ((([] : List Int) ++ q26).length : Int))).toNat).length : Int) ∧ noise_Bytes_j1 (((((([] : List Int) ++ q26).drop (min a1.2.2.1 ((([] : List Int) ++ q26).length : Int)).toNat).take ((((([] : List Int) ++ q26).length : Int) : Int) - (min a1.2.2.1 ((([] : List Int) ++ q26).length : Int))).toNat).drop (0 : Int).toNat).take (((min a1.2.2.2.1 ((((([] : List Int) ++ q26).drop (min a1.2.2.1 ((([] : List Int) ++ q26).length : Int)).toNat).take ((((([] : List Int) ++ q26).length : Int) : Int) - (min a1.2.2.1 ((([] : List Int) ++ q26).length : Int))).toNat).length : Int)) : Int) - 0).toNat) r) else (if (decide (a1.1 = 3)) = true then (if (decide (a1.2.2.1 < ((([] : List Int) ++ q26).length : Int))) = true then (∃ q57 : Int, idx (([] : List Int) ++ q26) a1.2.2.1 q57 ∧ ∃ q65 : Int, idx (([] : List Int) ++ q26) a1.2.2.1 q65 ∧ noise_Bytes_j1 ((([] : List Int) ++ q26).set a1.2.2.1.toNat (ixor .u8 q57 (IntKind.u8.wrap a1.2.2.2.1))) r) else (noise_Bytes_j1 (([] : List Int) ++ q26) r)) else (noise_Bytes_j1 (([] : List Int) ++ q26) r))))
def noise_Each_1_l1 (S : Type) (Y : (Int × List Int) → S → Bool × S → Prop) (c0 : List (Int × Int × Int × Int × List Int)) (c1 : List (List Int)) (s5 : S × Int) (o5 : Sum (S × Int) (S × Unit)) : Prop :=
  if (decide (s5.2 < (c0.length : Int))) = true then (∃ q8 : Int × Int × Int × Int × List Int, idx c0 s5.2 q8 ∧ ∃ r16 : List Int, noise_Bytes c1 q8 r16 ∧ ∃ y22 : Bool, ∃ u23 : S, Y (s5.2, r16) s5.1 (y22, u23) ∧ if (!y22) = true then (o5 = .inr (u23, ())) else (o5 = .inl (u23, (IntKind.i64.wrap (s5.2 + 1))))) else (o5 = .inr (s5.1, ()))
def noise_Each_1 (c0 : List (Int × Int × Int × Int × List Int)) (c1 : List (List Int)) (S : Type) (Y : (Int × List Int) → S → Bool × S → Prop) (s : S) (r : S × Unit) : Prop :=
  ∃ e5 : S × Unit, Loops (noise_Each_1_l1 S Y c0 c1) (s, 0) e5 ∧ (r = e5)
def noise_Each (a0 : List (List Int)) (a1 : List (Int × Int × Int × Int × List Int)) (r : (((S : Type) → ((Int × List Int) → S → Bool × S → Prop) → S → S × Unit → Prop))) : Prop :=
  r = (noise_Each_1 a1 a0)
def noise_Run_l1  (x13 : Int × List Int) (s13 : List Int) (o13 : Sum (List Int) Unit) : Prop :=
  (s13.length + x13.2.length) * 1 ≤ 140737488355328 ∧ s13.length + x13.2.length ≤ 4611686018427387904 ∧ o13 = .inl (s13 ++ x13.2)
def noise_Run (a0 : List (List Int)) (a1 : List (Int × Int × Int × Int × List Int)) (r : List Int) : Prop :=
  ∃ r6 : (((S : Type) → ((Int × List Int) → S → Bool × S → Prop) → S → S × Unit → Prop)), noise_Each a0 a1 r6 ∧ ∃ (t13 : Sum (List Int) Unit) (w13 : Unit), r6 (Sum (List Int) Unit) (Yof (noise_Run_l1)) (.inl []) (t13, w13) ∧ Aft (fun p24 => r = p24) (fun _ => True) t13
def unicode_utf8_DecodeRuneInString (a0 : ByteArray) (r : Int × Int) : Prop := False ∧ r = r ∧ a0 = a0
def strings_Index (a0 : ByteArray) (a1 : ByteArray) (r : Int) : Prop := ∃ c : Int, bints a1 = [c] ∧ r = (((bints a0).findIdx? (fun x => decide (x = c))).map Int.ofNat).getD (-1)
def strings_splitSeq_1_j1 (S : Type) (Y : ByteArray → S → Bool × S → Prop) (s1 : S × ByteArray) (r : S × ByteArray) : Prop :=
  r = (s1.1, s1.2)
def strings_splitSeq_1_l2 (S : Type) (Y : ByteArray → S → Bool × S → Prop) (s4 : S × ByteArray) (o4 : Sum (S × ByteArray) (Sum (S × ByteArray) (S × ByteArray))) : Prop :=
  if (decide (0 < (s4.2.size : Int))) = true then (∃ r7 : Int × Int, unicode_utf8_DecodeRuneInString s4.2 r7 ∧ 0 ≤ r7.2 ∧ r7.2 ≤ (s4.2.size : Int) ∧ ∃ y13 : Bool, ∃ u14 : S, Y (s4.2.extract 0 r7.2.toNat) s4.1 (y13, u14) ∧ if (!y13) = true then (o4 = .inr (.inr (u14, s4.2))) else (0 ≤ r7.2 ∧ r7.2 ≤ (s4.2.size : Int) ∧ o4 = .inl (u14, (s4.2.extract r7.2.toNat s4.2.size)))) else (o4 = .inr (.inl (s4.1, s4.2)))
def strings_splitSeq_1_j3 (S : Type) (Y : ByteArray → S → Bool × S → Prop) (s24 : S × ByteArray) (r : S × ByteArray) : Prop :=
  ∃ y27 : Bool, ∃ u28 : S, Y s24.2 s24.1 (y27, u28) ∧ r = (u28, s24.2)
def strings_splitSeq_1_l4 (S : Type) (Y : ByteArray → S → Bool × S → Prop) (c0 : ByteArray) (c2 : Int) (s34 : S × ByteArray) (o34 : Sum (S × ByteArray) (Sum (S × ByteArray) (S × ByteArray))) : Prop :=
  ∃ r37 : Int, strings_Index s34.2 c0 r37 ∧ if (decide (r37 < 0)) = true then (o34 = .inr (.inl (s34.1, s34.2))) else (0 ≤ (IntKind.i64.wrap (r37 + c2)) ∧ (IntKind.i64.wrap (r37 + c2)) ≤ (s34.2.size : Int) ∧ ∃ y43 : Bool, ∃ u44 : S, Y (s34.2.extract 0 (IntKind.i64.wrap (r37 + c2)).toNat) s34.1 (y43, u44) ∧ if (!y43) = true then (o34 = .inr (.inr (u44, s34.2))) else (0 ≤ (IntKind.i64.wrap (r37 + (c0.size : Int))) ∧ (IntKind.i64.wrap (r37 + (c0.size : Int))) ≤ (s34.2.size : Int) ∧ o34 = .inl (u44, (s34.2.extract (IntKind.i64.wrap (r37 + (c0.size : Int))).toNat s34.2.size))))
def strings_splitSeq_1 (c0 : ByteArray) (c2 : Int) (c1 : ByteArray) (S : Type) (Y : ByteArray → S → Bool × S → Prop) (s : S) (r : S × ByteArray) : Prop :=
  if (decide ((c0.size : Int) = 0)) = true then (∃ e4 : (Sum (S × ByteArray) (S × ByteArray)), Loops (strings_splitSeq_1_l2 S Y) (s, c1) e4 ∧ Aft (fun p22 => strings_splitSeq_1_j1 S Y p22 r) (fun p23 => r = p23) e4) else (∃ e34 : (Sum (S × ByteArray) (S × ByteArray)), Loops (strings_splitSeq_1_l4 S Y c0 c2) (s, c1) e34 ∧ Aft (fun p52 => strings_splitSeq_1_j3 S Y p52 r) (fun p53 => r = p53) e34)
def strings_splitSeq (a0 : ByteArray) (a1 : ByteArray) (a2 : Int) (r : ((ByteArray → (S : Type) → (ByteArray → S → Bool × S → Prop) → S → S × ByteArray → Prop)) × ByteArray) : Prop :=
  r = ((strings_splitSeq_1 a1 a2), a0)
def strings_SplitSeq (a0 : ByteArray) (a1 : ByteArray) (r : ((ByteArray → (S : Type) → (ByteArray → S → Bool × S → Prop) → S → S × ByteArray → Prop)) × ByteArray) : Prop :=
  ∃ r1 : ((ByteArray → (S : Type) → (ByteArray → S → Bool × S → Prop) → S → S × ByteArray → Prop)) × ByteArray, strings_splitSeq a0 a1 0 r1 ∧ r = (r1.1, r1.2)
def say_Words_1_l1 (S : Type) (Y : (Int × ByteArray) → S → Bool × S → Prop) (x14 : ByteArray) (s14 : S × Int) (o14 : Sum (S × Int) (S × Int)) : Prop :=
  ∃ y17 : Bool, ∃ u18 : S, Y (s14.2, x14) s14.1 (y17, u18) ∧ if (!y17) = true then (o14 = .inr (u18, s14.2)) else (o14 = .inl (u18, (IntKind.i64.wrap (s14.2 + (IntKind.i64.wrap ((x14.size : Int) + 1))))))
def say_Words_1 (c0 : ByteArray) (S : Type) (Y : (Int × ByteArray) → S → Bool × S → Prop) (s : S) (r : S × Unit) : Prop :=
  ∃ r3 : ((ByteArray → (S : Type) → (ByteArray → S → Bool × S → Prop) → S → S × ByteArray → Prop)) × ByteArray, strings_SplitSeq c0 (bstr [32]) r3 ∧ ∃ (t14 : Sum (S × Int) (S × Int)) (w14 : ByteArray), r3.1 r3.2 (Sum (S × Int) (S × Int)) (Yof (say_Words_1_l1 S Y)) (.inl (s, 0)) (t14, w14) ∧ Aft (fun p30 => r = (p30.1, ())) (fun p24 => r = (p24.1, ())) t14
def say_Words (a0 : ByteArray) (r : (((S : Type) → ((Int × ByteArray) → S → Bool × S → Prop) → S → S × Unit → Prop))) : Prop :=
  r = (say_Words_1 a0)
def strings_IndexByte (a0 : ByteArray) (a1 : Int) (r : Int) : Prop := IntOk .u8 a1 ∧ r = (((bints a0).findIdx? (fun x => decide (x = a1))).map Int.ofNat).getD (-1)
def noise_unhex_j2  (s2 : List Int) (r : List Int × Int) : Prop :=
  r = (s2, 0)
def noise_unhex_j4 (s12 : List Int × Int) (r18 : Int) (r24 : Int) (s29 : Bool) (o12 : Sum (List Int × Int) (Sum (List Int) (List Int × Int))) : Prop :=
  if s29 = true then (o12 = .inr (.inr ([], 3))) else ((s12.1.length + [(IntKind.u8.wrap (ior .i64 (ishl .i64 r18 4) r24))].length) * 1 ≤ 140737488355328 ∧ s12.1.length + [(IntKind.u8.wrap (ior .i64 (ishl .i64 r18 4) r24))].length ≤ 4611686018427387904 ∧ o12 = .inl ((s12.1 ++ [(IntKind.u8.wrap (ior .i64 (ishl .i64 r18 4) r24))]), (IntKind.i64.wrap (s12.2 + 2))))
def noise_unhex_l3 (a0 : ByteArray) (s12 : List Int × Int) (o12 : Sum (List Int × Int) (Sum (List Int) (List Int × Int))) : Prop :=
  if (decide (s12.2 < (a0.size : Int))) = true then (∃ q16 : Int, idx (bints a0) s12.2 q16 ∧ ∃ r18 : Int, strings_IndexByte (bstr [48, 49, 50, 51, 52, 53, 54, 55, 56, 57, 97, 98, 99, 100, 101, 102]) q16 r18 ∧ ∃ q22 : Int, idx (bints a0) (IntKind.i64.wrap (s12.2 + 1)) q22 ∧ ∃ r24 : Int, strings_IndexByte (bstr [48, 49, 50, 51, 52, 53, 54, 55, 56, 57, 97, 98, 99, 100, 101, 102]) q22 r24 ∧ if (decide (r18 < 0)) = true then (noise_unhex_j4 s12 r18 r24 true o12) else (noise_unhex_j4 s12 r18 r24 (decide (r24 < 0)) o12)) else (o12 = .inr (.inl s12.1))
def noise_unhex_j1 (a0 : ByteArray) (s1 : Bool) (r : List Int × Int) : Prop :=
  if s1 = true then (r = ([], 3)) else (∃ e12 : (Sum (List Int) (List Int × Int)), Loops (noise_unhex_l3 a0) ([], 0) e12 ∧ Aft (fun p38 => noise_unhex_j2 p38 r) (fun p39 => r = p39) e12)
def noise_unhex (a0 : ByteArray) (r : List Int × Int) : Prop :=
  if (decide (a0 = (bstr [45]))) = true then (r = ([], 0)) else (if (decide (a0 = (bstr []))) = true then (noise_unhex_j1 a0 true r) else (noise_unhex_j1 a0 (!(decide (((a0.size : Int).tmod 2) = 0))) r))
def strconv_ParseInt (a0 : ByteArray) (a1 : Int) (a2 : Int) (r : Int × Bool) : Prop := a1 = 10 ∧ a2 = 64 ∧ a0.size ≤ 281474976710656 ∧ r = pi64 (bints a0)
def internal_stringslite_HasPrefix_j1  (s1 : Bool) (r : Bool) : Prop :=
  r = s1
def internal_stringslite_HasPrefix (a0 : ByteArray) (a1 : ByteArray) (r : Bool) : Prop :=
  if (decide ((a1.size : Int) ≤ (a0.size : Int))) = true then (0 ≤ (a1.size : Int) ∧ (a1.size : Int) ≤ (a0.size : Int) ∧ internal_stringslite_HasPrefix_j1 (decide ((a0.extract 0 (a1.size : Int).toNat) = a1)) r) else (internal_stringslite_HasPrefix_j1 false r)
def internal_stringslite_TrimPrefix (a0 : ByteArray) (a1 : ByteArray) (r : ByteArray) : Prop :=
  ∃ r1 : Bool, internal_stringslite_HasPrefix a0 a1 r1 ∧ if r1 = true then (0 ≤ (a1.size : Int) ∧ (a1.size : Int) ≤ (a0.size : Int) ∧ r = (a0.extract (a1.size : Int).toNat a0.size)) else (r = a0)
def strings_TrimPrefix (a0 : ByteArray) (a1 : ByteArray) (r : ByteArray) : Prop :=
  ∃ r1 : ByteArray, internal_stringslite_TrimPrefix a0 a1 r1 ∧ r = r1
def strings_trimRightByte_j1  (s1 : ByteArray) (r : ByteArray) : Prop :=
  r = s1
def strings_trimRightByte_j3 (s2 : ByteArray) (s3 : Bool) (o2 : Sum ByteArray ByteArray) : Prop :=
  if s3 = true then (0 ≤ (IntKind.i64.wrap ((s2.size : Int) - 1)) ∧ (IntKind.i64.wrap ((s2.size : Int) - 1)) ≤ (s2.size : Int) ∧ o2 = .inl (s2.extract 0 (IntKind.i64.wrap ((s2.size : Int) - 1)).toNat)) else (o2 = .inr s2)
def strings_trimRightByte_l2 (a1 : Int) (s2 : ByteArray) (o2 : Sum ByteArray ByteArray) : Prop :=
  if (decide (0 < (s2.size : Int))) = true then (∃ q6 : Int, idx (bints s2) (IntKind.i64.wrap ((s2.size : Int) - 1)) q6 ∧ strings_trimRightByte_j3 s2 (decide (q6 = a1)) o2) else (strings_trimRightByte_j3 s2 false o2)
def strings_trimRightByte (a0 : ByteArray) (a1 : Int) (r : ByteArray) : Prop :=
  ∃ e2 : ByteArray, Loops (strings_trimRightByte_l2 a1) a0 e2 ∧ (strings_trimRightByte_j1 e2 r)
def strings_trimLeftByte_j1  (s1 : ByteArray) (r : ByteArray) : Prop :=
  r = s1
def strings_trimLeftByte_j3 (s2 : ByteArray) (s3 : Bool) (o2 : Sum ByteArray ByteArray) : Prop :=
  if s3 = true then (1 ≤ (s2.size : Int) ∧ o2 = .inl (s2.extract (1 : Int).toNat s2.size)) else (o2 = .inr s2)
def strings_trimLeftByte_l2 (a1 : Int) (s2 : ByteArray) (o2 : Sum ByteArray ByteArray) : Prop :=
  if (decide (0 < (s2.size : Int))) = true then (∃ q5 : Int, idx (bints s2) 0 q5 ∧ strings_trimLeftByte_j3 s2 (decide (q5 = a1)) o2) else (strings_trimLeftByte_j3 s2 false o2)
def strings_trimLeftByte (a0 : ByteArray) (a1 : Int) (r : ByteArray) : Prop :=
  ∃ e2 : ByteArray, Loops (strings_trimLeftByte_l2 a1) a0 e2 ∧ (strings_trimLeftByte_j1 e2 r)
def strings_makeASCIISet_j1  (s2 : List Bool) (r : List Bool × Bool) : Prop :=
  r = (s2, true)
def strings_makeASCIISet_l2 (a0 : ByteArray) (s3 : Int × List Bool) (o3 : Sum (Int × List Bool) (Sum (List Bool) (List Bool × Bool))) : Prop :=
  if (decide (s3.1 < (a0.size : Int))) = true then (∃ q4 : Int, idx (bints a0) s3.1 q4 ∧ if (decide (128 ≤ q4)) = true then (o3 = .inr (.inr (s3.2, false))) else (0 ≤ q4 ∧ q4 < 256 ∧ o3 = .inl ((IntKind.i64.wrap (s3.1 + 1)), (putN 256 false s3.2 q4.toNat true)))) else (o3 = .inr (.inl s3.2))
def strings_makeASCIISet (a0 : ByteArray) (r : List Bool × Bool) : Prop :=
  ∃ e3 : (Sum (List Bool) (List Bool × Bool)), Loops (strings_makeASCIISet_l2 a0) (0, (List.replicate 256 false)) e3 ∧ Aft (fun p8 => strings_makeASCIISet_j1 p8 r) (fun p9 => r = p9) e3
def strings_asciiSet_contains (a0 : List Bool) (a1 : Int) (r : Bool) : Prop :=
  0 ≤ a1 ∧ a1 < 256 ∧ r = (a0.getD a1.toNat false)
def strings_trimRightASCII_j1  (s1 : ByteArray) (r : ByteArray) : Prop :=
  r = s1
def strings_trimRightASCII_l2 (a1 : List Bool) (s2 : ByteArray) (o2 : Sum ByteArray ByteArray) : Prop :=
  if (decide (0 < (s2.size : Int))) = true then (∃ q3 : Int, idx (bints s2) (IntKind.i64.wrap ((s2.size : Int) - 1)) q3 ∧ ∃ r5 : Bool, strings_asciiSet_contains a1 q3 r5 ∧ if (!r5) = true then (o2 = .inr s2) else (0 ≤ (IntKind.i64.wrap ((s2.size : Int) - 1)) ∧ (IntKind.i64.wrap ((s2.size : Int) - 1)) ≤ (s2.size : Int) ∧ o2 = .inl (s2.extract 0 (IntKind.i64.wrap ((s2.size : Int) - 1)).toNat))) else (o2 = .inr s2)
def strings_trimRightASCII (a0 : ByteArray) (a1 : List Bool) (r : ByteArray) : Prop :=
  ∃ e2 : ByteArray, Loops (strings_trimRightASCII_l2 a1) a0 e2 ∧ (strings_trimRightASCII_j1 e2 r)
def strings_trimLeftASCII_j1  (s1 : ByteArray) (r : ByteArray) : Prop :=
  r = s1
def strings_trimLeftASCII_l2 (a1 : List Bool) (s2 : ByteArray) (o2 : Sum ByteArray ByteArray) : Prop :=
  if (decide (0 < (s2.size : Int))) = true then (∃ q3 : Int, idx (bints s2) 0 q3 ∧ ∃ r5 : Bool, strings_asciiSet_contains a1 q3 r5 ∧ if (!r5) = true then (o2 = .inr s2) else (1 ≤ (s2.size : Int) ∧ o2 = .inl (s2.extract (1 : Int).toNat s2.size))) else (o2 = .inr s2)
def strings_trimLeftASCII (a0 : ByteArray) (a1 : List Bool) (r : ByteArray) : Prop :=
  ∃ e2 : ByteArray, Loops (strings_trimLeftASCII_l2 a1) a0 e2 ∧ (strings_trimLeftASCII_j1 e2 r)
def unicode_utf8_RuneStart (a0 : Int) (r : Bool) : Prop :=
  r = (!(decide ((iand .u8 a0 192) = 128)))
def unicode_utf8_DecodeLastRuneInString_j2 (a0 : ByteArray) (s4 : Int) (r : Int × Int) : Prop :=
  0 ≤ s4 ∧ s4 ≤ (a0.size : Int) ∧ (a0.size : Int) ≤ (a0.size : Int) ∧ ∃ r8 : Int × Int, unicode_utf8_DecodeRuneInString (a0.extract s4.toNat (a0.size : Int).toNat) r8 ∧ if (!(decide ((IntKind.i64.wrap (s4 + r8.2)) = (a0.size : Int)))) = true then (r = (65533, 1)) else (r = (r8.1, r8.2))
def unicode_utf8_DecodeLastRuneInString_j1 (a0 : ByteArray) (s3 : Int) (r : Int × Int) : Prop :=
  if (decide (s3 < 0)) = true then (unicode_utf8_DecodeLastRuneInString_j2 a0 0 r) else (unicode_utf8_DecodeLastRuneInString_j2 a0 s3 r)
def unicode_utf8_DecodeLastRuneInString_l3 (a0 : ByteArray) (s12 : Int) (o12 : Sum Int Int) : Prop :=
  if (decide ((max (IntKind.i64.wrap ((a0.size : Int) - 4)) 0) ≤ s12)) = true then (∃ q13 : Int, idx (bints a0) s12 q13 ∧ ∃ r15 : Bool, unicode_utf8_RuneStart q13 r15 ∧ if r15 = true then (o12 = .inr s12) else (o12 = .inl (IntKind.i64.wrap (s12 - 1)))) else (o12 = .inr s12)
def unicode_utf8_DecodeLastRuneInString (a0 : ByteArray) (r : Int × Int) : Prop :=
  if (decide ((a0.size : Int) = 0)) = true then (r = (65533, 0)) else (∃ q1 : Int, idx (bints a0) (IntKind.i64.wrap ((a0.size : Int) - 1)) q1 ∧ if (decide ((IntKind.i32.wrap q1) < 128)) = true then (r = ((IntKind.i32.wrap q1), 1)) else (∃ e12 : Int, Loops (unicode_utf8_DecodeLastRuneInString_l3 a0) (IntKind.i64.wrap ((IntKind.i64.wrap ((a0.size : Int) - 1)) - 1)) e12 ∧ (unicode_utf8_DecodeLastRuneInString_j1 a0 e12 r)))
def unicode_utf8_ValidRune_j2  (s2 : Bool) (r : Bool) : Prop :=
  if s2 = true then (r = true) else (r = false)
def unicode_utf8_ValidRune_j1 (a0 : Int) (s1 : Bool) (r : Bool) : Prop :=
  if s1 = true then (r = true) else (if (decide (57343 < a0)) = true then (unicode_utf8_ValidRune_j2 (decide (a0 ≤ 1114111)) r) else (unicode_utf8_ValidRune_j2 false r))
def unicode_utf8_ValidRune (a0 : Int) (r : Bool) : Prop :=
  if (decide (0 ≤ a0)) = true then (unicode_utf8_ValidRune_j1 a0 (decide (a0 < 55296)) r) else (unicode_utf8_ValidRune_j1 a0 false r)
def strings_IndexRune_j1 (a0 : ByteArray) (a1 : Int) (s1 : Bool) (r : Int) : Prop :=
  if s1 = true then (∃ r2 : Int, strings_IndexByte a0 (IntKind.u8.wrap a1) r2 ∧ r = r2) else (if (decide (a1 = 65533)) = true then (False) else (∃ r6 : Bool, unicode_utf8_ValidRune a1 r6 ∧ if (!r6) = true then (r = (-1)) else (False)))
def strings_IndexRune (a0 : ByteArray) (a1 : Int) (r : Int) : Prop :=
  if (decide (0 ≤ a1)) = true then (strings_IndexRune_j1 a0 a1 (decide (a1 < 128)) r) else (strings_IndexRune_j1 a0 a1 false r)
def strings_ContainsRune (a0 : ByteArray) (a1 : Int) (r : Bool) : Prop :=
  ∃ r1 : Int, strings_IndexRune a0 a1 r1 ∧ r = (decide (0 ≤ r1))
def strings_trimRightUnicode_j1  (s1 : ByteArray) (r : ByteArray) : Prop :=
  r = s1
def strings_trimRightUnicode_j3 (a1 : ByteArray) (s2 : ByteArray) (s5 : Int × Int) (o2 : Sum ByteArray ByteArray) : Prop :=
  ∃ r6 : Bool, strings_ContainsRune a1 s5.1 r6 ∧ if (!r6) = true then (o2 = .inr s2) else (0 ≤ (IntKind.i64.wrap ((s2.size : Int) - s5.2)) ∧ (IntKind.i64.wrap ((s2.size : Int) - s5.2)) ≤ (s2.size : Int) ∧ o2 = .inl (s2.extract 0 (IntKind.i64.wrap ((s2.size : Int) - s5.2)).toNat))
def strings_trimRightUnicode_l2 (a1 : ByteArray) (s2 : ByteArray) (o2 : Sum ByteArray ByteArray) : Prop :=
  if (decide (0 < (s2.size : Int))) = true then (∃ q3 : Int, idx (bints s2) (IntKind.i64.wrap ((s2.size : Int) - 1)) q3 ∧ if (decide (128 ≤ (IntKind.i32.wrap q3))) = true then (∃ r12 : Int × Int, unicode_utf8_DecodeLastRuneInString s2 r12 ∧ strings_trimRightUnicode_j3 a1 s2 (r12.1, r12.2) o2) else (strings_trimRightUnicode_j3 a1 s2 ((IntKind.i32.wrap q3), 1) o2)) else (o2 = .inr s2)
def strings_trimRightUnicode (a0 : ByteArray) (a1 : ByteArray) (r : ByteArray) : Prop :=
  ∃ e2 : ByteArray, Loops (strings_trimRightUnicode_l2 a1) a0 e2 ∧ (strings_trimRightUnicode_j1 e2 r)
def strings_trimLeftUnicode_j1  (s1 : ByteArray) (r : ByteArray) : Prop :=
  r = s1
def strings_trimLeftUnicode_l2 (a1 : ByteArray) (s2 : ByteArray) (o2 : Sum ByteArray ByteArray) : Prop :=
  if (decide (0 < (s2.size : Int))) = true then (∃ r3 : Int × Int, unicode_utf8_DecodeRuneInString s2 r3 ∧ ∃ r7 : Bool, strings_ContainsRune a1 r3.1 r7 ∧ if (!r7) = true then (o2 = .inr s2) else (0 ≤ r3.2 ∧ r3.2 ≤ (s2.size : Int) ∧ o2 = .inl (s2.extract r3.2.toNat s2.size))) else (o2 = .inr s2)
def strings_trimLeftUnicode (a0 : ByteArray) (a1 : ByteArray) (r : ByteArray) : Prop :=
  ∃ e2 : ByteArray, Loops (strings_trimLeftUnicode_l2 a1) a0 e2 ∧ (strings_trimLeftUnicode_j1 e2 r)
def strings_Trim_j2 (a0 : ByteArray) (a1 : ByteArray) (s2 : Bool) (r : ByteArray) : Prop :=
  if s2 = true then (∃ q3 : Int, idx (bints a1) 0 q3 ∧ ∃ r5 : ByteArray, strings_trimRightByte a0 q3 r5 ∧ ∃ q9 : Int, idx (bints a1) 0 q9 ∧ ∃ r11 : ByteArray, strings_trimLeftByte r5 q9 r11 ∧ r = r11) else (∃ r16 : List Bool × Bool, strings_makeASCIISet a1 r16 ∧ if r16.2 = true then (∃ r21 : ByteArray, strings_trimRightASCII a0 r16.1 r21 ∧ ∃ r25 : ByteArray, strings_trimLeftASCII r21 r16.1 r25 ∧ r = r25) else (∃ r29 : ByteArray, strings_trimRightUnicode a0 a1 r29 ∧ ∃ r33 : ByteArray, strings_trimLeftUnicode r29 a1 r33 ∧ r = r33))
def strings_Trim_j1 (a0 : ByteArray) (a1 : ByteArray) (s1 : Bool) (r : ByteArray) : Prop :=
  if s1 = true then (r = a0) else (if (decide ((a1.size : Int) = 1)) = true then (∃ q37 : Int, idx (bints a1) 0 q37 ∧ strings_Trim_j2 a0 a1 (decide (q37 < 128)) r) else (strings_Trim_j2 a0 a1 false r))
def strings_Trim (a0 : ByteArray) (a1 : ByteArray) (r : ByteArray) : Prop :=
  if (decide (a0 = (bstr []))) = true then (strings_Trim_j1 a0 a1 true r) else (strings_Trim_j1 a0 a1 (decide (a1 = (bstr []))) r)
def say_Read_j1 (r1 : Int × Bool) (s11 : Bool) (r : Int × Int) : Prop :=
  if s11 = true then (r = (0, 3)) else (if r1.2 = true then (r = (0, 5)) else (r = (r1.1, 0)))
def say_Read (a0 : ByteArray) (r : Int × Int) : Prop :=
  ∃ r1 : Int × Bool, strconv_ParseInt a0 10 64 r1 ∧ ∃ r7 : ByteArray, strings_TrimPrefix a0 (bstr [45]) r7 ∧ if (decide (r7 = (bstr []))) = true then (say_Read_j1 r1 true r) else (∃ r12 : ByteArray, strings_Trim r7 (bstr [48, 49, 50, 51, 52, 53, 54, 55, 56, 57]) r12 ∧ if (!(decide (r12 = (bstr [])))) = true then (say_Read_j1 r1 true r) else (∃ q16 : Int, idx (bints r7) 0 q16 ∧ if (decide (q16 = 48)) = true then (say_Read_j1 r1 (!(decide (a0 = (bstr [48])))) r) else (say_Read_j1 r1 false r)))
def noise_Parse_l1  (x10 : Int × ByteArray) (s10 : List ByteArray) (o10 : Sum (List ByteArray) Unit) : Prop :=
  (s10.length + [x10.2].length) * 16 ≤ 140737488355328 ∧ s10.length + [x10.2].length ≤ 4611686018427387904 ∧ o10 = .inl (s10 ++ [x10.2])
def noise_Parse_j4 (s29 : Int × Int) (s30 : Int × List Int) (s33 : Int × Int × Int) (r : (Int × Int × Int × Int × List Int) × Int) : Prop :=
  r = ((s29.2, s33.1, s33.2.1, s33.2.2, s30.2), 0)
def noise_Parse_l5 (p22 : List ByteArray) (s29 : Int × Int) (s34 : Int × Int × Int × Int) (o34 : Sum (Int × Int × Int × Int) (Sum (Int × Int × Int) ((Int × Int × Int × Int × List Int) × Int))) : Prop :=
  if (decide (s34.1 < 3)) = true then (0 ≤ s34.1 ∧ s34.1 < 3 ∧ if (decide (s29.1 ≤ s34.1)) = true then (o34 = .inr (.inl (s34.2.1, s34.2.2.1, s34.2.2.2))) else (∃ q37 : ByteArray, idx p22 (IntKind.i64.wrap (s34.1 + 1)) q37 ∧ ∃ r44 : Int × Int, say_Read q37 r44 ∧ if (!(decide (r44.2 = 0))) = true then (o34 = .inr (.inr ((0, 0, 0, 0, []), r44.2))) else (o34 = .inl ((IntKind.i64.wrap (s34.1 + 1)), ((putN 3 0 [s34.2.1, s34.2.2.1, s34.2.2.2] s34.1.toNat r44.1).getD 0 0), ((putN 3 0 [s34.2.1, s34.2.2.1, s34.2.2.2] s34.1.toNat r44.1).getD 1 0), ((putN 3 0 [s34.2.1, s34.2.2.1, s34.2.2.2] s34.1.toNat r44.1).getD 2 0))))) else (o34 = .inr (.inl (s34.2.1, s34.2.2.1, s34.2.2.2)))
def noise_Parse_j3 (p22 : List ByteArray) (s29 : Int × Int) (s30 : Int × List Int) (r : (Int × Int × Int × Int × List Int) × Int) : Prop :=
  if (!(decide (s30.1 = 0))) = true then (r = ((0, 0, 0, 0, []), s30.1)) else (∃ e34 : (Sum (Int × Int × Int) ((Int × Int × Int × Int × List Int) × Int)), Loops (noise_Parse_l5 p22 s29) (0, 0, 0, 0) e34 ∧ Aft (fun p48 => noise_Parse_j4 s29 s30 p48 r) (fun p49 => r = p49) e34)
def noise_Parse_j2 (p22 : List ByteArray) (s29 : Int × Int) (r : (Int × Int × Int × Int × List Int) × Int) : Prop :=
  if (decide (s29.2 = 0)) = true then (noise_Parse_j3 p22 s29 (9, []) r) else (if (!(decide ((p22.length : Int) = (IntKind.i64.wrap (1 + (max s29.1 1)))))) = true then (noise_Parse_j3 p22 s29 (3, []) r) else (if (decide (s29.1 = 0)) = true then (∃ q50 : ByteArray, idx p22 1 q50 ∧ ∃ r57 : List Int × Int, noise_unhex q50 r57 ∧ noise_Parse_j3 p22 s29 (r57.2, r57.1) r) else (noise_Parse_j3 p22 s29 (0, []) r)))
def noise_Parse_j7 (s63 : Int × Int × Int) (s64 : Int × Int) (o63 : Sum (Int × Int × Int) (Int × Int)) : Prop :=
  o63 = .inl (s64.1, (IntKind.i64.wrap (s63.2.1 + 1)), s64.2)
def noise_Parse_l6 (p22 : List ByteArray) (s63 : Int × Int × Int) (o63 : Sum (Int × Int × Int) (Int × Int)) : Prop :=
  if (decide (s63.2.1 ≤ 4)) = true then (∃ r65 : ByteArray × Int, noise_word s63.2.1 r65 ∧ ∃ q69 : ByteArray, idx p22 0 q69 ∧ if (decide (r65.1 = q69)) = true then (noise_Parse_j7 s63 (r65.2, s63.2.1) o63) else (noise_Parse_j7 s63 (s63.1, s63.2.2) o63)) else (o63 = .inr (s63.1, s63.2.2))
def noise_Parse (a0 : ByteArray) (r : (Int × Int × Int × Int × List Int) × Int) : Prop :=
  ∃ r3 : (((S : Type) → ((Int × ByteArray) → S → Bool × S → Prop) → S → S × Unit → Prop)), say_Words a0 r3 ∧ ∃ (t10 : Sum (List ByteArray) Unit) (w10 : Unit), r3 (Sum (List ByteArray) Unit) (Yof (noise_Parse_l1)) (.inl []) (t10, w10) ∧ Aft (fun p22 => ∃ e63 : Int × Int, Loops (noise_Parse_l6 p22) (0, 1, 0) e63 ∧ (noise_Parse_j2 p22 e63 r)) (fun _ => True) t10
def law26_known_j1  (s37 : Bool) (r : Bool) : Prop :=
  r = s37
def law26_known  (r : Bool) : Prop :=
  ∃ r24 : List Int, noise_Run [[1, 2, 3]] [(2, 0, 1, 5, []), (3, 0, 2, 255, [])] r24 ∧ ∃ r30 : (Int × Int × Int × Int × List Int) × Int, noise_Parse (bstr [106, 117, 110, 107, 32, 48, 48, 48, 57]) r30 ∧ ∃ r45 : Bool, ref01_Same r24 [2, 3, 1, 2, 252] r45 ∧ if r45 = true then (if (decide (r30.2 = 0)) = true then (if (decide (r30.1.1 = 4)) = true then (∃ r56 : Bool, ref01_Same r30.1.2.2.2.2 [0, 9] r56 ∧ law26_known_j1 r56 r) else (law26_known_j1 false r)) else (law26_known_j1 false r)) else (law26_known_j1 false r)
def noise_Honest_l1  (x17 : Int) (s17 : Unit) (o17 : Sum Unit Unit) : Prop :=
  o17 = .inr ()
def noise_Honest (a0 : List Int) (a1 : List (List Int)) (a2 : List Int) (r : Bool) : Prop :=
  ∃ r10 : (((S : Type) → (Int → S → Bool × S → Prop) → S → S × Unit → Prop)), noise_Forged a0 a1 a2 r10 ∧ ∃ (t17 : Sum Unit Unit) (w17 : Unit), r10 (Sum Unit Unit) (Yof (noise_Honest_l1)) (.inl ()) (t17, w17) ∧ Aft (fun p21 => r = true) (fun p18 => r = false) t17
def frame_Codec_Check (a0 : List Int) (a1 : (Int × Int × Int × Int × Int) × List Int) (r : Int) : Prop :=
  ∃ r8 : Int, head_Check a1.1 r8 ∧ if (!(decide (r8 = 0))) = true then (r = r8) else (if (decide ((a1.2.length : Int) = 0)) = true then (r = 13) else (if (decide (242 < (a1.2.length : Int))) = true then (r = 2) else (r = 0)))
def head_Bytes (a0 : Int × Int × Int × Int × Int) (r : List Int × Int) : Prop :=
  ∃ r2 : Int, head_Check a0 r2 ∧ if (!(decide (r2 = 0))) = true then (r = ([], r2)) else (r = ([(IntKind.u8.wrap a0.1), (IntKind.u8.wrap a0.2.1), (IntKind.u8.wrap a0.2.2.1), (IntKind.u8.wrap (ishr .u32 a0.2.2.1 8)), (IntKind.u8.wrap (ishr .u32 a0.2.2.1 16)), (IntKind.u8.wrap (ishr .u32 a0.2.2.1 24)), (IntKind.u8.wrap a0.2.2.2.1), (IntKind.u8.wrap a0.2.2.2.2)], 0))
def crc_Seal (a0 : List Int) (a1 : List Int) (r : List Int) : Prop :=
  ∃ r12 : Int, crc_Table_Sum a0 [a1] r12 ∧ ∃ r16 : List Int, crc_bytes r12 r16 ∧ (([] : List Int).length + a1.length) * 1 ≤ 140737488355328 ∧ ([] : List Int).length + a1.length ≤ 4611686018427387904 ∧ ((([] : List Int) ++ a1).length + [(r16.getD 0 0), (r16.getD 1 0), (r16.getD 2 0), (r16.getD 3 0)].length) * 1 ≤ 140737488355328 ∧ (([] : List Int) ++ a1).length + [(r16.getD 0 0), (r16.getD 1 0), (r16.getD 2 0), (r16.getD 3 0)].length ≤ 4611686018427387904 ∧ r = ((([] : List Int) ++ a1) ++ [(r16.getD 0 0), (r16.getD 1 0), (r16.getD 2 0), (r16.getD 3 0)])
def cobs_block_j1 (a0 : List Int) (s3 : Unit) (r : Int × Int × Bool) : Prop :=
  if (decide (254 ≤ (a0.length : Int))) = true then (r = (254, 254, (decide (254 < (a0.length : Int))))) else (r = ((a0.length : Int), (a0.length : Int), false))
def cobs_block_l2 (a0 : List Int) (s8 : Int) (o8 : Sum Int (Sum Unit (Int × Int × Bool))) : Prop :=
  if (decide (s8 < (((a0.drop (0 : Int).toNat).take (((min (a0.length : Int) 254) : Int) - 0).toNat).length : Int))) = true then (∃ q9 : Int, idx ((a0.drop (0 : Int).toNat).take (((min (a0.length : Int) 254) : Int) - 0).toNat) s8 q9 ∧ if (decide (q9 = 0)) = true then (o8 = .inr (.inr (s8, (IntKind.i64.wrap (s8 + 1)), true))) else (o8 = .inl (IntKind.i64.wrap (s8 + 1)))) else (o8 = .inr (.inl ()))
def cobs_block (a0 : List Int) (r : Int × Int × Bool) : Prop :=
  0 ≤ (min (a0.length : Int) 254) ∧ (min (a0.length : Int) 254) ≤ (a0.length : Int) ∧ ∃ e8 : (Sum Unit (Int × Int × Bool)), Loops (cobs_block_l2 a0) 0 e8 ∧ Aft (fun p14 => cobs_block_j1 a0 p14 r) (fun p15 => r = p15) e8
def cobs_Blocks_1_l1 (S : Type) (Y : (List Int) → S → Bool × S → Prop) (s3 : S × List Int × Bool) (o3 : Sum (S × List Int × Bool) (S × Unit)) : Prop :=
  if s3.2.2 = true then (∃ r8 : Int × Int × Bool, cobs_block s3.2.1 r8 ∧ 0 ≤ r8.1 ∧ r8.1 ≤ (s3.2.1.length : Int) ∧ r8.1 ≤ r8.1 ∧ r8.1 ≤ (s3.2.1.length : Int) ∧ (([] : List Int).length + ((s3.2.1.drop (0 : Int).toNat).take ((r8.1 : Int) - 0).toNat).length) * 1 ≤ 140737488355328 ∧ ([] : List Int).length + ((s3.2.1.drop (0 : Int).toNat).take ((r8.1 : Int) - 0).toNat).length ≤ 4611686018427387904 ∧ ∃ y30 : Bool, ∃ u31 : S, Y (([] : List Int) ++ ((s3.2.1.drop (0 : Int).toNat).take ((r8.1 : Int) - 0).toNat)) s3.1 (y30, u31) ∧ if (!y30) = true then (o3 = .inr (u31, ())) else (0 ≤ r8.2.1 ∧ r8.2.1 ≤ (s3.2.1.length : Int) ∧ (s3.2.1.length : Int) ≤ (s3.2.1.length : Int) ∧ o3 = .inl (u31, ((s3.2.1.drop r8.2.1.toNat).take (((s3.2.1.length : Int) : Int) - r8.2.1).toNat), r8.2.2))) else (o3 = .inr (s3.1, ()))
def cobs_Blocks_1 (c0 : List Int) (S : Type) (Y : (List Int) → S → Bool × S → Prop) (s : S) (r : S × Unit) : Prop :=
  ∃ e3 : S × Unit, Loops (cobs_Blocks_1_l1 S Y) (s, c0, true) e3 ∧ (r = e3)
def cobs_Blocks (a0 : List Int) (r : (((S : Type) → ((List Int) → S → Bool × S → Prop) → S → S × Unit → Prop))) : Prop :=
  r = (cobs_Blocks_1 a0)
def cobs_Encode_l1  (x11 : List Int) (s11 : List Int) (o11 : Sum (List Int) Unit) : Prop :=
  (s11.length + [(IntKind.u8.wrap (IntKind.i64.wrap ((x11.length : Int) + 1)))].length) * 1 ≤ 140737488355328 ∧ s11.length + [(IntKind.u8.wrap (IntKind.i64.wrap ((x11.length : Int) + 1)))].length ≤ 4611686018427387904 ∧ ((s11 ++ [(IntKind.u8.wrap (IntKind.i64.wrap ((x11.length : Int) + 1)))]).length + x11.length) * 1 ≤ 140737488355328 ∧ (s11 ++ [(IntKind.u8.wrap (IntKind.i64.wrap ((x11.length : Int) + 1)))]).length + x11.length ≤ 4611686018427387904 ∧ o11 = .inl ((s11 ++ [(IntKind.u8.wrap (IntKind.i64.wrap ((x11.length : Int) + 1)))]) ++ x11)
def cobs_Encode (a0 : List Int) (r : List Int) : Prop :=
  ∃ r4 : (((S : Type) → ((List Int) → S → Bool × S → Prop) → S → S × Unit → Prop)), cobs_Blocks a0 r4 ∧ ∃ (t11 : Sum (List Int) Unit) (w11 : Unit), r4 (Sum (List Int) Unit) (Yof (cobs_Encode_l1)) (.inl []) (t11, w11) ∧ Aft (fun p30 => r = p30) (fun _ => True) t11
def frame_Codec_Segment (a0 : List Int) (a1 : (Int × Int × Int × Int × Int) × List Int) (r : List Int × Int) : Prop :=
  ∃ r8 : Int, frame_Codec_Check a0 a1 r8 ∧ if (!(decide (r8 = 0))) = true then (r = ([], r8)) else (∃ r12 : List Int × Int, head_Bytes a1.1 r12 ∧ (r12.1.length + a1.2.length) * 1 ≤ 140737488355328 ∧ r12.1.length + a1.2.length ≤ 4611686018427387904 ∧ ∃ r25 : List Int, crc_Seal a0 (r12.1 ++ a1.2) r25 ∧ ∃ r31 : List Int, cobs_Encode r25 r31 ∧ r = (r31, r12.2))
def fence_Wrap_j1  (s3 : List Int) (r : List Int) : Prop :=
  r = s3
def fence_Wrap_l2 (a0 : List (List Int)) (s13 : List Int × Int) (o13 : Sum (List Int × Int) (List Int)) : Prop :=
  if (decide (s13.2 < (a0.length : Int))) = true then (∃ q17 : List Int, idx a0 s13.2 q17 ∧ (s13.1.length + [0].length) * 1 ≤ 140737488355328 ∧ s13.1.length + [0].length ≤ 4611686018427387904 ∧ ((s13.1 ++ [0]).length + q17.length) * 1 ≤ 140737488355328 ∧ (s13.1 ++ [0]).length + q17.length ≤ 4611686018427387904 ∧ (((s13.1 ++ [0]) ++ q17).length + [0].length) * 1 ≤ 140737488355328 ∧ ((s13.1 ++ [0]) ++ q17).length + [0].length ≤ 4611686018427387904 ∧ o13 = .inl ((((s13.1 ++ [0]) ++ q17) ++ [0]), (IntKind.i64.wrap (s13.2 + 1)))) else (o13 = .inr s13.1)
def fence_Wrap (a0 : List (List Int)) (r : List Int) : Prop :=
  ∃ e13 : List Int, Loops (fence_Wrap_l2 a0) ([], 0) e13 ∧ (fence_Wrap_j1 e13 r)
def frame_Codec_Pack_j1  (s7 : List (List Int) × Int) (r : List Int × Int) : Prop :=
  ∃ r16 : List Int, fence_Wrap s7.1 r16 ∧ r = (r16, s7.2)
def frame_Codec_Pack_l2 (a0 : List Int) (a1 : List ((Int × Int × Int × Int × Int) × List Int)) (s22 : List (List Int) × Int) (o22 : Sum (List (List Int) × Int) (List (List Int) × Int)) : Prop :=
  if (decide (s22.2 < (a1.length : Int))) = true then (∃ q26 : (Int × Int × Int × Int × Int) × List Int, idx a1 s22.2 q26 ∧ ∃ r34 : List Int × Int, frame_Codec_Segment a0 q26 r34 ∧ if (!(decide (r34.2 = 0))) = true then (o22 = .inr ([], r34.2)) else ((s22.1.length + [r34.1].length) * 24 ≤ 140737488355328 ∧ s22.1.length + [r34.1].length ≤ 4611686018427387904 ∧ o22 = .inl ((s22.1 ++ [r34.1]), (IntKind.i64.wrap (s22.2 + 1))))) else (o22 = .inr (s22.1, 0))
def frame_Codec_Pack (a0 : List Int) (a1 : List ((Int × Int × Int × Int × Int) × List Int)) (r : List Int × Int) : Prop :=
  ∃ e22 : List (List Int) × Int, Loops (frame_Codec_Pack_l2 a0 a1) ([], 0) e22 ∧ (frame_Codec_Pack_j1 e22 r)
def law26_NoiseWholes_j3  (s37 : Bool) (r : Bool) : Prop :=
  r = s37
def law26_NoiseWholes_j2 (r5 : List Int) (s13 : List (List Int)) (s17 : (List (Int × Int × Int × Int × List Int)) × Int) (r : Bool) : Prop :=
  ∃ r31 : List Int, noise_Run s13 s17.1 r31 ∧ ∃ r38 : Bool, law26_known r38 ∧ if r38 = true then (if (decide ((r31.length : Int) = s17.2)) = true then (∃ r42 : Bool, noise_Honest r5 s13 r31 r42 ∧ law26_NoiseWholes_j3 r42 r) else (law26_NoiseWholes_j3 false r)) else (law26_NoiseWholes_j3 false r)
def law26_NoiseWholes_j5 (a1 : List Int) (a2 : Int) (s13 : List (List Int)) (s46 : (List (Int × Int × Int × Int × List Int)) × Int × Int) (s50 : Bool) (o46 : Sum ((List (Int × Int × Int × Int × List Int)) × Int × Int) ((List (Int × Int × Int × Int × List Int)) × Int)) : Prop :=
  if s50 = true then (∃ q51 : Int, idx a1 s46.2.2 q51 ∧ (IntKind.u64.wrap (s13.length : Int)) ≠ 0 ∧ 0 ≤ (IntKind.i64.wrap ((IntKind.u64.wrap a2).tmod 4)) ∧ (IntKind.i64.wrap ((IntKind.u64.wrap a2).tmod 4)) * 1 ≤ 281474976710656 ∧ (IntKind.i64.wrap ((IntKind.u64.wrap a2).tmod 4)) ≤ 4611686018427387904 ∧ (s46.1.length + [(1, (IntKind.i64.wrap ((IntKind.u64.wrap q51).tmod (IntKind.u64.wrap (s13.length : Int)))), 0, 0, []), (4, 0, 0, 0, (List.replicate (IntKind.i64.wrap ((IntKind.u64.wrap a2).tmod 4)).toNat 0))].length) * 56 ≤ 140737488355328 ∧ s46.1.length + [(1, (IntKind.i64.wrap ((IntKind.u64.wrap q51).tmod (IntKind.u64.wrap (s13.length : Int)))), 0, 0, []), (4, 0, 0, 0, (List.replicate (IntKind.i64.wrap ((IntKind.u64.wrap a2).tmod 4)).toNat 0))].length ≤ 4611686018427387904 ∧ ∃ q76 : List Int, idx s13 (IntKind.i64.wrap ((IntKind.u64.wrap q51).tmod (IntKind.u64.wrap (s13.length : Int)))) q76 ∧ o46 = .inl ((s46.1 ++ [(1, (IntKind.i64.wrap ((IntKind.u64.wrap q51).tmod (IntKind.u64.wrap (s13.length : Int)))), 0, 0, []), (4, 0, 0, 0, (List.replicate (IntKind.i64.wrap ((IntKind.u64.wrap a2).tmod 4)).toNat 0))]), (IntKind.i64.wrap ((IntKind.i64.wrap (s46.2.1 + (q76.length : Int))) + (IntKind.i64.wrap ((IntKind.u64.wrap a2).tmod 4)))), (IntKind.i64.wrap (s46.2.2 + 1)))) else (o46 = .inr (s46.1, s46.2.1))
def law26_NoiseWholes_l4 (a1 : List Int) (a2 : Int) (s13 : List (List Int)) (s46 : (List (Int × Int × Int × Int × List Int)) × Int × Int) (o46 : Sum ((List (Int × Int × Int × Int × List Int)) × Int × Int) ((List (Int × Int × Int × Int × List Int)) × Int)) : Prop :=
  if (decide (s46.2.2 < (a1.length : Int))) = true then (if (decide (s46.2.2 < 20)) = true then (law26_NoiseWholes_j5 a1 a2 s13 s46 (decide (0 < (s13.length : Int))) o46) else (law26_NoiseWholes_j5 a1 a2 s13 s46 false o46)) else (law26_NoiseWholes_j5 a1 a2 s13 s46 false o46)
def law26_NoiseWholes_j1 (a1 : List Int) (a2 : Int) (r5 : List Int) (s13 : List (List Int)) (r : Bool) : Prop :=
  ∃ e46 : (List (Int × Int × Int × Int × List Int)) × Int, Loops (law26_NoiseWholes_l4 a1 a2 s13) ([], 0, 0) e46 ∧ (law26_NoiseWholes_j2 r5 s13 e46 r)
def law26_NoiseWholes_j8 (s86 : List (List Int) × Int) (s91 : List (List Int)) (o86 : Sum (List (List Int) × Int) (List (List Int))) : Prop :=
  o86 = .inl (s91, (IntKind.i64.wrap (s86.2 + 1)))
def law26_NoiseWholes_j7 (a0 : List ((Int × Int × Int × Int × Int) × List Int)) (r5 : List Int) (s86 : List (List Int) × Int) (s90 : Bool) (o86 : Sum (List (List Int) × Int) (List (List Int))) : Prop :=
  if s90 = true then (∃ q95 : (Int × Int × Int × Int × Int) × List Int, idx a0 s86.2 q95 ∧ 0 ≤ (min (q95.2.length : Int) 242) ∧ (min (q95.2.length : Int) 242) ≤ (q95.2.length : Int) ∧ ∃ r114 : List Int × Int, frame_Codec_Pack r5 [(q95.1, ((q95.2.drop (0 : Int).toNat).take (((min (q95.2.length : Int) 242) : Int) - 0).toNat))] r114 ∧ if (decide (r114.2 = 0)) = true then ((s86.1.length + [r114.1].length) * 24 ≤ 140737488355328 ∧ s86.1.length + [r114.1].length ≤ 4611686018427387904 ∧ law26_NoiseWholes_j8 s86 (s86.1 ++ [r114.1]) o86) else (law26_NoiseWholes_j8 s86 s86.1 o86)) else (o86 = .inr s86.1)
def law26_NoiseWholes_l6 (a0 : List ((Int × Int × Int × Int × Int) × List Int)) (r5 : List Int) (s86 : List (List Int) × Int) (o86 : Sum (List (List Int) × Int) (List (List Int))) : Prop :=
  if (decide (s86.2 < (a0.length : Int))) = true then (law26_NoiseWholes_j7 a0 r5 s86 (decide (s86.2 < 10)) o86) else (law26_NoiseWholes_j7 a0 r5 s86 false o86)
def law26_NoiseWholes (a0 : List ((Int × Int × Int × Int × Int) × List Int)) (a1 : List Int) (a2 : Int) (r : Bool) : Prop :=
  ∃ r5 : List Int, frame_New r5 ∧ ∃ e86 : List (List Int), Loops (law26_NoiseWholes_l6 a0 r5) ([], 0) e86 ∧ (law26_NoiseWholes_j1 a1 a2 r5 e86 r)
end Go.Rel
