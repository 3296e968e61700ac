import Derived.Test.YtlamkclnkbnedaaEngP
/-! The functions as plain relations. -/
set_option linter.unusedVariables false
namespace Go.Rel
open Go Go.Eng
def serial_Add (a0 : Int) (a1 : Int) (r : Int) : Prop :=
  r = (IntKind.u32.wrap (a0 + (IntKind.u32.wrap a1)))
def serial_Run_1_l1 (S : Type) (Y : Int → S → Bool × S → Prop) (c0 : Int) (c1 : Int) (s1 : S × Int) (o1 : Sum (S × Int) (S × Unit)) : Prop :=
  if (decide (s1.2 < c0)) = true then (∃ r4 : Int, serial_Add c1 s1.2 r4 ∧ ∃ y8 : Bool, ∃ u9 : S, Y r4 s1.1 (y8, u9) ∧ if (!y8) = true then (o1 = .inr (u9, ())) else (o1 = .inl (u9, (IntKind.i64.wrap (s1.2 + 1))))) else (o1 = .inr (s1.1, ()))
def serial_Run_1 (c0 : Int) (c1 : Int) (S : Type) (Y : Int → S → Bool × S → Prop) (s : S) (r : S × Unit) : Prop :=
  ∃ e1 : S × Unit, Loops (serial_Run_1_l1 S Y c0 c1) (s, 0) e1 ∧ (r = e1)
def serial_Run (a0 : Int) (a1 : Int) (r : (((S : Type) → (Int → S → Bool × S → Prop) → S → S × Unit → Prop))) : Prop :=
  r = (serial_Run_1 a1 a0)
def serial_Way (a0 : Int) (a1 : Int) (r : Int) : Prop :=
  r = (IntKind.u32.wrap (a1 - a0))
def serial_Diff (a0 : Int) (a1 : Int) (r : Int) : Prop :=
  r = (IntKind.i64.wrap (IntKind.i32.wrap (IntKind.u32.wrap (a0 - a1))))
def serial_After (a0 : Int) (a1 : Int) (r : Bool) : Prop :=
  ∃ r1 : Int, serial_Diff a0 a1 r1 ∧ r = (decide (0 < r1))
def ack_Lacks (a0 : Int × Int) (a1 : Int) (r : Bool) : Prop :=
  ∃ r2 : Int, serial_Way a1 a0.1 r2 ∧ if (decide (r2 < 64)) = true then (0 ≤ r2 ∧ r = (decide ((iand .u64 (ishr .u64 a0.2 r2) 1) = 0))) else (∃ r7 : Bool, serial_After a1 a0.1 r7 ∧ r = r7)
def ack_Has (a0 : Int × Int) (a1 : Int) (r : Bool) : Prop :=
  ∃ r2 : Bool, ack_Lacks a0 a1 r2 ∧ r = (!r2)
def ack_Missing_1_l1 (S : Type) (Y : Int → S → Bool × S → Prop) (c2 : Int × Int) (x9 : Int) (s9 : S) (o9 : Sum S S) : Prop :=
  ∃ r12 : Bool, ack_Has c2 x9 r12 ∧ if r12 = true then (o9 = .inl s9) else (∃ y16 : Bool, ∃ u17 : S, Y x9 s9 (y16, u17) ∧ if (!y16) = true then (o9 = .inr u17) else (o9 = .inl u17))
def ack_Missing_1 (c0 : Int) (c1 : Int) (c2 : Int × Int) (S : Type) (Y : Int → S → Bool × S → Prop) (s : S) (r : S × Unit) : Prop :=
  ∃ r2 : (((S : Type) → (Int → S → Bool × S → Prop) → S → S × Unit → Prop)), serial_Run c0 c1 r2 ∧ ∃ (t9 : Sum S S) (w9 : Unit), r2 (Sum S S) (Yof (ack_Missing_1_l1 S Y c2)) (.inl s) (t9, w9) ∧ Aft (fun p28 => r = (p28, ())) (fun p23 => r = (p23, ())) t9
def ack_Missing (a0 : Int × Int) (a1 : Int) (a2 : Int) (r : (((S : Type) → (Int → S → Bool × S → Prop) → S → S × Unit → Prop))) : Prop :=
  r = (ack_Missing_1 a1 a2 a0)
def ref10_Add_j1 (a0 : Int) (s1 : Int) (r : Int) : Prop :=
  r = (IntKind.u32.wrap ((IntKind.u64.wrap ((IntKind.u64.wrap a0) + (IntKind.u64.wrap s1))).tmod 4294967296))
def ref10_Add (a0 : Int) (a1 : Int) (r : Int) : Prop :=
  if (decide ((a1.tmod 4294967296) < 0)) = true then (ref10_Add_j1 a0 (IntKind.i64.wrap ((a1.tmod 4294967296) + 4294967296)) r) else (ref10_Add_j1 a0 (a1.tmod 4294967296) r)
def ref32_bit_j1  (s1 : Int) (r : Bool) : Prop :=
  r = (decide ((s1.tmod 2) = 1))
def ref32_bit_l2 (a1 : Int) (s2 : Int × Int) (o2 : Sum (Int × Int) Int) : Prop :=
  if (decide (s2.2 < a1)) = true then (o2 = .inl ((IntKind.u64.wrap (s2.1.tdiv 2)), (IntKind.i64.wrap (s2.2 + 1)))) else (o2 = .inr s2.1)
def ref32_bit (a0 : Int) (a1 : Int) (r : Bool) : Prop :=
  ∃ e2 : Int, Loops (ref32_bit_l2 a1) (a0, 0) e2 ∧ (ref32_bit_j1 e2 r)
def ref10_Way (a0 : Int) (a1 : Int) (r : Int) : Prop :=
  r = (IntKind.u32.wrap ((IntKind.u64.wrap ((IntKind.u64.wrap ((IntKind.u64.wrap a1) + 4294967296)) - (IntKind.u64.wrap a0))).tmod 4294967296))
def ref10_After_j1  (s1 : Bool) (r : Bool) : Prop :=
  r = s1
def ref10_After (a0 : Int) (a1 : Int) (r : Bool) : Prop :=
  ∃ r2 : Int, ref10_Way a1 a0 r2 ∧ if (decide (1 ≤ r2)) = true then (∃ r6 : Int, ref10_Way a1 a0 r6 ∧ ref10_After_j1 (decide (r6 < 2147483648)) r) else (ref10_After_j1 false r)
def ref32_Has_j1 (a0 : Int × Int) (a1 : Int) (s2 : Unit) (r : Bool) : Prop :=
  ∃ r3 : Bool, ref10_After a1 a0.1 r3 ∧ r = (!r3)
def ref32_Has_l2 (a0 : Int × Int) (a1 : Int) (s7 : Int) (o7 : Sum Int (Sum Unit Bool)) : Prop :=
  if (decide (s7 < 64)) = true then (∃ r8 : Int, ref10_Add a0.1 (IntKind.i64.wrap (0 - s7)) r8 ∧ if (decide (r8 = a1)) = true then (∃ r12 : Bool, ref32_bit a0.2 s7 r12 ∧ o7 = .inr (.inr r12)) else (o7 = .inl (IntKind.i64.wrap (s7 + 1)))) else (o7 = .inr (.inl ()))
def ref32_Has (a0 : Int × Int) (a1 : Int) (r : Bool) : Prop :=
  ∃ e7 : (Sum Unit Bool), Loops (ref32_Has_l2 a0 a1) 0 e7 ∧ Aft (fun p16 => ref32_Has_j1 a0 a1 p16 r) (fun p17 => r = p17) e7
def window_New (a0 : Int) (r : ((Int × Int))) : Prop :=
  ∃ r1 : Int, serial_Add a0 (-1) r1 ∧ r = (r1, 18446744073709551615)
def window_Window_Top (a0 : (Int × Int)) (r : Int) : Prop :=
  r = a0.1
def window_Window_Bits (a0 : (Int × Int)) (r : Int) : Prop :=
  r = a0.2
def ack_Of (a0 : (Int × Int)) (r : (Int × Int)) : Prop :=
  ∃ r2 : Int, window_Window_Top a0 r2 ∧ ∃ r6 : Int, window_Window_Bits a0 r6 ∧ r = (r2, r6)
def law32_known_j1  (s11 : Bool) (r : Bool) : Prop :=
  r = s11
def law32_known  (r : Bool) : Prop :=
  ∃ r1 : ((Int × Int)), window_New 5 r1 ∧ ∃ r6 : (Int × Int), ack_Of r1 r6 ∧ if (decide (r6.1 = 4)) = true then (if (decide (r6.2 = 18446744073709551615)) = true then (∃ r12 : Bool, ack_Has r6 4 r12 ∧ if r12 = true then (∃ r16 : Bool, ack_Has r6 5 r16 ∧ law32_known_j1 (!r16) r) else (law32_known_j1 false r)) else (law32_known_j1 false r)) else (law32_known_j1 false r)
def law32_AckMissing_j3 (s15 : Int × Bool × Int) (s16 : Int) (s17 : Bool) (o15 : Sum (Int × Bool × Int) Unit) : Prop :=
  o15 = .inl ((IntKind.i64.wrap (s16 + 1)), s17, (IntKind.i64.wrap (s15.2.2 + 1)))
def law32_AckMissing_j2 (a1 : Int) (a2 : Int) (x15 : Int) (s15 : Int × Bool × Int) (s16 : Int) (o15 : Sum (Int × Bool × Int) Unit) : Prop :=
  if s15.2.1 = true then (if (decide (s16 < (min a2 200))) = true then (∃ r18 : Int, ref10_Add a1 s16 r18 ∧ law32_AckMissing_j3 s15 s16 (decide (x15 = r18)) o15) else (law32_AckMissing_j3 s15 s16 false o15)) else (law32_AckMissing_j3 s15 s16 false o15)
def law32_AckMissing_l4 (a0 : Int × Int) (a1 : Int) (a2 : Int) (s22 : Int) (o22 : Sum Int Int) : Prop :=
  ∃ r23 : Int, ((decide (s22 < (min a2 200))) = true → ref10_Add a1 s22 r23) ∧ ∃ r27 : Bool, ((decide (s22 < (min a2 200))) = true → ref32_Has a0 r23 r27) ∧ if ((decide (s22 < (min a2 200))) && r27) = true then (o22 = .inl (IntKind.i64.wrap (s22 + 1))) else (o22 = .inr s22)
def law32_AckMissing_l1 (a0 : Int × Int) (a1 : Int) (a2 : Int) (x15 : Int) (s15 : Int × Bool × Int) (o15 : Sum (Int × Bool × Int) Unit) : Prop :=
  ∃ e22 : Int, Loops (law32_AckMissing_l4 a0 a1 a2) s15.1 e22 ∧ (law32_AckMissing_j2 a1 a2 x15 s15 e22 o15)
def law32_AckMissing_j7  (s46 : Bool) (r : Bool) : Prop :=
  r = s46
def law32_AckMissing_j6 (a3 : Int) (p33 : Int × Bool × Int) (s36 : Bool) (s45 : Int) (r : Bool) : Prop :=
  ∃ r47 : Bool, law32_known r47 ∧ if r47 = true then (if s36 = true then (if (decide (s45 = p33.2.2)) = true then (law32_AckMissing_j7 true r) else (law32_AckMissing_j7 (decide (s45 = a3)) r)) else (law32_AckMissing_j7 false r)) else (law32_AckMissing_j7 false r)
def law32_AckMissing_l8 (a3 : Int) (x51 : Int) (s51 : Int) (o51 : Sum Int Int) : Prop :=
  if (decide (s51 = a3)) = true then (o51 = .inr s51) else (o51 = .inl (IntKind.i64.wrap (s51 + 1)))
def law32_AckMissing_j5 (a0 : Int × Int) (a1 : Int) (a2 : Int) (a3 : Int) (p33 : Int × Bool × Int) (s36 : Bool) (r : Bool) : Prop :=
  ∃ r38 : (((S : Type) → (Int → S → Bool × S → Prop) → S → S × Unit → Prop)), ack_Missing a0 a1 (min a2 200) r38 ∧ ∃ (t51 : Sum Int Int) (w51 : Unit), r38 (Sum Int Int) (Yof (law32_AckMissing_l8 a3)) (.inl 0) (t51, w51) ∧ Aft (fun p55 => law32_AckMissing_j6 a3 p33 s36 p55 r) (fun p52 => law32_AckMissing_j6 a3 p33 s36 p52 r) t51
def law32_AckMissing_l9 (a0 : Int × Int) (a1 : Int) (a2 : Int) (s58 : Int × Bool) (o58 : Sum (Int × Bool) Bool) : Prop :=
  if (decide (s58.1 < (min a2 200))) = true then (∃ r59 : Int, (s58.2 = true → ref10_Add a1 s58.1 r59) ∧ ∃ r63 : Bool, (s58.2 = true → ref32_Has a0 r59 r63) ∧ o58 = .inl ((IntKind.i64.wrap (s58.1 + 1)), (s58.2 && r63))) else (o58 = .inr s58.2)
def law32_AckMissing (a0 : Int × Int) (a1 : Int) (a2 : Int) (a3 : Int) (r : Bool) : Prop :=
  ∃ r8 : (((S : Type) → (Int → S → Bool × S → Prop) → S → S × Unit → Prop)), ack_Missing a0 a1 (min a2 200) r8 ∧ ∃ (t15 : Sum (Int × Bool × Int) Unit) (w15 : Unit), r8 (Sum (Int × Bool × Int) Unit) (Yof (law32_AckMissing_l1 a0 a1 a2)) (.inl (0, true, 0)) (t15, w15) ∧ Aft (fun p33 => ∃ e58 : Bool, Loops (law32_AckMissing_l9 a0 a1 a2) (p33.1, p33.2.1) e58 ∧ (law32_AckMissing_j5 a0 a1 a2 a3 p33 e58 r)) (fun _ => True) t15
def window_state_bit (a0 : Int × Int) (a1 : Int) (r : Int) : Prop :=
  ∃ r2 : Int, serial_Way a1 a0.1 r2 ∧ if (decide (r2 < 64)) = true then (0 ≤ r2 ∧ r = (ishl .u64 1 r2)) else (r = 0)
def window_Window_Look (a0 : (Int × Int)) (a1 : Int) (r : Int) : Prop :=
  ∃ r1 : Bool, serial_After a1 a0.1 r1 ∧ if r1 = true then (r = 0) else (∃ r5 : Int, window_state_bit a0 a1 r5 ∧ if (decide (r5 = 0)) = true then (r = 15) else (∃ r9 : Int, window_state_bit a0 a1 r9 ∧ if (!(decide ((iand .u64 a0.2 r9) = 0))) = true then (r = 14) else (r = 0)))
def window_Window_Mark_j2  (s12 : Int × Int) (r : Int × ((Int × Int))) : Prop :=
  r = (0, s12)
def window_Window_Mark_j1 (a0 : (Int × Int)) (a1 : Int) (s6 : Int × Int) (r : Int × ((Int × Int))) : Prop :=
  ∃ r7 : Int, window_state_bit s6 a1 r7 ∧ if (!((decide (s6.1 = a0.1)) && ((decide ((ior .u64 s6.2 r7) = a0.2)) && true))) = true then (window_Window_Mark_j2 (s6.1, (ior .u64 s6.2 r7)) r) else (window_Window_Mark_j2 (a0.1, a0.2) r)
def window_Window_Mark (a0 : (Int × Int)) (a1 : Int) (r : Int × ((Int × Int))) : Prop :=
  ∃ r1 : Int, window_Window_Look a0 a1 r1 ∧ if (!(decide (r1 = 0))) = true then (r = (r1, a0)) else (∃ r14 : Bool, serial_After a1 a0.1 r14 ∧ if r14 = true then (∃ r18 : Int, serial_Way a0.1 a1 r18 ∧ 0 ≤ r18 ∧ window_Window_Mark_j1 a0 a1 (a1, (ishl .u64 a0.2 r18)) r) else (window_Window_Mark_j1 a0 a1 (a0.1, a0.2) r))
def ack_Newer_j1  (s7 : Bool) (r : Bool) : Prop :=
  r = s7
def ack_Newer (a0 : Int × Int) (a1 : Int × Int) (r : Bool) : Prop :=
  if (!(decide (a0.1 = a1.1))) = true then (∃ r3 : Bool, serial_After a0.1 a1.1 r3 ∧ r = r3) else (if (!(decide (a0.2 = a1.2))) = true then (ack_Newer_j1 (decide ((iand .u64 a0.2 a1.2) = a1.2)) r) else (ack_Newer_j1 false r))
def window_Window_Top_nil  (r : Int) : Prop :=
  r = 0
def window_Window_Bits_nil  (r : Int) : Prop :=
  r = 0
def ack_Of_nil  (r : (Int × Int)) : Prop :=
  ∃ r2 : Int, window_Window_Top_nil r2 ∧ ∃ r6 : Int, window_Window_Bits_nil r6 ∧ r = (r2, r6)
def law32_AckWindow_j2  (s9 : Bool) (r : Bool) : Prop :=
  r = s9
def law32_AckWindow_j1  (s8 : Unit) (r : Bool) : Prop :=
  ∃ r10 : Bool, law32_known r10 ∧ if r10 = true then (∃ r14 : (Int × Int), ack_Of_nil r14 ∧ law32_AckWindow_j2 ((decide (r14.1 = 0)) && ((decide (r14.2 = 0)) && true)) r) else (law32_AckWindow_j2 false r)
def law32_AckWindow_j4 (a1 : List Int) (a2 : Int) (s18 : Int × Int × Int) (s19 : Bool) (o18 : Sum (Int × Int × Int) (Sum Unit Bool)) : Prop :=
  if s19 = true then (∃ r20 : (Int × Int), ack_Of s18.2 r20 ∧ ∃ r25 : Bool, ack_Lacks r20 a2 r25 ∧ ∃ r29 : Int, window_Window_Look s18.2 a2 r29 ∧ ∃ q33 : Int, ((!(decide (r25 = (decide (r29 = 0))))) = false → idx a1 s18.1 q33) ∧ ∃ r38 : Bool, ((!(decide (r25 = (decide (r29 = 0))))) = false → ack_Lacks r20 q33 r38) ∧ ∃ q42 : Int, ((!(decide (r25 = (decide (r29 = 0))))) = false → idx a1 s18.1 q42) ∧ ∃ r47 : Int, ((!(decide (r25 = (decide (r29 = 0))))) = false → window_Window_Look s18.2 q42 r47) ∧ if ((!(decide (r25 = (decide (r29 = 0))))) || (!(decide (r38 = (decide (r47 = 0)))))) = true then (o18 = .inr (.inr false)) else (∃ q52 : Int, idx a1 s18.1 q52 ∧ ∃ r57 : Int × ((Int × Int)), window_Window_Mark s18.2 q52 r57 ∧ ∃ r61 : (Int × Int), ack_Of r57.2 r61 ∧ ∃ r66 : Bool, ack_Newer r61 r20 r66 ∧ ∃ q70 : Int, ((!(decide (r66 = (decide (r57.1 = 0))))) = false → idx a1 s18.1 q70) ∧ ∃ r75 : Bool, ((!(decide (r66 = (decide (r57.1 = 0))))) = false → ack_Lacks r61 q70 r75) ∧ if ((!(decide (r66 = (decide (r57.1 = 0))))) || r75) = true then (o18 = .inr (.inr false)) else (o18 = .inl ((IntKind.i64.wrap (s18.1 + 1)), r57.2.1, r57.2.2)))) else (o18 = .inr (.inl ()))
def law32_AckWindow_l3 (a1 : List Int) (a2 : Int) (s18 : Int × Int × Int) (o18 : Sum (Int × Int × Int) (Sum Unit Bool)) : Prop :=
  if (decide (s18.1 < (a1.length : Int))) = true then (law32_AckWindow_j4 a1 a2 s18 (decide (s18.1 < 100)) o18) else (law32_AckWindow_j4 a1 a2 s18 false o18)
def law32_AckWindow (a0 : Int) (a1 : List Int) (a2 : Int) (r : Bool) : Prop :=
  ∃ r3 : ((Int × Int)), window_New a0 r3 ∧ ∃ e18 : (Sum Unit Bool), Loops (law32_AckWindow_l3 a1 a2) (0, r3.1, r3.2) e18 ∧ Aft (fun p80 => law32_AckWindow_j1 p80 r) (fun p81 => r = p81) e18
def crc_shift_j1  (s1 : Int) (r : Int) : Prop :=
  r = s1
def crc_shift_l2  (s2 : Int × Int) (o2 : Sum (Int × Int) Int) : Prop :=
  if (decide (s2.2 < 8)) = true then (o2 = .inl ((ixor .u32 (ishr .u32 s2.1 1) (iand .u32 3988292384 (IntKind.u32.wrap (0 - (iand .u32 s2.1 1))))), (IntKind.i64.wrap (s2.2 + 1)))) else (o2 = .inr s2.1)
def crc_shift (a0 : Int) (r : Int) : Prop :=
  ∃ e2 : Int, Loops (crc_shift_l2) (a0, 0) e2 ∧ (crc_shift_j1 e2 r)
def crc_New_j1  (s2 : List Int) (r : List Int) : Prop :=
  r = s2
def crc_New_j3 (s6 : Int × List Int) (s7 : List Int) (o6 : Sum (Int × List Int) (List Int)) : Prop :=
  o6 = .inl ((IntKind.i64.wrap (s6.1 + 1)), s7)
def crc_New_l4 (s6 : Int × List Int) (s8 : Int × Int × List Int) (o8 : Sum (Int × Int × List Int) (List Int)) : Prop :=
  if (decide (s8.2.1 < 4)) = true then (∃ r9 : Int, crc_shift s8.1 r9 ∧ 0 ≤ s8.2.1 ∧ s8.2.1 < 4 ∧ 0 ≤ s6.1 ∧ s6.1 < 256 ∧ o8 = .inl (r9, (IntKind.i64.wrap (s8.2.1 + 1)), (putN 1024 0 s8.2.2 (s8.2.1.toNat * 256 + s6.1.toNat) r9))) else (o8 = .inr s8.2.2)
def crc_New_l2  (s6 : Int × List Int) (o6 : Sum (Int × List Int) (List Int)) : Prop :=
  if (decide (s6.1 < 256)) = true then (∃ e8 : List Int, Loops (crc_New_l4 s6) ((IntKind.u32.wrap s6.1), 0, s6.2) e8 ∧ (crc_New_j3 s6 e8 o6)) else (o6 = .inr s6.2)
def crc_New  (r : List Int) : Prop :=
  ∃ e6 : List Int, Loops (crc_New_l2) (0, (List.replicate 1024 0)) e6 ∧ (crc_New_j1 e6 r)
def frame_New  (r : List Int) : Prop :=
  ∃ r1 : List Int, crc_New r1 ∧ r = r1
def head_wrong_1 (c0 : Int × Int × Int × Int × Int) (S : Type) (Y : (Int × Bool) → S → Bool × S → Prop) (s : S) (r : S × Unit) : Prop :=
  if (decide (c0.1 < 1)) = true then (∃ y1 : Bool, ∃ u2 : S, Y (10, true) s (y1, u2) ∧ if y1 = true then (if (decide (c0.2.1 < 1)) = true then (∃ y8 : Bool, ∃ u9 : S, Y (9, true) u2 (y8, u9) ∧ if y8 = true then (if (decide (c0.2.2.2.2 < 1)) = true then (∃ y15 : Bool, ∃ u16 : S, Y (3, true) u9 (y15, u16) ∧ r = (u16, ())) else (if (decide (255 < c0.2.2.2.2)) = true then (∃ y22 : Bool, ∃ u23 : S, Y (3, true) u9 (y22, u23) ∧ r = (u23, ())) else (if (decide (c0.2.2.2.1 < 0)) = true then (∃ y29 : Bool, ∃ u30 : S, Y (3, true) u9 (y29, u30) ∧ r = (u30, ())) else (∃ y36 : Bool, ∃ u37 : S, Y (3, (decide (c0.2.2.2.2 ≤ c0.2.2.2.1))) u9 (y36, u37) ∧ r = (u37, ()))))) else (r = (u9, ()))) else (∃ y43 : Bool, ∃ u44 : S, Y (9, (decide (5 < c0.2.1))) u2 (y43, u44) ∧ if y43 = true then (if (decide (c0.2.2.2.2 < 1)) = true then (∃ y50 : Bool, ∃ u51 : S, Y (3, true) u44 (y50, u51) ∧ r = (u51, ())) else (if (decide (255 < c0.2.2.2.2)) = true then (∃ y57 : Bool, ∃ u58 : S, Y (3, true) u44 (y57, u58) ∧ r = (u58, ())) else (if (decide (c0.2.2.2.1 < 0)) = true then (∃ y64 : Bool, ∃ u65 : S, Y (3, true) u44 (y64, u65) ∧ r = (u65, ())) else (∃ y71 : Bool, ∃ u72 : S, Y (3, (decide (c0.2.2.2.2 ≤ c0.2.2.2.1))) u44 (y71, u72) ∧ r = (u72, ()))))) else (r = (u44, ())))) else (r = (u2, ()))) else (∃ y78 : Bool, ∃ u79 : S, Y (10, (decide (2 < c0.1))) s (y78, u79) ∧ if y78 = true then (if (decide (c0.2.1 < 1)) = true then (∃ y85 : Bool, ∃ u86 : S, Y (9, true) u79 (y85, u86) ∧ if y85 = true then (if (decide (c0.2.2.2.2 < 1)) = true then (∃ y92 : Bool, ∃ u93 : S, Y (3, true) u86 (y92, u93) ∧ r = (u93, ())) else (if (decide (255 < c0.2.2.2.2)) = true then (∃ y99 : Bool, ∃ u100 : S, Y (3, true) u86 (y99, u100) ∧ r = (u100, ())) else (if (decide (c0.2.2.2.1 < 0)) = true then (∃ y106 : Bool, ∃ u107 : S, Y (3, true) u86 (y106, u107) ∧ r = (u107, ())) else (∃ y113 : Bool, ∃ u114 : S, Y (3, (decide (c0.2.2.2.2 ≤ c0.2.2.2.1))) u86 (y113, u114) ∧ r = (u114, ()))))) else (r = (u86, ()))) else (∃ y120 : Bool, ∃ u121 : S, Y (9, (decide (5 < c0.2.1))) u79 (y120, u121) ∧ if y120 = true then (if (decide (c0.2.2.2.2 < 1)) = true then (∃ y127 : Bool, ∃ u128 : S, Y (3, true) u121 (y127, u128) ∧ r = (u128, ())) else (if (decide (255 < c0.2.2.2.2)) = true then (∃ y134 : Bool, ∃ u135 : S, Y (3, true) u121 (y134, u135) ∧ r = (u135, ())) else (if (decide (c0.2.2.2.1 < 0)) = true then (∃ y141 : Bool, ∃ u142 : S, Y (3, true) u121 (y141, u142) ∧ r = (u142, ())) else (∃ y148 : Bool, ∃ u149 : S, Y (3, (decide (c0.2.2.2.2 ≤ c0.2.2.2.1))) u121 (y148, u149) ∧ r = (u149, ()))))) else (r = (u121, ())))) else (r = (u79, ())))
def head_wrong (a0 : Int × Int × Int × Int × Int) (r : (((S : Type) → ((Int × Bool) → S → Bool × S → Prop) → S → S × Unit → Prop))) : Prop :=
  r = (head_wrong_1 a0)
def head_Check_j1  (s3 : Int) (r : Int) : Prop :=
  r = s3
def head_Check_l2  (x11 : Int × Bool) (s11 : Unit) (o11 : Sum Unit Int) : Prop :=
  if x11.2 = true then (o11 = .inr x11.1) else (o11 = .inl ())
def head_Check (a0 : Int × Int × Int × Int × Int) (r : Int) : Prop :=
  ∃ r4 : (((S : Type) → ((Int × Bool) → S → Bool × S → Prop) → S → S × Unit → Prop)), head_wrong a0 r4 ∧ ∃ (t11 : Sum Unit Int) (w11 : Unit), r4 (Sum Unit Int) (Yof (head_Check_l2)) (.inl ()) (t11, w11) ∧ Aft (fun p15 => head_Check_j1 0 r) (fun p12 => head_Check_j1 p12 r) t11
def frame_Codec_Check (a0 : List Int) (a1 : (Int × Int × Int × Int × Int) × List Int) (r : Int) : Prop :=
  ∃ r8 : Int, head_Check a1.1 r8 ∧ if (!(decide (r8 = 0))) = true then (r = r8) else (if (decide ((a1.2.length : Int) = 0)) = true then (r = 13) else (if (decide (242 < (a1.2.length : Int))) = true then (r = 2) else (r = 0)))
def head_Bytes (a0 : Int × Int × Int × Int × Int) (r : List Int × Int) : Prop :=
  ∃ r2 : Int, head_Check a0 r2 ∧ if (!(decide (r2 = 0))) = true then (r = ([], r2)) else (r = ([(IntKind.u8.wrap a0.1), (IntKind.u8.wrap a0.2.1), (IntKind.u8.wrap a0.2.2.1), (IntKind.u8.wrap (ishr .u32 a0.2.2.1 8)), (IntKind.u8.wrap (ishr .u32 a0.2.2.1 16)), (IntKind.u8.wrap (ishr .u32 a0.2.2.1 24)), (IntKind.u8.wrap a0.2.2.2.1), (IntKind.u8.wrap a0.2.2.2.2)], 0))
def crc_Table_Begin (a0 : List Int) (r : Int) : Prop :=
  r = 4294967295
def crc_Table_Add_j2  (s8 : Int) (r : Int) : Prop :=
  r = s8
def crc_Table_Add_l3 (a0 : List Int) (s5 : Int × List Int) (s9 : Int × Int) (o9 : Sum (Int × Int) Int) : Prop :=
  if (decide (s9.2 < (s5.2.length : Int))) = true then (∃ q10 : Int, idx s5.2 s9.2 q10 ∧ 0 ≤ (ixor .u8 (IntKind.u8.wrap s9.1) q10) ∧ (ixor .u8 (IntKind.u8.wrap s9.1) q10) < 256 ∧ o9 = .inl ((ixor .u32 (ishr .u32 s9.1 8) (a0.getD ((ixor .u8 (IntKind.u8.wrap s9.1) q10).toNat) 0)), (IntKind.i64.wrap (s9.2 + 1)))) else (o9 = .inr s9.1)
def crc_Table_Add_j1 (a0 : List Int) (s5 : Int × List Int) (r : Int) : Prop :=
  ∃ e9 : Int, Loops (crc_Table_Add_l3 a0 s5) (s5.1, 0) e9 ∧ (crc_Table_Add_j2 e9 r)
def crc_Table_Add_l4 (a0 : List Int) (s18 : Int × List Int) (o18 : Sum (Int × List Int) (Int × List Int)) : Prop :=
  if (decide ((s18.2.length : Int) < 4)) = true then (o18 = .inr (s18.1, s18.2)) else (∃ q21 : Int, idx s18.2 0 q21 ∧ ∃ q26 : Int, idx s18.2 1 q26 ∧ ∃ q31 : Int, idx s18.2 2 q31 ∧ ∃ q36 : Int, idx s18.2 3 q36 ∧ 0 ≤ (iand .u32 (ixor .u32 s18.1 (ior .u32 (ior .u32 (ior .u32 (IntKind.u32.wrap q21) (ishl .u32 (IntKind.u32.wrap q26) 8)) (ishl .u32 (IntKind.u32.wrap q31) 16)) (ishl .u32 (IntKind.u32.wrap q36) 24))) 255) ∧ (iand .u32 (ixor .u32 s18.1 (ior .u32 (ior .u32 (ior .u32 (IntKind.u32.wrap q21) (ishl .u32 (IntKind.u32.wrap q26) 8)) (ishl .u32 (IntKind.u32.wrap q31) 16)) (ishl .u32 (IntKind.u32.wrap q36) 24))) 255) < 256 ∧ 0 ≤ (iand .u32 (ishr .u32 (ixor .u32 s18.1 (ior .u32 (ior .u32 (ior .u32 (IntKind.u32.wrap q21) (ishl .u32 (IntKind.u32.wrap q26) 8)) (ishl .u32 (IntKind.u32.wrap q31) 16)) (ishl .u32 (IntKind.u32.wrap q36) 24))) 8) 255) ∧ (iand .u32 (ishr .u32 (ixor .u32 s18.1 (ior .u32 (ior .u32 (ior .u32 (IntKind.u32.wrap q21) (ishl .u32 (IntKind.u32.wrap q26) 8)) (ishl .u32 (IntKind.u32.wrap q31) 16)) (ishl .u32 (IntKind.u32.wrap q36) 24))) 8) 255) < 256 ∧ 0 ≤ (iand .u32 (ishr .u32 (ixor .u32 s18.1 (ior .u32 (ior .u32 (ior .u32 (IntKind.u32.wrap q21) (ishl .u32 (IntKind.u32.wrap q26) 8)) (ishl .u32 (IntKind.u32.wrap q31) 16)) (ishl .u32 (IntKind.u32.wrap q36) 24))) 16) 255) ∧ (iand .u32 (ishr .u32 (ixor .u32 s18.1 (ior .u32 (ior .u32 (ior .u32 (IntKind.u32.wrap q21) (ishl .u32 (IntKind.u32.wrap q26) 8)) (ishl .u32 (IntKind.u32.wrap q31) 16)) (ishl .u32 (IntKind.u32.wrap q36) 24))) 16) 255) < 256 ∧ 0 ≤ (ishr .u32 (ixor .u32 s18.1 (ior .u32 (ior .u32 (ior .u32 (IntKind.u32.wrap q21) (ishl .u32 (IntKind.u32.wrap q26) 8)) (ishl .u32 (IntKind.u32.wrap q31) 16)) (ishl .u32 (IntKind.u32.wrap q36) 24))) 24) ∧ (ishr .u32 (ixor .u32 s18.1 (ior .u32 (ior .u32 (ior .u32 (IntKind.u32.wrap q21) (ishl .u32 (IntKind.u32.wrap q26) 8)) (ishl .u32 (IntKind.u32.wrap q31) 16)) (ishl .u32 (IntKind.u32.wrap q36) 24))) 24) < 256 ∧ 4 ≤ (s18.2.length : Int) ∧ (s18.2.length : Int) ≤ (s18.2.length : Int) ∧ o18 = .inl ((ixor .u32 (ixor .u32 (ixor .u32 (a0.getD (768 + (iand .u32 (ixor .u32 s18.1 (ior .u32 (ior .u32 (ior .u32 (IntKind.u32.wrap q21) (ishl .u32 (IntKind.u32.wrap q26) 8)) (ishl .u32 (IntKind.u32.wrap q31) 16)) (ishl .u32 (IntKind.u32.wrap q36) 24))) 255).toNat) 0) (a0.getD (512 + (iand .u32 (ishr .u32 (ixor .u32 s18.1 (ior .u32 (ior .u32 (ior .u32 (IntKind.u32.wrap q21) (ishl .u32 (IntKind.u32.wrap q26) 8)) (ishl .u32 (IntKind.u32.wrap q31) 16)) (ishl .u32 (IntKind.u32.wrap q36) 24))) 8) 255).toNat) 0)) (a0.getD (256 + (iand .u32 (ishr .u32 (ixor .u32 s18.1 (ior .u32 (ior .u32 (ior .u32 (IntKind.u32.wrap q21) (ishl .u32 (IntKind.u32.wrap q26) 8)) (ishl .u32 (IntKind.u32.wrap q31) 16)) (ishl .u32 (IntKind.u32.wrap q36) 24))) 16) 255).toNat) 0)) (a0.getD ((ishr .u32 (ixor .u32 s18.1 (ior .u32 (ior .u32 (ior .u32 (IntKind.u32.wrap q21) (ishl .u32 (IntKind.u32.wrap q26) 8)) (ishl .u32 (IntKind.u32.wrap q31) 16)) (ishl .u32 (IntKind.u32.wrap q36) 24))) 24).toNat) 0)), ((s18.2.drop (4 : Int).toNat).take (((s18.2.length : Int) : Int) - 4).toNat)))
def crc_Table_Add (a0 : List Int) (a1 : Int) (a2 : List Int) (r : Int) : Prop :=
  ∃ e18 : Int × List Int, Loops (crc_Table_Add_l4 a0) (a1, a2) e18 ∧ (crc_Table_Add_j1 a0 e18 r)
def crc_Table_End (a0 : List Int) (a1 : Int) (r : Int) : Prop :=
  r = (icompl .u32 a1)
def crc_Table_Sum_j1 (a0 : List Int) (s9 : Int) (r : Int) : Prop :=
  ∃ r10 : Int, crc_Table_End a0 s9 r10 ∧ r = r10
def crc_Table_Sum_l2 (a0 : List Int) (a1 : List (List Int)) (s14 : Int × Int) (o14 : Sum (Int × Int) Int) : Prop :=
  if (decide (s14.2 < (a1.length : Int))) = true then (∃ q15 : List Int, idx a1 s14.2 q15 ∧ ∃ r22 : Int, crc_Table_Add a0 s14.1 q15 r22 ∧ o14 = .inl (r22, (IntKind.i64.wrap (s14.2 + 1)))) else (o14 = .inr s14.1)
def crc_Table_Sum (a0 : List Int) (a1 : List (List Int)) (r : Int) : Prop :=
  ∃ r5 : Int, crc_Table_Begin a0 r5 ∧ ∃ e14 : Int, Loops (crc_Table_Sum_l2 a0 a1) (r5, 0) e14 ∧ (crc_Table_Sum_j1 a0 e14 r)
def crc_bytes (a0 : Int) (r : List Int) : Prop :=
  r = [(IntKind.u8.wrap a0), (IntKind.u8.wrap (ishr .u32 a0 8)), (IntKind.u8.wrap (ishr .u32 a0 16)), (IntKind.u8.wrap (ishr .u32 a0 24))]
def crc_Seal (a0 : List Int) (a1 : List Int) (r : List Int) : Prop :=
  ∃ r12 : Int, crc_Table_Sum a0 [a1] r12 ∧ ∃ r16 : List Int, crc_bytes r12 r16 ∧ (([] : List Int).length + a1.length) * 1 ≤ 140737488355328 ∧ ([] : List Int).length + a1.length ≤ 4611686018427387904 ∧ ((([] : List Int) ++ a1).length + [(r16.getD 0 0), (r16.getD 1 0), (r16.getD 2 0), (r16.getD 3 0)].length) * 1 ≤ 140737488355328 ∧ (([] : List Int) ++ a1).length + [(r16.getD 0 0), (r16.getD 1 0), (r16.getD 2 0), (r16.getD 3 0)].length ≤ 4611686018427387904 ∧ r = ((([] : List Int) ++ a1) ++ [(r16.getD 0 0), (r16.getD 1 0), (r16.getD 2 0), (r16.getD 3 0)])
def cobs_block_j1 (a0 : List Int) (s3 : Unit) (r : Int × Int × Bool) : Prop :=
  if (decide (254 ≤ (a0.length : Int))) = true then (r = (254, 254, (decide (254 < (a0.length : Int))))) else (r = ((a0.length : Int), (a0.length : Int), false))
def cobs_block_l2 (a0 : List Int) (s8 : Int) (o8 : Sum Int (Sum Unit (Int × Int × Bool))) : Prop :=
  if (decide (s8 < (((a0.drop (0 : Int).toNat).take (((min (a0.length : Int) 254) : Int) - 0).toNat).length : Int))) = true then (∃ q9 : Int, idx ((a0.drop (0 : Int).toNat).take (((min (a0.length : Int) 254) : Int) - 0).toNat) s8 q9 ∧ if (decide (q9 = 0)) = true then (o8 = .inr (.inr (s8, (IntKind.i64.wrap (s8 + 1)), true))) else (o8 = .inl (IntKind.i64.wrap (s8 + 1)))) else (o8 = .inr (.inl ()))
def cobs_block (a0 : List Int) (r : Int × Int × Bool) : Prop :=
  0 ≤ (min (a0.length : Int) 254) ∧ (min (a0.length : Int) 254) ≤ (a0.length : Int) ∧ ∃ e8 : (Sum Unit (Int × Int × Bool)), Loops (cobs_block_l2 a0) 0 e8 ∧ Aft (fun p14 => cobs_block_j1 a0 p14 r) (fun p15 => r = p15) e8
def cobs_Blocks_1_l1 (S : Type) (Y : (List Int) → S → Bool × S → Prop) (s3 : S × List Int × Bool) (o3 : Sum (S × List Int × Bool) (S × Unit)) : Prop :=
  if s3.2.2 = true then (∃ r8 : Int × Int × Bool, cobs_block s3.2.1 r8 ∧ 0 ≤ r8.1 ∧ r8.1 ≤ (s3.2.1.length : Int) ∧ r8.1 ≤ r8.1 ∧ r8.1 ≤ (s3.2.1.length : Int) ∧ (([] : List Int).length + ((s3.2.1.drop (0 : Int).toNat).take ((r8.1 : Int) - 0).toNat).length) * 1 ≤ 140737488355328 ∧ ([] : List Int).length + ((s3.2.1.drop (0 : Int).toNat).take ((r8.1 : Int) - 0).toNat).length ≤ 4611686018427387904 ∧ ∃ y30 : Bool, ∃ u31 : S, Y (([] : List Int) ++ ((s3.2.1.drop (0 : Int).toNat).take ((r8.1 : Int) - 0).toNat)) s3.1 (y30, u31) ∧ if (!y30) = true then (o3 = .inr (u31, ())) else (0 ≤ r8.2.1 ∧ r8.2.1 ≤ (s3.2.1.length : Int) ∧ (s3.2.1.length : Int) ≤ (s3.2.1.length : Int) ∧ o3 = .inl (u31, ((s3.2.1.drop r8.2.1.toNat).take (((s3.2.1.length : Int) : Int) - r8.2.1).toNat), r8.2.2))) else (o3 = .inr (s3.1, ()))
def cobs_Blocks_1 (c0 : List Int) (S : Type) (Y : (List Int) → S → Bool × S → Prop) (s : S) (r : S × Unit) : Prop :=
  ∃ e3 : S × Unit, Loops (cobs_Blocks_1_l1 S Y) (s, c0, true) e3 ∧ (r = e3)
def cobs_Blocks (a0 : List Int) (r : (((S : Type) → ((List Int) → S → Bool × S → Prop) → S → S × Unit → Prop))) : Prop :=
  r = (cobs_Blocks_1 a0)
def cobs_Encode_l1  (x11 : List Int) (s11 : List Int) (o11 : Sum (List Int) Unit) : Prop :=
  (s11.length + [(IntKind.u8.wrap (IntKind.i64.wrap ((x11.length : Int) + 1)))].length) * 1 ≤ 140737488355328 ∧ s11.length + [(IntKind.u8.wrap (IntKind.i64.wrap ((x11.length : Int) + 1)))].length ≤ 4611686018427387904 ∧ ((s11 ++ [(IntKind.u8.wrap (IntKind.i64.wrap ((x11.length : Int) + 1)))]).length + x11.length) * 1 ≤ 140737488355328 ∧ (s11 ++ [(IntKind.u8.wrap (IntKind.i64.wrap ((x11.length : Int) + 1)))]).length + x11.length ≤ 4611686018427387904 ∧ o11 = .inl ((s11 ++ [(IntKind.u8.wrap (IntKind.i64.wrap ((x11.length : Int) + 1)))]) ++ x11)
def cobs_Encode (a0 : List Int) (r : List Int) : Prop :=
  ∃ r4 : (((S : Type) → ((List Int) → S → Bool × S → Prop) → S → S × Unit → Prop)), cobs_Blocks a0 r4 ∧ ∃ (t11 : Sum (List Int) Unit) (w11 : Unit), r4 (Sum (List Int) Unit) (Yof (cobs_Encode_l1)) (.inl []) (t11, w11) ∧ Aft (fun p30 => r = p30) (fun _ => True) t11
def frame_Codec_Segment (a0 : List Int) (a1 : (Int × Int × Int × Int × Int) × List Int) (r : List Int × Int) : Prop :=
  ∃ r8 : Int, frame_Codec_Check a0 a1 r8 ∧ if (!(decide (r8 = 0))) = true then (r = ([], r8)) else (∃ r12 : List Int × Int, head_Bytes a1.1 r12 ∧ (r12.1.length + a1.2.length) * 1 ≤ 140737488355328 ∧ r12.1.length + a1.2.length ≤ 4611686018427387904 ∧ ∃ r25 : List Int, crc_Seal a0 (r12.1 ++ a1.2) r25 ∧ ∃ r31 : List Int, cobs_Encode r25 r31 ∧ r = (r31, r12.2))
def fence_Wrap_j1  (s3 : List Int) (r : List Int) : Prop :=
  r = s3
def fence_Wrap_l2 (a0 : List (List Int)) (s13 : List Int × Int) (o13 : Sum (List Int × Int) (List Int)) : Prop :=
  if (decide (s13.2 < (a0.length : Int))) = true then (∃ q17 : List Int, idx a0 s13.2 q17 ∧ (s13.1.length + [0].length) * 1 ≤ 140737488355328 ∧ s13.1.length + [0].length ≤ 4611686018427387904 ∧ ((s13.1 ++ [0]).length + q17.length) * 1 ≤ 140737488355328 ∧ (s13.1 ++ [0]).length + q17.length ≤ 4611686018427387904 ∧ (((s13.1 ++ [0]) ++ q17).length + [0].length) * 1 ≤ 140737488355328 ∧ ((s13.1 ++ [0]) ++ q17).length + [0].length ≤ 4611686018427387904 ∧ o13 = .inl ((((s13.1 ++ [0]) ++ q17) ++ [0]), (IntKind.i64.wrap (s13.2 + 1)))) else (o13 = .inr s13.1)
def fence_Wrap (a0 : List (List Int)) (r : List Int) : Prop :=
  ∃ e13 : List Int, Loops (fence_Wrap_l2 a0) ([], 0) e13 ∧ (fence_Wrap_j1 e13 r)
def frame_Codec_Pack_j1  (s7 : List (List Int) × Int) (r : List Int × Int) : Prop :=
  ∃ r16 : List Int, fence_Wrap s7.1 r16 ∧ r = (r16, s7.2)
def frame_Codec_Pack_l2 (a0 : List Int) (a1 : List ((Int × Int × Int × Int × Int) × List Int)) (s22 : List (List Int) × Int) (o22 : Sum (List (List Int) × Int) (List (List Int) × Int)) : Prop :=
  if (decide (s22.2 < (a1.length : Int))) = true then (∃ q26 : (Int × Int × Int × Int × Int) × List Int, idx a1 s22.2 q26 ∧ ∃ r34 : List Int × Int, frame_Codec_Segment a0 q26 r34 ∧ if (!(decide (r34.2 = 0))) = true then (o22 = .inr ([], r34.2)) else ((s22.1.length + [r34.1].length) * 24 ≤ 140737488355328 ∧ s22.1.length + [r34.1].length ≤ 4611686018427387904 ∧ o22 = .inl ((s22.1 ++ [r34.1]), (IntKind.i64.wrap (s22.2 + 1))))) else (o22 = .inr (s22.1, 0))
def frame_Codec_Pack (a0 : List Int) (a1 : List ((Int × Int × Int × Int × Int) × List Int)) (r : List Int × Int) : Prop :=
  ∃ e22 : List (List Int) × Int, Loops (frame_Codec_Pack_l2 a0 a1) ([], 0) e22 ∧ (frame_Codec_Pack_j1 e22 r)
def cobs_Most_j1 (a0 : Int) (s1 : Int) (r : Int) : Prop :=
  r = (IntKind.i64.wrap (a0 + (max s1 1)))
def cobs_Most (a0 : Int) (r : Int) : Prop :=
  if (decide (a0 < 0)) = true then (r = 0) else (if (!(decide ((a0.tmod 254) = 0))) = true then (cobs_Most_j1 a0 (IntKind.i64.wrap ((IntKind.i64.wrap (a0.tdiv 254)) + 1)) r) else (cobs_Most_j1 a0 (IntKind.i64.wrap (a0.tdiv 254)) r))
def frame_Wire_j1 (a0 : Int) (s1 : Bool) (r : Int) : Prop :=
  if s1 = true then (r = 0) else (∃ r2 : Int, cobs_Most (IntKind.i64.wrap (a0 + 12)) r2 ∧ r = (IntKind.i64.wrap (r2 + 2)))
def frame_Wire (a0 : Int) (r : Int) : Prop :=
  if (decide (a0 < 1)) = true then (frame_Wire_j1 a0 true r) else (frame_Wire_j1 a0 (decide (242 < a0)) r)
def frame_Room (a0 : Int) (r : Int) : Prop :=
  ∃ r1 : Int, frame_Wire 1 r1 ∧ if (decide (a0 < r1)) = true then (r = 0) else (∃ r5 : Int, frame_Wire 1 r5 ∧ r = (min (IntKind.i64.wrap ((IntKind.i64.wrap (a0 - r5)) + 1)) 242))
def law08_known_j1  (s36 : Bool) (r : Bool) : Prop :=
  r = s36
def law08_known  (r : Bool) : Prop :=
  ∃ r11 : List Int, frame_New r11 ∧ ∃ r29 : List Int × Int, frame_Codec_Pack r11 [((1, 1, 0, 0, 1), [7])] r29 ∧ if (decide (r29.2 = 0)) = true then (if (decide ((r29.1.length : Int) = 16)) = true then (∃ r37 : Int, frame_Wire 1 r37 ∧ if (decide (r37 = 16)) = true then (∃ r41 : Int, frame_Room 16 r41 ∧ if (decide (r41 = 1)) = true then (∃ r45 : Int, frame_Room 257 r45 ∧ if (decide (r45 = 242)) = true then (∃ r49 : Int, frame_Room 15 r49 ∧ law08_known_j1 (decide (r49 = 0)) r) else (law08_known_j1 false r)) else (law08_known_j1 false r)) else (law08_known_j1 false r)) else (law08_known_j1 false r)) else (law08_known_j1 false r)
def law08_FrameSizes_j3  (s23 : Bool) (r : Bool) : Prop :=
  r = s23
def law08_FrameSizes_j2 (r18 : Int) (s22 : Unit) (r : Bool) : Prop :=
  ∃ r24 : Bool, law08_known r24 ∧ if r24 = true then (if (decide (0 ≤ r18)) = true then (∃ r28 : Int, frame_Wire (-1) r28 ∧ law08_FrameSizes_j3 (decide (r28 = 0)) r) else (law08_FrameSizes_j3 false r)) else (law08_FrameSizes_j3 false r)
def law08_FrameSizes_j6 (s32 : Int) (s34 : Bool) (o32 : Sum Int (Sum Unit Bool)) : Prop :=
  if s34 = true then (o32 = .inr (.inr false)) else (o32 = .inl (IntKind.i64.wrap (s32 + 1)))
def law08_FrameSizes_j5 (r18 : Int) (s32 : Int) (s33 : Bool) (o32 : Sum Int (Sum Unit Bool)) : Prop :=
  if (decide (1 ≤ s32)) = true then (if (!(decide (s33 = (decide (s32 ≤ r18))))) = true then (law08_FrameSizes_j6 s32 true o32) else (∃ r35 : Int, frame_Wire s32 r35 ∧ if (decide (1 ≤ s32)) = true then (law08_FrameSizes_j6 s32 (!(decide ((!(decide (r35 = 0))) = (decide (s32 ≤ 242))))) o32) else (law08_FrameSizes_j6 s32 (!(decide ((!(decide (r35 = 0))) = false))) o32))) else (if (!(decide (s33 = false))) = true then (law08_FrameSizes_j6 s32 true o32) else (∃ r39 : Int, frame_Wire s32 r39 ∧ if (decide (1 ≤ s32)) = true then (law08_FrameSizes_j6 s32 (!(decide ((!(decide (r39 = 0))) = (decide (s32 ≤ 242))))) o32) else (law08_FrameSizes_j6 s32 (!(decide ((!(decide (r39 = 0))) = false))) o32)))
def law08_FrameSizes_l4 (a2 : Int) (r18 : Int) (s32 : Int) (o32 : Sum Int (Sum Unit Bool)) : Prop :=
  if (decide (s32 < 300)) = true then (if (decide (1 ≤ s32)) = true then (if (decide (s32 ≤ 242)) = true then (law08_FrameSizes_j5 r18 s32 (decide ((IntKind.i64.wrap (s32 + 15)) ≤ a2)) o32) else (law08_FrameSizes_j5 r18 s32 false o32)) else (law08_FrameSizes_j5 r18 s32 false o32)) else (o32 = .inr (.inl ()))
def law08_FrameSizes_j1 (a2 : Int) (s17 : Unit) (r : Bool) : Prop :=
  ∃ r18 : Int, frame_Room a2 r18 ∧ ∃ e32 : (Sum Unit Bool), Loops (law08_FrameSizes_l4 a2 r18) 0 e32 ∧ Aft (fun p43 => law08_FrameSizes_j2 r18 p43 r) (fun p44 => r = p44) e32
def law08_FrameSizes_j7 (a2 : Int) (s62 : Bool) (r : Bool) : Prop :=
  if s62 = true then (r = false) else (law08_FrameSizes_j1 a2 () r)
def law08_FrameSizes (a0 : Int × Int × Int × Int × Int) (a1 : List Int) (a2 : Int) (r : Bool) : Prop :=
  0 ≤ (min (a1.length : Int) 242) ∧ (min (a1.length : Int) 242) ≤ (a1.length : Int) ∧ ∃ r9 : List Int, frame_New r9 ∧ ∃ r45 : Int, frame_Codec_Check r9 (a0, ((a1.drop (0 : Int).toNat).take (((min (a1.length : Int) 242) : Int) - 0).toNat)) r45 ∧ if (decide (r45 = 0)) = true then (∃ r56 : List Int × Int, frame_Codec_Pack r9 [(a0, ((a1.drop (0 : Int).toNat).take (((min (a1.length : Int) 242) : Int) - 0).toNat))] r56 ∧ if (!(decide (r56.2 = 0))) = true then (law08_FrameSizes_j7 a2 true r) else (∃ r63 : Int, frame_Wire (((a1.drop (0 : Int).toNat).take (((min (a1.length : Int) 242) : Int) - 0).toNat).length : Int) r63 ∧ if (!(decide ((r56.1.length : Int) = r63))) = true then (law08_FrameSizes_j7 a2 true r) else (law08_FrameSizes_j7 a2 (!(decide ((r56.1.length : Int) = (IntKind.i64.wrap ((IntKind.i64.wrap ((IntKind.i64.wrap ((((a1.drop (0 : Int).toNat).take (((min (a1.length : Int) 242) : Int) - 0).toNat).length : Int) + 12)) + (max 1 (IntKind.i64.wrap ((IntKind.i64.wrap ((IntKind.i64.wrap ((((a1.drop (0 : Int).toNat).take (((min (a1.length : Int) 242) : Int) - 0).toNat).length : Int) + 12)) + 253)).tdiv 254))))) + 2))))) r))) else (law08_FrameSizes_j1 a2 () r)
def crc_Open (a0 : List Int) (a1 : List Int) (r : List Int × Int) : Prop :=
  if (decide ((IntKind.i64.wrap ((a1.length : Int) - 4)) < 0)) = true then (r = ([], 13)) else (0 ≤ (IntKind.i64.wrap ((a1.length : Int) - 4)) ∧ (IntKind.i64.wrap ((a1.length : Int) - 4)) ≤ (a1.length : Int) ∧ (IntKind.i64.wrap ((a1.length : Int) - 4)) ≤ (IntKind.i64.wrap ((a1.length : Int) - 4)) ∧ (IntKind.i64.wrap ((a1.length : Int) - 4)) ≤ (a1.length : Int) ∧ ∃ r21 : Int, crc_Table_Sum a0 [((a1.drop (0 : Int).toNat).take (((IntKind.i64.wrap ((a1.length : Int) - 4)) : Int) - 0).toNat)] r21 ∧ ∃ r25 : List Int, crc_bytes r21 r25 ∧ 0 ≤ (IntKind.i64.wrap ((a1.length : Int) - 4)) ∧ (IntKind.i64.wrap ((a1.length : Int) - 4)) ≤ (a1.length : Int) ∧ (a1.length : Int) ≤ (a1.length : Int) ∧ 4 ≤ ((a1.drop (IntKind.i64.wrap ((a1.length : Int) - 4)).toNat).take (((a1.length : Int) : Int) - (IntKind.i64.wrap ((a1.length : Int) - 4))).toNat).length ∧ if (!(eqN 4 0 r25 ((a1.drop (IntKind.i64.wrap ((a1.length : Int) - 4)).toNat).take (((a1.length : Int) : Int) - (IntKind.i64.wrap ((a1.length : Int) - 4))).toNat))) = true then (r = ([], 11)) else ((([] : List Int).length + ((a1.drop (0 : Int).toNat).take (((IntKind.i64.wrap ((a1.length : Int) - 4)) : Int) - 0).toNat).length) * 1 ≤ 140737488355328 ∧ ([] : List Int).length + ((a1.drop (0 : Int).toNat).take (((IntKind.i64.wrap ((a1.length : Int) - 4)) : Int) - 0).toNat).length ≤ 4611686018427387904 ∧ r = ((([] : List Int) ++ ((a1.drop (0 : Int).toNat).take (((IntKind.i64.wrap ((a1.length : Int) - 4)) : Int) - 0).toNat)), 0)))
def lens_New (a0 : List Int) (r : (List Int × Int × Int)) : Prop :=
  (([] : List Int).length + a0.length) * 1 ≤ 140737488355328 ∧ ([] : List Int).length + a0.length ≤ 4611686018427387904 ∧ r = ((([] : List Int) ++ a0), 0, 0)
def lens_Lens_Err (a0 : List Int × Int × Int) (r : Int) : Prop :=
  r = a0.2.2
def lens_Lens_left (a0 : List Int × Int × Int) (r : List Int) : Prop :=
  0 ≤ a0.2.1 ∧ a0.2.1 ≤ (a0.1.length : Int) ∧ (a0.1.length : Int) ≤ (a0.1.length : Int) ∧ (a0.1.length : Int) ≤ (a0.1.length : Int) ∧ (a0.1.length : Int) ≤ (a0.1.length : Int) ∧ r = ((a0.1.drop a0.2.1.toNat).take (((a0.1.length : Int) : Int) - a0.2.1).toNat)
def lens_Lens_Left (a0 : List Int × Int × Int) (r : Int) : Prop :=
  ∃ r3 : List Int, lens_Lens_left a0 r3 ∧ r = (r3.length : Int)
def slices_Backward_byte_byte_1_l1 (S : Type) (Y : (Int × Int) → S → Bool × S → Prop) (c0 : List Int) (s3 : S × Int) (o3 : Sum (S × Int) (S × Unit)) : Prop :=
  if (decide (0 ≤ s3.2)) = true then (∃ q6 : Int, idx c0 s3.2 q6 ∧ ∃ y11 : Bool, ∃ u12 : S, Y (s3.2, q6) s3.1 (y11, u12) ∧ if (!y11) = true then (o3 = .inr (u12, ())) else (o3 = .inl (u12, (IntKind.i64.wrap (s3.2 - 1))))) else (o3 = .inr (s3.1, ()))
def slices_Backward_byte_byte_1 (c0 : List Int) (S : Type) (Y : (Int × Int) → S → Bool × S → Prop) (s : S) (r : S × Unit) : Prop :=
  ∃ e3 : S × Unit, Loops (slices_Backward_byte_byte_1_l1 S Y c0) (s, (IntKind.i64.wrap ((c0.length : Int) - 1))) e3 ∧ (r = e3)
def slices_Backward_byte_byte (a0 : List Int) (r : (((S : Type) → ((Int × Int) → S → Bool × S → Prop) → S → S × Unit → Prop))) : Prop :=
  r = (slices_Backward_byte_byte_1 a0)
def lens_Lens_word_1_l1  (x14 : Int × Int) (s14 : Int) (o14 : Sum Int Unit) : Prop :=
  o14 = .inl (ior .u32 (ishl .u32 s14 8) (IntKind.u32.wrap x14.2))
def lens_Lens_word_1 (a0 : List Int) (c0 : Int) (c1 : Int) (r : Int × Int × Int) : Prop :=
  if (decide ((a0.length : Int) < c0)) = true then (r = (0, 4, c1)) else (0 ≤ c0 ∧ c0 ≤ (a0.length : Int) ∧ ∃ r7 : (((S : Type) → ((Int × Int) → S → Bool × S → Prop) → S → S × Unit → Prop)), slices_Backward_byte_byte ((a0.drop (0 : Int).toNat).take ((c0 : Int) - 0).toNat) r7 ∧ ∃ (t14 : Sum Int Unit) (w14 : Unit), r7 (Sum Int Unit) (Yof (lens_Lens_word_1_l1)) (.inl c1) (t14, w14) ∧ Aft (fun p15 => r = (c0, 0, p15)) (fun _ => True) t14)
def lens_Lens_read__lens_Lens_word_1 (a0 : List Int × Int × Int) (a1_0 : Int) (a1_1 : Int) (r : Bool × (List Int × Int × Int) × Int) : Prop :=
  if (!(decide (a0.2.2 = 0))) = true then (r = (false, a0, a1_1)) else (∃ r3 : List Int, lens_Lens_left a0 r3 ∧ ∃ r9 : Int × Int × Int, lens_Lens_word_1 r3 a1_0 a1_1 r9 ∧ if (!(decide (r9.2.1 = 0))) = true then (r = (false, (a0.1, a0.2.1, r9.2.1), r9.2.2)) else (r = (true, (a0.1, (IntKind.i64.wrap (a0.2.1 + r9.1)), a0.2.2), r9.2.2)))
def lens_Lens_word (a0 : List Int × Int × Int) (a1 : Int) (r : Int × (List Int × Int × Int)) : Prop :=
  ∃ r5 : Bool × (List Int × Int × Int) × Int, lens_Lens_read__lens_Lens_word_1 a0 a1 0 r5 ∧ r = (r5.2.2, r5.2.1)
def lens_Lens_Words_1_j2 (S : Type) (Y : Int → S → Bool × S → Prop) (c0 : Int) (s3 : S × List Int × Int × Int) (s8 : S × Bool) (o3 : Sum (S × List Int × Int × Int) (S × (List Int × Int × Int))) : Prop :=
  if s8.2 = true then (∃ r11 : Int, lens_Lens_Err s3.2 r11 ∧ ∃ r15 : Int, ((!(decide (r11 = 0))) = false → lens_Lens_Left s3.2 r15) ∧ ∃ r19 : Int × (List Int × Int × Int), (((!(decide (r11 = 0))) || (decide (r15 < c0))) = false → lens_Lens_word s3.2 c0 r19) ∧ ∃ y27 : Bool, ∃ u28 : S, (((!(decide (r11 = 0))) || (decide (r15 < c0))) = false → Y r19.1 s8.1 (y27, u28)) ∧ if ((!(decide (r11 = 0))) || (decide (r15 < c0))) = false then (if (((!(decide (r11 = 0))) || (decide (r15 < c0))) || (!y27)) = true then (o3 = .inr (u28, r19.2)) else (o3 = .inl (u28, r19.2.1, r19.2.2.1, r19.2.2.2))) else (if (((!(decide (r11 = 0))) || (decide (r15 < c0))) || (!y27)) = true then (o3 = .inr (s8.1, s3.2)) else (o3 = .inl (s8.1, s3.2.1, s3.2.2.1, s3.2.2.2)))) else (o3 = .inr (s8.1, s3.2))
def lens_Lens_Words_1_l1 (S : Type) (Y : Int → S → Bool × S → Prop) (c0 : Int) (s3 : S × List Int × Int × Int) (o3 : Sum (S × List Int × Int × Int) (S × (List Int × Int × Int))) : Prop :=
  if (decide (c0 = 1)) = true then (lens_Lens_Words_1_j2 S Y c0 s3 (s3.1, true) o3) else (if (decide (c0 = 2)) = true then (lens_Lens_Words_1_j2 S Y c0 s3 (s3.1, true) o3) else (lens_Lens_Words_1_j2 S Y c0 s3 (s3.1, (decide (c0 = 4))) o3))
def lens_Lens_Words_1 (c0 : Int) (c1 : List Int × Int × Int) (S : Type) (Y : Int → S → Bool × S → Prop) (s : S) (r : S × (List Int × Int × Int)) : Prop :=
  ∃ e3 : S × (List Int × Int × Int), Loops (lens_Lens_Words_1_l1 S Y c0) (s, c1.1, c1.2.1, c1.2.2) e3 ∧ (r = e3)
def lens_Lens_Words (a0 : List Int × Int × Int) (a1 : Int) (r : (((List Int × Int × Int) → (S : Type) → (Int → S → Bool × S → Prop) → S → S × (List Int × Int × Int) → Prop))) : Prop :=
  r = (lens_Lens_Words_1 a1)
def ack_Parse_j1  (s25 : Int × Int × Int) (r : (Int × Int) × Int) : Prop :=
  r = ((s25.1, (ior .u64 (ishl .u64 (IntKind.u64.wrap s25.2.2) 32) (IntKind.u64.wrap s25.2.1))), 0)
def ack_Parse_l2  (x40 : Int) (s40 : Int × Int × Int × Int) (o40 : Sum (Int × Int × Int × Int) (Int × Int × Int × Int)) : Prop :=
  0 ≤ s40.2.2.2 ∧ s40.2.2.2 < 3 ∧ if (decide (s40.2.2.2 = 2)) = true then (o40 = .inr (((putN 3 0 [s40.1, s40.2.1, s40.2.2.1] s40.2.2.2.toNat x40).getD 0 0), ((putN 3 0 [s40.1, s40.2.1, s40.2.2.1] s40.2.2.2.toNat x40).getD 1 0), ((putN 3 0 [s40.1, s40.2.1, s40.2.2.1] s40.2.2.2.toNat x40).getD 2 0), s40.2.2.2)) else (o40 = .inl (((putN 3 0 [s40.1, s40.2.1, s40.2.2.1] s40.2.2.2.toNat x40).getD 0 0), ((putN 3 0 [s40.1, s40.2.1, s40.2.2.1] s40.2.2.2.toNat x40).getD 1 0), ((putN 3 0 [s40.1, s40.2.1, s40.2.2.1] s40.2.2.2.toNat x40).getD 2 0), (IntKind.i64.wrap (s40.2.2.2 + 1))))
def ack_Parse (a0 : List Int) (r : (Int × Int) × Int) : Prop :=
  if (decide ((a0.length : Int) < 16)) = true then (r = ((0, 0), 13)) else (if (decide (16 < (a0.length : Int))) = true then (r = ((0, 0), 3)) else (∃ r4 : List Int, crc_New r4 ∧ ∃ r10 : List Int × Int, crc_Open r4 a0 r10 ∧ if (!(decide (r10.2 = 0))) = true then (r = ((0, 0), r10.2)) else (∃ r16 : (List Int × Int × Int), lens_New r10.1 r16 ∧ ∃ r26 : (((List Int × Int × Int) → (S : Type) → (Int → S → Bool × S → Prop) → S → S × (List Int × Int × Int) → Prop)), lens_Lens_Words r16 4 r26 ∧ ∃ (t40 : Sum (Int × Int × Int × Int) (Int × Int × Int × Int)) (w40 : (List Int × Int × Int)), r26 r16 (Sum (Int × Int × Int × Int) (Int × Int × Int × Int)) (Yof (ack_Parse_l2)) (.inl (0, 0, 0, 0)) (t40, w40) ∧ Aft (fun p49 => ack_Parse_j1 (p49.1, p49.2.1, p49.2.2.1) r) (fun p43 => ack_Parse_j1 (p43.1, p43.2.1, p43.2.2.1) r) t40)))
def ref04_Of_j1  (s3 : List Bool) (r : List Bool) : Prop :=
  r = s3
def ref04_Of_l2  (s4 : Int × Int × List Bool) (o4 : Sum (Int × Int × List Bool) (List Bool)) : Prop :=
  if (decide (s4.2.1 < 32)) = true then (0 ≤ s4.2.1 ∧ s4.2.1 < 32 ∧ o4 = .inl ((IntKind.u32.wrap (s4.1.tdiv 2)), (IntKind.i64.wrap (s4.2.1 + 1)), (putN 32 false s4.2.2 s4.2.1.toNat (decide ((s4.1.tmod 2) = 1))))) else (o4 = .inr s4.2.2)
def ref04_Of (a0 : Int) (r : List Bool) : Prop :=
  ∃ e4 : List Bool, Loops (ref04_Of_l2) (a0, 0, (List.replicate 32 false)) e4 ∧ (ref04_Of_j1 e4 r)
def ref04_Xor_j1  (s4 : List Bool) (r : List Bool) : Prop :=
  r = s4
def ref04_Xor_l2 (a1 : List Bool) (s5 : Int × List Bool) (o5 : Sum (Int × List Bool) (List Bool)) : Prop :=
  if (decide (s5.1 < 32)) = true then (0 ≤ s5.1 ∧ s5.1 < 32 ∧ 0 ≤ s5.1 ∧ s5.1 < 32 ∧ 0 ≤ s5.1 ∧ s5.1 < 32 ∧ o5 = .inl ((IntKind.i64.wrap (s5.1 + 1)), (putN 32 false s5.2 s5.1.toNat (!(decide ((s5.2.getD s5.1.toNat false) = (a1.getD s5.1.toNat false))))))) else (o5 = .inr s5.2)
def ref04_Xor (a0 : List Bool) (a1 : List Bool) (r : List Bool) : Prop :=
  ∃ e5 : List Bool, Loops (ref04_Xor_l2 a1) (0, a0) e5 ∧ (ref04_Xor_j1 e5 r)
def ref04_Shift_j1  (s8 : List Bool) (r : List Bool) : Prop :=
  r = s8
def ref04_Shift_j3 (s9 : Int × List Bool) (s10 : List Bool) (o9 : Sum (Int × List Bool) (List Bool)) : Prop :=
  o9 = .inl ((IntKind.i64.wrap (s9.1 + 1)), s10)
def ref04_Shift_j4 (r3 : List Bool) (s9 : Int × List Bool) (s11 : List Bool) (o9 : Sum (Int × List Bool) (List Bool)) : Prop :=
  if (s9.2.getD 0 false) = true then (∃ r12 : List Bool, ref04_Xor (putN 32 false s11 31 false) r3 r12 ∧ ref04_Shift_j3 s9 r12 o9) else (ref04_Shift_j3 s9 (putN 32 false s11 31 false) o9)
def ref04_Shift_l5  (s16 : Int × List Bool) (o16 : Sum (Int × List Bool) (List Bool)) : Prop :=
  if (decide (s16.1 < 31)) = true then (0 ≤ (IntKind.i64.wrap (s16.1 + 1)) ∧ (IntKind.i64.wrap (s16.1 + 1)) < 32 ∧ 0 ≤ s16.1 ∧ s16.1 < 32 ∧ o16 = .inl ((IntKind.i64.wrap (s16.1 + 1)), (putN 32 false s16.2 s16.1.toNat (s16.2.getD ((IntKind.i64.wrap (s16.1 + 1)).toNat) false)))) else (o16 = .inr s16.2)
def ref04_Shift_l2 (r3 : List Bool) (s9 : Int × List Bool) (o9 : Sum (Int × List Bool) (List Bool)) : Prop :=
  if (decide (s9.1 < 8)) = true then (∃ e16 : List Bool, Loops (ref04_Shift_l5) (0, s9.2) e16 ∧ (ref04_Shift_j4 r3 s9 e16 o9)) else (o9 = .inr s9.2)
def ref04_Shift (a0 : List Bool) (r : List Bool) : Prop :=
  ∃ r3 : List Bool, ref04_Of 3988292384 r3 ∧ ∃ e9 : List Bool, Loops (ref04_Shift_l2 r3) (0, a0) e9 ∧ (ref04_Shift_j1 e9 r)
def ref04_Word_j1  (s2 : Int) (r : Int) : Prop :=
  r = s2
def ref04_Word_j3 (s3 : Int × Int) (s4 : Int) (o3 : Sum (Int × Int) Int) : Prop :=
  o3 = .inl (s4, (IntKind.i64.wrap (s3.2 - 1)))
def ref04_Word_l2 (a0 : List Bool) (s3 : Int × Int) (o3 : Sum (Int × Int) Int) : Prop :=
  if (decide (0 ≤ s3.2)) = true then (0 ≤ s3.2 ∧ s3.2 < 32 ∧ if (a0.getD s3.2.toNat false) = true then (ref04_Word_j3 s3 (IntKind.u32.wrap ((IntKind.u32.wrap (2 * s3.1)) + 1)) o3) else (ref04_Word_j3 s3 (IntKind.u32.wrap (2 * s3.1)) o3)) else (o3 = .inr s3.1)
def ref04_Word (a0 : List Bool) (r : Int) : Prop :=
  ∃ e3 : Int, Loops (ref04_Word_l2 a0) (0, 31) e3 ∧ (ref04_Word_j1 e3 r)
def ref04_Sum_j1  (s8 : List Bool) (r : Int) : Prop :=
  ∃ r9 : Int, ref04_Word s8 r9 ∧ r = (IntKind.u32.wrap (4294967295 - r9))
def ref04_Sum_l2 (a0 : List Int) (s13 : Int × List Bool) (o13 : Sum (Int × List Bool) (List Bool)) : Prop :=
  if (decide (s13.1 < (a0.length : Int))) = true then (∃ q14 : Int, idx a0 s13.1 q14 ∧ ∃ r19 : List Bool, ref04_Of (IntKind.u32.wrap q14) r19 ∧ ∃ r23 : List Bool, ref04_Xor s13.2 r19 r23 ∧ ∃ r27 : List Bool, ref04_Shift r23 r27 ∧ o13 = .inl ((IntKind.i64.wrap (s13.1 + 1)), r27)) else (o13 = .inr s13.2)
def ref04_Sum (a0 : List Int) (r : Int) : Prop :=
  ∃ r3 : List Bool, ref04_Of 4294967295 r3 ∧ ∃ e13 : List Bool, Loops (ref04_Sum_l2 a0) (0, r3) e13 ∧ (ref04_Sum_j1 e13 r)
def ref04_Bytes (a0 : Int) (r : List Int) : Prop :=
  r = [(IntKind.u8.wrap (a0.tmod 256)), (IntKind.u8.wrap ((IntKind.u32.wrap (a0.tdiv 256)).tmod 256)), (IntKind.u8.wrap ((IntKind.u32.wrap (a0.tdiv 65536)).tmod 256)), (IntKind.u8.wrap (IntKind.u32.wrap (a0.tdiv 16777216)))]
def ref04_Open_j1 (a0 : List Int) (s17 : Unit) (r : List Int × Int) : Prop :=
  0 ≤ (IntKind.i64.wrap ((a0.length : Int) - 4)) ∧ (IntKind.i64.wrap ((a0.length : Int) - 4)) ≤ (a0.length : Int) ∧ (([] : List Int).length + ((a0.drop (0 : Int).toNat).take (((IntKind.i64.wrap ((a0.length : Int) - 4)) : Int) - 0).toNat).length) * 1 ≤ 140737488355328 ∧ ([] : List Int).length + ((a0.drop (0 : Int).toNat).take (((IntKind.i64.wrap ((a0.length : Int) - 4)) : Int) - 0).toNat).length ≤ 4611686018427387904 ∧ r = ((([] : List Int) ++ ((a0.drop (0 : Int).toNat).take (((IntKind.i64.wrap ((a0.length : Int) - 4)) : Int) - 0).toNat)), 0)
def ref04_Open_l2 (a0 : List Int) (r11 : List Int) (s35 : Int) (o35 : Sum Int (Sum Unit (List Int × Int))) : Prop :=
  if (decide (s35 < 4)) = true then (∃ q36 : Int, idx r11 s35 q36 ∧ ∃ q41 : Int, idx a0 (IntKind.i64.wrap ((IntKind.i64.wrap ((a0.length : Int) - 4)) + s35)) q41 ∧ if (!(decide (q36 = q41))) = true then (o35 = .inr (.inr ([], 11))) else (o35 = .inl (IntKind.i64.wrap (s35 + 1)))) else (o35 = .inr (.inl ()))
def ref04_Open (a0 : List Int) (r : List Int × Int) : Prop :=
  if (decide ((a0.length : Int) < 4)) = true then (r = ([], 13)) else (0 ≤ (IntKind.i64.wrap ((a0.length : Int) - 4)) ∧ (IntKind.i64.wrap ((a0.length : Int) - 4)) ≤ (a0.length : Int) ∧ ∃ r7 : Int, ref04_Sum ((a0.drop (0 : Int).toNat).take (((IntKind.i64.wrap ((a0.length : Int) - 4)) : Int) - 0).toNat) r7 ∧ ∃ r11 : List Int, ref04_Bytes r7 r11 ∧ ∃ e35 : (Sum Unit (List Int × Int)), Loops (ref04_Open_l2 a0 r11) 0 e35 ∧ Aft (fun p47 => ref04_Open_j1 a0 p47 r) (fun p48 => r = p48) e35)
def ref32_Parse_j2 (s11 : Int) (s12 : Int) (r : (Int × Int) × Int) : Prop :=
  r = ((s11, s12), 0)
def ref32_Parse_l3 (r4 : List Int × Int) (s13 : Int × Int) (o13 : Sum (Int × Int) Int) : Prop :=
  if (decide (4 ≤ s13.1)) = true then (∃ q14 : Int, idx r4.1 s13.1 q14 ∧ o13 = .inl ((IntKind.i64.wrap (s13.1 - 1)), (IntKind.u64.wrap ((IntKind.u64.wrap (256 * s13.2)) + (IntKind.u64.wrap q14))))) else (o13 = .inr s13.2)
def ref32_Parse_j1 (r4 : List Int × Int) (s11 : Int) (r : (Int × Int) × Int) : Prop :=
  ∃ e13 : Int, Loops (ref32_Parse_l3 r4) (11, 0) e13 ∧ (ref32_Parse_j2 s11 e13 r)
def ref32_Parse_l4 (r4 : List Int × Int) (s21 : Int × Int) (o21 : Sum (Int × Int) Int) : Prop :=
  if (decide (0 ≤ s21.1)) = true then (∃ q22 : Int, idx r4.1 s21.1 q22 ∧ o21 = .inl ((IntKind.i64.wrap (s21.1 - 1)), (IntKind.u32.wrap ((IntKind.u32.wrap (256 * s21.2)) + (IntKind.u32.wrap q22))))) else (o21 = .inr s21.2)
def ref32_Parse (a0 : List Int) (r : (Int × Int) × Int) : Prop :=
  if (decide ((a0.length : Int) < 16)) = true then (r = ((0, 0), 13)) else (if (decide (16 < (a0.length : Int))) = true then (r = ((0, 0), 3)) else (∃ r4 : List Int × Int, ref04_Open a0 r4 ∧ if (!(decide (r4.2 = 0))) = true then (r = ((0, 0), r4.2)) else (∃ e21 : Int, Loops (ref32_Parse_l4 r4) (3, 0) e21 ∧ (ref32_Parse_j1 r4 e21 r))))
def pen_New (a0 : Int) (r : ((List Int × Int × Bool))) : Prop :=
  r = ([], (max a0 0), false)
def pen_Pen_Raw (a0 : (List Int × Int × Bool)) (a1 : List Int) (r : Int × ((List Int × Int × Bool))) : Prop :=
  if (a0.2.2 || (decide ((IntKind.i64.wrap (a0.2.1 - (a0.1.length : Int))) < (a1.length : Int)))) = true then (r = (2, (a0.1, a0.2.1, true))) else ((a0.1.length + a1.length) * 1 ≤ 140737488355328 ∧ a0.1.length + a1.length ≤ 4611686018427387904 ∧ r = (0, ((a0.1 ++ a1), a0.2.1, a0.2.2)))
def pen_Pen_word (a0 : (List Int × Int × Bool)) (a1 : Int) (a2 : Int) (r : Int × ((List Int × Int × Bool))) : Prop :=
  0 ≤ a2 ∧ a2 ≤ 4 ∧ a2 ≤ 4 ∧ ∃ r13 : Int × ((List Int × Int × Bool)), pen_Pen_Raw a0 (([(IntKind.u8.wrap a1), (IntKind.u8.wrap (ishr .u32 a1 8)), (IntKind.u8.wrap (ishr .u32 a1 16)), (IntKind.u8.wrap (ishr .u32 a1 24))].drop (0 : Int).toNat).take ((a2 : Int) - 0).toNat) r13 ∧ r = (r13.1, r13.2)
def pen_Pen_U32 (a0 : (List Int × Int × Bool)) (a1 : Int) (r : Int × ((List Int × Int × Bool))) : Prop :=
  ∃ r4 : Int × ((List Int × Int × Bool)), pen_Pen_word a0 a1 4 r4 ∧ r = (r4.1, r4.2)
def pen_Pen_Bytes (a0 : (List Int × Int × Bool)) (r : List Int) : Prop :=
  (([] : List Int).length + a0.1.length) * 1 ≤ 140737488355328 ∧ ([] : List Int).length + a0.1.length ≤ 4611686018427387904 ∧ r = (([] : List Int) ++ a0.1)
def ack_Bytes_j1  (s10 : List Int × Int × Bool) (r : List Int) : Prop :=
  ∃ r14 : List Int, crc_New r14 ∧ ∃ r20 : List Int, pen_Pen_Bytes s10 r20 ∧ ∃ r26 : List Int, crc_Seal r14 r20 r26 ∧ r = r26
def ack_Bytes_l2 (a0 : Int × Int) (s32 : Int × List Int × Int × Bool) (o32 : Sum (Int × List Int × Int × Bool) (List Int × Int × Bool)) : Prop :=
  if (decide (s32.1 < 3)) = true then (0 ≤ s32.1 ∧ s32.1 < 3 ∧ ∃ r38 : Int × ((List Int × Int × Bool)), pen_Pen_U32 s32.2 ([a0.1, (IntKind.u32.wrap a0.2), (IntKind.u32.wrap (ishr .u64 a0.2 32))].getD s32.1.toNat 0) r38 ∧ o32 = .inl ((IntKind.i64.wrap (s32.1 + 1)), r38.2.1, r38.2.2.1, r38.2.2.2)) else (o32 = .inr (s32.2.1, s32.2.2.1, s32.2.2.2))
def ack_Bytes (a0 : Int × Int) (r : List Int) : Prop :=
  ∃ r2 : ((List Int × Int × Bool)), pen_New 16 r2 ∧ ∃ e32 : List Int × Int × Bool, Loops (ack_Bytes_l2 a0) (0, r2.1, r2.2.1, r2.2.2) e32 ∧ (ack_Bytes_j1 e32 r)
def ref01_Same_j1  (s5 : Unit) (r : Bool) : Prop :=
  r = true
def ref01_Same_l2 (a0 : List Int) (a1 : List Int) (s6 : Int) (o6 : Sum Int (Sum Unit Bool)) : Prop :=
  if (decide (s6 < (a0.length : Int))) = true then (∃ q7 : Int, idx a0 s6 q7 ∧ ∃ q12 : Int, idx a1 s6 q12 ∧ if (!(decide (q7 = q12))) = true then (o6 = .inr (.inr false)) else (o6 = .inl (IntKind.i64.wrap (s6 + 1)))) else (o6 = .inr (.inl ()))
def ref01_Same (a0 : List Int) (a1 : List Int) (r : Bool) : Prop :=
  if (!(decide ((a0.length : Int) = (a1.length : Int)))) = true then (r = false) else (∃ e6 : (Sum Unit Bool), Loops (ref01_Same_l2 a0 a1) 0 e6 ∧ Aft (fun p18 => ref01_Same_j1 p18 r) (fun p19 => r = p19) e6)
def law32_AckParses_j1  (s17 : Bool) (r : Bool) : Prop :=
  r = s17
def law32_AckParses (a0 : List Int) (r : Bool) : Prop :=
  0 ≤ (min (a0.length : Int) 20) ∧ (min (a0.length : Int) 20) ≤ (a0.length : Int) ∧ ∃ r7 : (Int × Int) × Int, ack_Parse ((a0.drop (0 : Int).toNat).take (((min (a0.length : Int) 20) : Int) - 0).toNat) r7 ∧ ∃ r12 : (Int × Int) × Int, ref32_Parse ((a0.drop (0 : Int).toNat).take (((min (a0.length : Int) 20) : Int) - 0).toNat) r12 ∧ ∃ r18 : Bool, law32_known r18 ∧ if r18 = true then (if ((decide (r7.1.1 = r12.1.1)) && ((decide (r7.1.2 = r12.1.2)) && true)) = true then (if (decide (r7.2 = r12.2)) = true then (if (!(decide (r7.2 = 0))) = true then (law32_AckParses_j1 true r) else (∃ r22 : List Int, ack_Bytes r7.1 r22 ∧ ∃ r28 : Bool, ref01_Same r22 ((a0.drop (0 : Int).toNat).take (((min (a0.length : Int) 20) : Int) - 0).toNat) r28 ∧ law32_AckParses_j1 r28 r)) else (law32_AckParses_j1 false r)) else (law32_AckParses_j1 false r)) else (law32_AckParses_j1 false r)
def cobs_Decode_j1  (s3 : Unit) (r : List Int × Int) : Prop :=
  r = ([], 12)
def cobs_Decode_j2  (s4 : List Int) (r : List Int × Int) : Prop :=
  r = (s4, 0)
def cobs_Decode_j6 (s14 : List Int × List Int × Bool) (q20 : Int) (s41 : Bool) (o14 : Sum (List Int × List Int × Bool) (Sum Unit (List Int))) : Prop :=
  if s41 = true then (o14 = .inr (.inl ())) else (if (decide ((((s14.2.1.drop (IntKind.i64.wrap ((IntKind.i64.wrap ((IntKind.i64.wrap q20) - 1)) + 1)).toNat).take (((s14.2.1.length : Int) : Int) - (IntKind.i64.wrap ((IntKind.i64.wrap ((IntKind.i64.wrap q20) - 1)) + 1))).toNat).length : Int) = 0)) = true then (o14 = .inr (.inr (s14.1 ++ ((s14.2.1.drop (1 : Int).toNat).take (((IntKind.i64.wrap ((IntKind.i64.wrap ((IntKind.i64.wrap q20) - 1)) + 1)) : Int) - 1).toNat)))) else (if (!(decide ((IntKind.i64.wrap ((IntKind.i64.wrap q20) - 1)) = 254))) = true then (((s14.1 ++ ((s14.2.1.drop (1 : Int).toNat).take (((IntKind.i64.wrap ((IntKind.i64.wrap ((IntKind.i64.wrap q20) - 1)) + 1)) : Int) - 1).toNat)).length + [0].length) * 1 ≤ 140737488355328 ∧ (s14.1 ++ ((s14.2.1.drop (1 : Int).toNat).take (((IntKind.i64.wrap ((IntKind.i64.wrap ((IntKind.i64.wrap q20) - 1)) + 1)) : Int) - 1).toNat)).length + [0].length ≤ 4611686018427387904 ∧ o14 = .inl (((s14.1 ++ ((s14.2.1.drop (1 : Int).toNat).take (((IntKind.i64.wrap ((IntKind.i64.wrap ((IntKind.i64.wrap q20) - 1)) + 1)) : Int) - 1).toNat)) ++ [0]), ((s14.2.1.drop (IntKind.i64.wrap ((IntKind.i64.wrap ((IntKind.i64.wrap q20) - 1)) + 1)).toNat).take (((s14.2.1.length : Int) : Int) - (IntKind.i64.wrap ((IntKind.i64.wrap ((IntKind.i64.wrap q20) - 1)) + 1))).toNat), (decide ((IntKind.i64.wrap ((IntKind.i64.wrap q20) - 1)) = 254)))) else (o14 = .inl ((s14.1 ++ ((s14.2.1.drop (1 : Int).toNat).take (((IntKind.i64.wrap ((IntKind.i64.wrap ((IntKind.i64.wrap q20) - 1)) + 1)) : Int) - 1).toNat)), ((s14.2.1.drop (IntKind.i64.wrap ((IntKind.i64.wrap ((IntKind.i64.wrap q20) - 1)) + 1)).toNat).take (((s14.2.1.length : Int) : Int) - (IntKind.i64.wrap ((IntKind.i64.wrap ((IntKind.i64.wrap q20) - 1)) + 1))).toNat), (decide ((IntKind.i64.wrap ((IntKind.i64.wrap q20) - 1)) = 254))))))
def cobs_Decode_j5 (s14 : List Int × List Int × Bool) (q20 : Int) (s26 : Unit) (o14 : Sum (List Int × List Int × Bool) (Sum Unit (List Int))) : Prop :=
  1 ≤ (IntKind.i64.wrap ((IntKind.i64.wrap ((IntKind.i64.wrap q20) - 1)) + 1)) ∧ (IntKind.i64.wrap ((IntKind.i64.wrap ((IntKind.i64.wrap q20) - 1)) + 1)) ≤ (s14.2.1.length : Int) ∧ (s14.1.length + ((s14.2.1.drop (1 : Int).toNat).take (((IntKind.i64.wrap ((IntKind.i64.wrap ((IntKind.i64.wrap q20) - 1)) + 1)) : Int) - 1).toNat).length) * 1 ≤ 140737488355328 ∧ s14.1.length + ((s14.2.1.drop (1 : Int).toNat).take (((IntKind.i64.wrap ((IntKind.i64.wrap ((IntKind.i64.wrap q20) - 1)) + 1)) : Int) - 1).toNat).length ≤ 4611686018427387904 ∧ 0 ≤ (IntKind.i64.wrap ((IntKind.i64.wrap ((IntKind.i64.wrap q20) - 1)) + 1)) ∧ (IntKind.i64.wrap ((IntKind.i64.wrap ((IntKind.i64.wrap q20) - 1)) + 1)) ≤ (s14.2.1.length : Int) ∧ (s14.2.1.length : Int) ≤ (s14.2.1.length : Int) ∧ if (decide ((((s14.2.1.drop (IntKind.i64.wrap ((IntKind.i64.wrap ((IntKind.i64.wrap q20) - 1)) + 1)).toNat).take (((s14.2.1.length : Int) : Int) - (IntKind.i64.wrap ((IntKind.i64.wrap ((IntKind.i64.wrap q20) - 1)) + 1))).toNat).length : Int) = 0)) = true then (if s14.2.2 = true then (cobs_Decode_j6 s14 q20 (decide ((IntKind.i64.wrap ((IntKind.i64.wrap q20) - 1)) = 0)) o14) else (cobs_Decode_j6 s14 q20 false o14)) else (cobs_Decode_j6 s14 q20 false o14)
def cobs_Decode_l7 (s14 : List Int × List Int × Bool) (q20 : Int) (s54 : Int) (o54 : Sum Int (Sum Unit Unit)) : Prop :=
  if (decide (s54 < (((s14.2.1.drop (1 : Int).toNat).take (((IntKind.i64.wrap ((IntKind.i64.wrap ((IntKind.i64.wrap q20) - 1)) + 1)) : Int) - 1).toNat).length : Int))) = true then (∃ q55 : Int, idx ((s14.2.1.drop (1 : Int).toNat).take (((IntKind.i64.wrap ((IntKind.i64.wrap ((IntKind.i64.wrap q20) - 1)) + 1)) : Int) - 1).toNat) s54 q55 ∧ if (decide (q55 = 0)) = true then (o54 = .inr (.inr ())) else (o54 = .inl (IntKind.i64.wrap (s54 + 1)))) else (o54 = .inr (.inl ()))
def cobs_Decode_j4 (s14 : List Int × List Int × Bool) (q20 : Int) (s25 : Bool) (o14 : Sum (List Int × List Int × Bool) (Sum Unit (List Int))) : Prop :=
  if s25 = true then (o14 = .inr (.inl ())) else (1 ≤ (IntKind.i64.wrap ((IntKind.i64.wrap ((IntKind.i64.wrap q20) - 1)) + 1)) ∧ (IntKind.i64.wrap ((IntKind.i64.wrap ((IntKind.i64.wrap q20) - 1)) + 1)) ≤ (s14.2.1.length : Int) ∧ ∃ e54 : (Sum Unit Unit), Loops (cobs_Decode_l7 s14 q20) 0 e54 ∧ Aft (fun p60 => cobs_Decode_j5 s14 q20 p60 o14) (fun p61 => o14 = .inr (.inl p61)) e54)
def cobs_Decode_l3  (s14 : List Int × List Int × Bool) (o14 : Sum (List Int × List Int × Bool) (Sum Unit (List Int))) : Prop :=
  ∃ q20 : Int, idx s14.2.1 0 q20 ∧ if (decide ((IntKind.i64.wrap ((IntKind.i64.wrap q20) - 1)) < 0)) = true then (cobs_Decode_j4 s14 q20 true o14) else (cobs_Decode_j4 s14 q20 (decide ((s14.2.1.length : Int) ≤ (IntKind.i64.wrap ((IntKind.i64.wrap q20) - 1)))) o14)
def cobs_Decode (a0 : List Int) (r : List Int × Int) : Prop :=
  if (decide ((a0.length : Int) = 0)) = true then (cobs_Decode_j1 () r) else (∃ e14 : (Sum Unit (List Int)), Loops (cobs_Decode_l3) ([], a0, false) e14 ∧ Aft (fun p62 => cobs_Decode_j1 p62 r) (fun p63 => cobs_Decode_j2 p63 r) e14)
def lens_Lens_U8 (a0 : List Int × Int × Int) (r : Int × (List Int × Int × Int)) : Prop :=
  ∃ r3 : Int × (List Int × Int × Int), lens_Lens_word a0 1 r3 ∧ r = ((IntKind.u8.wrap r3.1), r3.2)
def lens_Lens_U32 (a0 : List Int × Int × Int) (r : Int × (List Int × Int × Int)) : Prop :=
  ∃ r3 : Int × (List Int × Int × Int), lens_Lens_word a0 4 r3 ∧ r = (r3.1, r3.2)
def lens_Lens_End_j1 (r3 : Int) (s7 : Bool) (r : Int) : Prop :=
  if s7 = true then (r = r3) else (r = 3)
def lens_Lens_End (a0 : List Int × Int × Int) (r : Int) : Prop :=
  ∃ r3 : Int, lens_Lens_Err a0 r3 ∧ if (!(decide (r3 = 0))) = true then (lens_Lens_End_j1 r3 true r) else (∃ r8 : Int, lens_Lens_Left a0 r8 ∧ lens_Lens_End_j1 r3 (decide (r8 = 0)) r)
def head_Parse_j1 (r11 : Int × (List Int × Int × Int)) (r17 : Int × (List Int × Int × Int)) (r23 : Int × (List Int × Int × Int)) (r29 : Int × (List Int × Int × Int)) (r35 : Int × (List Int × Int × Int)) (s46 : Int) (r : (Int × Int × Int × Int × Int) × Int) : Prop :=
  if (!(decide (s46 = 0))) = true then (r = ((0, 0, 0, 0, 0), s46)) else (r = (((IntKind.i64.wrap r11.1), (IntKind.i64.wrap r17.1), r23.1, (IntKind.i64.wrap r29.1), (IntKind.i64.wrap r35.1)), 0))
def head_Parse (a0 : List Int) (r : (Int × Int × Int × Int × Int) × Int) : Prop :=
  if (decide ((a0.length : Int) < 8)) = true then (r = ((0, 0, 0, 0, 0), 13)) else (∃ r4 : (List Int × Int × Int), lens_New a0 r4 ∧ ∃ r11 : Int × (List Int × Int × Int), lens_Lens_U8 r4 r11 ∧ ∃ r17 : Int × (List Int × Int × Int), lens_Lens_U8 r11.2 r17 ∧ ∃ r23 : Int × (List Int × Int × Int), lens_Lens_U32 r17.2 r23 ∧ ∃ r29 : Int × (List Int × Int × Int), lens_Lens_U8 r23.2 r29 ∧ ∃ r35 : Int × (List Int × Int × Int), lens_Lens_U8 r29.2 r35 ∧ ∃ r42 : Int, lens_Lens_End r35.2 r42 ∧ if (decide (r42 = 0)) = true then (∃ r47 : Int, head_Check ((IntKind.i64.wrap r11.1), (IntKind.i64.wrap r17.1), r23.1, (IntKind.i64.wrap r29.1), (IntKind.i64.wrap r35.1)) r47 ∧ head_Parse_j1 r11 r17 r23 r29 r35 r47 r) else (head_Parse_j1 r11 r17 r23 r29 r35 r42 r))
def frame_Codec_Unpack (a0 : List Int) (a1 : List Int) (r : ((Int × Int × Int × Int × Int) × List Int) × Int) : Prop :=
  if (decide (255 < (a1.length : Int))) = true then (r = (((0, 0, 0, 0, 0), []), 2)) else (∃ r8 : List Int × Int, cobs_Decode a1 r8 ∧ if (!(decide (r8.2 = 0))) = true then (r = (((0, 0, 0, 0, 0), []), r8.2)) else (if (decide ((r8.1.length : Int) ≤ 12)) = true then (r = (((0, 0, 0, 0, 0), []), 13)) else (∃ r14 : List Int × Int, crc_Open a0 r8.1 r14 ∧ if (!(decide (r14.2 = 0))) = true then (r = (((0, 0, 0, 0, 0), []), r14.2)) else (8 ≤ (r14.1.length : Int) ∧ ∃ r23 : (Int × Int × Int × Int × Int) × Int, head_Parse ((r14.1.drop (0 : Int).toNat).take ((8 : Int) - 0).toNat) r23 ∧ if (!(decide (r23.2 = 0))) = true then (r = (((0, 0, 0, 0, 0), []), r23.2)) else (8 ≤ (r14.1.length : Int) ∧ (r14.1.length : Int) ≤ (r14.1.length : Int) ∧ r = ((r23.1, ((r14.1.drop (8 : Int).toNat).take (((r14.1.length : Int) : Int) - 8).toNat)), 0))))))
def ref05_Blocks_j2  (s10 : List (List Int)) (r : List (List Int)) : Prop :=
  r = s10
def ref05_Blocks_j1  (s3 : List (List Int) × List Int × Bool) (r : List (List Int)) : Prop :=
  if (!s3.2.2) = true then ((s3.1.length + [s3.2.1].length) * 24 ≤ 140737488355328 ∧ s3.1.length + [s3.2.1].length ≤ 4611686018427387904 ∧ ref05_Blocks_j2 (s3.1 ++ [s3.2.1]) r) else (ref05_Blocks_j2 s3.1 r)
def ref05_Blocks_j4 (s33 : List (List Int) × List Int × Bool × Int) (s40 : List (List Int) × List Int × Bool) (o33 : Sum (List (List Int) × List Int × Bool × Int) (List (List Int) × List Int × Bool)) : Prop :=
  o33 = .inl (s40.1, s40.2.1, s40.2.2, (IntKind.i64.wrap (s33.2.2.2 + 1)))
def ref05_Blocks_l3 (a0 : List Int) (s33 : List (List Int) × List Int × Bool × Int) (o33 : Sum (List (List Int) × List Int × Bool × Int) (List (List Int) × List Int × Bool)) : Prop :=
  if (decide (s33.2.2.2 < (a0.length : Int))) = true then (∃ q47 : Int, idx a0 s33.2.2.2 q47 ∧ if (decide (q47 = 0)) = true then ((s33.1.length + [s33.2.1].length) * 24 ≤ 140737488355328 ∧ s33.1.length + [s33.2.1].length ≤ 4611686018427387904 ∧ ref05_Blocks_j4 s33 ((s33.1 ++ [s33.2.1]), [], false) o33) else (∃ q65 : Int, idx a0 s33.2.2.2 q65 ∧ (s33.2.1.length + [q65].length) * 1 ≤ 140737488355328 ∧ s33.2.1.length + [q65].length ≤ 4611686018427387904 ∧ if (decide (((s33.2.1 ++ [q65]).length : Int) = 254)) = true then ((s33.1.length + [(s33.2.1 ++ [q65])].length) * 24 ≤ 140737488355328 ∧ s33.1.length + [(s33.2.1 ++ [q65])].length ≤ 4611686018427387904 ∧ ref05_Blocks_j4 s33 ((s33.1 ++ [(s33.2.1 ++ [q65])]), [], true) o33) else (ref05_Blocks_j4 s33 (s33.1, (s33.2.1 ++ [q65]), false) o33))) else (o33 = .inr (s33.1, s33.2.1, s33.2.2.1))
def ref05_Blocks (a0 : List Int) (r : List (List Int)) : Prop :=
  ∃ e33 : List (List Int) × List Int × Bool, Loops (ref05_Blocks_l3 a0) ([], [], false, 0) e33 ∧ (ref05_Blocks_j1 e33 r)
def ref05_Encode_j1  (s9 : List Int) (r : List Int) : Prop :=
  r = s9
def ref05_Encode_l2 (r3 : List (List Int)) (s19 : List Int × Int) (o19 : Sum (List Int × Int) (List Int)) : Prop :=
  if (decide (s19.2 < (r3.length : Int))) = true then (∃ q23 : List Int, idx r3 s19.2 q23 ∧ (s19.1.length + [(IntKind.u8.wrap (IntKind.i64.wrap ((q23.length : Int) + 1)))].length) * 1 ≤ 140737488355328 ∧ s19.1.length + [(IntKind.u8.wrap (IntKind.i64.wrap ((q23.length : Int) + 1)))].length ≤ 4611686018427387904 ∧ ∃ q38 : List Int, idx r3 s19.2 q38 ∧ ((s19.1 ++ [(IntKind.u8.wrap (IntKind.i64.wrap ((q23.length : Int) + 1)))]).length + q38.length) * 1 ≤ 140737488355328 ∧ (s19.1 ++ [(IntKind.u8.wrap (IntKind.i64.wrap ((q23.length : Int) + 1)))]).length + q38.length ≤ 4611686018427387904 ∧ o19 = .inl (((s19.1 ++ [(IntKind.u8.wrap (IntKind.i64.wrap ((q23.length : Int) + 1)))]) ++ q38), (IntKind.i64.wrap (s19.2 + 1)))) else (o19 = .inr s19.1)
def ref05_Encode (a0 : List Int) (r : List Int) : Prop :=
  ∃ r3 : List (List Int), ref05_Blocks a0 r3 ∧ ∃ e19 : List Int, Loops (ref05_Encode_l2 r3) ([], 0) e19 ∧ (ref05_Encode_j1 e19 r)
def ref05_Decode_j1 (a0 : List Int) (s3 : List Int) (r : List Int × Int) : Prop :=
  ∃ r12 : List Int, ref05_Encode s3 r12 ∧ ∃ r18 : Bool, ref01_Same r12 a0 r18 ∧ if (!r18) = true then (r = ([], 12)) else (r = (s3, 0))
def ref05_Decode_j4 (s22 : List Int × Int) (q26 : Int) (s31 : List Int) (s35 : Bool) (o22 : Sum (List Int × Int) (Sum (List Int) (List Int × Int))) : Prop :=
  if s35 = true then ((s31.length + [0].length) * 1 ≤ 140737488355328 ∧ s31.length + [0].length ≤ 4611686018427387904 ∧ o22 = .inl ((s31 ++ [0]), (IntKind.i64.wrap (s22.2 + (IntKind.i64.wrap q26))))) else (o22 = .inl (s31, (IntKind.i64.wrap (s22.2 + (IntKind.i64.wrap q26)))))
def ref05_Decode_j3 (a0 : List Int) (s22 : List Int × Int) (q26 : Int) (s31 : List Int) (o22 : Sum (List Int × Int) (Sum (List Int) (List Int × Int))) : Prop :=
  if (decide ((IntKind.i64.wrap q26) = 0)) = true then (o22 = .inr (.inr ([], 12))) else (if (decide ((IntKind.i64.wrap q26) < 255)) = true then (ref05_Decode_j4 s22 q26 s31 (decide ((IntKind.i64.wrap (s22.2 + (IntKind.i64.wrap q26))) < (a0.length : Int))) o22) else (ref05_Decode_j4 s22 q26 s31 false o22))
def ref05_Decode_j6 (a0 : List Int) (s22 : List Int × Int) (s44 : List Int × Int) (s48 : Bool) (o44 : Sum (List Int × Int) (List Int)) : Prop :=
  if s48 = true then (∃ q49 : Int, idx a0 (IntKind.i64.wrap (s22.2 + s44.2)) q49 ∧ (s44.1.length + [q49].length) * 1 ≤ 140737488355328 ∧ s44.1.length + [q49].length ≤ 4611686018427387904 ∧ o44 = .inl ((s44.1 ++ [q49]), (IntKind.i64.wrap (s44.2 + 1)))) else (o44 = .inr s44.1)
def ref05_Decode_l5 (a0 : List Int) (s22 : List Int × Int) (q26 : Int) (s44 : List Int × Int) (o44 : Sum (List Int × Int) (List Int)) : Prop :=
  if (decide (s44.2 < (IntKind.i64.wrap q26))) = true then (ref05_Decode_j6 a0 s22 s44 (decide ((IntKind.i64.wrap (s22.2 + s44.2)) < (a0.length : Int))) o44) else (ref05_Decode_j6 a0 s22 s44 false o44)
def ref05_Decode_l2 (a0 : List Int) (s22 : List Int × Int) (o22 : Sum (List Int × Int) (Sum (List Int) (List Int × Int))) : Prop :=
  if (decide (s22.2 < (a0.length : Int))) = true then (∃ q26 : Int, idx a0 s22.2 q26 ∧ ∃ e44 : List Int, Loops (ref05_Decode_l5 a0 s22 q26) (s22.1, 1) e44 ∧ (ref05_Decode_j3 a0 s22 q26 e44 o22)) else (o22 = .inr (.inl s22.1))
def ref05_Decode (a0 : List Int) (r : List Int × Int) : Prop :=
  ∃ e22 : (Sum (List Int) (List Int × Int)), Loops (ref05_Decode_l2 a0) ([], 0) e22 ∧ Aft (fun p63 => ref05_Decode_j1 a0 p63 r) (fun p64 => r = p64) e22
def ref07_Check_j3  (s4 : Bool) (r : Int) : Prop :=
  if s4 = true then (r = 3) else (r = 0)
def ref07_Check_j2 (a0 : Int × Int × Int × Int × Int) (s3 : Bool) (r : Int) : Prop :=
  if s3 = true then (r = 9) else (if (decide (a0.2.2.2.2 < 1)) = true then (ref07_Check_j3 true r) else (if (decide (255 < a0.2.2.2.2)) = true then (ref07_Check_j3 true r) else (if (decide (a0.2.2.2.1 < 0)) = true then (ref07_Check_j3 true r) else (ref07_Check_j3 (decide (a0.2.2.2.2 ≤ a0.2.2.2.1)) r))))
def ref07_Check_j1 (a0 : Int × Int × Int × Int × Int) (s2 : Bool) (r : Int) : Prop :=
  if s2 = true then (r = 10) else (if (decide (a0.2.1 < 1)) = true then (ref07_Check_j2 a0 true r) else (ref07_Check_j2 a0 (decide (5 < a0.2.1)) r))
def ref07_Check (a0 : Int × Int × Int × Int × Int) (r : Int) : Prop :=
  if (!(decide (a0.1 = 1))) = true then (ref07_Check_j1 a0 (!(decide (a0.1 = 2))) r) else (ref07_Check_j1 a0 false r)
def ref07_Parse_j1 (a0 : List Int) (s4 : Int) (r : (Int × Int × Int × Int × Int) × Int) : Prop :=
  ∃ q5 : Int, idx a0 0 q5 ∧ ∃ q10 : Int, idx a0 1 q10 ∧ ∃ q15 : Int, idx a0 6 q15 ∧ ∃ q20 : Int, idx a0 7 q20 ∧ ∃ r27 : Int, ref07_Check ((IntKind.i64.wrap q5), (IntKind.i64.wrap q10), s4, (IntKind.i64.wrap q15), (IntKind.i64.wrap q20)) r27 ∧ if (!(decide (r27 = 0))) = true then (∃ r31 : Int, ref07_Check ((IntKind.i64.wrap q5), (IntKind.i64.wrap q10), s4, (IntKind.i64.wrap q15), (IntKind.i64.wrap q20)) r31 ∧ r = ((0, 0, 0, 0, 0), r31)) else (r = (((IntKind.i64.wrap q5), (IntKind.i64.wrap q10), s4, (IntKind.i64.wrap q15), (IntKind.i64.wrap q20)), 0))
def ref07_Parse_l2 (a0 : List Int) (s35 : Int × Int) (o35 : Sum (Int × Int) Int) : Prop :=
  if (decide (1 < s35.2)) = true then (∃ q36 : Int, idx a0 s35.2 q36 ∧ o35 = .inl ((IntKind.u32.wrap ((IntKind.u32.wrap (256 * s35.1)) + (IntKind.u32.wrap q36))), (IntKind.i64.wrap (s35.2 - 1)))) else (o35 = .inr s35.1)
def ref07_Parse (a0 : List Int) (r : (Int × Int × Int × Int × Int) × Int) : Prop :=
  if (decide ((a0.length : Int) < 8)) = true then (r = ((0, 0, 0, 0, 0), 13)) else (if (decide (8 < (a0.length : Int))) = true then (r = ((0, 0, 0, 0, 0), 3)) else (∃ e35 : Int, Loops (ref07_Parse_l2 a0) (0, 5) e35 ∧ (ref07_Parse_j1 a0 e35 r)))
def ref08_Unpack (a0 : List Int) (r : ((Int × Int × Int × Int × Int) × List Int) × Int) : Prop :=
  if (decide (255 < (a0.length : Int))) = true then (r = (((0, 0, 0, 0, 0), []), 2)) else (∃ r4 : List Int × Int, ref05_Decode a0 r4 ∧ if (!(decide (r4.2 = 0))) = true then (r = (((0, 0, 0, 0, 0), []), r4.2)) else (if (decide ((r4.1.length : Int) < 13)) = true then (r = (((0, 0, 0, 0, 0), []), 13)) else (∃ r10 : List Int × Int, ref04_Open r4.1 r10 ∧ if (!(decide (r10.2 = 0))) = true then (r = (((0, 0, 0, 0, 0), []), r10.2)) else (8 ≤ (r10.1.length : Int) ∧ ∃ r19 : (Int × Int × Int × Int × Int) × Int, ref07_Parse ((r10.1.drop (0 : Int).toNat).take ((8 : Int) - 0).toNat) r19 ∧ if (!(decide (r19.2 = 0))) = true then (r = (((0, 0, 0, 0, 0), []), r19.2)) else (8 ≤ (r10.1.length : Int) ∧ (r10.1.length : Int) ≤ (r10.1.length : Int) ∧ (([] : List Int).length + ((r10.1.drop (8 : Int).toNat).take (((r10.1.length : Int) : Int) - 8).toNat).length) * 1 ≤ 140737488355328 ∧ ([] : List Int).length + ((r10.1.drop (8 : Int).toNat).take (((r10.1.length : Int) : Int) - 8).toNat).length ≤ 4611686018427387904 ∧ r = ((r19.1, (([] : List Int) ++ ((r10.1.drop (8 : Int).toNat).take (((r10.1.length : Int) : Int) - 8).toNat))), 0))))))
def law08_Of (a0 : (Int × Int × Int × Int × Int) × List Int) (r : ((Int × Int × Int × Int × Int) × List Int)) : Prop :=
  r = a0
def ref08_Same_j1  (s7 : Bool) (r : Bool) : Prop :=
  r = s7
def ref08_Same (a0 : (Int × Int × Int × Int × Int) × List Int) (a1 : (Int × Int × Int × Int × Int) × List Int) (r : Bool) : Prop :=
  if ((decide (a0.1.1 = a1.1.1)) && ((decide (a0.1.2.1 = a1.1.2.1)) && ((decide (a0.1.2.2.1 = a1.1.2.2.1)) && ((decide (a0.1.2.2.2.1 = a1.1.2.2.2.1)) && ((decide (a0.1.2.2.2.2 = a1.1.2.2.2.2)) && true))))) = true then (∃ r8 : Bool, ref01_Same a0.2 a1.2 r8 ∧ ref08_Same_j1 r8 r) else (ref08_Same_j1 false r)
def law08_FrameUnpacks_j1  (s50 : Bool) (r : Bool) : Prop :=
  r = s50
def law08_FrameUnpacks (a0 : List Int) (r : Bool) : Prop :=
  0 ≤ (min (a0.length : Int) 300) ∧ (min (a0.length : Int) 300) ≤ (a0.length : Int) ∧ ∃ r7 : List Int, frame_New r7 ∧ ∃ r15 : ((Int × Int × Int × Int × Int) × List Int) × Int, frame_Codec_Unpack r7 ((a0.drop (0 : Int).toNat).take (((min (a0.length : Int) 300) : Int) - 0).toNat) r15 ∧ ∃ r22 : ((Int × Int × Int × Int × Int) × List Int) × Int, ref08_Unpack ((a0.drop (0 : Int).toNat).take (((min (a0.length : Int) 300) : Int) - 0).toNat) r22 ∧ ∃ r29 : ((Int × Int × Int × Int × Int) × List Int), ((!(decide (r15.2 = r22.2))) = false → law08_Of r15.1 r29) ∧ ∃ r35 : Bool, ((!(decide (r15.2 = r22.2))) = false → ref08_Same r29 r22.1 r35) ∧ if ((!(decide (r15.2 = r22.2))) || (!r35)) = true then (r = false) else (if (!(decide (r15.2 = 0))) = true then (∃ r40 : Bool, law08_known r40 ∧ r = r40) else (∃ r44 : List Int × Int, frame_Codec_Segment r7 r15.1 r44 ∧ ∃ r51 : Bool, law08_known r51 ∧ if r51 = true then (if (decide (r44.2 = 0)) = true then (∃ r55 : Bool, ref01_Same r44.1 ((a0.drop (0 : Int).toNat).take (((min (a0.length : Int) 300) : Int) - 0).toNat) r55 ∧ law08_FrameUnpacks_j1 r55 r) else (law08_FrameUnpacks_j1 false r)) else (law08_FrameUnpacks_j1 false r)))
def ref06_Split_j1  (s3 : List (List Int) × List Int × List Int) (r : List (List Int) × List Int × List Int) : Prop :=
  r = (s3.1, s3.2.1, s3.2.2)
def ref06_Split_j3 (s31 : List (List Int) × List Int × List Int × Int) (s41 : List (List Int) × List Int × List Int) (o31 : Sum (List (List Int) × List Int × List Int × Int) (List (List Int) × List Int × List Int)) : Prop :=
  o31 = .inl (s41.1, s41.2.1, s41.2.2, (IntKind.i64.wrap (s31.2.2.2 + 1)))
def ref06_Split_j4 (s31 : List (List Int) × List Int × List Int × Int) (s69 : List (List Int) × List Int) (o31 : Sum (List (List Int) × List Int × List Int × Int) (List (List Int) × List Int × List Int)) : Prop :=
  ref06_Split_j3 s31 (s69.1, s69.2, []) o31
def ref06_Split_l2 (a0 : List Int) (s31 : List (List Int) × List Int × List Int × Int) (o31 : Sum (List (List Int) × List Int × List Int × Int) (List (List Int) × List Int × List Int)) : Prop :=
  if (decide (s31.2.2.2 < (a0.length : Int))) = true then (∃ q51 : Int, idx a0 s31.2.2.2 q51 ∧ if (!(decide (q51 = 0))) = true then (∃ q56 : Int, idx a0 s31.2.2.2 q56 ∧ (s31.2.2.1.length + [q56].length) * 1 ≤ 140737488355328 ∧ s31.2.2.1.length + [q56].length ≤ 4611686018427387904 ∧ ref06_Split_j3 s31 (s31.1, s31.2.1, (s31.2.2.1 ++ [q56])) o31) else (if (decide (0 < (s31.2.2.1.length : Int))) = true then ((s31.1.length + [s31.2.2.1].length) * 24 ≤ 140737488355328 ∧ s31.1.length + [s31.2.2.1].length ≤ 4611686018427387904 ∧ (s31.2.1.length + [(IntKind.i64.wrap (s31.2.2.2 - (s31.2.2.1.length : Int)))].length) * 8 ≤ 140737488355328 ∧ s31.2.1.length + [(IntKind.i64.wrap (s31.2.2.2 - (s31.2.2.1.length : Int)))].length ≤ 4611686018427387904 ∧ ref06_Split_j4 s31 ((s31.1 ++ [s31.2.2.1]), (s31.2.1 ++ [(IntKind.i64.wrap (s31.2.2.2 - (s31.2.2.1.length : Int)))])) o31) else (ref06_Split_j4 s31 (s31.1, s31.2.1) o31))) else (o31 = .inr (s31.1, s31.2.1, s31.2.2.1))
def ref06_Split (a0 : List Int) (r : List (List Int) × List Int × List Int) : Prop :=
  ∃ e31 : List (List Int) × List Int × List Int, Loops (ref06_Split_l2 a0) ([], [], [], 0) e31 ∧ (ref06_Split_j1 e31 r)
def ref08_Frames_j1  (s13 : (List ((Int × Int × Int × Int × Int) × List Int)) × List Int) (r : (List ((Int × Int × Int × Int × Int) × List Int)) × List Int) : Prop :=
  r = (s13.1, s13.2)
def ref08_Frames_l2 (r3 : List (List Int) × List Int × List Int) (s32 : (List ((Int × Int × Int × Int × Int) × List Int)) × List Int × Int) (o32 : Sum ((List ((Int × Int × Int × Int × Int) × List Int)) × List Int × Int) ((List ((Int × Int × Int × Int × Int) × List Int)) × List Int)) : Prop :=
  if (decide (s32.2.2 < (r3.1.length : Int))) = true then (∃ q39 : List Int, idx r3.1 s32.2.2 q39 ∧ ∃ r46 : ((Int × Int × Int × Int × Int) × List Int) × Int, ref08_Unpack q39 r46 ∧ (s32.1.length + [r46.1].length) * 64 ≤ 140737488355328 ∧ s32.1.length + [r46.1].length ≤ 4611686018427387904 ∧ (s32.2.1.length + [r46.2].length) * 8 ≤ 140737488355328 ∧ s32.2.1.length + [r46.2].length ≤ 4611686018427387904 ∧ o32 = .inl ((s32.1 ++ [r46.1]), (s32.2.1 ++ [r46.2]), (IntKind.i64.wrap (s32.2.2 + 1)))) else (o32 = .inr (s32.1, s32.2.1))
def ref08_Frames (a0 : List Int) (r : (List ((Int × Int × Int × Int × Int) × List Int)) × List Int) : Prop :=
  ∃ r3 : List (List Int) × List Int × List Int, ref06_Split a0 r3 ∧ ∃ e32 : (List ((Int × Int × Int × Int × Int) × List Int)) × List Int, Loops (ref08_Frames_l2 r3) ([], [], 0) e32 ∧ (ref08_Frames_j1 e32 r)
def fence_Segments_1_j2 (S : Type) (Y : (Int × List Int) → S → Bool × S → Prop) (s3 : S × Int × Int) (s6 : S × Int) (o3 : Sum (S × Int × Int) (S × Unit)) : Prop :=
  o3 = .inl (s6.1, s6.2, (IntKind.i64.wrap (s3.2.2 + 1)))
def fence_Segments_1_j3 (S : Type) (Y : (Int × List Int) → S → Bool × S → Prop) (s3 : S × Int × Int) (s14 : S × Bool) (o3 : Sum (S × Int × Int) (S × Unit)) : Prop :=
  if s14.2 = true then (o3 = .inr (s14.1, ())) else (fence_Segments_1_j2 S Y s3 (s14.1, (IntKind.i64.wrap (s3.2.2 + 1))) o3)
def fence_Segments_1_l1 (S : Type) (Y : (Int × List Int) → S → Bool × S → Prop) (c0 : List Int) (s3 : S × Int × Int) (o3 : Sum (S × Int × Int) (S × Unit)) : Prop :=
  if (decide (s3.2.2 < (c0.length : Int))) = true then (∃ q9 : Int, idx c0 s3.2.2 q9 ∧ if (!(decide (q9 = 0))) = true then (fence_Segments_1_j2 S Y s3 (s3.1, s3.2.1) o3) else (if (decide (s3.2.1 < s3.2.2)) = true then (0 ≤ s3.2.1 ∧ s3.2.1 ≤ s3.2.2 ∧ s3.2.2 ≤ (c0.length : Int) ∧ s3.2.2 ≤ s3.2.2 ∧ s3.2.2 ≤ (c0.length : Int) ∧ (([] : List Int).length + ((c0.drop s3.2.1.toNat).take ((s3.2.2 : Int) - s3.2.1).toNat).length) * 1 ≤ 140737488355328 ∧ ([] : List Int).length + ((c0.drop s3.2.1.toNat).take ((s3.2.2 : Int) - s3.2.1).toNat).length ≤ 4611686018427387904 ∧ ∃ y36 : Bool, ∃ u37 : S, Y (s3.2.1, (([] : List Int) ++ ((c0.drop s3.2.1.toNat).take ((s3.2.2 : Int) - s3.2.1).toNat))) s3.1 (y36, u37) ∧ fence_Segments_1_j3 S Y s3 (u37, (!y36)) o3) else (fence_Segments_1_j3 S Y s3 (s3.1, false) o3))) else (o3 = .inr (s3.1, ()))
def fence_Segments_1 (c0 : List Int) (S : Type) (Y : (Int × List Int) → S → Bool × S → Prop) (s : S) (r : S × Unit) : Prop :=
  ∃ e3 : S × Unit, Loops (fence_Segments_1_l1 S Y c0) (s, 0, 0) e3 ∧ (r = e3)
def fence_Segments (a0 : List Int) (r : (((S : Type) → ((Int × List Int) → S → Bool × S → Prop) → S → S × Unit → Prop))) : Prop :=
  r = (fence_Segments_1 a0)
def frame_Codec_Frames_1_l1 (S : Type) (Y : (((Int × Int × Int × Int × Int) × List Int) × Int) → S → Bool × S → Prop) (c0 : List Int) (x15 : Int × List Int) (s15 : S) (o15 : Sum S S) : Prop :=
  ∃ r20 : ((Int × Int × Int × Int × Int) × List Int) × Int, frame_Codec_Unpack c0 x15.2 r20 ∧ ∃ y26 : Bool, ∃ u27 : S, Y (r20.1, r20.2) s15 (y26, u27) ∧ if (!y26) = true then (o15 = .inr u27) else (o15 = .inl u27)
def frame_Codec_Frames_1 (c0 : List Int) (c1 : List Int) (S : Type) (Y : (((Int × Int × Int × Int × Int) × List Int) × Int) → S → Bool × S → Prop) (s : S) (r : S × Unit) : Prop :=
  ∃ r8 : (((S : Type) → ((Int × List Int) → S → Bool × S → Prop) → S → S × Unit → Prop)), fence_Segments c1 r8 ∧ ∃ (t15 : Sum S S) (w15 : Unit), r8 (Sum S S) (Yof (frame_Codec_Frames_1_l1 S Y c0)) (.inl s) (t15, w15) ∧ Aft (fun p41 => r = (p41, ())) (fun p36 => r = (p36, ())) t15
def frame_Codec_Frames (a0 : List Int) (a1 : List Int) (r : (((S : Type) → ((((Int × Int × Int × Int × Int) × List Int) × Int) → S → Bool × S → Prop) → S → S × Unit → Prop))) : Prop :=
  r = (frame_Codec_Frames_1 a0 a1)
def law08_FrameStream_l1 (r17 : (List ((Int × Int × Int × Int × Int) × List Int)) × List Int) (x35 : ((Int × Int × Int × Int × Int) × List Int) × Int) (s35 : Int) (o35 : Sum Int Int) : Prop :=
  ∃ q39 : Int, ((decide ((r17.1.length : Int) ≤ s35)) = false → idx r17.2 s35 q39) ∧ ∃ r44 : ((Int × Int × Int × Int × Int) × List Int), (((decide ((r17.1.length : Int) ≤ s35)) || (!(decide (x35.2 = q39)))) = false → law08_Of x35.1 r44) ∧ ∃ q50 : (Int × Int × Int × Int × Int) × List Int, (((decide ((r17.1.length : Int) ≤ s35)) || (!(decide (x35.2 = q39)))) = false → idx r17.1 s35 q50) ∧ ∃ r58 : Bool, (((decide ((r17.1.length : Int) ≤ s35)) || (!(decide (x35.2 = q39)))) = false → ref08_Same r44 q50 r58) ∧ if (((decide ((r17.1.length : Int) ≤ s35)) || (!(decide (x35.2 = q39)))) || (!r58)) = true then (o35 = .inr s35) else (o35 = .inl (IntKind.i64.wrap (s35 + 1)))
def law08_FrameStream_j4  (s79 : Bool) (r : Bool) : Prop :=
  r = s79
def law08_FrameStream_j3 (r17 : (List ((Int × Int × Int × Int × Int) × List Int)) × List Int) (p66 : Int) (s77 : Int) (s78 : Int) (r : Bool) : Prop :=
  ∃ r80 : Bool, law08_known r80 ∧ if r80 = true then (if (decide (p66 = (r17.1.length : Int))) = true then (law08_FrameStream_j4 (decide (s77 = s78)) r) else (law08_FrameStream_j4 false r)) else (law08_FrameStream_j4 false r)
def law08_FrameStream_j5 (a1 : Int) (r17 : (List ((Int × Int × Int × Int × Int) × List Int)) × List Int) (p66 : Int) (s77 : Int) (s84 : Bool) (r : Bool) : Prop :=
  if s84 = true then (law08_FrameStream_j3 r17 p66 s77 (IntKind.i64.wrap (a1 + 1)) r) else (law08_FrameStream_j3 r17 p66 s77 (r17.1.length : Int) r)
def law08_FrameStream_j2 (a1 : Int) (r17 : (List ((Int × Int × Int × Int × Int) × List Int)) × List Int) (p66 : Int) (s77 : Int) (r : Bool) : Prop :=
  if (decide (0 ≤ a1)) = true then (law08_FrameStream_j5 a1 r17 p66 s77 (decide (a1 < (r17.1.length : Int))) r) else (law08_FrameStream_j5 a1 r17 p66 s77 false r)
def law08_FrameStream_l6 (a1 : Int) (x85 : ((Int × Int × Int × Int × Int) × List Int) × Int) (s85 : Int) (o85 : Sum Int Int) : Prop :=
  if (decide ((IntKind.i64.wrap ((IntKind.i64.wrap (s85 + 1)) - 1)) = a1)) = true then (o85 = .inr (IntKind.i64.wrap (s85 + 1))) else (o85 = .inl (IntKind.i64.wrap (s85 + 1)))
def law08_FrameStream (a0 : List Int) (a1 : Int) (r : Bool) : Prop :=
  0 ≤ (min (a0.length : Int) 900) ∧ (min (a0.length : Int) 900) ≤ (a0.length : Int) ∧ ∃ r9 : List Int, frame_New r9 ∧ ∃ r17 : (List ((Int × Int × Int × Int × Int) × List Int)) × List Int, ref08_Frames ((a0.drop (0 : Int).toNat).take (((min (a0.length : Int) 900) : Int) - 0).toNat) r17 ∧ ∃ r28 : (((S : Type) → ((((Int × Int × Int × Int × Int) × List Int) × Int) → S → Bool × S → Prop) → S → S × Unit → Prop)), frame_Codec_Frames r9 ((a0.drop (0 : Int).toNat).take (((min (a0.length : Int) 900) : Int) - 0).toNat) r28 ∧ ∃ (t35 : Sum Int Int) (w35 : Unit), r28 (Sum Int Int) (Yof (law08_FrameStream_l1 r17)) (.inl 0) (t35, w35) ∧ Aft (fun p66 => ∃ r70 : (((S : Type) → ((((Int × Int × Int × Int × Int) × List Int) × Int) → S → Bool × S → Prop) → S → S × Unit → Prop)), frame_Codec_Frames r9 ((a0.drop (0 : Int).toNat).take (((min (a0.length : Int) 900) : Int) - 0).toNat) r70 ∧ ∃ (t85 : Sum Int Int) (w85 : Unit), r70 (Sum Int Int) (Yof (law08_FrameStream_l6 a1)) (.inl 0) (t85, w85) ∧ Aft (fun p91 => law08_FrameStream_j2 a1 r17 p66 p91 r) (fun p88 => law08_FrameStream_j2 a1 r17 p66 p88 r) t85) (fun p63 => r = false) t35
def frame_Codec_Pack_nil (a1 : List ((Int × Int × Int × Int × Int) × List Int)) (r : List Int × Int) : Prop :=
  r = ([], 1)
def frame_Codec_Check_nil (a1 : (Int × Int × Int × Int × Int) × List Int) (r : Int) : Prop :=
  r = 1
def frame_Codec_Segment_nil (a1 : (Int × Int × Int × Int × Int) × List Int) (r : List Int × Int) : Prop :=
  ∃ r4 : Int, frame_Codec_Check_nil a1 r4 ∧ if (!(decide (r4 = 0))) = true then (r = ([], r4)) else (∃ r8 : List Int × Int, head_Bytes a1.1 r8 ∧ False)
def frame_Codec_Unpack_nil (a1 : List Int) (r : ((Int × Int × Int × Int × Int) × List Int) × Int) : Prop :=
  r = (((0, 0, 0, 0, 0), []), 1)
def frame_Codec_Frames_1_nil0 (c1 : List Int) (S : Type) (Y : (((Int × Int × Int × Int × Int) × List Int) × Int) → S → Bool × S → Prop) (s : S) (r : S × Unit) : Prop :=
  r = (s, ())
def frame_Codec_Frames_nil (a1 : List Int) (r : (((S : Type) → ((((Int × Int × Int × Int × Int) × List Int) × Int) → S → Bool × S → Prop) → S → S × Unit → Prop))) : Prop :=
  r = (frame_Codec_Frames_1_nil0 a1)
def bytes_Equal (a0 : List Int) (a1 : List Int) (r : Bool) : Prop :=
  r = (decide ((bstr a0) = (bstr a1)))
def frame_Same_j1  (s7 : Bool) (r : Bool) : Prop :=
  r = s7
def frame_Same (a0 : (Int × Int × Int × Int × Int) × List Int) (a1 : (Int × Int × Int × Int × Int) × List Int) (r : Bool) : Prop :=
  if ((decide (a0.1.1 = a1.1.1)) && ((decide (a0.1.2.1 = a1.1.2.1)) && ((decide (a0.1.2.2.1 = a1.1.2.2.1)) && ((decide (a0.1.2.2.2.1 = a1.1.2.2.2.1)) && ((decide (a0.1.2.2.2.2 = a1.1.2.2.2.2)) && true))))) = true then (∃ r8 : Bool, bytes_Equal a0.2 a1.2 r8 ∧ frame_Same_j1 r8 r) else (frame_Same_j1 false r)
def law08_FrameNil_l1  (x42 : ((Int × Int × Int × Int × Int) × List Int) × Int) (s42 : Int) (o42 : Sum Int Unit) : Prop :=
  o42 = .inl (IntKind.i64.wrap (s42 + 1))
def law08_FrameNil_j2  (s48 : Bool) (r : Bool) : Prop :=
  r = s48
def law08_FrameNil (a0 : (Int × Int × Int × Int × Int) × List Int) (a1 : List Int) (r : Bool) : Prop :=
  ∃ r13 : List Int × Int, frame_Codec_Pack_nil [a0] r13 ∧ ∃ r20 : List Int × Int, frame_Codec_Segment_nil a0 r20 ∧ ∃ r27 : ((Int × Int × Int × Int × Int) × List Int) × Int, frame_Codec_Unpack_nil a1 r27 ∧ ∃ r35 : (((S : Type) → ((((Int × Int × Int × Int × Int) × List Int) × Int) → S → Bool × S → Prop) → S → S × Unit → Prop)), frame_Codec_Frames_nil a1 r35 ∧ ∃ (t42 : Sum Int Unit) (w42 : Unit), r35 (Sum Int Unit) (Yof (law08_FrameNil_l1)) (.inl 0) (t42, w42) ∧ Aft (fun p45 => ∃ r49 : Bool, law08_known r49 ∧ if r49 = true then (∃ r53 : Int, frame_Codec_Check_nil a0 r53 ∧ if (decide (r53 = 1)) = true then (if (decide ((r13.1.length : Int) = 0)) = true then (if (decide (r13.2 = 1)) = true then (if (decide ((r20.1.length : Int) = 0)) = true then (if (decide (r20.2 = 1)) = true then (∃ r57 : Bool, frame_Same r27.1 ((0, 0, 0, 0, 0), []) r57 ∧ if r57 = true then (if (decide (r27.2 = 1)) = true then (law08_FrameNil_j2 (decide (p45 = 0)) r) else (law08_FrameNil_j2 false r)) else (law08_FrameNil_j2 false r)) else (law08_FrameNil_j2 false r)) else (law08_FrameNil_j2 false r)) else (law08_FrameNil_j2 false r)) else (law08_FrameNil_j2 false r)) else (law08_FrameNil_j2 false r)) else (law08_FrameNil_j2 false r)) (fun _ => True) t42
end Go.Rel
