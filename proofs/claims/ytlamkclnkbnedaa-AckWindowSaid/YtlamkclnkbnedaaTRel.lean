import Derived.Test.YtlamkclnkbnedaaEngP
/-! The functions as plain relations. -/
set_option linter.unusedVariables false
namespace Go.Rel
open Go Go.Eng
def serial_Add (a0 : Int) (a1 : Int) (r : Int) : Prop :=
  r = (IntKind.u32.wrap (a0 + (IntKind.u32.wrap a1)))
def serial_Way (a0 : Int) (a1 : Int) (r : Int) : Prop :=
  r = (IntKind.u32.wrap (a1 - a0))
def serial_Diff (a0 : Int) (a1 : Int) (r : Int) : Prop :=
  r = (IntKind.i64.wrap (IntKind.i32.wrap (IntKind.u32.wrap (a0 - a1))))
def serial_After (a0 : Int) (a1 : Int) (r : Bool) : Prop :=
  ∃ r1 : Int, serial_Diff a0 a1 r1 ∧ r = (decide (0 < r1))
def ack_Lacks (a0 : Int × Int) (a1 : Int) (r : Bool) : Prop :=
  ∃ r2 : Int, serial_Way a1 a0.1 r2 ∧ if (decide (r2 < 64)) = true then (0 ≤ r2 ∧ r = (decide ((iand .u64 (ishr .u64 a0.2 r2) 1) = 0))) else (∃ r7 : Bool, serial_After a1 a0.1 r7 ∧ r = r7)
def ack_Has (a0 : Int × Int) (a1 : Int) (r : Bool) : Prop :=
  ∃ r2 : Bool, ack_Lacks a0 a1 r2 ∧ r = (!r2)
def window_Window_Top (a0 : (Int × Int)) (r : Int) : Prop :=
  r = a0.1
def ref10_Add_j1 (a0 : Int) (s1 : Int) (r : Int) : Prop :=
  r = (IntKind.u32.wrap ((IntKind.u64.wrap ((IntKind.u64.wrap a0) + (IntKind.u64.wrap s1))).tmod 4294967296))
def ref10_Add (a0 : Int) (a1 : Int) (r : Int) : Prop :=
  if (decide ((a1.tmod 4294967296) < 0)) = true then (ref10_Add_j1 a0 (IntKind.i64.wrap ((a1.tmod 4294967296) + 4294967296)) r) else (ref10_Add_j1 a0 (a1.tmod 4294967296) r)
def ref10_Way (a0 : Int) (a1 : Int) (r : Int) : Prop :=
  r = (IntKind.u32.wrap ((IntKind.u64.wrap ((IntKind.u64.wrap ((IntKind.u64.wrap a1) + 4294967296)) - (IntKind.u64.wrap a0))).tmod 4294967296))
def ref10_After_j1  (s1 : Bool) (r : Bool) : Prop :=
  r = s1
def ref10_After (a0 : Int) (a1 : Int) (r : Bool) : Prop :=
  ∃ r2 : Int, ref10_Way a1 a0 r2 ∧ if (decide (1 ≤ r2)) = true then (∃ r6 : Int, ref10_Way a1 a0 r6 ∧ ref10_After_j1 (decide (r6 < 2147483648)) r) else (ref10_After_j1 false r)
def ref32_bit_j1  (s1 : Int) (r : Bool) : Prop :=
  r = (decide ((s1.tmod 2) = 1))
def ref32_bit_l2 (a1 : Int) (s2 : Int × Int) (o2 : Sum (Int × Int) Int) : Prop :=
  if (decide (s2.2 < a1)) = true then (o2 = .inl ((IntKind.u64.wrap (s2.1.tdiv 2)), (IntKind.i64.wrap (s2.2 + 1)))) else (o2 = .inr s2.1)
def ref32_bit (a0 : Int) (a1 : Int) (r : Bool) : Prop :=
  ∃ e2 : Int, Loops (ref32_bit_l2 a1) (a0, 0) e2 ∧ (ref32_bit_j1 e2 r)
def ref32_Has_j1 (a0 : Int × Int) (a1 : Int) (s2 : Unit) (r : Bool) : Prop :=
  ∃ r3 : Bool, ref10_After a1 a0.1 r3 ∧ r = (!r3)
def ref32_Has_l2 (a0 : Int × Int) (a1 : Int) (s7 : Int) (o7 : Sum Int (Sum Unit Bool)) : Prop :=
  if (decide (s7 < 64)) = true then (∃ r8 : Int, ref10_Add a0.1 (IntKind.i64.wrap (0 - s7)) r8 ∧ if (decide (r8 = a1)) = true then (∃ r12 : Bool, ref32_bit a0.2 s7 r12 ∧ o7 = .inr (.inr r12)) else (o7 = .inl (IntKind.i64.wrap (s7 + 1)))) else (o7 = .inr (.inl ()))
def ref32_Has (a0 : Int × Int) (a1 : Int) (r : Bool) : Prop :=
  ∃ e7 : (Sum Unit Bool), Loops (ref32_Has_l2 a0 a1) 0 e7 ∧ Aft (fun p16 => ref32_Has_j1 a0 a1 p16 r) (fun p17 => r = p17) e7
def window_state_bit (a0 : Int × Int) (a1 : Int) (r : Int) : Prop :=
  ∃ r2 : Int, serial_Way a1 a0.1 r2 ∧ if (decide (r2 < 64)) = true then (0 ≤ r2 ∧ r = (ishl .u64 1 r2)) else (r = 0)
def window_New (a0 : Int) (r : ((Int × Int))) : Prop :=
  ∃ r1 : Int, serial_Add a0 (-1) r1 ∧ r = (r1, 18446744073709551615)
def window_Window_Bits (a0 : (Int × Int)) (r : Int) : Prop :=
  r = a0.2
def ack_Of (a0 : (Int × Int)) (r : (Int × Int)) : Prop :=
  ∃ r2 : Int, window_Window_Top a0 r2 ∧ ∃ r6 : Int, window_Window_Bits a0 r6 ∧ r = (r2, r6)
def window_Window_Look (a0 : (Int × Int)) (a1 : Int) (r : Int) : Prop :=
  ∃ r1 : Bool, serial_After a1 a0.1 r1 ∧ if r1 = true then (r = 0) else (∃ r5 : Int, window_state_bit a0 a1 r5 ∧ if (decide (r5 = 0)) = true then (r = 15) else (∃ r9 : Int, window_state_bit a0 a1 r9 ∧ if (!(decide ((iand .u64 a0.2 r9) = 0))) = true then (r = 14) else (r = 0)))
def window_Window_Mark_j2  (s12 : Int × Int) (r : Int × ((Int × Int))) : Prop :=
  r = (0, s12)
def window_Window_Mark_j1 (a0 : (Int × Int)) (a1 : Int) (s6 : Int × Int) (r : Int × ((Int × Int))) : Prop :=
  ∃ r7 : Int, window_state_bit s6 a1 r7 ∧ if (!((decide (s6.1 = a0.1)) && ((decide ((ior .u64 s6.2 r7) = a0.2)) && true))) = true then (window_Window_Mark_j2 (s6.1, (ior .u64 s6.2 r7)) r) else (window_Window_Mark_j2 (a0.1, a0.2) r)
def window_Window_Mark (a0 : (Int × Int)) (a1 : Int) (r : Int × ((Int × Int))) : Prop :=
  ∃ r1 : Int, window_Window_Look a0 a1 r1 ∧ if (!(decide (r1 = 0))) = true then (r = (r1, a0)) else (∃ r14 : Bool, serial_After a1 a0.1 r14 ∧ if r14 = true then (∃ r18 : Int, serial_Way a0.1 a1 r18 ∧ 0 ≤ r18 ∧ window_Window_Mark_j1 a0 a1 (a1, (ishl .u64 a0.2 r18)) r) else (window_Window_Mark_j1 a0 a1 (a0.1, a0.2) r))
def ack_Newer_j1  (s7 : Bool) (r : Bool) : Prop :=
  r = s7
def ack_Newer (a0 : Int × Int) (a1 : Int × Int) (r : Bool) : Prop :=
  if (!(decide (a0.1 = a1.1))) = true then (∃ r3 : Bool, serial_After a0.1 a1.1 r3 ∧ r = r3) else (if (!(decide (a0.2 = a1.2))) = true then (ack_Newer_j1 (decide ((iand .u64 a0.2 a1.2) = a1.2)) r) else (ack_Newer_j1 false r))
def law32_known_j1  (s11 : Bool) (r : Bool) : Prop :=
  r = s11
def law32_known  (r : Bool) : Prop :=
  ∃ r1 : ((Int × Int)), window_New 5 r1 ∧ ∃ r6 : (Int × Int), ack_Of r1 r6 ∧ if (decide (r6.1 = 4)) = true then (if (decide (r6.2 = 18446744073709551615)) = true then (∃ r12 : Bool, ack_Has r6 4 r12 ∧ if r12 = true then (∃ r16 : Bool, ack_Has r6 5 r16 ∧ law32_known_j1 (!r16) r) else (law32_known_j1 false r)) else (law32_known_j1 false r)) else (law32_known_j1 false r)
def serial_Run_1_l1 (S : Type) (Y : Int → S → Bool × S → Prop) (c0 : Int) (c1 : Int) (s1 : S × Int) (o1 : Sum (S × Int) (S × Unit)) : Prop :=
  if (decide (s1.2 < c0)) = true then (∃ r4 : Int, serial_Add c1 s1.2 r4 ∧ ∃ y8 : Bool, ∃ u9 : S, Y r4 s1.1 (y8, u9) ∧ if (!y8) = true then (o1 = .inr (u9, ())) else (o1 = .inl (u9, (IntKind.i64.wrap (s1.2 + 1))))) else (o1 = .inr (s1.1, ()))
def serial_Run_1 (c0 : Int) (c1 : Int) (S : Type) (Y : Int → S → Bool × S → Prop) (s : S) (r : S × Unit) : Prop :=
  ∃ e1 : S × Unit, Loops (serial_Run_1_l1 S Y c0 c1) (s, 0) e1 ∧ (r = e1)
def serial_Run (a0 : Int) (a1 : Int) (r : (((S : Type) → (Int → S → Bool × S → Prop) → S → S × Unit → Prop))) : Prop :=
  r = (serial_Run_1 a1 a0)
def ack_Missing_1_l1 (S : Type) (Y : Int → S → Bool × S → Prop) (c2 : Int × Int) (x9 : Int) (s9 : S) (o9 : Sum S S) : Prop :=
  ∃ r12 : Bool, ack_Has c2 x9 r12 ∧ if r12 = true then (o9 = .inl s9) else (∃ y16 : Bool, ∃ u17 : S, Y x9 s9 (y16, u17) ∧ if (!y16) = true then (o9 = .inr u17) else (o9 = .inl u17))
def ack_Missing_1 (c0 : Int) (c1 : Int) (c2 : Int × Int) (S : Type) (Y : Int → S → Bool × S → Prop) (s : S) (r : S × Unit) : Prop :=
  ∃ r2 : (((S : Type) → (Int → S → Bool × S → Prop) → S → S × Unit → Prop)), serial_Run c0 c1 r2 ∧ ∃ (t9 : Sum S S) (w9 : Unit), r2 (Sum S S) (Yof (ack_Missing_1_l1 S Y c2)) (.inl s) (t9, w9) ∧ Aft (fun p28 => r = (p28, ())) (fun p23 => r = (p23, ())) t9
def ack_Missing (a0 : Int × Int) (a1 : Int) (a2 : Int) (r : (((S : Type) → (Int → S → Bool × S → Prop) → S → S × Unit → Prop))) : Prop :=
  r = (ack_Missing_1 a1 a2 a0)
def law32_AckMissing_j3 (s15 : Int × Bool × Int) (s16 : Int) (s17 : Bool) (o15 : Sum (Int × Bool × Int) Unit) : Prop :=
  o15 = .inl ((IntKind.i64.wrap (s16 + 1)), s17, (IntKind.i64.wrap (s15.2.2 + 1)))
def law32_AckMissing_j2 (a1 : Int) (a2 : Int) (x15 : Int) (s15 : Int × Bool × Int) (s16 : Int) (o15 : Sum (Int × Bool × Int) Unit) : Prop :=
  if s15.2.1 = true then (if (decide (s16 < (min a2 200))) = true then (∃ r18 : Int, ref10_Add a1 s16 r18 ∧ law32_AckMissing_j3 s15 s16 (decide (x15 = r18)) o15) else (law32_AckMissing_j3 s15 s16 false o15)) else (law32_AckMissing_j3 s15 s16 false o15)
def law32_AckMissing_l4 (a0 : Int × Int) (a1 : Int) (a2 : Int) (s22 : Int) (o22 : Sum Int Int) : Prop :=
  ∃ r23 : Int, ((decide (s22 < (min a2 200))) = true → ref10_Add a1 s22 r23) ∧ ∃ r27 : Bool, ((decide (s22 < (min a2 200))) = true → ref32_Has a0 r23 r27) ∧ if ((decide (s22 < (min a2 200))) && r27) = true then (o22 = .inl (IntKind.i64.wrap (s22 + 1))) else (o22 = .inr s22)
def law32_AckMissing_l1 (a0 : Int × Int) (a1 : Int) (a2 : Int) (x15 : Int) (s15 : Int × Bool × Int) (o15 : Sum (Int × Bool × Int) Unit) : Prop :=
  ∃ e22 : Int, Loops (law32_AckMissing_l4 a0 a1 a2) s15.1 e22 ∧ (law32_AckMissing_j2 a1 a2 x15 s15 e22 o15)
def law32_AckMissing_j7  (s46 : Bool) (r : Bool) : Prop :=
  r = s46
def law32_AckMissing_j6 (a3 : Int) (p33 : Int × Bool × Int) (s36 : Bool) (s45 : Int) (r : Bool) : Prop :=
  ∃ r47 : Bool, law32_known r47 ∧ if r47 = true then (if s36 = true then (if (decide (s45 = p33.2.2)) = true then (law32_AckMissing_j7 true r) else (law32_AckMissing_j7 (decide (s45 = a3)) r)) else (law32_AckMissing_j7 false r)) else (law32_AckMissing_j7 false r)
def law32_AckMissing_l8 (a3 : Int) (x51 : Int) (s51 : Int) (o51 : Sum Int Int) : Prop :=
  if (decide (s51 = a3)) = true then (o51 = .inr s51) else (o51 = .inl (IntKind.i64.wrap (s51 + 1)))
def law32_AckMissing_j5 (a0 : Int × Int) (a1 : Int) (a2 : Int) (a3 : Int) (p33 : Int × Bool × Int) (s36 : Bool) (r : Bool) : Prop :=
  ∃ r38 : (((S : Type) → (Int → S → Bool × S → Prop) → S → S × Unit → Prop)), ack_Missing a0 a1 (min a2 200) r38 ∧ ∃ (t51 : Sum Int Int) (w51 : Unit), r38 (Sum Int Int) (Yof (law32_AckMissing_l8 a3)) (.inl 0) (t51, w51) ∧ Aft (fun p55 => law32_AckMissing_j6 a3 p33 s36 p55 r) (fun p52 => law32_AckMissing_j6 a3 p33 s36 p52 r) t51
def law32_AckMissing_l9 (a0 : Int × Int) (a1 : Int) (a2 : Int) (s58 : Int × Bool) (o58 : Sum (Int × Bool) Bool) : Prop :=
  if (decide (s58.1 < (min a2 200))) = true then (∃ r59 : Int, (s58.2 = true → ref10_Add a1 s58.1 r59) ∧ ∃ r63 : Bool, (s58.2 = true → ref32_Has a0 r59 r63) ∧ o58 = .inl ((IntKind.i64.wrap (s58.1 + 1)), (s58.2 && r63))) else (o58 = .inr s58.2)
def law32_AckMissing (a0 : Int × Int) (a1 : Int) (a2 : Int) (a3 : Int) (r : Bool) : Prop :=
  ∃ r8 : (((S : Type) → (Int → S → Bool × S → Prop) → S → S × Unit → Prop)), ack_Missing a0 a1 (min a2 200) r8 ∧ ∃ (t15 : Sum (Int × Bool × Int) Unit) (w15 : Unit), r8 (Sum (Int × Bool × Int) Unit) (Yof (law32_AckMissing_l1 a0 a1 a2)) (.inl (0, true, 0)) (t15, w15) ∧ Aft (fun p33 => ∃ e58 : Bool, Loops (law32_AckMissing_l9 a0 a1 a2) (p33.1, p33.2.1) e58 ∧ (law32_AckMissing_j5 a0 a1 a2 a3 p33 e58 r)) (fun _ => True) t15
def window_Window_Top_nil  (r : Int) : Prop :=
  r = 0
def window_Window_Bits_nil  (r : Int) : Prop :=
  r = 0
def ack_Of_nil  (r : (Int × Int)) : Prop :=
  ∃ r2 : Int, window_Window_Top_nil r2 ∧ ∃ r6 : Int, window_Window_Bits_nil r6 ∧ r = (r2, r6)
def law32_AckWindow_j2  (s9 : Bool) (r : Bool) : Prop :=
  r = s9
def law32_AckWindow_j1  (s8 : Unit) (r : Bool) : Prop :=
  ∃ r10 : Bool, law32_known r10 ∧ if r10 = true then (∃ r14 : (Int × Int), ack_Of_nil r14 ∧ law32_AckWindow_j2 ((decide (r14.1 = 0)) && ((decide (r14.2 = 0)) && true)) r) else (law32_AckWindow_j2 false r)
def law32_AckWindow_j4 (a1 : List Int) (a2 : Int) (s18 : Int × Int × Int) (s19 : Bool) (o18 : Sum (Int × Int × Int) (Sum Unit Bool)) : Prop :=
  if s19 = true then (∃ r20 : (Int × Int), ack_Of s18.2 r20 ∧ ∃ r25 : Bool, ack_Lacks r20 a2 r25 ∧ ∃ r29 : Int, window_Window_Look s18.2 a2 r29 ∧ ∃ q33 : Int, ((!(decide (r25 = (decide (r29 = 0))))) = false → idx a1 s18.1 q33) ∧ ∃ r38 : Bool, ((!(decide (r25 = (decide (r29 = 0))))) = false → ack_Lacks r20 q33 r38) ∧ ∃ q42 : Int, ((!(decide (r25 = (decide (r29 = 0))))) = false → idx a1 s18.1 q42) ∧ ∃ r47 : Int, ((!(decide (r25 = (decide (r29 = 0))))) = false → window_Window_Look s18.2 q42 r47) ∧ if ((!(decide (r25 = (decide (r29 = 0))))) || (!(decide (r38 = (decide (r47 = 0)))))) = true then (o18 = .inr (.inr false)) else (∃ q52 : Int, idx a1 s18.1 q52 ∧ ∃ r57 : Int × ((Int × Int)), window_Window_Mark s18.2 q52 r57 ∧ ∃ r61 : (Int × Int), ack_Of r57.2 r61 ∧ ∃ r66 : Bool, ack_Newer r61 r20 r66 ∧ ∃ q70 : Int, ((!(decide (r66 = (decide (r57.1 = 0))))) = false → idx a1 s18.1 q70) ∧ ∃ r75 : Bool, ((!(decide (r66 = (decide (r57.1 = 0))))) = false → ack_Lacks r61 q70 r75) ∧ if ((!(decide (r66 = (decide (r57.1 = 0))))) || r75) = true then (o18 = .inr (.inr false)) else (o18 = .inl ((IntKind.i64.wrap (s18.1 + 1)), r57.2.1, r57.2.2)))) else (o18 = .inr (.inl ()))
def law32_AckWindow_l3 (a1 : List Int) (a2 : Int) (s18 : Int × Int × Int) (o18 : Sum (Int × Int × Int) (Sum Unit Bool)) : Prop :=
  if (decide (s18.1 < (a1.length : Int))) = true then (law32_AckWindow_j4 a1 a2 s18 (decide (s18.1 < 100)) o18) else (law32_AckWindow_j4 a1 a2 s18 false o18)
def law32_AckWindow (a0 : Int) (a1 : List Int) (a2 : Int) (r : Bool) : Prop :=
  ∃ r3 : ((Int × Int)), window_New a0 r3 ∧ ∃ e18 : (Sum Unit Bool), Loops (law32_AckWindow_l3 a1 a2) (0, r3.1, r3.2) e18 ∧ Aft (fun p80 => law32_AckWindow_j1 p80 r) (fun p81 => r = p81) e18
end Go.Rel
