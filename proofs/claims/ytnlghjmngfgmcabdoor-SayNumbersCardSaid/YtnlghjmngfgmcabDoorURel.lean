import Derived.Test.YtnlghjmngfgmcabDoorEngQ
/-! The functions as plain relations. -/
set_option linter.unusedVariables false
namespace Go.Rel
open Go Go.Eng
def unicode_utf8_DecodeRuneInString (a0 : ByteArray) (r : Int × Int) : Prop := False ∧ r = r ∧ a0 = a0
def strings_Index (a0 : ByteArray) (a1 : ByteArray) (r : Int) : Prop := ∃ c : Int, bints a1 = [c] ∧ r = (((bints a0).findIdx? (fun x => decide (x = c))).map Int.ofNat).getD (-1)
def strings_splitSeq_1_j1 (S : Type) (Y : ByteArray → S → Bool × S → Prop) (s1 : S × ByteArray) (r : S × ByteArray) : Prop :=
  r = (s1.1, s1.2)
def strings_splitSeq_1_l2 (S : Type) (Y : ByteArray → S → Bool × S → Prop) (s4 : S × ByteArray) (o4 : Sum (S × ByteArray) (Sum (S × ByteArray) (S × ByteArray))) : Prop :=
  if (decide (0 < (s4.2.size : Int))) = true then (∃ r7 : Int × Int, unicode_utf8_DecodeRuneInString s4.2 r7 ∧ 0 ≤ r7.2 ∧ r7.2 ≤ (s4.2.size : Int) ∧ ∃ y13 : Bool, ∃ u14 : S, Y (s4.2.extract 0 r7.2.toNat) s4.1 (y13, u14) ∧ if (!y13) = true then (o4 = .inr (.inr (u14, s4.2))) else (0 ≤ r7.2 ∧ r7.2 ≤ (s4.2.size : Int) ∧ o4 = .inl (u14, (s4.2.extract r7.2.toNat s4.2.size)))) else (o4 = .inr (.inl (s4.1, s4.2)))
def strings_splitSeq_1_j3 (S : Type) (Y : ByteArray → S → Bool × S → Prop) (s24 : S × ByteArray) (r : S × ByteArray) : Prop :=
  ∃ y27 : Bool, ∃ u28 : S, Y s24.2 s24.1 (y27, u28) ∧ r = (u28, s24.2)
def strings_splitSeq_1_l4 (S : Type) (Y : ByteArray → S → Bool × S → Prop) (c0 : ByteArray) (c2 : Int) (s34 : S × ByteArray) (o34 : Sum (S × ByteArray) (Sum (S × ByteArray) (S × ByteArray))) : Prop :=
  ∃ r37 : Int, strings_Index s34.2 c0 r37 ∧ if (decide (r37 < 0)) = true then (o34 = .inr (.inl (s34.1, s34.2))) else (0 ≤ (IntKind.i64.wrap (r37 + c2)) ∧ (IntKind.i64.wrap (r37 + c2)) ≤ (s34.2.size : Int) ∧ ∃ y43 : Bool, ∃ u44 : S, Y (s34.2.extract 0 (IntKind.i64.wrap (r37 + c2)).toNat) s34.1 (y43, u44) ∧ if (!y43) = true then (o34 = .inr (.inr (u44, s34.2))) else (0 ≤ (IntKind.i64.wrap (r37 + (c0.size : Int))) ∧ (IntKind.i64.wrap (r37 + (c0.size : Int))) ≤ (s34.2.size : Int) ∧ o34 = .inl (u44, (s34.2.extract (IntKind.i64.wrap (r37 + (c0.size : Int))).toNat s34.2.size))))
def strings_splitSeq_1 (c0 : ByteArray) (c2 : Int) (c1 : ByteArray) (S : Type) (Y : ByteArray → S → Bool × S → Prop) (s : S) (r : S × ByteArray) : Prop :=
  if (decide ((c0.size : Int) = 0)) = true then (∃ e4 : (Sum (S × ByteArray) (S × ByteArray)), Loops (strings_splitSeq_1_l2 S Y) (s, c1) e4 ∧ Aft (fun p22 => strings_splitSeq_1_j1 S Y p22 r) (fun p23 => r = p23) e4) else (∃ e34 : (Sum (S × ByteArray) (S × ByteArray)), Loops (strings_splitSeq_1_l4 S Y c0 c2) (s, c1) e34 ∧ Aft (fun p52 => strings_splitSeq_1_j3 S Y p52 r) (fun p53 => r = p53) e34)
def strings_splitSeq (a0 : ByteArray) (a1 : ByteArray) (a2 : Int) (r : ((ByteArray → (S : Type) → (ByteArray → S → Bool × S → Prop) → S → S × ByteArray → Prop)) × ByteArray) : Prop :=
  r = ((strings_splitSeq_1 a1 a2), a0)
def strings_SplitSeq (a0 : ByteArray) (a1 : ByteArray) (r : ((ByteArray → (S : Type) → (ByteArray → S → Bool × S → Prop) → S → S × ByteArray → Prop)) × ByteArray) : Prop :=
  ∃ r1 : ((ByteArray → (S : Type) → (ByteArray → S → Bool × S → Prop) → S → S × ByteArray → Prop)) × ByteArray, strings_splitSeq a0 a1 0 r1 ∧ r = (r1.1, r1.2)
def say_Words_1_l1 (S : Type) (Y : (Int × ByteArray) → S → Bool × S → Prop) (x14 : ByteArray) (s14 : S × Int) (o14 : Sum (S × Int) (S × Int)) : Prop :=
  ∃ y17 : Bool, ∃ u18 : S, Y (s14.2, x14) s14.1 (y17, u18) ∧ if (!y17) = true then (o14 = .inr (u18, s14.2)) else (o14 = .inl (u18, (IntKind.i64.wrap (s14.2 + (IntKind.i64.wrap ((x14.size : Int) + 1))))))
def say_Words_1 (c0 : ByteArray) (S : Type) (Y : (Int × ByteArray) → S → Bool × S → Prop) (s : S) (r : S × Unit) : Prop :=
  ∃ r3 : ((ByteArray → (S : Type) → (ByteArray → S → Bool × S → Prop) → S → S × ByteArray → Prop)) × ByteArray, strings_SplitSeq c0 (bstr [32]) r3 ∧ ∃ (t14 : Sum (S × Int) (S × Int)) (w14 : ByteArray), r3.1 r3.2 (Sum (S × Int) (S × Int)) (Yof (say_Words_1_l1 S Y)) (.inl (s, 0)) (t14, w14) ∧ Aft (fun p30 => r = (p30.1, ())) (fun p24 => r = (p24.1, ())) t14
def say_Words (a0 : ByteArray) (r : (((S : Type) → ((Int × ByteArray) → S → Bool × S → Prop) → S → S × Unit → Prop))) : Prop :=
  r = (say_Words_1 a0)
def strings_IndexByte (a0 : ByteArray) (a1 : Int) (r : Int) : Prop := IntOk .u8 a1 ∧ r = (((bints a0).findIdx? (fun x => decide (x = a1))).map Int.ofNat).getD (-1)
def strconv_Itoa (a0 : Int) (r : ByteArray) : Prop := IntOk .i64 a0 ∧ r = bstr (decI a0)
def say_Number (a0 : Int) (r : ByteArray) : Prop :=
  ∃ r1 : ByteArray, strconv_Itoa a0 r1 ∧ r = r1
def strconv_ParseInt (a0 : ByteArray) (a1 : Int) (a2 : Int) (r : Int × Bool) : Prop := a1 = 10 ∧ a2 = 64 ∧ a0.size ≤ 281474976710656 ∧ r = pi64 (bints a0)
def internal_stringslite_HasPrefix_j1  (s1 : Bool) (r : Bool) : Prop :=
  r = s1
def internal_stringslite_HasPrefix (a0 : ByteArray) (a1 : ByteArray) (r : Bool) : Prop :=
  if (decide ((a1.size : Int) ≤ (a0.size : Int))) = true then (0 ≤ (a1.size : Int) ∧ (a1.size : Int) ≤ (a0.size : Int) ∧ internal_stringslite_HasPrefix_j1 (decide ((a0.extract 0 (a1.size : Int).toNat) = a1)) r) else (internal_stringslite_HasPrefix_j1 false r)
def internal_stringslite_TrimPrefix (a0 : ByteArray) (a1 : ByteArray) (r : ByteArray) : Prop :=
  ∃ r1 : Bool, internal_stringslite_HasPrefix a0 a1 r1 ∧ if r1 = true then (0 ≤ (a1.size : Int) ∧ (a1.size : Int) ≤ (a0.size : Int) ∧ r = (a0.extract (a1.size : Int).toNat a0.size)) else (r = a0)
def strings_TrimPrefix (a0 : ByteArray) (a1 : ByteArray) (r : ByteArray) : Prop :=
  ∃ r1 : ByteArray, internal_stringslite_TrimPrefix a0 a1 r1 ∧ r = r1
def strings_trimRightByte_j1  (s1 : ByteArray) (r : ByteArray) : Prop :=
  r = s1
def strings_trimRightByte_j3 (s2 : ByteArray) (s3 : Bool) (o2 : Sum ByteArray ByteArray) : Prop :=
  if s3 = true then (0 ≤ (IntKind.i64.wrap ((s2.size : Int) - 1)) ∧ (IntKind.i64.wrap ((s2.size : Int) - 1)) ≤ (s2.size : Int) ∧ o2 = .inl (s2.extract 0 (IntKind.i64.wrap ((s2.size : Int) - 1)).toNat)) else (o2 = .inr s2)
def strings_trimRightByte_l2 (a1 : Int) (s2 : ByteArray) (o2 : Sum ByteArray ByteArray) : Prop :=
  if (decide (0 < (s2.size : Int))) = true then (∃ q6 : Int, idx (bints s2) (IntKind.i64.wrap ((s2.size : Int) - 1)) q6 ∧ strings_trimRightByte_j3 s2 (decide (q6 = a1)) o2) else (strings_trimRightByte_j3 s2 false o2)
def strings_trimRightByte (a0 : ByteArray) (a1 : Int) (r : ByteArray) : Prop :=
  ∃ e2 : ByteArray, Loops (strings_trimRightByte_l2 a1) a0 e2 ∧ (strings_trimRightByte_j1 e2 r)
def strings_trimLeftByte_j1  (s1 : ByteArray) (r : ByteArray) : Prop :=
  r = s1
def strings_trimLeftByte_j3 (s2 : ByteArray) (s3 : Bool) (o2 : Sum ByteArray ByteArray) : Prop :=
  if s3 = true then (1 ≤ (s2.size : Int) ∧ o2 = .inl (s2.extract (1 : Int).toNat s2.size)) else (o2 = .inr s2)
def strings_trimLeftByte_l2 (a1 : Int) (s2 : ByteArray) (o2 : Sum ByteArray ByteArray) : Prop :=
  if (decide (0 < (s2.size : Int))) = true then (∃ q5 : Int, idx (bints s2) 0 q5 ∧ strings_trimLeftByte_j3 s2 (decide (q5 = a1)) o2) else (strings_trimLeftByte_j3 s2 false o2)
def strings_trimLeftByte (a0 : ByteArray) (a1 : Int) (r : ByteArray) : Prop :=
  ∃ e2 : ByteArray, Loops (strings_trimLeftByte_l2 a1) a0 e2 ∧ (strings_trimLeftByte_j1 e2 r)
def strings_makeASCIISet_j1  (s2 : List Bool) (r : List Bool × Bool) : Prop :=
  r = (s2, true)
def strings_makeASCIISet_l2 (a0 : ByteArray) (s3 : Int × List Bool) (o3 : Sum (Int × List Bool) (Sum (List Bool) (List Bool × Bool))) : Prop :=
  if (decide (s3.1 < (a0.size : Int))) = true then (∃ q4 : Int, idx (bints a0) s3.1 q4 ∧ if (decide (128 ≤ q4)) = true then (o3 = .inr (.inr (s3.2, false))) else (0 ≤ q4 ∧ q4 < 256 ∧ o3 = .inl ((IntKind.i64.wrap (s3.1 + 1)), (putN 256 false s3.2 q4.toNat true)))) else (o3 = .inr (.inl s3.2))
def strings_makeASCIISet (a0 : ByteArray) (r : List Bool × Bool) : Prop :=
  ∃ e3 : (Sum (List Bool) (List Bool × Bool)), Loops (strings_makeASCIISet_l2 a0) (0, (List.replicate 256 false)) e3 ∧ Aft (fun p8 => strings_makeASCIISet_j1 p8 r) (fun p9 => r = p9) e3
def strings_asciiSet_contains (a0 : List Bool) (a1 : Int) (r : Bool) : Prop :=
  0 ≤ a1 ∧ a1 < 256 ∧ r = (a0.getD a1.toNat false)
def strings_trimRightASCII_j1  (s1 : ByteArray) (r : ByteArray) : Prop :=
  r = s1
def strings_trimRightASCII_l2 (a1 : List Bool) (s2 : ByteArray) (o2 : Sum ByteArray ByteArray) : Prop :=
  if (decide (0 < (s2.size : Int))) = true then (∃ q3 : Int, idx (bints s2) (IntKind.i64.wrap ((s2.size : Int) - 1)) q3 ∧ ∃ r5 : Bool, strings_asciiSet_contains a1 q3 r5 ∧ if (!r5) = true then (o2 = .inr s2) else (0 ≤ (IntKind.i64.wrap ((s2.size : Int) - 1)) ∧ (IntKind.i64.wrap ((s2.size : Int) - 1)) ≤ (s2.size : Int) ∧ o2 = .inl (s2.extract 0 (IntKind.i64.wrap ((s2.size : Int) - 1)).toNat))) else (o2 = .inr s2)
def strings_trimRightASCII (a0 : ByteArray) (a1 : List Bool) (r : ByteArray) : Prop :=
  ∃ e2 : ByteArray, Loops (strings_trimRightASCII_l2 a1) a0 e2 ∧ (strings_trimRightASCII_j1 e2 r)
def strings_trimLeftASCII_j1  (s1 : ByteArray) (r : ByteArray) : Prop :=
  r = s1
def strings_trimLeftASCII_l2 (a1 : List Bool) (s2 : ByteArray) (o2 : Sum ByteArray ByteArray) : Prop :=
  if (decide (0 < (s2.size : Int))) = true then (∃ q3 : Int, idx (bints s2) 0 q3 ∧ ∃ r5 : Bool, strings_asciiSet_contains a1 q3 r5 ∧ if (!r5) = true then (o2 = .inr s2) else (1 ≤ (s2.size : Int) ∧ o2 = .inl (s2.extract (1 : Int).toNat s2.size))) else (o2 = .inr s2)
def strings_trimLeftASCII (a0 : ByteArray) (a1 : List Bool) (r : ByteArray) : Prop :=
  ∃ e2 : ByteArray, Loops (strings_trimLeftASCII_l2 a1) a0 e2 ∧ (strings_trimLeftASCII_j1 e2 r)
def unicode_utf8_RuneStart (a0 : Int) (r : Bool) : Prop :=
  r = (!(decide ((iand .u8 a0 192) = 128)))
def unicode_utf8_DecodeLastRuneInString_j2 (a0 : ByteArray) (s4 : Int) (r : Int × Int) : Prop :=
  0 ≤ s4 ∧ s4 ≤ (a0.size : Int) ∧ (a0.size : Int) ≤ (a0.size : Int) ∧ ∃ r8 : Int × Int, unicode_utf8_DecodeRuneInString (a0.extract s4.toNat (a0.size : Int).toNat) r8 ∧ if (!(decide ((IntKind.i64.wrap (s4 + r8.2)) = (a0.size : Int)))) = true then (r = (65533, 1)) else (r = (r8.1, r8.2))
def unicode_utf8_DecodeLastRuneInString_j1 (a0 : ByteArray) (s3 : Int) (r : Int × Int) : Prop :=
  if (decide (s3 < 0)) = true then (unicode_utf8_DecodeLastRuneInString_j2 a0 0 r) else (unicode_utf8_DecodeLastRuneInString_j2 a0 s3 r)
def unicode_utf8_DecodeLastRuneInString_l3 (a0 : ByteArray) (s12 : Int) (o12 : Sum Int Int) : Prop :=
  if (decide ((max (IntKind.i64.wrap ((a0.size : Int) - 4)) 0) ≤ s12)) = true then (∃ q13 : Int, idx (bints a0) s12 q13 ∧ ∃ r15 : Bool, unicode_utf8_RuneStart q13 r15 ∧ if r15 = true then (o12 = .inr s12) else (o12 = .inl (IntKind.i64.wrap (s12 - 1)))) else (o12 = .inr s12)
def unicode_utf8_DecodeLastRuneInString (a0 : ByteArray) (r : Int × Int) : Prop :=
  if (decide ((a0.size : Int) = 0)) = true then (r = (65533, 0)) else (∃ q1 : Int, idx (bints a0) (IntKind.i64.wrap ((a0.size : Int) - 1)) q1 ∧ if (decide ((IntKind.i32.wrap q1) < 128)) = true then (r = ((IntKind.i32.wrap q1), 1)) else (∃ e12 : Int, Loops (unicode_utf8_DecodeLastRuneInString_l3 a0) (IntKind.i64.wrap ((IntKind.i64.wrap ((a0.size : Int) - 1)) - 1)) e12 ∧ (unicode_utf8_DecodeLastRuneInString_j1 a0 e12 r)))
def unicode_utf8_ValidRune_j2  (s2 : Bool) (r : Bool) : Prop :=
  if s2 = true then (r = true) else (r = false)
def unicode_utf8_ValidRune_j1 (a0 : Int) (s1 : Bool) (r : Bool) : Prop :=
  if s1 = true then (r = true) else (if (decide (57343 < a0)) = true then (unicode_utf8_ValidRune_j2 (decide (a0 ≤ 1114111)) r) else (unicode_utf8_ValidRune_j2 false r))
def unicode_utf8_ValidRune (a0 : Int) (r : Bool) : Prop :=
  if (decide (0 ≤ a0)) = true then (unicode_utf8_ValidRune_j1 a0 (decide (a0 < 55296)) r) else (unicode_utf8_ValidRune_j1 a0 false r)
def strings_IndexRune_j1 (a0 : ByteArray) (a1 : Int) (s1 : Bool) (r : Int) : Prop :=
  if s1 = true then (∃ r2 : Int, strings_IndexByte a0 (IntKind.u8.wrap a1) r2 ∧ r = r2) else (if (decide (a1 = 65533)) = true then (False) else (∃ r6 : Bool, unicode_utf8_ValidRune a1 r6 ∧ if (!r6) = true then (r = (-1)) else (False)))
def strings_IndexRune (a0 : ByteArray) (a1 : Int) (r : Int) : Prop :=
  if (decide (0 ≤ a1)) = true then (strings_IndexRune_j1 a0 a1 (decide (a1 < 128)) r) else (strings_IndexRune_j1 a0 a1 false r)
def strings_ContainsRune (a0 : ByteArray) (a1 : Int) (r : Bool) : Prop :=
  ∃ r1 : Int, strings_IndexRune a0 a1 r1 ∧ r = (decide (0 ≤ r1))
def strings_trimRightUnicode_j1  (s1 : ByteArray) (r : ByteArray) : Prop :=
  r = s1
def strings_trimRightUnicode_j3 (a1 : ByteArray) (s2 : ByteArray) (s5 : Int × Int) (o2 : Sum ByteArray ByteArray) : Prop :=
  ∃ r6 : Bool, strings_ContainsRune a1 s5.1 r6 ∧ if (!r6) = true then (o2 = .inr s2) else (0 ≤ (IntKind.i64.wrap ((s2.size : Int) - s5.2)) ∧ (IntKind.i64.wrap ((s2.size : Int) - s5.2)) ≤ (s2.size : Int) ∧ o2 = .inl (s2.extract 0 (IntKind.i64.wrap ((s2.size : Int) - s5.2)).toNat))
def strings_trimRightUnicode_l2 (a1 : ByteArray) (s2 : ByteArray) (o2 : Sum ByteArray ByteArray) : Prop :=
  if (decide (0 < (s2.size : Int))) = true then (∃ q3 : Int, idx (bints s2) (IntKind.i64.wrap ((s2.size : Int) - 1)) q3 ∧ if (decide (128 ≤ (IntKind.i32.wrap q3))) = true then (∃ r12 : Int × Int, unicode_utf8_DecodeLastRuneInString s2 r12 ∧ strings_trimRightUnicode_j3 a1 s2 (r12.1, r12.2) o2) else (strings_trimRightUnicode_j3 a1 s2 ((IntKind.i32.wrap q3), 1) o2)) else (o2 = .inr s2)
def strings_trimRightUnicode (a0 : ByteArray) (a1 : ByteArray) (r : ByteArray) : Prop :=
  ∃ e2 : ByteArray, Loops (strings_trimRightUnicode_l2 a1) a0 e2 ∧ (strings_trimRightUnicode_j1 e2 r)
def strings_trimLeftUnicode_j1  (s1 : ByteArray) (r : ByteArray) : Prop :=
  r = s1
def strings_trimLeftUnicode_l2 (a1 : ByteArray) (s2 : ByteArray) (o2 : Sum ByteArray ByteArray) : Prop :=
  if (decide (0 < (s2.size : Int))) = true then (∃ r3 : Int × Int, unicode_utf8_DecodeRuneInString s2 r3 ∧ ∃ r7 : Bool, strings_ContainsRune a1 r3.1 r7 ∧ if (!r7) = true then (o2 = .inr s2) else (0 ≤ r3.2 ∧ r3.2 ≤ (s2.size : Int) ∧ o2 = .inl (s2.extract r3.2.toNat s2.size))) else (o2 = .inr s2)
def strings_trimLeftUnicode (a0 : ByteArray) (a1 : ByteArray) (r : ByteArray) : Prop :=
  ∃ e2 : ByteArray, Loops (strings_trimLeftUnicode_l2 a1) a0 e2 ∧ (strings_trimLeftUnicode_j1 e2 r)
def strings_Trim_j2 (a0 : ByteArray) (a1 : ByteArray) (s2 : Bool) (r : ByteArray) : Prop :=
  if s2 = true then (∃ q3 : Int, idx (bints a1) 0 q3 ∧ ∃ r5 : ByteArray, strings_trimRightByte a0 q3 r5 ∧ ∃ q9 : Int, idx (bints a1) 0 q9 ∧ ∃ r11 : ByteArray, strings_trimLeftByte r5 q9 r11 ∧ r = r11) else (∃ r16 : List Bool × Bool, strings_makeASCIISet a1 r16 ∧ if r16.2 = true then (∃ r21 : ByteArray, strings_trimRightASCII a0 r16.1 r21 ∧ ∃ r25 : ByteArray, strings_trimLeftASCII r21 r16.1 r25 ∧ r = r25) else (∃ r29 : ByteArray, strings_trimRightUnicode a0 a1 r29 ∧ ∃ r33 : ByteArray, strings_trimLeftUnicode r29 a1 r33 ∧ r = r33))
def strings_Trim_j1 (a0 : ByteArray) (a1 : ByteArray) (s1 : Bool) (r : ByteArray) : Prop :=
  if s1 = true then (r = a0) else (if (decide ((a1.size : Int) = 1)) = true then (∃ q37 : Int, idx (bints a1) 0 q37 ∧ strings_Trim_j2 a0 a1 (decide (q37 < 128)) r) else (strings_Trim_j2 a0 a1 false r))
def strings_Trim (a0 : ByteArray) (a1 : ByteArray) (r : ByteArray) : Prop :=
  if (decide (a0 = (bstr []))) = true then (strings_Trim_j1 a0 a1 true r) else (strings_Trim_j1 a0 a1 (decide (a1 = (bstr []))) r)
def say_Read_j1 (r1 : Int × Bool) (s11 : Bool) (r : Int × Int) : Prop :=
  if s11 = true then (r = (0, 3)) else (if r1.2 = true then (r = (0, 5)) else (r = (r1.1, 0)))
def say_Read (a0 : ByteArray) (r : Int × Int) : Prop :=
  ∃ r1 : Int × Bool, strconv_ParseInt a0 10 64 r1 ∧ ∃ r7 : ByteArray, strings_TrimPrefix a0 (bstr [45]) r7 ∧ if (decide (r7 = (bstr []))) = true then (say_Read_j1 r1 true r) else (∃ r12 : ByteArray, strings_Trim r7 (bstr [48, 49, 50, 51, 52, 53, 54, 55, 56, 57]) r12 ∧ if (!(decide (r12 = (bstr [])))) = true then (say_Read_j1 r1 true r) else (∃ q16 : Int, idx (bints r7) 0 q16 ∧ if (decide (q16 = 48)) = true then (say_Read_j1 r1 (!(decide (a0 = (bstr [48])))) r) else (say_Read_j1 r1 false r)))
def ref20_Read_j4 (s1 : Int) (s4 : Int) (r : Int × Int) : Prop :=
  if (decide (s1 = 1)) = true then (r = (s4, 0)) else (if (decide (s4 = (-9223372036854775808))) = true then (r = (0, 5)) else (r = ((IntKind.i64.wrap (0 - s4)), 0)))
def ref20_Read_l5 (a0 : ByteArray) (s5 : Int × Int) (o5 : Sum (Int × Int) (Sum Int (Int × Int))) : Prop :=
  if (decide (s5.2 < (a0.size : Int))) = true then (∃ q6 : Int, idx (bints a0) s5.2 q6 ∧ if (decide (s5.1 < (IntKind.i64.wrap ((IntKind.i64.wrap ((-9223372036854775808) + (IntKind.i64.wrap ((IntKind.i64.wrap q6) - 48)))).tdiv 10)))) = true then (o5 = .inr (.inr (0, 5))) else (o5 = .inl ((IntKind.i64.wrap ((IntKind.i64.wrap (10 * s5.1)) - (IntKind.i64.wrap ((IntKind.i64.wrap q6) - 48)))), (IntKind.i64.wrap (s5.2 + 1))))) else (o5 = .inr (.inl s5.1))
def ref20_Read_j3 (a0 : ByteArray) (s1 : Int) (s3 : Unit) (r : Int × Int) : Prop :=
  ∃ e5 : (Sum Int (Int × Int)), Loops (ref20_Read_l5 a0) (0, s1) e5 ∧ Aft (fun p8 => ref20_Read_j4 s1 p8 r) (fun p9 => r = p9) e5
def ref20_Read_j7 (s10 : Int) (s11 : Bool) (o10 : Sum Int (Sum Unit (Int × Int))) : Prop :=
  if s11 = true then (o10 = .inr (.inr (0, 3))) else (o10 = .inl (IntKind.i64.wrap (s10 + 1)))
def ref20_Read_l6 (a0 : ByteArray) (s10 : Int) (o10 : Sum Int (Sum Unit (Int × Int))) : Prop :=
  if (decide (s10 < (a0.size : Int))) = true then (∃ q12 : Int, idx (bints a0) s10 q12 ∧ if (decide (q12 < 48)) = true then (ref20_Read_j7 s10 true o10) else (∃ q14 : Int, idx (bints a0) s10 q14 ∧ ref20_Read_j7 s10 (decide (57 < q14)) o10)) else (o10 = .inr (.inl ()))
def ref20_Read_j2 (a0 : ByteArray) (s1 : Int) (s2 : Bool) (r : Int × Int) : Prop :=
  if s2 = true then (r = (0, 3)) else (∃ e10 : (Sum Unit (Int × Int)), Loops (ref20_Read_l6 a0) s1 e10 ∧ Aft (fun p16 => ref20_Read_j3 a0 s1 p16 r) (fun p17 => r = p17) e10)
def ref20_Read_j1 (a0 : ByteArray) (s1 : Int) (r : Int × Int) : Prop :=
  if (decide (s1 = (a0.size : Int))) = true then (ref20_Read_j2 a0 s1 true r) else (∃ q18 : Int, idx (bints a0) s1 q18 ∧ if (decide (q18 = 48)) = true then (ref20_Read_j2 a0 s1 (decide (1 < (a0.size : Int))) r) else (ref20_Read_j2 a0 s1 false r))
def ref20_Read_j8 (a0 : ByteArray) (s20 : Bool) (r : Int × Int) : Prop :=
  if s20 = true then (ref20_Read_j1 a0 1 r) else (ref20_Read_j1 a0 0 r)
def ref20_Read (a0 : ByteArray) (r : Int × Int) : Prop :=
  if (decide (0 < (a0.size : Int))) = true then (∃ q21 : Int, idx (bints a0) 0 q21 ∧ ref20_Read_j8 a0 (decide (q21 = 45)) r) else (ref20_Read_j8 a0 false r)
def ref07_Digits_j1  (s1 : Int × ByteArray) (r : ByteArray) : Prop :=
  (bstr [45]).size + s1.2.size < 4611686018427387904 ∧ r = ((bstr [45]) ++ s1.2)
def ref07_Digits_l2  (s3 : Int × ByteArray) (o3 : Sum (Int × ByteArray) (Int × ByteArray)) : Prop :=
  if (decide (s3.1 < 0)) = true then ((bstr [(IntKind.u8.wrap (IntKind.i64.wrap (48 - (s3.1.tmod 10))))]).size + s3.2.size < 4611686018427387904 ∧ o3 = .inl ((IntKind.i64.wrap (s3.1.tdiv 10)), ((bstr [(IntKind.u8.wrap (IntKind.i64.wrap (48 - (s3.1.tmod 10))))]) ++ s3.2))) else (o3 = .inr (s3.1, s3.2))
def ref07_Digits_j3  (s13 : Int × ByteArray) (r : ByteArray) : Prop :=
  (bstr [(IntKind.u8.wrap (IntKind.i64.wrap (48 + s13.1)))]).size + s13.2.size < 4611686018427387904 ∧ r = ((bstr [(IntKind.u8.wrap (IntKind.i64.wrap (48 + s13.1)))]) ++ s13.2)
def ref07_Digits_l4  (s22 : Int × ByteArray) (o22 : Sum (Int × ByteArray) (Int × ByteArray)) : Prop :=
  if (decide (10 ≤ s22.1)) = true then ((bstr [(IntKind.u8.wrap (IntKind.i64.wrap (48 + (s22.1.tmod 10))))]).size + s22.2.size < 4611686018427387904 ∧ o22 = .inl ((IntKind.i64.wrap (s22.1.tdiv 10)), ((bstr [(IntKind.u8.wrap (IntKind.i64.wrap (48 + (s22.1.tmod 10))))]) ++ s22.2))) else (o22 = .inr (s22.1, s22.2))
def ref07_Digits (a0 : Int) (r : ByteArray) : Prop :=
  if (decide (a0 < 0)) = true then (∃ e3 : Int × ByteArray, Loops (ref07_Digits_l2) (a0, (bstr [])) e3 ∧ (ref07_Digits_j1 e3 r)) else (∃ e22 : Int × ByteArray, Loops (ref07_Digits_l4) (a0, (bstr [])) e22 ∧ (ref07_Digits_j3 e22 r))
def ref20_Split_j1  (s1 : List ByteArray) (r : List ByteArray) : Prop :=
  r = s1
def ref20_Split_j3 (s11 : List ByteArray × Int × Int) (s15 : List ByteArray × Int) (o11 : Sum (List ByteArray × Int × Int) (List ByteArray)) : Prop :=
  o11 = .inl (s15.1, s15.2, (IntKind.i64.wrap (s11.2.2 + 1)))
def ref20_Split_j4 (a0 : ByteArray) (s11 : List ByteArray × Int × Int) (s19 : Bool) (o11 : Sum (List ByteArray × Int × Int) (List ByteArray)) : Prop :=
  if s19 = true then (0 ≤ s11.2.1 ∧ s11.2.1 ≤ s11.2.2 ∧ s11.2.2 ≤ (a0.size : Int) ∧ (s11.1.length + [(a0.extract s11.2.1.toNat s11.2.2.toNat)].length) * 16 ≤ 140737488355328 ∧ s11.1.length + [(a0.extract s11.2.1.toNat s11.2.2.toNat)].length ≤ 4611686018427387904 ∧ ref20_Split_j3 s11 ((s11.1 ++ [(a0.extract s11.2.1.toNat s11.2.2.toNat)]), (IntKind.i64.wrap (s11.2.2 + 1))) o11) else (ref20_Split_j3 s11 (s11.1, s11.2.1) o11)
def ref20_Split_l2 (a0 : ByteArray) (a1 : Int) (s11 : List ByteArray × Int × Int) (o11 : Sum (List ByteArray × Int × Int) (List ByteArray)) : Prop :=
  if (decide (s11.2.2 ≤ (a0.size : Int))) = true then (if (decide (s11.2.2 = (a0.size : Int))) = true then (ref20_Split_j4 a0 s11 true o11) else (∃ q31 : Int, idx (bints a0) s11.2.2 q31 ∧ ref20_Split_j4 a0 s11 (decide (q31 = a1)) o11)) else (o11 = .inr s11.1)
def ref20_Split (a0 : ByteArray) (a1 : Int) (r : List ByteArray) : Prop :=
  ∃ e11 : List ByteArray, Loops (ref20_Split_l2 a0 a1) ([], 0, 0) e11 ∧ (ref20_Split_j1 e11 r)
def field_robot  (r : (ByteArray × Int × Int × Int × Int × Int × Int)) : Prop :=
  r = ((bstr [114, 111, 98, 111, 116]), 1, 0, 0, 65535, 1, 0)
def field_Of (a0 : Int) (r : (List (ByteArray × Int × Int × Int × Int × Int × Int))) : Prop :=
  if (decide (a0 = 1)) = true then (∃ r1 : (ByteArray × Int × Int × Int × Int × Int × Int), field_robot r1 ∧ r = [r1, ((bstr [115, 112, 101, 101, 100]), 1, 1, 1, 5000, 1, 0), ((bstr [97, 99, 99, 101, 108]), 1, 2, 1, 10000, 2, 500), ((bstr [112, 97, 116, 104]), 3, (-1), 1, 16, 1, 0), ((bstr [116, 97, 103]), 6, (-1), 0, 16, 2, 0)]) else (if (decide (a0 = 2)) = true then (∃ r13 : (ByteArray × Int × Int × Int × Int × Int × Int), field_robot r13 ∧ r = [r13, ((bstr [114, 101, 97, 115, 111, 110]), 1, 1, 0, 15, 1, 0), ((bstr [122, 111, 110, 101]), 1, 2, 0, 4095, 2, 0)]) else (if (decide (a0 = 3)) = true then (∃ r25 : (ByteArray × Int × Int × Int × Int × Int × Int), field_robot r25 ∧ r = [r25, ((bstr [122, 111, 110, 101]), 1, 1, 0, 4095, 1, 0), ((bstr [108, 101, 97, 115, 101]), 1, 2, 1, 255, 2, 1), ((bstr [99, 101, 108, 108, 115]), 4, (-1), 1, 32, 1, 0)]) else (if (decide (a0 = 4)) = true then (∃ r37 : (ByteArray × Int × Int × Int × Int × Int × Int), field_robot r37 ∧ r = [r37, ((bstr [120]), 2, 1, (-1000000), 1000000, 1, 0), ((bstr [121]), 2, 2, (-1000000), 1000000, 1, 0), ((bstr [104, 101, 97, 100, 105, 110, 103]), 1, 3, 0, 35999, 1, 0), ((bstr [98, 97, 116, 116, 101, 114, 121]), 1, 4, 0, 1000, 1, 0), ((bstr [115, 117, 114, 101]), 1, 5, 0, 100, 2, 100)]) else (if (decide (a0 = 5)) = true then (∃ r49 : (ByteArray × Int × Int × Int × Int × Int × Int), field_robot r49 ∧ r = [r49, ((bstr [99, 111, 100, 101]), 1, 1, 1, 9999, 1, 0), ((bstr [115, 101, 118, 101, 114, 105, 116, 121]), 1, 2, 0, 4, 1, 0), ((bstr [112, 97, 114, 116]), 1, 3, 0, 255, 2, 0), ((bstr [116, 105, 109, 101, 115]), 1, 4, 1, 1000000, 2, 1), ((bstr [116, 101, 120, 116]), 5, (-1), 0, 64, 1, 0)]) else (r = [])))))
def msg_many (a0 : Int) (a1 : ByteArray × Int × Int × Int × Int × Int × Int) (r : Int) : Prop :=
  if (decide (a0 < a1.2.2.2.1)) = true then (r = 13) else (if (decide (a1.2.2.2.2.1 < a0)) = true then (r = 6) else (r = 0))
def msg_path_j1  (s8 : Unit) (r : Int) : Prop :=
  r = 0
def msg_path_j3 (s9 : Int) (s16 : Bool) (o9 : Sum Int (Sum Unit Int)) : Prop :=
  if s16 = true then (o9 = .inr (.inr 5)) else (o9 = .inl (IntKind.i64.wrap (s9 + 1)))
def msg_path_l2 (a0 : List (Int × Int)) (s9 : Int) (o9 : Sum Int (Sum Unit Int)) : Prop :=
  if (decide (s9 < (a0.length : Int))) = true then (∃ q10 : Int × Int, idx a0 s9 q10 ∧ if (decide (1000000 < (max q10.1 q10.2))) = true then (msg_path_j3 s9 true o9) else (msg_path_j3 s9 (decide ((min q10.1 q10.2) < (-1000000))) o9)) else (o9 = .inr (.inl ()))
def msg_path (a0 : List (Int × Int)) (a1 : ByteArray × Int × Int × Int × Int × Int × Int) (r : Int) : Prop :=
  ∃ r4 : Int, msg_many (a0.length : Int) a1 r4 ∧ if (!(decide (r4 = 0))) = true then (r = r4) else (∃ e9 : (Sum Unit Int), Loops (msg_path_l2 a0) 0 e9 ∧ Aft (fun p17 => msg_path_j1 p17 r) (fun p18 => r = p18) e9)
def msg_cells_j1  (s8 : Unit) (r : Int) : Prop :=
  r = 0
def msg_cells_j3 (s9 : Int × Int) (q10 : Int) (s15 : Bool) (o9 : Sum (Int × Int) (Sum Unit Int)) : Prop :=
  if s15 = true then (o9 = .inr (.inr 5)) else (if (decide (q10 ≤ s9.1)) = true then (o9 = .inr (.inr 3)) else (o9 = .inl (q10, (IntKind.i64.wrap (s9.2 + 1)))))
def msg_cells_l2 (a0 : List Int) (s9 : Int × Int) (o9 : Sum (Int × Int) (Sum Unit Int)) : Prop :=
  if (decide (s9.2 < (a0.length : Int))) = true then (∃ q10 : Int, idx a0 s9.2 q10 ∧ if (decide (q10 < 0)) = true then (msg_cells_j3 s9 q10 true o9) else (msg_cells_j3 s9 q10 (decide (65535 < q10)) o9)) else (o9 = .inr (.inl ()))
def msg_cells (a0 : List Int) (a1 : ByteArray × Int × Int × Int × Int × Int × Int) (r : Int) : Prop :=
  ∃ r4 : Int, msg_many (a0.length : Int) a1 r4 ∧ if (!(decide (r4 = 0))) = true then (r = r4) else (∃ e9 : (Sum Unit Int), Loops (msg_cells_l2 a0) ((-1), 0) e9 ∧ Aft (fun p16 => msg_cells_j1 p16 r) (fun p17 => r = p17) e9)
def msg_text_j1  (s6 : Unit) (r : Int) : Prop :=
  r = 0
def msg_text_j3 (s12 : Int) (s18 : Bool) (o12 : Sum Int (Sum Unit Int)) : Prop :=
  if s18 = true then (o12 = .inr (.inr 19)) else (o12 = .inl (IntKind.i64.wrap (s12 + 1)))
def msg_text_l2 (a0 : ByteArray) (s12 : Int) (o12 : Sum Int (Sum Unit Int)) : Prop :=
  if (decide (s12 < ((bints a0).length : Int))) = true then (∃ q13 : Int, idx (bints a0) s12 q13 ∧ if (decide (q13 < 32)) = true then (msg_text_j3 s12 true o12) else (msg_text_j3 s12 (decide (126 < q13)) o12)) else (o12 = .inr (.inl ()))
def msg_text (a0 : ByteArray) (a1 : ByteArray × Int × Int × Int × Int × Int × Int) (r : Int) : Prop :=
  ∃ r2 : Int, msg_many (a0.size : Int) a1 r2 ∧ if (!(decide (r2 = 0))) = true then (r = r2) else (a0.size ≤ 4611686018427387904 ∧ ∃ e12 : (Sum Unit Int), Loops (msg_text_l2 a0) 0 e12 ∧ Aft (fun p19 => msg_text_j1 p19 r) (fun p20 => r = p20) e12)
def msg_wrong_j1  (s25 : Bool) (r : Int) : Prop :=
  if s25 = true then (r = 5) else (r = 0)
def msg_wrong (a0 : Int × List Int × List (Int × Int) × List Int × ByteArray × ByteArray) (a1 : ByteArray × Int × Int × Int × Int × Int × Int) (r : Int) : Prop :=
  if (decide (a1.2.1 = 3)) = true then (∃ r7 : Int, msg_path a0.2.2.1 a1 r7 ∧ r = r7) else (if (decide (a1.2.1 = 4)) = true then (∃ r11 : Int, msg_cells a0.2.2.2.1 a1 r11 ∧ r = r11) else (if (decide (a1.2.1 = 5)) = true then (∃ r15 : Int, msg_text a0.2.2.2.2.1 a1 r15 ∧ r = r15) else (if (decide (a1.2.1 = 6)) = true then (∃ r19 : Int, msg_text a0.2.2.2.2.2 a1 r19 ∧ r = r19) else (0 ≤ a1.2.2.1 ∧ a1.2.2.1 < 6 ∧ if (decide ((a0.2.1.getD a1.2.2.1.toNat 0) < a1.2.2.2.1)) = true then (msg_wrong_j1 true r) else (msg_wrong_j1 (decide (a1.2.2.2.2.1 < (a0.2.1.getD a1.2.2.1.toNat 0))) r)))))
def msg_without_j1 (a0 : Int × List Int × List (Int × Int) × List Int × ByteArray × ByteArray) (s8 : Int × Int × Int × Int × Int × Int × (List (Int × Int)) × List Int × ByteArray × ByteArray) (r : (Int × List Int × List (Int × Int) × List Int × ByteArray × ByteArray)) : Prop :=
  r = (a0.1, [s8.1, s8.2.1, s8.2.2.1, s8.2.2.2.1, s8.2.2.2.2.1, s8.2.2.2.2.2.1], s8.2.2.2.2.2.2.1, s8.2.2.2.2.2.2.2.1, s8.2.2.2.2.2.2.2.2.1, s8.2.2.2.2.2.2.2.2.2)
def msg_without (a0 : Int × List Int × List (Int × Int) × List Int × ByteArray × ByteArray) (a1 : ByteArray × Int × Int × Int × Int × Int × Int) (r : (Int × List Int × List (Int × Int) × List Int × ByteArray × ByteArray)) : Prop :=
  if (decide (a1.2.1 = 3)) = true then (msg_without_j1 a0 ((a0.2.1.getD 0 0), (a0.2.1.getD 1 0), (a0.2.1.getD 2 0), (a0.2.1.getD 3 0), (a0.2.1.getD 4 0), (a0.2.1.getD 5 0), [], a0.2.2.2.1, a0.2.2.2.2.1, a0.2.2.2.2.2) r) else (if (decide (a1.2.1 = 4)) = true then (msg_without_j1 a0 ((a0.2.1.getD 0 0), (a0.2.1.getD 1 0), (a0.2.1.getD 2 0), (a0.2.1.getD 3 0), (a0.2.1.getD 4 0), (a0.2.1.getD 5 0), a0.2.2.1, [], a0.2.2.2.2.1, a0.2.2.2.2.2) r) else (if (decide (a1.2.1 = 5)) = true then (msg_without_j1 a0 ((a0.2.1.getD 0 0), (a0.2.1.getD 1 0), (a0.2.1.getD 2 0), (a0.2.1.getD 3 0), (a0.2.1.getD 4 0), (a0.2.1.getD 5 0), a0.2.2.1, a0.2.2.2.1, (bstr []), a0.2.2.2.2.2) r) else (if (decide (a1.2.1 = 6)) = true then (msg_without_j1 a0 ((a0.2.1.getD 0 0), (a0.2.1.getD 1 0), (a0.2.1.getD 2 0), (a0.2.1.getD 3 0), (a0.2.1.getD 4 0), (a0.2.1.getD 5 0), a0.2.2.1, a0.2.2.2.1, a0.2.2.2.2.1, (bstr [])) r) else (0 ≤ a1.2.2.1 ∧ a1.2.2.1 < 6 ∧ msg_without_j1 a0 (((putN 6 0 a0.2.1 a1.2.2.1.toNat 0).getD 0 0), ((putN 6 0 a0.2.1 a1.2.2.1.toNat 0).getD 1 0), ((putN 6 0 a0.2.1 a1.2.2.1.toNat 0).getD 2 0), ((putN 6 0 a0.2.1 a1.2.2.1.toNat 0).getD 3 0), ((putN 6 0 a0.2.1 a1.2.2.1.toNat 0).getD 4 0), ((putN 6 0 a0.2.1 a1.2.2.1.toNat 0).getD 5 0), a0.2.2.1, a0.2.2.2.1, a0.2.2.2.2.1, a0.2.2.2.2.2) r))))
def slices_Equal_msg_Point_msg_Point_j1  (s5 : Unit) (r : Bool) : Prop :=
  r = true
def slices_Equal_msg_Point_msg_Point_l2 (a0 : List (Int × Int)) (a1 : List (Int × Int)) (s6 : Int) (o6 : Sum Int (Sum Unit Bool)) : Prop :=
  if (decide (s6 < (a0.length : Int))) = true then (∃ q7 : Int × Int, idx a0 s6 q7 ∧ ∃ q12 : Int × Int, idx a1 s6 q12 ∧ if (!((decide (q7.1 = q12.1)) && ((decide (q7.2 = q12.2)) && true))) = true then (o6 = .inr (.inr false)) else (o6 = .inl (IntKind.i64.wrap (s6 + 1)))) else (o6 = .inr (.inl ()))
def slices_Equal_msg_Point_msg_Point (a0 : List (Int × Int)) (a1 : List (Int × Int)) (r : Bool) : Prop :=
  if (!(decide ((a0.length : Int) = (a1.length : Int)))) = true then (r = false) else (∃ e6 : (Sum Unit Bool), Loops (slices_Equal_msg_Point_msg_Point_l2 a0 a1) 0 e6 ∧ Aft (fun p18 => slices_Equal_msg_Point_msg_Point_j1 p18 r) (fun p19 => r = p19) e6)
def slices_Equal_int_int_j1  (s5 : Unit) (r : Bool) : Prop :=
  r = true
def slices_Equal_int_int_l2 (a0 : List Int) (a1 : List Int) (s6 : Int) (o6 : Sum Int (Sum Unit Bool)) : Prop :=
  if (decide (s6 < (a0.length : Int))) = true then (∃ q7 : Int, idx a0 s6 q7 ∧ ∃ q12 : Int, idx a1 s6 q12 ∧ if (!(decide (q7 = q12))) = true then (o6 = .inr (.inr false)) else (o6 = .inl (IntKind.i64.wrap (s6 + 1)))) else (o6 = .inr (.inl ()))
def slices_Equal_int_int (a0 : List Int) (a1 : List Int) (r : Bool) : Prop :=
  if (!(decide ((a0.length : Int) = (a1.length : Int)))) = true then (r = false) else (∃ e6 : (Sum Unit Bool), Loops (slices_Equal_int_int_l2 a0 a1) 0 e6 ∧ Aft (fun p18 => slices_Equal_int_int_j1 p18 r) (fun p19 => r = p19) e6)
def msg_Same_j1  (s11 : Bool) (r : Bool) : Prop :=
  r = s11
def msg_Same (a0 : Int × List Int × List (Int × Int) × List Int × ByteArray × ByteArray) (a1 : Int × List Int × List (Int × Int) × List Int × ByteArray × ByteArray) (r : Bool) : Prop :=
  if (decide (a0.1 = a1.1)) = true then (if (eqN 6 0 a0.2.1 a1.2.1) = true then (∃ r12 : Bool, slices_Equal_msg_Point_msg_Point a0.2.2.1 a1.2.2.1 r12 ∧ if r12 = true then (∃ r16 : Bool, slices_Equal_int_int a0.2.2.2.1 a1.2.2.2.1 r16 ∧ if r16 = true then (if (decide (a0.2.2.2.2.1 = a1.2.2.2.2.1)) = true then (msg_Same_j1 (decide (a0.2.2.2.2.2 = a1.2.2.2.2.2)) r) else (msg_Same_j1 false r)) else (msg_Same_j1 false r)) else (msg_Same_j1 false r)) else (msg_Same_j1 false r)) else (msg_Same_j1 false r)
def msg_Check_j2 (s8 : Int × Int × Int × Int × Int × Int × Int × Int × (List (Int × Int)) × List Int × ByteArray × ByteArray) (s13 : Bool) (r : Int) : Prop :=
  if s13 = true then (r = 3) else (r = s8.1)
def msg_Check_j1 (a0 : Int × List Int × List (Int × Int) × List Int × ByteArray × ByteArray) (s8 : Int × Int × Int × Int × Int × Int × Int × Int × (List (Int × Int)) × List Int × ByteArray × ByteArray) (r : Int) : Prop :=
  if (decide (s8.1 = 0)) = true then (∃ r14 : Bool, msg_Same (s8.2.1, [s8.2.2.1, s8.2.2.2.1, s8.2.2.2.2.1, s8.2.2.2.2.2.1, s8.2.2.2.2.2.2.1, s8.2.2.2.2.2.2.2.1], s8.2.2.2.2.2.2.2.2.1, s8.2.2.2.2.2.2.2.2.2.1, s8.2.2.2.2.2.2.2.2.2.2.1, s8.2.2.2.2.2.2.2.2.2.2.2) (a0.1, (List.replicate 6 0), [], [], (bstr []), (bstr [])) r14 ∧ msg_Check_j2 s8 (!r14) r) else (msg_Check_j2 s8 false r)
def msg_Check_l3 (a0 : Int × List Int × List (Int × Int) × List Int × ByteArray × ByteArray) (r18 : (List (ByteArray × Int × Int × Int × Int × Int × Int))) (s24 : Int × Int × Int × Int × Int × Int × Int × Int × Int × (List (Int × Int)) × List Int × ByteArray × ByteArray) (o24 : Sum (Int × Int × Int × Int × Int × Int × Int × Int × Int × (List (Int × Int)) × List Int × ByteArray × ByteArray) (Int × Int × Int × Int × Int × Int × Int × Int × (List (Int × Int)) × List Int × ByteArray × ByteArray)) : Prop :=
  if (decide (s24.2.1 < (r18.length : Int))) = true then (∃ q29 : ByteArray × Int × Int × Int × Int × Int × Int, idx r18 s24.2.1 q29 ∧ ∃ r35 : Int, msg_wrong a0 q29 r35 ∧ if (!(decide (r35 = 0))) = true then (o24 = .inr (r35, s24.2.2.1, s24.2.2.2.1, s24.2.2.2.2.1, s24.2.2.2.2.2.1, s24.2.2.2.2.2.2.1, s24.2.2.2.2.2.2.2.1, s24.2.2.2.2.2.2.2.2.1, s24.2.2.2.2.2.2.2.2.2.1, s24.2.2.2.2.2.2.2.2.2.2.1, s24.2.2.2.2.2.2.2.2.2.2.2.1, s24.2.2.2.2.2.2.2.2.2.2.2.2)) else (∃ r39 : (Int × List Int × List (Int × Int) × List Int × ByteArray × ByteArray), msg_without (s24.2.2.1, [s24.2.2.2.1, s24.2.2.2.2.1, s24.2.2.2.2.2.1, s24.2.2.2.2.2.2.1, s24.2.2.2.2.2.2.2.1, s24.2.2.2.2.2.2.2.2.1], s24.2.2.2.2.2.2.2.2.2.1, s24.2.2.2.2.2.2.2.2.2.2.1, s24.2.2.2.2.2.2.2.2.2.2.2.1, s24.2.2.2.2.2.2.2.2.2.2.2.2) q29 r39 ∧ o24 = .inl (r35, (IntKind.i64.wrap (s24.2.1 + 1)), r39.1, (r39.2.1.getD 0 0), (r39.2.1.getD 1 0), (r39.2.1.getD 2 0), (r39.2.1.getD 3 0), (r39.2.1.getD 4 0), (r39.2.1.getD 5 0), r39.2.2.1, r39.2.2.2.1, r39.2.2.2.2.1, r39.2.2.2.2.2))) else (o24 = .inr (s24.1, s24.2.2.1, s24.2.2.2.1, s24.2.2.2.2.1, s24.2.2.2.2.2.1, s24.2.2.2.2.2.2.1, s24.2.2.2.2.2.2.2.1, s24.2.2.2.2.2.2.2.2.1, s24.2.2.2.2.2.2.2.2.2.1, s24.2.2.2.2.2.2.2.2.2.2.1, s24.2.2.2.2.2.2.2.2.2.2.2.1, s24.2.2.2.2.2.2.2.2.2.2.2.2))
def msg_Check (a0 : Int × List Int × List (Int × Int) × List Int × ByteArray × ByteArray) (r : Int) : Prop :=
  ∃ r18 : (List (ByteArray × Int × Int × Int × Int × Int × Int)), field_Of a0.1 r18 ∧ ∃ e24 : Int × Int × Int × Int × Int × Int × Int × Int × (List (Int × Int)) × List Int × ByteArray × ByteArray, Loops (msg_Check_l3 a0 r18) (9, 0, a0.1, (a0.2.1.getD 0 0), (a0.2.1.getD 1 0), (a0.2.1.getD 2 0), (a0.2.1.getD 3 0), (a0.2.1.getD 4 0), (a0.2.1.getD 5 0), a0.2.2.1, a0.2.2.2.1, a0.2.2.2.2.1, a0.2.2.2.2.2) e24 ∧ (msg_Check_j1 a0 e24 r)
def field_Word (a0 : Int) (r : ByteArray) : Prop :=
  if (decide (a0 = 1)) = true then (r = (bstr [109, 111, 118, 101])) else (if (decide (a0 = 2)) = true then (r = (bstr [104, 111, 108, 100])) else (if (decide (a0 = 3)) = true then (r = (bstr [103, 114, 97, 110, 116])) else (if (decide (a0 = 4)) = true then (r = (bstr [112, 111, 115, 101])) else (if (decide (a0 = 5)) = true then (r = (bstr [102, 97, 117, 108, 116])) else (r = (bstr []))))))
def field_All_1_j2 (S : Type) (Y : (ByteArray × Int × Int × Int × Int × Int × Int) → S → Bool × S → Prop) (s7 : S × Int) (s10 : S) (o7 : Sum (S × Int) (S × Unit)) : Prop :=
  o7 = .inl (s10, (IntKind.i64.wrap (s7.2 + 1)))
def field_All_1_l1 (S : Type) (Y : (ByteArray × Int × Int × Int × Int × Int × Int) → S → Bool × S → Prop) (c1 : Int) (r1 : (List (ByteArray × Int × Int × Int × Int × Int × Int))) (s7 : S × Int) (o7 : Sum (S × Int) (S × Unit)) : Prop :=
  if (decide (s7.2 < (r1.length : Int))) = true then (∃ q13 : ByteArray × Int × Int × Int × Int × Int × Int, idx r1 s7.2 q13 ∧ if (decide (c1 < q13.2.2.2.2.2.1)) = true then (field_All_1_j2 S Y s7 s7.1 o7) else (∃ y19 : Bool, ∃ u20 : S, Y q13 s7.1 (y19, u20) ∧ if (!y19) = true then (o7 = .inr (u20, ())) else (field_All_1_j2 S Y s7 u20 o7))) else (o7 = .inr (s7.1, ()))
def field_All_1 (c0 : Int) (c1 : Int) (S : Type) (Y : (ByteArray × Int × Int × Int × Int × Int × Int) → S → Bool × S → Prop) (s : S) (r : S × Unit) : Prop :=
  ∃ r1 : (List (ByteArray × Int × Int × Int × Int × Int × Int)), field_Of c0 r1 ∧ ∃ e7 : S × Unit, Loops (field_All_1_l1 S Y c1 r1) (s, 0) e7 ∧ (r = e7)
def field_All (a0 : Int) (a1 : Int) (r : (((S : Type) → ((ByteArray × Int × Int × Int × Int × Int × Int) → S → Bool × S → Prop) → S → S × Unit → Prop))) : Prop :=
  r = (field_All_1 a0 a1)
def strings_Join (a0 : List ByteArray) (a1 : ByteArray) (r : ByteArray) : Prop := a0.length ≤ 140737488355328 ∧ (joinS a0 a1).size ≤ 140737488355328 ∧ r = joinS a0 a1
def say_hex_j1  (s1 : List Int) (r : ByteArray) : Prop :=
  r = (bstr s1)
def say_hex_l2 (a0 : ByteArray) (s15 : List Int × Int) (o15 : Sum (List Int × Int) (List Int)) : Prop :=
  if (decide (s15.2 < ((bints a0).length : Int))) = true then (∃ q19 : Int, idx (bints a0) s15.2 q19 ∧ ∃ q24 : Int, idx (bints (bstr [48, 49, 50, 51, 52, 53, 54, 55, 56, 57, 97, 98, 99, 100, 101, 102])) (ishr .u8 q19 4) q24 ∧ ∃ q26 : Int, idx (bints (bstr [48, 49, 50, 51, 52, 53, 54, 55, 56, 57, 97, 98, 99, 100, 101, 102])) (iand .u8 q19 15) q26 ∧ (s15.1.length + [q24, q26].length) * 1 ≤ 140737488355328 ∧ s15.1.length + [q24, q26].length ≤ 4611686018427387904 ∧ o15 = .inl ((s15.1 ++ [q24, q26]), (IntKind.i64.wrap (s15.2 + 1)))) else (o15 = .inr s15.1)
def say_hex (a0 : ByteArray) (r : ByteArray) : Prop :=
  if (decide (a0 = (bstr []))) = true then (r = (bstr [45])) else (a0.size ≤ 4611686018427387904 ∧ ∃ e15 : List Int, Loops (say_hex_l2 a0) ([], 0) e15 ∧ (say_hex_j1 e15 r))
def say_value_j1  (s7 : List ByteArray) (r : ByteArray) : Prop :=
  ∃ r16 : ByteArray, strings_Join s7 (bstr [59]) r16 ∧ r = r16
def say_value_l2 (a0 : Int × List Int × List (Int × Int) × List Int × ByteArray × ByteArray) (s20 : List ByteArray × Int) (o20 : Sum (List ByteArray × Int) (List ByteArray)) : Prop :=
  if (decide (s20.2 < (a0.2.2.1.length : Int))) = true then (∃ q24 : Int × Int, idx a0.2.2.1 s20.2 q24 ∧ ∃ r30 : ByteArray, say_Number q24.1 r30 ∧ r30.size + (bstr [44]).size < 4611686018427387904 ∧ ∃ r35 : ByteArray, say_Number q24.2 r35 ∧ (r30 ++ (bstr [44])).size + r35.size < 4611686018427387904 ∧ (s20.1.length + [((r30 ++ (bstr [44])) ++ r35)].length) * 16 ≤ 140737488355328 ∧ s20.1.length + [((r30 ++ (bstr [44])) ++ r35)].length ≤ 4611686018427387904 ∧ o20 = .inl ((s20.1 ++ [((r30 ++ (bstr [44])) ++ r35)]), (IntKind.i64.wrap (s20.2 + 1)))) else (o20 = .inr s20.1)
def say_value_j3  (s57 : List ByteArray) (r : ByteArray) : Prop :=
  ∃ r66 : ByteArray, strings_Join s57 (bstr [44]) r66 ∧ r = r66
def say_value_l4 (a0 : Int × List Int × List (Int × Int) × List Int × ByteArray × ByteArray) (s70 : List ByteArray × Int) (o70 : Sum (List ByteArray × Int) (List ByteArray)) : Prop :=
  if (decide (s70.2 < (a0.2.2.2.1.length : Int))) = true then (∃ q74 : Int, idx a0.2.2.2.1 s70.2 q74 ∧ ∃ r79 : ByteArray, say_Number q74 r79 ∧ (s70.1.length + [r79].length) * 16 ≤ 140737488355328 ∧ s70.1.length + [r79].length ≤ 4611686018427387904 ∧ o70 = .inl ((s70.1 ++ [r79]), (IntKind.i64.wrap (s70.2 + 1)))) else (o70 = .inr s70.1)
def say_value (a0 : Int × List Int × List (Int × Int) × List Int × ByteArray × ByteArray) (a1 : ByteArray × Int × Int × Int × Int × Int × Int) (r : ByteArray) : Prop :=
  if (decide (a1.2.1 = 3)) = true then (∃ e20 : List ByteArray, Loops (say_value_l2 a0) ([], 0) e20 ∧ (say_value_j1 e20 r)) else (if (decide (a1.2.1 = 4)) = true then (∃ e70 : List ByteArray, Loops (say_value_l4 a0) ([], 0) e70 ∧ (say_value_j3 e70 r)) else (if (decide (a1.2.1 = 5)) = true then (∃ r92 : ByteArray, say_hex a0.2.2.2.2.1 r92 ∧ r = r92) else (if (decide (a1.2.1 = 6)) = true then (∃ r96 : ByteArray, say_hex a0.2.2.2.2.2 r96 ∧ r = r96) else (0 ≤ a1.2.2.1 ∧ a1.2.2.1 < 6 ∧ ∃ r102 : ByteArray, say_Number (a0.2.1.getD a1.2.2.1.toNat 0) r102 ∧ r = r102))))
def say_Line_l1 (a0 : Int × List Int × List (Int × Int) × List Int × ByteArray × ByteArray) (x22 : (ByteArray × Int × Int × Int × Int × Int × Int)) (s22 : ByteArray) (o22 : Sum ByteArray Unit) : Prop :=
  (bstr [32]).size + x22.1.size < 4611686018427387904 ∧ ((bstr [32]) ++ x22.1).size + (bstr [32]).size < 4611686018427387904 ∧ ∃ r26 : ByteArray, say_value a0 x22 r26 ∧ (((bstr [32]) ++ x22.1) ++ (bstr [32])).size + r26.size < 4611686018427387904 ∧ s22.size + ((((bstr [32]) ++ x22.1) ++ (bstr [32])) ++ r26).size < 4611686018427387904 ∧ o22 = .inl (s22 ++ ((((bstr [32]) ++ x22.1) ++ (bstr [32])) ++ r26))
def say_Line (a0 : Int × List Int × List (Int × Int) × List Int × ByteArray × ByteArray) (r : ByteArray) : Prop :=
  ∃ r6 : Int, msg_Check a0 r6 ∧ if (!(decide (r6 = 0))) = true then (r = (bstr [])) else (∃ r10 : ByteArray, field_Word a0.1 r10 ∧ ∃ r15 : (((S : Type) → ((ByteArray × Int × Int × Int × Int × Int × Int) → S → Bool × S → Prop) → S → S × Unit → Prop)), field_All a0.1 2 r15 ∧ ∃ (t22 : Sum ByteArray Unit) (w22 : Unit), r15 (Sum ByteArray Unit) (Yof (say_Line_l1 a0)) (.inl r10) (t22, w22) ∧ Aft (fun p33 => r = p33) (fun _ => True) t22)
def law20_known_j1  (s9 : Bool) (r : Bool) : Prop :=
  r = s9
def law20_known  (r : Bool) : Prop :=
  ∃ r1 : ByteArray, say_Line (2, [300, 2, 9, 0, 0, 0], [], [], (bstr []), (bstr [])) r1 ∧ ∃ r5 : ByteArray, say_Line (5, [1, 2, 3, 0, 1, 0], [], [], (bstr [104, 105]), (bstr [])) r5 ∧ if (decide (r1 = (bstr [104, 111, 108, 100, 32, 114, 111, 98, 111, 116, 32, 51, 48, 48, 32, 114, 101, 97, 115, 111, 110, 32, 50, 32, 122, 111, 110, 101, 32, 57]))) = true then (law20_known_j1 (decide (r5 = (bstr [102, 97, 117, 108, 116, 32, 114, 111, 98, 111, 116, 32, 49, 32, 99, 111, 100, 101, 32, 50, 32, 115, 101, 118, 101, 114, 105, 116, 121, 32, 51, 32, 112, 97, 114, 116, 32, 48, 32, 116, 105, 109, 101, 115, 32, 49, 32, 116, 101, 120, 116, 32, 54, 56, 54, 57]))) r) else (law20_known_j1 false r)
def law20_SayNumbers_j3 (x38 : Int × ByteArray) (s38 : Int × Int) (s39 : Bool) (o38 : Sum (Int × Int) (Int × Int)) : Prop :=
  if s39 = true then (o38 = .inr (s38.1, s38.2)) else (o38 = .inl ((IntKind.i64.wrap (s38.1 + 1)), (IntKind.i64.wrap ((IntKind.i64.wrap (s38.2 + (x38.2.size : Int))) + 1))))
def law20_SayNumbers_l2 (r22 : List ByteArray) (x38 : Int × ByteArray) (s38 : Int × Int) (o38 : Sum (Int × Int) (Int × Int)) : Prop :=
  if (decide ((r22.length : Int) ≤ s38.1)) = true then (law20_SayNumbers_j3 x38 s38 true o38) else (∃ q40 : ByteArray, idx r22 s38.1 q40 ∧ if (!(decide (x38.2 = q40))) = true then (law20_SayNumbers_j3 x38 s38 true o38) else (law20_SayNumbers_j3 x38 s38 (!(decide (x38.1 = s38.2))) o38))
def law20_SayNumbers_j5  (s60 : Bool) (r : Bool) : Prop :=
  r = s60
def law20_SayNumbers_j4 (a2 : Int) (r22 : List ByteArray) (p48 : Int × Int) (s59 : Int) (r : Bool) : Prop :=
  ∃ r61 : Bool, law20_known r61 ∧ if r61 = true then (if (decide (p48.1 = (r22.length : Int))) = true then (if (decide (s59 = p48.1)) = true then (law20_SayNumbers_j5 true r) else (law20_SayNumbers_j5 (decide (s59 = a2)) r)) else (law20_SayNumbers_j5 false r)) else (law20_SayNumbers_j5 false r)
def law20_SayNumbers_l6 (a2 : Int) (x65 : Int × ByteArray) (s65 : Int) (o65 : Sum Int Int) : Prop :=
  if (decide (s65 = a2)) = true then (o65 = .inr s65) else (o65 = .inl (IntKind.i64.wrap (s65 + 1)))
def law20_SayNumbers_j1 (a1 : ByteArray) (a2 : Int) (s21 : Bool) (r : Bool) : Prop :=
  if s21 = true then (r = false) else (∃ r22 : List ByteArray, ref20_Split (a1.extract 0 (min (a1.size : Int) 200).toNat) 32 r22 ∧ ∃ r31 : (((S : Type) → ((Int × ByteArray) → S → Bool × S → Prop) → S → S × Unit → Prop)), say_Words (a1.extract 0 (min (a1.size : Int) 200).toNat) r31 ∧ ∃ (t38 : Sum (Int × Int) (Int × Int)) (w38 : Unit), r31 (Sum (Int × Int) (Int × Int)) (Yof (law20_SayNumbers_l2 r22)) (.inl (0, 0)) (t38, w38) ∧ Aft (fun p48 => ∃ r52 : (((S : Type) → ((Int × ByteArray) → S → Bool × S → Prop) → S → S × Unit → Prop)), say_Words (a1.extract 0 (min (a1.size : Int) 200).toNat) r52 ∧ ∃ (t65 : Sum Int Int) (w65 : Unit), r52 (Sum Int Int) (Yof (law20_SayNumbers_l6 a2)) (.inl 0) (t65, w65) ∧ Aft (fun p69 => law20_SayNumbers_j4 a2 r22 p48 p69 r) (fun p66 => law20_SayNumbers_j4 a2 r22 p48 p66 r) t65) (fun p45 => r = false) t38)
def law20_SayNumbers (a0 : Int) (a1 : ByteArray) (a2 : Int) (r : Bool) : Prop :=
  0 ≤ (min (a1.size : Int) 200) ∧ (min (a1.size : Int) 200) ≤ (a1.size : Int) ∧ ∃ r5 : ByteArray, say_Number a0 r5 ∧ ∃ r9 : Int × Int, say_Read r5 r9 ∧ ∃ r13 : Int × Int, say_Read (a1.extract 0 (min (a1.size : Int) 200).toNat) r13 ∧ ∃ r17 : Int × Int, ref20_Read (a1.extract 0 (min (a1.size : Int) 200).toNat) r17 ∧ ∃ r72 : ByteArray, ref07_Digits a0 r72 ∧ if (!(decide (r5 = r72))) = true then (law20_SayNumbers_j1 a1 a2 true r) else (if (!(decide (r9.1 = a0))) = true then (law20_SayNumbers_j1 a1 a2 true r) else (if (!(decide (r9.2 = 0))) = true then (law20_SayNumbers_j1 a1 a2 true r) else (if (!(decide (r13.1 = r17.1))) = true then (law20_SayNumbers_j1 a1 a2 true r) else (if (!(decide (r13.2 = r17.2))) = true then (law20_SayNumbers_j1 a1 a2 true r) else (if (decide (r13.2 = 0)) = true then (∃ r76 : ByteArray, say_Number r13.1 r76 ∧ law20_SayNumbers_j1 a1 a2 (!(decide (r76 = (a1.extract 0 (min (a1.size : Int) 200).toNat)))) r) else (law20_SayNumbers_j1 a1 a2 false r))))))
def ref26_digit (a0 : Int) (r : Int) : Prop :=
  if (decide (a0 < 10)) = true then (r = (IntKind.u8.wrap (48 + a0))) else (r = (IntKind.u8.wrap (87 + a0)))
def ref26_Unhex_j2  (s2 : List Int) (r : List Int × Int) : Prop :=
  r = (s2, 0)
def ref26_Unhex_j4 (s12 : List Int × Int) (s16 : List Int × Bool) (o12 : Sum (List Int × Int) (Sum (List Int) (List Int × Int))) : Prop :=
  if (!s16.2) = true then (o12 = .inr (.inr ([], 3))) else (o12 = .inl (s16.1, (IntKind.i64.wrap (s12.2 + 2))))
def ref26_Unhex_j7 (s20 : List Int × Bool × Int) (s25 : List Int × Bool) (o20 : Sum (List Int × Bool × Int) (List Int × Bool)) : Prop :=
  o20 = .inl (s25.1, s25.2, (IntKind.i64.wrap (s20.2.2 + 1)))
def ref26_Unhex_j6 (a0 : ByteArray) (s12 : List Int × Int) (s20 : List Int × Bool × Int) (s24 : Bool) (o20 : Sum (List Int × Bool × Int) (List Int × Bool)) : Prop :=
  if s24 = true then (∃ r29 : Int, ref26_digit (IntKind.u8.wrap (IntKind.i64.wrap (s20.2.2.tdiv 16))) r29 ∧ ∃ q33 : Int, idx (bints a0) s12.2 q33 ∧ ∃ r36 : Int, ((decide (r29 = q33)) = true → ref26_digit (IntKind.u8.wrap (s20.2.2.tmod 16)) r36) ∧ ∃ q40 : Int, ((decide (r29 = q33)) = true → idx (bints a0) (IntKind.i64.wrap (s12.2 + 1)) q40) ∧ if ((decide (r29 = q33)) && (decide (r36 = q40))) = true then ((s20.1.length + [(IntKind.u8.wrap s20.2.2)].length) * 1 ≤ 140737488355328 ∧ s20.1.length + [(IntKind.u8.wrap s20.2.2)].length ≤ 4611686018427387904 ∧ ref26_Unhex_j7 s20 ((s20.1 ++ [(IntKind.u8.wrap s20.2.2)]), true) o20) else (ref26_Unhex_j7 s20 (s20.1, s20.2.1) o20)) else (o20 = .inr (s20.1, s20.2.1))
def ref26_Unhex_l5 (a0 : ByteArray) (s12 : List Int × Int) (s20 : List Int × Bool × Int) (o20 : Sum (List Int × Bool × Int) (List Int × Bool)) : Prop :=
  if (decide (s20.2.2 < 256)) = true then (ref26_Unhex_j6 a0 s12 s20 (!s20.2.1) o20) else (ref26_Unhex_j6 a0 s12 s20 false o20)
def ref26_Unhex_l3 (a0 : ByteArray) (s12 : List Int × Int) (o12 : Sum (List Int × Int) (Sum (List Int) (List Int × Int))) : Prop :=
  if (decide (s12.2 < (a0.size : Int))) = true then (∃ e20 : List Int × Bool, Loops (ref26_Unhex_l5 a0 s12) (s12.1, false, 0) e20 ∧ (ref26_Unhex_j4 s12 e20 o12)) else (o12 = .inr (.inl s12.1))
def ref26_Unhex_j1 (a0 : ByteArray) (s1 : Bool) (r : List Int × Int) : Prop :=
  if s1 = true then (r = ([], 3)) else (∃ e12 : (Sum (List Int) (List Int × Int)), Loops (ref26_Unhex_l3 a0) ([], 0) e12 ∧ Aft (fun p52 => ref26_Unhex_j2 p52 r) (fun p53 => r = p53) e12)
def ref26_Unhex (a0 : ByteArray) (r : List Int × Int) : Prop :=
  if (decide (a0 = (bstr [45]))) = true then (r = ([], 0)) else (if (decide (a0 = (bstr []))) = true then (ref26_Unhex_j1 a0 true r) else (ref26_Unhex_j1 a0 (decide (((a0.size : Int).tmod 2) = 1)) r))
def ref01_Same_j1  (s5 : Unit) (r : Bool) : Prop :=
  r = true
def ref01_Same_l2 (a0 : List Int) (a1 : List Int) (s6 : Int) (o6 : Sum Int (Sum Unit Bool)) : Prop :=
  if (decide (s6 < (a0.length : Int))) = true then (∃ q7 : Int, idx a0 s6 q7 ∧ ∃ q12 : Int, idx a1 s6 q12 ∧ if (!(decide (q7 = q12))) = true then (o6 = .inr (.inr false)) else (o6 = .inl (IntKind.i64.wrap (s6 + 1)))) else (o6 = .inr (.inl ()))
def ref01_Same (a0 : List Int) (a1 : List Int) (r : Bool) : Prop :=
  if (!(decide ((a0.length : Int) = (a1.length : Int)))) = true then (r = false) else (∃ e6 : (Sum Unit Bool), Loops (ref01_Same_l2 a0 a1) 0 e6 ∧ Aft (fun p18 => ref01_Same_j1 p18 r) (fun p19 => r = p19) e6)
def internal_stringslite_Index (a0 : ByteArray) (a1 : ByteArray) (r : Int) : Prop := ∃ c : Int, bints a1 = [c] ∧ r = (((bints a0).findIdx? (fun x => decide (x = c))).map Int.ofNat).getD (-1)
def strings_Builder_copyCheck (a0 : Bool × List Int) (r : (Bool × List Int)) : Prop := r = (true, a0.2)
def strings_Builder_String (a0 : Bool × List Int) (r : ByteArray) : Prop := (∀ x ∈ a0.2, IntOk .u8 x) ∧ r = bstr a0.2
def dump_Rows_1_l1 (S : Type) (Y : (Int × List Int) → S → Bool × S → Prop) (c0 : List Int) (s3 : S × Int) (o3 : Sum (S × Int) (S × Unit)) : Prop :=
  if (decide (s3.2 < (c0.length : Int))) = true then (0 ≤ s3.2 ∧ s3.2 ≤ (min (IntKind.i64.wrap (s3.2 + 16)) (c0.length : Int)) ∧ (min (IntKind.i64.wrap (s3.2 + 16)) (c0.length : Int)) ≤ (c0.length : Int) ∧ (min (IntKind.i64.wrap (s3.2 + 16)) (c0.length : Int)) ≤ (min (IntKind.i64.wrap (s3.2 + 16)) (c0.length : Int)) ∧ (min (IntKind.i64.wrap (s3.2 + 16)) (c0.length : Int)) ≤ (c0.length : Int) ∧ (([] : List Int).length + ((c0.drop s3.2.toNat).take (((min (IntKind.i64.wrap (s3.2 + 16)) (c0.length : Int)) : Int) - s3.2).toNat).length) * 1 ≤ 140737488355328 ∧ ([] : List Int).length + ((c0.drop s3.2.toNat).take (((min (IntKind.i64.wrap (s3.2 + 16)) (c0.length : Int)) : Int) - s3.2).toNat).length ≤ 4611686018427387904 ∧ ∃ y25 : Bool, ∃ u26 : S, Y (s3.2, (([] : List Int) ++ ((c0.drop s3.2.toNat).take (((min (IntKind.i64.wrap (s3.2 + 16)) (c0.length : Int)) : Int) - s3.2).toNat))) s3.1 (y25, u26) ∧ if (!y25) = true then (o3 = .inr (u26, ())) else (o3 = .inl (u26, (IntKind.i64.wrap (s3.2 + 16))))) else (o3 = .inr (s3.1, ()))
def dump_Rows_1 (c0 : List Int) (S : Type) (Y : (Int × List Int) → S → Bool × S → Prop) (s : S) (r : S × Unit) : Prop :=
  ∃ e3 : S × Unit, Loops (dump_Rows_1_l1 S Y c0) (s, 0) e3 ∧ (r = e3)
def dump_Rows (a0 : List Int) (r : (((S : Type) → ((Int × List Int) → S → Bool × S → Prop) → S → S × Unit → Prop))) : Prop :=
  r = (dump_Rows_1 a0)
def strings_Builder_WriteByte (a0 : Bool × List Int) (a1 : Int) (r : Bool × (Bool × List Int)) : Prop :=
  ∃ r4 : (Bool × List Int), strings_Builder_copyCheck a0 r4 ∧ (r4.2.length + [a1].length) * 1 ≤ 140737488355328 ∧ r4.2.length + [a1].length ≤ 4611686018427387904 ∧ r = (false, (r4.1, (r4.2 ++ [a1])))
def dump_Text_1_l1 (a0 : Int) (s4 : Int × Bool × List Int) (o4 : Sum (Int × Bool × List Int) (Bool × List Int)) : Prop :=
  if (decide (0 ≤ s4.1)) = true then (0 ≤ (IntKind.i64.wrap (4 * s4.1)) ∧ ∃ q9 : Int, idx (bints (bstr [48, 49, 50, 51, 52, 53, 54, 55, 56, 57, 97, 98, 99, 100, 101, 102])) (iand .u32 (ishr .u32 a0 (IntKind.i64.wrap (4 * s4.1))) 15) q9 ∧ ∃ r11 : Bool × (Bool × List Int), strings_Builder_WriteByte s4.2 q9 r11 ∧ o4 = .inl ((IntKind.i64.wrap (s4.1 - 1)), r11.2.1, r11.2.2)) else (o4 = .inr s4.2)
def dump_Text_1 (a0 : Int) (a1 : Int) (c0 : Bool × List Int) (r : (Bool × List Int)) : Prop :=
  ∃ e4 : (Bool × List Int), Loops (dump_Text_1_l1 a0) ((IntKind.i64.wrap (a1 - 1)), c0.1, c0.2) e4 ∧ (r = e4)
def dump_Text_j2  (s25 : Bool × List Int) (o12 : Sum (Bool × List Int) Unit) : Prop :=
  ∃ r29 : Bool × (Bool × List Int), strings_Builder_WriteByte s25 10 r29 ∧ o12 = .inl (r29.2.1, r29.2.2)
def dump_Text_l3 (x12 : Int × List Int) (s38 : Int × Bool × List Int) (o38 : Sum (Int × Bool × List Int) (Bool × List Int)) : Prop :=
  if (decide (s38.1 < (x12.2.length : Int))) = true then (∃ q42 : Int, idx x12.2 s38.1 q42 ∧ ∃ r47 : Bool × (Bool × List Int), strings_Builder_WriteByte s38.2 32 r47 ∧ ∃ r56 : (Bool × List Int), dump_Text_1 (IntKind.u32.wrap q42) 2 r47.2 r56 ∧ o38 = .inl ((IntKind.i64.wrap (s38.1 + 1)), r56.1, r56.2)) else (o38 = .inr (s38.2.1, s38.2.2))
def dump_Text_l1  (x12 : Int × List Int) (s12 : Bool × List Int) (o12 : Sum (Bool × List Int) Unit) : Prop :=
  ∃ r18 : (Bool × List Int), dump_Text_1 (IntKind.u32.wrap x12.1) 8 s12 r18 ∧ ∃ e38 : Bool × List Int, Loops (dump_Text_l3 x12) (0, r18.1, r18.2) e38 ∧ (dump_Text_j2 e38 o12)
def dump_Text (a0 : List Int) (r : ByteArray) : Prop :=
  ∃ r5 : (((S : Type) → ((Int × List Int) → S → Bool × S → Prop) → S → S × Unit → Prop)), dump_Rows a0 r5 ∧ ∃ (t12 : Sum (Bool × List Int) Unit) (w12 : Unit), r5 (Sum (Bool × List Int) Unit) (Yof (dump_Text_l1)) (.inl (false, [])) (t12, w12) ∧ Aft (fun p64 => ∃ r70 : ByteArray, strings_Builder_String p64 r70 ∧ r = r70) (fun _ => True) t12
def strings_Lines_1_j2 (S : Type) (Y : ByteArray → S → Bool × S → Prop) (s4 : S × ByteArray × ByteArray) (o1 : Sum (S × ByteArray) (S × ByteArray)) : Prop :=
  ∃ y7 : Bool, ∃ u8 : S, Y s4.2.1 s4.1 (y7, u8) ∧ if (!y7) = true then (o1 = .inr (u8, s4.2.2)) else (o1 = .inl (u8, s4.2.2))
def strings_Lines_1_l1 (S : Type) (Y : ByteArray → S → Bool × S → Prop) (s1 : S × ByteArray) (o1 : Sum (S × ByteArray) (S × ByteArray)) : Prop :=
  if (decide (0 < (s1.2.size : Int))) = true then (∃ r14 : Int, strings_IndexByte s1.2 10 r14 ∧ if (decide (0 ≤ r14)) = true then (0 ≤ (IntKind.i64.wrap (r14 + 1)) ∧ (IntKind.i64.wrap (r14 + 1)) ≤ (s1.2.size : Int) ∧ 0 ≤ (IntKind.i64.wrap (r14 + 1)) ∧ (IntKind.i64.wrap (r14 + 1)) ≤ (s1.2.size : Int) ∧ strings_Lines_1_j2 S Y (s1.1, (s1.2.extract 0 (IntKind.i64.wrap (r14 + 1)).toNat), (s1.2.extract (IntKind.i64.wrap (r14 + 1)).toNat s1.2.size)) o1) else (strings_Lines_1_j2 S Y (s1.1, s1.2, (bstr [])) o1)) else (o1 = .inr (s1.1, s1.2))
def strings_Lines_1 (c0 : ByteArray) (S : Type) (Y : ByteArray → S → Bool × S → Prop) (s : S) (r : S × ByteArray) : Prop :=
  ∃ e1 : S × ByteArray, Loops (strings_Lines_1_l1 S Y) (s, c0) e1 ∧ (r = e1)
def strings_Lines (a0 : ByteArray) (r : ((ByteArray → (S : Type) → (ByteArray → S → Bool × S → Prop) → S → S × ByteArray → Prop)) × ByteArray) : Prop :=
  r = ((strings_Lines_1), a0)
def internal_stringslite_HasSuffix_j1  (s1 : Bool) (r : Bool) : Prop :=
  r = s1
def internal_stringslite_HasSuffix (a0 : ByteArray) (a1 : ByteArray) (r : Bool) : Prop :=
  if (decide ((a1.size : Int) ≤ (a0.size : Int))) = true then (0 ≤ (IntKind.i64.wrap ((a0.size : Int) - (a1.size : Int))) ∧ (IntKind.i64.wrap ((a0.size : Int) - (a1.size : Int))) ≤ (a0.size : Int) ∧ internal_stringslite_HasSuffix_j1 (decide ((a0.extract (IntKind.i64.wrap ((a0.size : Int) - (a1.size : Int))).toNat a0.size) = a1)) r) else (internal_stringslite_HasSuffix_j1 false r)
def internal_stringslite_CutSuffix (a0 : ByteArray) (a1 : ByteArray) (r : ByteArray × Bool) : Prop :=
  ∃ r1 : Bool, internal_stringslite_HasSuffix a0 a1 r1 ∧ if (!r1) = true then (r = (a0, false)) else (0 ≤ (IntKind.i64.wrap ((a0.size : Int) - (a1.size : Int))) ∧ (IntKind.i64.wrap ((a0.size : Int) - (a1.size : Int))) ≤ (a0.size : Int) ∧ r = ((a0.extract 0 (IntKind.i64.wrap ((a0.size : Int) - (a1.size : Int))).toNat), true))
def strings_CutSuffix (a0 : ByteArray) (a1 : ByteArray) (r : ByteArray × Bool) : Prop :=
  ∃ r1 : ByteArray × Bool, internal_stringslite_CutSuffix a0 a1 r1 ∧ r = (r1.1, r1.2)
def internal_stringslite_Cut (a0 : ByteArray) (a1 : ByteArray) (r : ByteArray × ByteArray × Bool) : Prop :=
  ∃ r1 : Int, internal_stringslite_Index a0 a1 r1 ∧ if (decide (0 ≤ r1)) = true then (0 ≤ r1 ∧ r1 ≤ (a0.size : Int) ∧ 0 ≤ (IntKind.i64.wrap (r1 + (a1.size : Int))) ∧ (IntKind.i64.wrap (r1 + (a1.size : Int))) ≤ (a0.size : Int) ∧ r = ((a0.extract 0 r1.toNat), (a0.extract (IntKind.i64.wrap (r1 + (a1.size : Int))).toNat a0.size), true)) else (r = (a0, (bstr []), false))
def strings_Cut (a0 : ByteArray) (a1 : ByteArray) (r : ByteArray × ByteArray × Bool) : Prop :=
  ∃ r1 : ByteArray × ByteArray × Bool, internal_stringslite_Cut a0 a1 r1 ∧ r = (r1.1, r1.2.1, r1.2.2)
def dump_number_j1 (a0 : ByteArray) (a1 : Int) (s1 : Int) (r : Int × Bool) : Prop :=
  r = (s1, (decide ((a0.size : Int) = a1)))
def dump_number_l2 (a0 : ByteArray) (s2 : Int × Int) (o2 : Sum (Int × Int) (Sum Int (Int × Bool))) : Prop :=
  if (decide (s2.2 < (a0.size : Int))) = true then (∃ q3 : Int, idx (bints a0) s2.2 q3 ∧ ∃ r5 : Int, strings_IndexByte (bstr [48, 49, 50, 51, 52, 53, 54, 55, 56, 57, 97, 98, 99, 100, 101, 102]) q3 r5 ∧ if (decide (r5 < 0)) = true then (o2 = .inr (.inr (0, false))) else (o2 = .inl ((ior .u32 (ishl .u32 s2.1 4) (IntKind.u32.wrap r5)), (IntKind.i64.wrap (s2.2 + 1))))) else (o2 = .inr (.inl s2.1))
def dump_number (a0 : ByteArray) (a1 : Int) (r : Int × Bool) : Prop :=
  ∃ e2 : (Sum Int (Int × Bool)), Loops (dump_number_l2 a0) (0, 0) e2 ∧ Aft (fun p9 => dump_number_j1 a0 a1 p9 r) (fun p10 => r = p10) e2
def dump_row_l2  (x25 : ByteArray) (s25 : List Int) (o25 : Sum (List Int) (List Int)) : Prop :=
  ∃ r29 : Int × Bool, dump_number x25 2 r29 ∧ if (!r29.2) = true then (o25 = .inr s25) else ((s25.length + [(IntKind.u8.wrap r29.1)].length) * 1 ≤ 140737488355328 ∧ s25.length + [(IntKind.u8.wrap r29.1)].length ≤ 4611686018427387904 ∧ o25 = .inl (s25 ++ [(IntKind.u8.wrap r29.1)]))
def dump_row_j1 (r5 : ByteArray × ByteArray × Bool) (r9 : Int × Bool) (s13 : Bool) (r : Int × List Int × Bool) : Prop :=
  if s13 = true then (r = (0, [], false)) else (∃ r14 : ((ByteArray → (S : Type) → (ByteArray → S → Bool × S → Prop) → S → S × ByteArray → Prop)) × ByteArray, strings_SplitSeq r5.2.1 (bstr [32]) r14 ∧ ∃ (t25 : Sum (List Int) (List Int)) (w25 : ByteArray), r14.1 r14.2 (Sum (List Int) (List Int)) (Yof (dump_row_l2)) (.inl []) (t25, w25) ∧ Aft (fun p48 => r = (r9.1, p48, (decide ((p48.length : Int) ≤ 16)))) (fun p41 => r = (0, [], false)) t25)
def dump_row (a0 : ByteArray) (r : Int × List Int × Bool) : Prop :=
  ∃ r5 : ByteArray × ByteArray × Bool, strings_Cut a0 (bstr [32]) r5 ∧ ∃ r9 : Int × Bool, dump_number r5.1 8 r9 ∧ if (!r9.2) = true then (dump_row_j1 r5 r9 true r) else (dump_row_j1 r5 r9 (decide (r5.2.1 = (bstr []))) r)
def dump_Parse_j2 (s15 : List Int) (r23 : Int × List Int × Bool) (s29 : Bool) (o15 : Sum (List Int) (Int × List Int)) : Prop :=
  if s29 = true then (o15 = .inr (3, s15)) else (if (!(decide (r23.1 = (IntKind.u32.wrap (s15.length : Int))))) = true then (o15 = .inr (5, s15)) else ((s15.length + r23.2.1.length) * 1 ≤ 140737488355328 ∧ s15.length + r23.2.1.length ≤ 4611686018427387904 ∧ o15 = .inl (s15 ++ r23.2.1)))
def dump_Parse_l1  (x15 : ByteArray) (s15 : List Int) (o15 : Sum (List Int) (Int × List Int)) : Prop :=
  ∃ r19 : ByteArray × Bool, strings_CutSuffix x15 (bstr [10]) r19 ∧ if (!r19.2) = true then (o15 = .inr (4, s15)) else (∃ r23 : Int × List Int × Bool, dump_row r19.1 r23 ∧ if (!r23.2.2) = true then (dump_Parse_j2 s15 r23 true o15) else (dump_Parse_j2 s15 r23 (!(decide (((s15.length : Int).tmod 16) = 0))) o15))
def dump_Parse (a0 : ByteArray) (r : List Int × Int) : Prop :=
  ∃ r4 : ((ByteArray → (S : Type) → (ByteArray → S → Bool × S → Prop) → S → S × ByteArray → Prop)) × ByteArray, strings_Lines a0 r4 ∧ ∃ (t15 : Sum (List Int) (Int × List Int)) (w15 : ByteArray), r4.1 r4.2 (Sum (List Int) (Int × List Int)) (Yof (dump_Parse_l1)) (.inl []) (t15, w15) ∧ Aft (fun p42 => r = (p42, 0)) (fun p35 => r = ([], p35.1)) t15
def ref26_Hex_j1  (s3 : ByteArray) (r : ByteArray) : Prop :=
  r = s3
def ref26_Hex_l2 (a0 : List Int) (s4 : ByteArray × Int) (o4 : Sum (ByteArray × Int) ByteArray) : Prop :=
  if (decide (s4.2 < (a0.length : Int))) = true then (∃ q5 : Int, idx a0 s4.2 q5 ∧ ∃ r10 : Int, ref26_digit (IntKind.u8.wrap (q5.tdiv 16)) r10 ∧ ∃ q14 : Int, idx a0 s4.2 q14 ∧ ∃ r19 : Int, ref26_digit (q14.tmod 16) r19 ∧ s4.1.size + (bstr [r10, r19]).size < 4611686018427387904 ∧ o4 = .inl ((s4.1 ++ (bstr [r10, r19])), (IntKind.i64.wrap (s4.2 + 1)))) else (o4 = .inr s4.1)
def ref26_Hex (a0 : List Int) (r : ByteArray) : Prop :=
  if (decide ((a0.length : Int) = 0)) = true then (r = (bstr [45])) else (∃ e4 : ByteArray, Loops (ref26_Hex_l2 a0) ((bstr []), 0) e4 ∧ (ref26_Hex_j1 e4 r))
def crc_shift_j1  (s1 : Int) (r : Int) : Prop :=
  r = s1
def crc_shift_l2  (s2 : Int × Int) (o2 : Sum (Int × Int) Int) : Prop :=
  if (decide (s2.2 < 8)) = true then (o2 = .inl ((ixor .u32 (ishr .u32 s2.1 1) (iand .u32 3988292384 (IntKind.u32.wrap (0 - (iand .u32 s2.1 1))))), (IntKind.i64.wrap (s2.2 + 1)))) else (o2 = .inr s2.1)
def crc_shift (a0 : Int) (r : Int) : Prop :=
  ∃ e2 : Int, Loops (crc_shift_l2) (a0, 0) e2 ∧ (crc_shift_j1 e2 r)
def crc_New_j1  (s2 : List Int) (r : List Int) : Prop :=
  r = s2
def crc_New_j3 (s6 : Int × List Int) (s7 : List Int) (o6 : Sum (Int × List Int) (List Int)) : Prop :=
  o6 = .inl ((IntKind.i64.wrap (s6.1 + 1)), s7)
def crc_New_l4 (s6 : Int × List Int) (s8 : Int × Int × List Int) (o8 : Sum (Int × Int × List Int) (List Int)) : Prop :=
  if (decide (s8.2.1 < 4)) = true then (∃ r9 : Int, crc_shift s8.1 r9 ∧ 0 ≤ s8.2.1 ∧ s8.2.1 < 4 ∧ 0 ≤ s6.1 ∧ s6.1 < 256 ∧ o8 = .inl (r9, (IntKind.i64.wrap (s8.2.1 + 1)), (putN 1024 0 s8.2.2 (s8.2.1.toNat * 256 + s6.1.toNat) r9))) else (o8 = .inr s8.2.2)
def crc_New_l2  (s6 : Int × List Int) (o6 : Sum (Int × List Int) (List Int)) : Prop :=
  if (decide (s6.1 < 256)) = true then (∃ e8 : List Int, Loops (crc_New_l4 s6) ((IntKind.u32.wrap s6.1), 0, s6.2) e8 ∧ (crc_New_j3 s6 e8 o6)) else (o6 = .inr s6.2)
def crc_New  (r : List Int) : Prop :=
  ∃ e6 : List Int, Loops (crc_New_l2) (0, (List.replicate 1024 0)) e6 ∧ (crc_New_j1 e6 r)
def frame_New  (r : List Int) : Prop :=
  ∃ r1 : List Int, crc_New r1 ∧ r = r1
def fence_Segments_1_j2 (S : Type) (Y : (Int × List Int) → S → Bool × S → Prop) (s3 : S × Int × Int) (s6 : S × Int) (o3 : Sum (S × Int × Int) (S × Unit)) : Prop :=
  o3 = .inl (s6.1, s6.2, (IntKind.i64.wrap (s3.2.2 + 1)))
def fence_Segments_1_j3 (S : Type) (Y : (Int × List Int) → S → Bool × S → Prop) (s3 : S × Int × Int) (s14 : S × Bool) (o3 : Sum (S × Int × Int) (S × Unit)) : Prop :=
  if s14.2 = true then (o3 = .inr (s14.1, ())) else (fence_Segments_1_j2 S Y s3 (s14.1, (IntKind.i64.wrap (s3.2.2 + 1))) o3)
def fence_Segments_1_l1 (S : Type) (Y : (Int × List Int) → S → Bool × S → Prop) (c0 : List Int) (s3 : S × Int × Int) (o3 : Sum (S × Int × Int) (S × Unit)) : Prop :=
  if (decide (s3.2.2 < (c0.length : Int))) = true then (∃ q9 : Int, idx c0 s3.2.2 q9 ∧ if (!(decide (q9 = 0))) = true then (fence_Segments_1_j2 S Y s3 (s3.1, s3.2.1) o3) else (if (decide (s3.2.1 < s3.2.2)) = true then (0 ≤ s3.2.1 ∧ s3.2.1 ≤ s3.2.2 ∧ s3.2.2 ≤ (c0.length : Int) ∧ s3.2.2 ≤ s3.2.2 ∧ s3.2.2 ≤ (c0.length : Int) ∧ (([] : List Int).length + ((c0.drop s3.2.1.toNat).take ((s3.2.2 : Int) - s3.2.1).toNat).length) * 1 ≤ 140737488355328 ∧ ([] : List Int).length + ((c0.drop s3.2.1.toNat).take ((s3.2.2 : Int) - s3.2.1).toNat).length ≤ 4611686018427387904 ∧ ∃ y36 : Bool, ∃ u37 : S, Y (s3.2.1, (([] : List Int) ++ ((c0.drop s3.2.1.toNat).take ((s3.2.2 : Int) - s3.2.1).toNat))) s3.1 (y36, u37) ∧ fence_Segments_1_j3 S Y s3 (u37, (!y36)) o3) else (fence_Segments_1_j3 S Y s3 (s3.1, false) o3))) else (o3 = .inr (s3.1, ()))
def fence_Segments_1 (c0 : List Int) (S : Type) (Y : (Int × List Int) → S → Bool × S → Prop) (s : S) (r : S × Unit) : Prop :=
  ∃ e3 : S × Unit, Loops (fence_Segments_1_l1 S Y c0) (s, 0, 0) e3 ∧ (r = e3)
def fence_Segments (a0 : List Int) (r : (((S : Type) → ((Int × List Int) → S → Bool × S → Prop) → S → S × Unit → Prop))) : Prop :=
  r = (fence_Segments_1 a0)
def cobs_Decode_j1  (s3 : Unit) (r : List Int × Int) : Prop :=
  r = ([], 12)
def cobs_Decode_j2  (s4 : List Int) (r : List Int × Int) : Prop :=
  r = (s4, 0)
def cobs_Decode_j6 (s14 : List Int × List Int × Bool) (q20 : Int) (s41 : Bool) (o14 : Sum (List Int × List Int × Bool) (Sum Unit (List Int))) : Prop :=
  if s41 = true then (o14 = .inr (.inl ())) else (if (decide ((((s14.2.1.drop (IntKind.i64.wrap ((IntKind.i64.wrap ((IntKind.i64.wrap q20) - 1)) + 1)).toNat).take (((s14.2.1.length : Int) : Int) - (IntKind.i64.wrap ((IntKind.i64.wrap ((IntKind.i64.wrap q20) - 1)) + 1))).toNat).length : Int) = 0)) = true then (o14 = .inr (.inr (s14.1 ++ ((s14.2.1.drop (1 : Int).toNat).take (((IntKind.i64.wrap ((IntKind.i64.wrap ((IntKind.i64.wrap q20) - 1)) + 1)) : Int) - 1).toNat)))) else (if (!(decide ((IntKind.i64.wrap ((IntKind.i64.wrap q20) - 1)) = 254))) = true then (((s14.1 ++ ((s14.2.1.drop (1 : Int).toNat).take (((IntKind.i64.wrap ((IntKind.i64.wrap ((IntKind.i64.wrap q20) - 1)) + 1)) : Int) - 1).toNat)).length + [0].length) * 1 ≤ 140737488355328 ∧ (s14.1 ++ ((s14.2.1.drop (1 : Int).toNat).take (((IntKind.i64.wrap ((IntKind.i64.wrap ((IntKind.i64.wrap q20) - 1)) + 1)) : Int) - 1).toNat)).length + [0].length ≤ 4611686018427387904 ∧ o14 = .inl (((s14.1 ++ ((s14.2.1.drop (1 : Int).toNat).take (((IntKind.i64.wrap ((IntKind.i64.wrap ((IntKind.i64.wrap q20) - 1)) + 1)) : Int) - 1).toNat)) ++ [0]), ((s14.2.1.drop (IntKind.i64.wrap ((IntKind.i64.wrap ((IntKind.i64.wrap q20) - 1)) + 1)).toNat).take (((s14.2.1.length : Int) : Int) - (IntKind.i64.wrap ((IntKind.i64.wrap ((IntKind.i64.wrap q20) - 1)) + 1))).toNat), (decide ((IntKind.i64.wrap ((IntKind.i64.wrap q20) - 1)) = 254)))) else (o14 = .inl ((s14.1 ++ ((s14.2.1.drop (1 : Int).toNat).take (((IntKind.i64.wrap ((IntKind.i64.wrap ((IntKind.i64.wrap q20) - 1)) + 1)) : Int) - 1).toNat)), ((s14.2.1.drop (IntKind.i64.wrap ((IntKind.i64.wrap ((IntKind.i64.wrap q20) - 1)) + 1)).toNat).take (((s14.2.1.length : Int) : Int) - (IntKind.i64.wrap ((IntKind.i64.wrap ((IntKind.i64.wrap q20) - 1)) + 1))).toNat), (decide ((IntKind.i64.wrap ((IntKind.i64.wrap q20) - 1)) = 254))))))
def cobs_Decode_j5 (s14 : List Int × List Int × Bool) (q20 : Int) (s26 : Unit) (o14 : Sum (List Int × List Int × Bool) (Sum Unit (List Int))) : Prop :=
  1 ≤ (IntKind.i64.wrap ((IntKind.i64.wrap ((IntKind.i64.wrap q20) - 1)) + 1)) ∧ (IntKind.i64.wrap ((IntKind.i64.wrap ((IntKind.i64.wrap q20) - 1)) + 1)) ≤ (s14.2.1.length : Int) ∧ (s14.1.length + ((s14.2.1.drop (1 : Int).toNat).take (((IntKind.i64.wrap ((IntKind.i64.wrap ((IntKind.i64.wrap q20) - 1)) + 1)) : Int) - 1).toNat).length) * 1 ≤ 140737488355328 ∧ s14.1.length + ((s14.2.1.drop (1 : Int).toNat).take (((IntKind.i64.wrap ((IntKind.i64.wrap ((IntKind.i64.wrap q20) - 1)) + 1)) : Int) - 1).toNat).length ≤ 4611686018427387904 ∧ 0 ≤ (IntKind.i64.wrap ((IntKind.i64.wrap ((IntKind.i64.wrap q20) - 1)) + 1)) ∧ (IntKind.i64.wrap ((IntKind.i64.wrap ((IntKind.i64.wrap q20) - 1)) + 1)) ≤ (s14.2.1.length : Int) ∧ (s14.2.1.length : Int) ≤ (s14.2.1.length : Int) ∧ if (decide ((((s14.2.1.drop (IntKind.i64.wrap ((IntKind.i64.wrap ((IntKind.i64.wrap q20) - 1)) + 1)).toNat).take (((s14.2.1.length : Int) : Int) - (IntKind.i64.wrap ((IntKind.i64.wrap ((IntKind.i64.wrap q20) - 1)) + 1))).toNat).length : Int) = 0)) = true then (if s14.2.2 = true then (cobs_Decode_j6 s14 q20 (decide ((IntKind.i64.wrap ((IntKind.i64.wrap q20) - 1)) = 0)) o14) else (cobs_Decode_j6 s14 q20 false o14)) else (cobs_Decode_j6 s14 q20 false o14)
def cobs_Decode_l7 (s14 : List Int × List Int × Bool) (q20 : Int) (s54 : Int) (o54 : Sum Int (Sum Unit Unit)) : Prop :=
  if (decide (s54 < (((s14.2.1.drop (1 : Int).toNat).take (((IntKind.i64.wrap ((IntKind.i64.wrap ((IntKind.i64.wrap q20) - 1)) + 1)) : Int) - 1).toNat).length : Int))) = true then (∃ q55 : Int, idx ((s14.2.1.drop (1 : Int).toNat).take (((IntKind.i64.wrap ((IntKind.i64.wrap ((IntKind.i64.wrap q20) - 1)) + 1)) : Int) - 1).toNat) s54 q55 ∧ if (decide (q55 = 0)) = true then (o54 = .inr (.inr ())) else (o54 = .inl (IntKind.i64.wrap (s54 + 1)))) else (o54 = .inr (.inl ()))
def cobs_Decode_j4 (s14 : List Int × List Int × Bool) (q20 : Int) (s25 : Bool) (o14 : Sum (List Int × List Int × Bool) (Sum Unit (List Int))) : Prop :=
  if s25 = true then (o14 = .inr (.inl ())) else (1 ≤ (IntKind.i64.wrap ((IntKind.i64.wrap ((IntKind.i64.wrap q20) - 1)) + 1)) ∧ (IntKind.i64.wrap ((IntKind.i64.wrap ((IntKind.i64.wrap q20) - 1)) + 1)) ≤ (s14.2.1.length : Int) ∧ ∃ e54 : (Sum Unit Unit), Loops (cobs_Decode_l7 s14 q20) 0 e54 ∧ Aft (fun p60 => cobs_Decode_j5 s14 q20 p60 o14) (fun p61 => o14 = .inr (.inl p61)) e54)
def cobs_Decode_l3  (s14 : List Int × List Int × Bool) (o14 : Sum (List Int × List Int × Bool) (Sum Unit (List Int))) : Prop :=
  ∃ q20 : Int, idx s14.2.1 0 q20 ∧ if (decide ((IntKind.i64.wrap ((IntKind.i64.wrap q20) - 1)) < 0)) = true then (cobs_Decode_j4 s14 q20 true o14) else (cobs_Decode_j4 s14 q20 (decide ((s14.2.1.length : Int) ≤ (IntKind.i64.wrap ((IntKind.i64.wrap q20) - 1)))) o14)
def cobs_Decode (a0 : List Int) (r : List Int × Int) : Prop :=
  if (decide ((a0.length : Int) = 0)) = true then (cobs_Decode_j1 () r) else (∃ e14 : (Sum Unit (List Int)), Loops (cobs_Decode_l3) ([], a0, false) e14 ∧ Aft (fun p62 => cobs_Decode_j1 p62 r) (fun p63 => cobs_Decode_j2 p63 r) e14)
def crc_Table_Begin (a0 : List Int) (r : Int) : Prop :=
  r = 4294967295
def crc_Table_Add_j2  (s8 : Int) (r : Int) : Prop :=
  r = s8
def crc_Table_Add_l3 (a0 : List Int) (s5 : Int × List Int) (s9 : Int × Int) (o9 : Sum (Int × Int) Int) : Prop :=
  if (decide (s9.2 < (s5.2.length : Int))) = true then (∃ q10 : Int, idx s5.2 s9.2 q10 ∧ 0 ≤ (ixor .u8 (IntKind.u8.wrap s9.1) q10) ∧ (ixor .u8 (IntKind.u8.wrap s9.1) q10) < 256 ∧ o9 = .inl ((ixor .u32 (ishr .u32 s9.1 8) (a0.getD ((ixor .u8 (IntKind.u8.wrap s9.1) q10).toNat) 0)), (IntKind.i64.wrap (s9.2 + 1)))) else (o9 = .inr s9.1)
def crc_Table_Add_j1 (a0 : List Int) (s5 : Int × List Int) (r : Int) : Prop :=
  ∃ e9 : Int, Loops (crc_Table_Add_l3 a0 s5) (s5.1, 0) e9 ∧ (crc_Table_Add_j2 e9 r)
def crc_Table_Add_l4 (a0 : List Int) (s18 : Int × List Int) (o18 : Sum (Int × List Int) (Int × List Int)) : Prop :=
  if (decide ((s18.2.length : Int) < 4)) = true then (o18 = .inr (s18.1, s18.2)) else (∃ q21 : Int, idx s18.2 0 q21 ∧ ∃ q26 : Int, idx s18.2 1 q26 ∧ ∃ q31 : Int, idx s18.2 2 q31 ∧ ∃ q36 : Int, idx s18.2 3 q36 ∧ 0 ≤ (iand .u32 (ixor .u32 s18.1 (ior .u32 (ior .u32 (ior .u32 (IntKind.u32.wrap q21) (ishl .u32 (IntKind.u32.wrap q26) 8)) (ishl .u32 (IntKind.u32.wrap q31) 16)) (ishl .u32 (IntKind.u32.wrap q36) 24))) 255) ∧ (iand .u32 (ixor .u32 s18.1 (ior .u32 (ior .u32 (ior .u32 (IntKind.u32.wrap q21) (ishl .u32 (IntKind.u32.wrap q26) 8)) (ishl .u32 (IntKind.u32.wrap q31) 16)) (ishl .u32 (IntKind.u32.wrap q36) 24))) 255) < 256 ∧ 0 ≤ (iand .u32 (ishr .u32 (ixor .u32 s18.1 (ior .u32 (ior .u32 (ior .u32 (IntKind.u32.wrap q21) (ishl .u32 (IntKind.u32.wrap q26) 8)) (ishl .u32 (IntKind.u32.wrap q31) 16)) (ishl .u32 (IntKind.u32.wrap q36) 24))) 8) 255) ∧ (iand .u32 (ishr .u32 (ixor .u32 s18.1 (ior .u32 (ior .u32 (ior .u32 (IntKind.u32.wrap q21) (ishl .u32 (IntKind.u32.wrap q26) 8)) (ishl .u32 (IntKind.u32.wrap q31) 16)) (ishl .u32 (IntKind.u32.wrap q36) 24))) 8) 255) < 256 ∧ 0 ≤ (iand .u32 (ishr .u32 (ixor .u32 s18.1 (ior .u32 (ior .u32 (ior .u32 (IntKind.u32.wrap q21) (ishl .u32 (IntKind.u32.wrap q26) 8)) (ishl .u32 (IntKind.u32.wrap q31) 16)) (ishl .u32 (IntKind.u32.wrap q36) 24))) 16) 255) ∧ (iand .u32 (ishr .u32 (ixor .u32 s18.1 (ior .u32 (ior .u32 (ior .u32 (IntKind.u32.wrap q21) (ishl .u32 (IntKind.u32.wrap q26) 8)) (ishl .u32 (IntKind.u32.wrap q31) 16)) (ishl .u32 (IntKind.u32.wrap q36) 24))) 16) 255) < 256 ∧ 0 ≤ (ishr .u32 (ixor .u32 s18.1 (ior .u32 (ior .u32 (ior .u32 (IntKind.u32.wrap q21) (ishl .u32 (IntKind.u32.wrap q26) 8)) (ishl .u32 (IntKind.u32.wrap q31) 16)) (ishl .u32 (IntKind.u32.wrap q36) 24))) 24) ∧ (ishr .u32 (ixor .u32 s18.1 (ior .u32 (ior .u32 (ior .u32 (IntKind.u32.wrap q21) (ishl .u32 (IntKind.u32.wrap q26) 8)) (ishl .u32 (IntKind.u32.wrap q31) 16)) (ishl .u32 (IntKind.u32.wrap q36) 24))) 24) < 256 ∧ 4 ≤ (s18.2.length : Int) ∧ (s18.2.length : Int) ≤ (s18.2.length : Int) ∧ o18 = .inl ((ixor .u32 (ixor .u32 (ixor .u32 (a0.getD (768 + (iand .u32 (ixor .u32 s18.1 (ior .u32 (ior .u32 (ior .u32 (IntKind.u32.wrap q21) (ishl .u32 (IntKind.u32.wrap q26) 8)) (ishl .u32 (IntKind.u32.wrap q31) 16)) (ishl .u32 (IntKind.u32.wrap q36) 24))) 255).toNat) 0) (a0.getD (512 + (iand .u32 (ishr .u32 (ixor .u32 s18.1 (ior .u32 (ior .u32 (ior .u32 (IntKind.u32.wrap q21) (ishl .u32 (IntKind.u32.wrap q26) 8)) (ishl .u32 (IntKind.u32.wrap q31) 16)) (ishl .u32 (IntKind.u32.wrap q36) 24))) 8) 255).toNat) 0)) (a0.getD (256 + (iand .u32 (ishr .u32 (ixor .u32 s18.1 (ior .u32 (ior .u32 (ior .u32 (IntKind.u32.wrap q21) (ishl .u32 (IntKind.u32.wrap q26) 8)) (ishl .u32 (IntKind.u32.wrap q31) 16)) (ishl .u32 (IntKind.u32.wrap q36) 24))) 16) 255).toNat) 0)) (a0.getD ((ishr .u32 (ixor .u32 s18.1 (ior .u32 (ior .u32 (ior .u32 (IntKind.u32.wrap q21) (ishl .u32 (IntKind.u32.wrap q26) 8)) (ishl .u32 (IntKind.u32.wrap q31) 16)) (ishl .u32 (IntKind.u32.wrap q36) 24))) 24).toNat) 0)), ((s18.2.drop (4 : Int).toNat).take (((s18.2.length : Int) : Int) - 4).toNat)))
def crc_Table_Add (a0 : List Int) (a1 : Int) (a2 : List Int) (r : Int) : Prop :=
  ∃ e18 : Int × List Int, Loops (crc_Table_Add_l4 a0) (a1, a2) e18 ∧ (crc_Table_Add_j1 a0 e18 r)
def crc_Table_End (a0 : List Int) (a1 : Int) (r : Int) : Prop :=
  r = (icompl .u32 a1)
def crc_Table_Sum_j1 (a0 : List Int) (s9 : Int) (r : Int) : Prop :=
  ∃ r10 : Int, crc_Table_End a0 s9 r10 ∧ r = r10
def crc_Table_Sum_l2 (a0 : List Int) (a1 : List (List Int)) (s14 : Int × Int) (o14 : Sum (Int × Int) Int) : Prop :=
  if (decide (s14.2 < (a1.length : Int))) = true then (∃ q15 : List Int, idx a1 s14.2 q15 ∧ ∃ r22 : Int, crc_Table_Add a0 s14.1 q15 r22 ∧ o14 = .inl (r22, (IntKind.i64.wrap (s14.2 + 1)))) else (o14 = .inr s14.1)
def crc_Table_Sum (a0 : List Int) (a1 : List (List Int)) (r : Int) : Prop :=
  ∃ r5 : Int, crc_Table_Begin a0 r5 ∧ ∃ e14 : Int, Loops (crc_Table_Sum_l2 a0 a1) (r5, 0) e14 ∧ (crc_Table_Sum_j1 a0 e14 r)
def crc_bytes (a0 : Int) (r : List Int) : Prop :=
  r = [(IntKind.u8.wrap a0), (IntKind.u8.wrap (ishr .u32 a0 8)), (IntKind.u8.wrap (ishr .u32 a0 16)), (IntKind.u8.wrap (ishr .u32 a0 24))]
def crc_Open (a0 : List Int) (a1 : List Int) (r : List Int × Int) : Prop :=
  if (decide ((IntKind.i64.wrap ((a1.length : Int) - 4)) < 0)) = true then (r = ([], 13)) else (0 ≤ (IntKind.i64.wrap ((a1.length : Int) - 4)) ∧ (IntKind.i64.wrap ((a1.length : Int) - 4)) ≤ (a1.length : Int) ∧ (IntKind.i64.wrap ((a1.length : Int) - 4)) ≤ (IntKind.i64.wrap ((a1.length : Int) - 4)) ∧ (IntKind.i64.wrap ((a1.length : Int) - 4)) ≤ (a1.length : Int) ∧ ∃ r18 : Int, crc_Table_Sum a0 [((a1.drop (0 : Int).toNat).take (((IntKind.i64.wrap ((a1.length : Int) - 4)) : Int) - 0).toNat)] r18 ∧ ∃ r22 : List Int, crc_bytes r18 r22 ∧ 0 ≤ (IntKind.i64.wrap ((a1.length : Int) - 4)) ∧ (IntKind.i64.wrap ((a1.length : Int) - 4)) ≤ (a1.length : Int) ∧ (a1.length : Int) ≤ (a1.length : Int) ∧ 4 ≤ ((a1.drop (IntKind.i64.wrap ((a1.length : Int) - 4)).toNat).take (((a1.length : Int) : Int) - (IntKind.i64.wrap ((a1.length : Int) - 4))).toNat).length ∧ if (!(eqN 4 0 r22 ((a1.drop (IntKind.i64.wrap ((a1.length : Int) - 4)).toNat).take (((a1.length : Int) : Int) - (IntKind.i64.wrap ((a1.length : Int) - 4))).toNat))) = true then (r = ([], 11)) else ((([] : List Int).length + ((a1.drop (0 : Int).toNat).take (((IntKind.i64.wrap ((a1.length : Int) - 4)) : Int) - 0).toNat).length) * 1 ≤ 140737488355328 ∧ ([] : List Int).length + ((a1.drop (0 : Int).toNat).take (((IntKind.i64.wrap ((a1.length : Int) - 4)) : Int) - 0).toNat).length ≤ 4611686018427387904 ∧ r = ((([] : List Int) ++ ((a1.drop (0 : Int).toNat).take (((IntKind.i64.wrap ((a1.length : Int) - 4)) : Int) - 0).toNat)), 0)))
def lens_New (a0 : List Int) (r : (List Int × Int × Int)) : Prop :=
  (([] : List Int).length + a0.length) * 1 ≤ 140737488355328 ∧ ([] : List Int).length + a0.length ≤ 4611686018427387904 ∧ r = ((([] : List Int) ++ a0), 0, 0)
def lens_Lens_left (a0 : List Int × Int × Int) (r : List Int) : Prop :=
  0 ≤ a0.2.1 ∧ a0.2.1 ≤ (a0.1.length : Int) ∧ (a0.1.length : Int) ≤ (a0.1.length : Int) ∧ (a0.1.length : Int) ≤ (a0.1.length : Int) ∧ (a0.1.length : Int) ≤ (a0.1.length : Int) ∧ r = ((a0.1.drop a0.2.1.toNat).take (((a0.1.length : Int) : Int) - a0.2.1).toNat)
def slices_Backward_byte_byte_1_l1 (S : Type) (Y : (Int × Int) → S → Bool × S → Prop) (c0 : List Int) (s3 : S × Int) (o3 : Sum (S × Int) (S × Unit)) : Prop :=
  if (decide (0 ≤ s3.2)) = true then (∃ q6 : Int, idx c0 s3.2 q6 ∧ ∃ y11 : Bool, ∃ u12 : S, Y (s3.2, q6) s3.1 (y11, u12) ∧ if (!y11) = true then (o3 = .inr (u12, ())) else (o3 = .inl (u12, (IntKind.i64.wrap (s3.2 - 1))))) else (o3 = .inr (s3.1, ()))
def slices_Backward_byte_byte_1 (c0 : List Int) (S : Type) (Y : (Int × Int) → S → Bool × S → Prop) (s : S) (r : S × Unit) : Prop :=
  ∃ e3 : S × Unit, Loops (slices_Backward_byte_byte_1_l1 S Y c0) (s, (IntKind.i64.wrap ((c0.length : Int) - 1))) e3 ∧ (r = e3)
def slices_Backward_byte_byte (a0 : List Int) (r : (((S : Type) → ((Int × Int) → S → Bool × S → Prop) → S → S × Unit → Prop))) : Prop :=
  r = (slices_Backward_byte_byte_1 a0)
def lens_Lens_word_1_l1  (x14 : Int × Int) (s14 : Int) (o14 : Sum Int Unit) : Prop :=
  o14 = .inl (ior .u32 (ishl .u32 s14 8) (IntKind.u32.wrap x14.2))
def lens_Lens_word_1 (a0 : List Int) (c0 : Int) (c1 : Int) (r : Int × Int × Int) : Prop :=
  if (decide ((a0.length : Int) < c0)) = true then (r = (0, 4, c1)) else (0 ≤ c0 ∧ c0 ≤ (a0.length : Int) ∧ ∃ r7 : (((S : Type) → ((Int × Int) → S → Bool × S → Prop) → S → S × Unit → Prop)), slices_Backward_byte_byte ((a0.drop (0 : Int).toNat).take ((c0 : Int) - 0).toNat) r7 ∧ ∃ (t14 : Sum Int Unit) (w14 : Unit), r7 (Sum Int Unit) (Yof (lens_Lens_word_1_l1)) (.inl c1) (t14, w14) ∧ Aft (fun p15 => r = (c0, 0, p15)) (fun _ => True) t14)
def lens_Lens_read__lens_Lens_word_1 (a0 : List Int × Int × Int) (a1_0 : Int) (a1_1 : Int) (r : Bool × (List Int × Int × Int) × Int) : Prop :=
  if (!(decide (a0.2.2 = 0))) = true then (r = (false, a0, a1_1)) else (∃ r3 : List Int, lens_Lens_left a0 r3 ∧ ∃ r9 : Int × Int × Int, lens_Lens_word_1 r3 a1_0 a1_1 r9 ∧ if (!(decide (r9.2.1 = 0))) = true then (r = (false, (a0.1, a0.2.1, r9.2.1), r9.2.2)) else (r = (true, (a0.1, (IntKind.i64.wrap (a0.2.1 + r9.1)), a0.2.2), r9.2.2)))
def lens_Lens_word (a0 : List Int × Int × Int) (a1 : Int) (r : Int × (List Int × Int × Int)) : Prop :=
  ∃ r5 : Bool × (List Int × Int × Int) × Int, lens_Lens_read__lens_Lens_word_1 a0 a1 0 r5 ∧ r = (r5.2.2, r5.2.1)
def lens_Lens_U8 (a0 : List Int × Int × Int) (r : Int × (List Int × Int × Int)) : Prop :=
  ∃ r3 : Int × (List Int × Int × Int), lens_Lens_word a0 1 r3 ∧ r = ((IntKind.u8.wrap r3.1), r3.2)
def lens_Lens_U32 (a0 : List Int × Int × Int) (r : Int × (List Int × Int × Int)) : Prop :=
  ∃ r3 : Int × (List Int × Int × Int), lens_Lens_word a0 4 r3 ∧ r = (r3.1, r3.2)
def lens_Lens_Err (a0 : List Int × Int × Int) (r : Int) : Prop :=
  r = a0.2.2
def lens_Lens_Left (a0 : List Int × Int × Int) (r : Int) : Prop :=
  ∃ r3 : List Int, lens_Lens_left a0 r3 ∧ r = (r3.length : Int)
def lens_Lens_End_j1 (r3 : Int) (s7 : Bool) (r : Int) : Prop :=
  if s7 = true then (r = r3) else (r = 3)
def lens_Lens_End (a0 : List Int × Int × Int) (r : Int) : Prop :=
  ∃ r3 : Int, lens_Lens_Err a0 r3 ∧ if (!(decide (r3 = 0))) = true then (lens_Lens_End_j1 r3 true r) else (∃ r8 : Int, lens_Lens_Left a0 r8 ∧ lens_Lens_End_j1 r3 (decide (r8 = 0)) r)
def head_wrong_1 (c0 : Int × Int × Int × Int × Int) (S : Type) (Y : (Int × Bool) → S → Bool × S → Prop) (s : S) (r : S × Unit) : Prop :=
  if (decide (c0.1 < 1)) = true then (∃ y1 : Bool, ∃ u2 : S, Y (10, true) s (y1, u2) ∧ if y1 = true then (if (decide (c0.2.1 < 1)) = true then (∃ y8 : Bool, ∃ u9 : S, Y (9, true) u2 (y8, u9) ∧ if y8 = true then (if (decide (c0.2.2.2.2 < 1)) = true then (∃ y15 : Bool, ∃ u16 : S, Y (3, true) u9 (y15, u16) ∧ r = (u16, ())) else (if (decide (255 < c0.2.2.2.2)) = true then (∃ y22 : Bool, ∃ u23 : S, Y (3, true) u9 (y22, u23) ∧ r = (u23, ())) else (if (decide (c0.2.2.2.1 < 0)) = true then (∃ y29 : Bool, ∃ u30 : S, Y (3, true) u9 (y29, u30) ∧ r = (u30, ())) else (∃ y36 : Bool, ∃ u37 : S, Y (3, (decide (c0.2.2.2.2 ≤ c0.2.2.2.1))) u9 (y36, u37) ∧ r = (u37, ()))))) else (r = (u9, ()))) else (∃ y43 : Bool, ∃ u44 : S, Y (9, (decide (5 < c0.2.1))) u2 (y43, u44) ∧ if y43 = true then (if (decide (c0.2.2.2.2 < 1)) = true then (∃ y50 : Bool, ∃ u51 : S, Y (3, true) u44 (y50, u51) ∧ r = (u51, ())) else (if (decide (255 < c0.2.2.2.2)) = true then (∃ y57 : Bool, ∃ u58 : S, Y (3, true) u44 (y57, u58) ∧ r = (u58, ())) else (if (decide (c0.2.2.2.1 < 0)) = true then (∃ y64 : Bool, ∃ u65 : S, Y (3, true) u44 (y64, u65) ∧ r = (u65, ())) else (∃ y71 : Bool, ∃ u72 : S, Y (3, (decide (c0.2.2.2.2 ≤ c0.2.2.2.1))) u44 (y71, u72) ∧ r = (u72, ()))))) else (r = (u44, ())))) else (r = (u2, ()))) else (∃ y78 : Bool, ∃ u79 : S, Y (10, (decide (2 < c0.1))) s (y78, u79) ∧ if y78 = true then (if (decide (c0.2.1 < 1)) = true then (∃ y85 : Bool, ∃ u86 : S, Y (9, true) u79 (y85, u86) ∧ if y85 = true then (if (decide (c0.2.2.2.2 < 1)) = true then (∃ y92 : Bool, ∃ u93 : S, Y (3, true) u86 (y92, u93) ∧ r = (u93, ())) else (if (decide (255 < c0.2.2.2.2)) = true then (∃ y99 : Bool, ∃ u100 : S, Y (3, true) u86 (y99, u100) ∧ r = (u100, ())) else (if (decide (c0.2.2.2.1 < 0)) = true then (∃ y106 : Bool, ∃ u107 : S, Y (3, true) u86 (y106, u107) ∧ r = (u107, ())) else (∃ y113 : Bool, ∃ u114 : S, Y (3, (decide (c0.2.2.2.2 ≤ c0.2.2.2.1))) u86 (y113, u114) ∧ r = (u114, ()))))) else (r = (u86, ()))) else (∃ y120 : Bool, ∃ u121 : S, Y (9, (decide (5 < c0.2.1))) u79 (y120, u121) ∧ if y120 = true then (if (decide (c0.2.2.2.2 < 1)) = true then (∃ y127 : Bool, ∃ u128 : S, Y (3, true) u121 (y127, u128) ∧ r = (u128, ())) else (if (decide (255 < c0.2.2.2.2)) = true then (∃ y134 : Bool, ∃ u135 : S, Y (3, true) u121 (y134, u135) ∧ r = (u135, ())) else (if (decide (c0.2.2.2.1 < 0)) = true then (∃ y141 : Bool, ∃ u142 : S, Y (3, true) u121 (y141, u142) ∧ r = (u142, ())) else (∃ y148 : Bool, ∃ u149 : S, Y (3, (decide (c0.2.2.2.2 ≤ c0.2.2.2.1))) u121 (y148, u149) ∧ r = (u149, ()))))) else (r = (u121, ())))) else (r = (u79, ())))
def head_wrong (a0 : Int × Int × Int × Int × Int) (r : (((S : Type) → ((Int × Bool) → S → Bool × S → Prop) → S → S × Unit → Prop))) : Prop :=
  r = (head_wrong_1 a0)
def head_Check_j1  (s3 : Int) (r : Int) : Prop :=
  r = s3
def head_Check_l2  (x11 : Int × Bool) (s11 : Unit) (o11 : Sum Unit Int) : Prop :=
  if x11.2 = true then (o11 = .inr x11.1) else (o11 = .inl ())
def head_Check (a0 : Int × Int × Int × Int × Int) (r : Int) : Prop :=
  ∃ r4 : (((S : Type) → ((Int × Bool) → S → Bool × S → Prop) → S → S × Unit → Prop)), head_wrong a0 r4 ∧ ∃ (t11 : Sum Unit Int) (w11 : Unit), r4 (Sum Unit Int) (Yof (head_Check_l2)) (.inl ()) (t11, w11) ∧ Aft (fun p15 => head_Check_j1 0 r) (fun p12 => head_Check_j1 p12 r) t11
def head_Parse_j1 (r11 : Int × (List Int × Int × Int)) (r17 : Int × (List Int × Int × Int)) (r23 : Int × (List Int × Int × Int)) (r29 : Int × (List Int × Int × Int)) (r35 : Int × (List Int × Int × Int)) (s46 : Int) (r : (Int × Int × Int × Int × Int) × Int) : Prop :=
  if (!(decide (s46 = 0))) = true then (r = ((0, 0, 0, 0, 0), s46)) else (r = (((IntKind.i64.wrap r11.1), (IntKind.i64.wrap r17.1), r23.1, (IntKind.i64.wrap r29.1), (IntKind.i64.wrap r35.1)), 0))
def head_Parse (a0 : List Int) (r : (Int × Int × Int × Int × Int) × Int) : Prop :=
  if (decide ((a0.length : Int) < 8)) = true then (r = ((0, 0, 0, 0, 0), 13)) else (∃ r4 : (List Int × Int × Int), lens_New a0 r4 ∧ ∃ r11 : Int × (List Int × Int × Int), lens_Lens_U8 r4 r11 ∧ ∃ r17 : Int × (List Int × Int × Int), lens_Lens_U8 r11.2 r17 ∧ ∃ r23 : Int × (List Int × Int × Int), lens_Lens_U32 r17.2 r23 ∧ ∃ r29 : Int × (List Int × Int × Int), lens_Lens_U8 r23.2 r29 ∧ ∃ r35 : Int × (List Int × Int × Int), lens_Lens_U8 r29.2 r35 ∧ ∃ r42 : Int, lens_Lens_End r35.2 r42 ∧ if (decide (r42 = 0)) = true then (∃ r47 : Int, head_Check ((IntKind.i64.wrap r11.1), (IntKind.i64.wrap r17.1), r23.1, (IntKind.i64.wrap r29.1), (IntKind.i64.wrap r35.1)) r47 ∧ head_Parse_j1 r11 r17 r23 r29 r35 r47 r) else (head_Parse_j1 r11 r17 r23 r29 r35 r42 r))
def frame_Codec_Unpack (a0 : List Int) (a1 : List Int) (r : ((Int × Int × Int × Int × Int) × List Int) × Int) : Prop :=
  if (decide (255 < (a1.length : Int))) = true then (r = (((0, 0, 0, 0, 0), []), 2)) else (∃ r8 : List Int × Int, cobs_Decode a1 r8 ∧ if (!(decide (r8.2 = 0))) = true then (r = (((0, 0, 0, 0, 0), []), r8.2)) else (if (decide ((r8.1.length : Int) ≤ 12)) = true then (r = (((0, 0, 0, 0, 0), []), 13)) else (∃ r14 : List Int × Int, crc_Open a0 r8.1 r14 ∧ if (!(decide (r14.2 = 0))) = true then (r = (((0, 0, 0, 0, 0), []), r14.2)) else (8 ≤ (r14.1.length : Int) ∧ ∃ r23 : (Int × Int × Int × Int × Int) × Int, head_Parse ((r14.1.drop (0 : Int).toNat).take ((8 : Int) - 0).toNat) r23 ∧ if (!(decide (r23.2 = 0))) = true then (r = (((0, 0, 0, 0, 0), []), r23.2)) else (8 ≤ (r14.1.length : Int) ∧ (r14.1.length : Int) ≤ (r14.1.length : Int) ∧ r = ((r23.1, ((r14.1.drop (8 : Int).toNat).take (((r14.1.length : Int) : Int) - 8).toNat)), 0))))))
def event_Word (a0 : Int) (r : ByteArray) : Prop :=
  if (decide (a0 = 2)) = true then (r = (bstr [108, 111, 110, 103])) else (if (decide (a0 = 3)) = true then (r = (bstr [102, 111, 114, 109])) else (if (decide (a0 = 4)) = true then (r = (bstr [101, 110, 100])) else (if (decide (a0 = 5)) = true then (r = (bstr [114, 97, 110, 103, 101])) else (if (decide (a0 = 6)) = true then (r = (bstr [109, 97, 110, 121])) else (if (decide (a0 = 9)) = true then (r = (bstr [107, 105, 110, 100])) else (if (decide (a0 = 10)) = true then (r = (bstr [118, 101, 114, 115, 105, 111, 110])) else (if (decide (a0 = 11)) = true then (r = (bstr [115, 117, 109])) else (if (decide (a0 = 12)) = true then (r = (bstr [115, 116, 117, 102, 102])) else (if (decide (a0 = 13)) = true then (r = (bstr [115, 104, 111, 114, 116])) else (if (decide (a0 = 14)) = true then (r = (bstr [115, 101, 101, 110])) else (if (decide (a0 = 15)) = true then (r = (bstr [111, 108, 100])) else (if (decide (a0 = 16)) = true then (r = (bstr [116, 119, 105, 99, 101])) else (if (decide (a0 = 17)) = true then (r = (bstr [109, 101, 101, 116])) else (if (decide (a0 = 18)) = true then (r = (bstr [108, 97, 116, 101])) else (if (decide (a0 = 19)) = true then (r = (bstr [116, 101, 120, 116])) else (r = (bstr [])))))))))))))))))
def internal_strconv_FormatUint (a0 : Int) (a1 : Int) (r : ByteArray) : Prop := IntOk .u64 a0 ∧ a1 = 10 ∧ r = bstr (decI a0)
def strconv_FormatUint (a0 : Int) (a1 : Int) (r : ByteArray) : Prop :=
  ∃ r1 : ByteArray, internal_strconv_FormatUint a0 a1 r1 ∧ r = r1
def head_Line (a0 : Int × Int × Int × Int × Int) (r : ByteArray) : Prop :=
  ∃ r2 : ByteArray, strconv_Itoa a0.1 r2 ∧ (bstr [118, 32]).size + r2.size < 4611686018427387904 ∧ ((bstr [118, 32]) ++ r2).size + (bstr [32, 107, 32]).size < 4611686018427387904 ∧ ∃ r8 : ByteArray, strconv_Itoa a0.2.1 r8 ∧ (((bstr [118, 32]) ++ r2) ++ (bstr [32, 107, 32])).size + r8.size < 4611686018427387904 ∧ ((((bstr [118, 32]) ++ r2) ++ (bstr [32, 107, 32])) ++ r8).size + (bstr [32]).size < 4611686018427387904 ∧ ∃ r14 : ByteArray, strconv_FormatUint (IntKind.u64.wrap a0.2.2.1) 10 r14 ∧ (((((bstr [118, 32]) ++ r2) ++ (bstr [32, 107, 32])) ++ r8) ++ (bstr [32])).size + r14.size < 4611686018427387904 ∧ ((((((bstr [118, 32]) ++ r2) ++ (bstr [32, 107, 32])) ++ r8) ++ (bstr [32])) ++ r14).size + (bstr [32]).size < 4611686018427387904 ∧ ∃ r20 : ByteArray, strconv_Itoa a0.2.2.2.1 r20 ∧ (((((((bstr [118, 32]) ++ r2) ++ (bstr [32, 107, 32])) ++ r8) ++ (bstr [32])) ++ r14) ++ (bstr [32])).size + r20.size < 4611686018427387904 ∧ ((((((((bstr [118, 32]) ++ r2) ++ (bstr [32, 107, 32])) ++ r8) ++ (bstr [32])) ++ r14) ++ (bstr [32])) ++ r20).size + (bstr [47]).size < 4611686018427387904 ∧ ∃ r26 : ByteArray, strconv_Itoa a0.2.2.2.2 r26 ∧ (((((((((bstr [118, 32]) ++ r2) ++ (bstr [32, 107, 32])) ++ r8) ++ (bstr [32])) ++ r14) ++ (bstr [32])) ++ r20) ++ (bstr [47])).size + r26.size < 4611686018427387904 ∧ r = ((((((((((bstr [118, 32]) ++ r2) ++ (bstr [32, 107, 32])) ++ r8) ++ (bstr [32])) ++ r14) ++ (bstr [32])) ++ r20) ++ (bstr [47])) ++ r26)
def frame_Line (a0 : (Int × Int × Int × Int × Int) × List Int) (r : ByteArray) : Prop :=
  ∃ r4 : ByteArray, head_Line a0.1 r4 ∧ r4.size + (bstr [32]).size < 4611686018427387904 ∧ ∃ r9 : ByteArray, strconv_Itoa (a0.2.length : Int) r9 ∧ (r4 ++ (bstr [32])).size + r9.size < 4611686018427387904 ∧ r = ((r4 ++ (bstr [32])) ++ r9)
def dump_Each_1_j2 (S : Type) (Y : (Int × ByteArray) → S → Bool × S → Prop) (x20 : Int × List Int) (s36 : S × ByteArray) (o20 : Sum S S) : Prop :=
  ∃ r39 : ByteArray, say_Number x20.1 r39 ∧ r39.size + (bstr [32]).size < 4611686018427387904 ∧ (r39 ++ (bstr [32])).size + s36.2.size < 4611686018427387904 ∧ ∃ y45 : Bool, ∃ u46 : S, Y ((x20.2.length : Int), ((r39 ++ (bstr [32])) ++ s36.2)) s36.1 (y45, u46) ∧ if (!y45) = true then (o20 = .inr u46) else (o20 = .inl u46)
def dump_Each_1_l1 (S : Type) (Y : (Int × ByteArray) → S → Bool × S → Prop) (r4 : List Int) (x20 : Int × List Int) (s20 : S) (o20 : Sum S S) : Prop :=
  ∃ r25 : ((Int × Int × Int × Int × Int) × List Int) × Int, frame_Codec_Unpack r4 x20.2 r25 ∧ ∃ r32 : ByteArray, event_Word r25.2 r32 ∧ if (decide (r25.2 = 0)) = true then (∃ r55 : ByteArray, frame_Line r25.1 r55 ∧ dump_Each_1_j2 S Y x20 (s20, r55) o20) else (dump_Each_1_j2 S Y x20 (s20, r32) o20)
def dump_Each_1 (c0 : List Int) (S : Type) (Y : (Int × ByteArray) → S → Bool × S → Prop) (s : S) (r : S × Unit) : Prop :=
  ∃ r4 : List Int, frame_New r4 ∧ ∃ r13 : (((S : Type) → ((Int × List Int) → S → Bool × S → Prop) → S → S × Unit → Prop)), fence_Segments c0 r13 ∧ ∃ (t20 : Sum S S) (w20 : Unit), r13 (Sum S S) (Yof (dump_Each_1_l1 S Y r4)) (.inl s) (t20, w20) ∧ Aft (fun p64 => r = (p64, ())) (fun p59 => r = (p59, ())) t20
def dump_Each (a0 : List Int) (r : (((S : Type) → ((Int × ByteArray) → S → Bool × S → Prop) → S → S × Unit → Prop))) : Prop :=
  r = (dump_Each_1 a0)
def dump_Describe_l1  (x11 : Int × ByteArray) (s11 : List ByteArray) (o11 : Sum (List ByteArray) Unit) : Prop :=
  (s11.length + [x11.2].length) * 16 ≤ 140737488355328 ∧ s11.length + [x11.2].length ≤ 4611686018427387904 ∧ o11 = .inl (s11 ++ [x11.2])
def dump_Describe (a0 : List Int) (r : List ByteArray) : Prop :=
  ∃ r4 : (((S : Type) → ((Int × ByteArray) → S → Bool × S → Prop) → S → S × Unit → Prop)), dump_Each a0 r4 ∧ ∃ (t11 : Sum (List ByteArray) Unit) (w11 : Unit), r4 (Sum (List ByteArray) Unit) (Yof (dump_Describe_l1)) (.inl []) (t11, w11) ∧ Aft (fun p23 => r = p23) (fun _ => True) t11
def law29_known_j1  (s14 : Bool) (r : Bool) : Prop :=
  r = s14
def law29_known  (r : Bool) : Prop :=
  ∃ r8 : List ByteArray, dump_Describe [3, 3, 0] r8 ∧ ∃ r22 : ByteArray, dump_Text [0, 255] r22 ∧ if (decide (r22 = (bstr [48, 48, 48, 48, 48, 48, 48, 48, 32, 48, 48, 32, 102, 102, 10]))) = true then (if (decide ((r8.length : Int) = 1)) = true then (∃ q26 : ByteArray, idx r8 0 q26 ∧ law29_known_j1 (decide (q26 = (bstr [48, 32, 115, 116, 117, 102, 102]))) r) else (law29_known_j1 false r)) else (law29_known_j1 false r)
def cobs_Most_j1 (a0 : Int) (s1 : Int) (r : Int) : Prop :=
  r = (IntKind.i64.wrap (a0 + (max s1 1)))
def cobs_Most (a0 : Int) (r : Int) : Prop :=
  if (decide (a0 < 0)) = true then (r = 0) else (if (!(decide ((a0.tmod 254) = 0))) = true then (cobs_Most_j1 a0 (IntKind.i64.wrap ((IntKind.i64.wrap (a0.tdiv 254)) + 1)) r) else (cobs_Most_j1 a0 (IntKind.i64.wrap (a0.tdiv 254)) r))
def frame_Wire_j1 (a0 : Int) (s1 : Bool) (r : Int) : Prop :=
  if s1 = true then (r = 0) else (∃ r2 : Int, cobs_Most (IntKind.i64.wrap (a0 + 12)) r2 ∧ r = (IntKind.i64.wrap (r2 + 2)))
def frame_Wire (a0 : Int) (r : Int) : Prop :=
  if (decide (a0 < 1)) = true then (frame_Wire_j1 a0 true r) else (frame_Wire_j1 a0 (decide (242 < a0)) r)
def frame_Room (a0 : Int) (r : Int) : Prop :=
  ∃ r1 : Int, frame_Wire 1 r1 ∧ if (decide (a0 < r1)) = true then (r = 0) else (∃ r5 : Int, frame_Wire 1 r5 ∧ r = (min (IntKind.i64.wrap ((IntKind.i64.wrap (a0 - r5)) + 1)) 242))
def ref06_Split_j1  (s3 : List (List Int) × List Int × List Int) (r : List (List Int) × List Int × List Int) : Prop :=
  r = (s3.1, s3.2.1, s3.2.2)
def ref06_Split_j3 (s31 : List (List Int) × List Int × List Int × Int) (s41 : List (List Int) × List Int × List Int) (o31 : Sum (List (List Int) × List Int × List Int × Int) (List (List Int) × List Int × List Int)) : Prop :=
  o31 = .inl (s41.1, s41.2.1, s41.2.2, (IntKind.i64.wrap (s31.2.2.2 + 1)))
def ref06_Split_j4 (s31 : List (List Int) × List Int × List Int × Int) (s69 : List (List Int) × List Int) (o31 : Sum (List (List Int) × List Int × List Int × Int) (List (List Int) × List Int × List Int)) : Prop :=
  ref06_Split_j3 s31 (s69.1, s69.2, []) o31
def ref06_Split_l2 (a0 : List Int) (s31 : List (List Int) × List Int × List Int × Int) (o31 : Sum (List (List Int) × List Int × List Int × Int) (List (List Int) × List Int × List Int)) : Prop :=
  if (decide (s31.2.2.2 < (a0.length : Int))) = true then (∃ q51 : Int, idx a0 s31.2.2.2 q51 ∧ if (!(decide (q51 = 0))) = true then (∃ q56 : Int, idx a0 s31.2.2.2 q56 ∧ (s31.2.2.1.length + [q56].length) * 1 ≤ 140737488355328 ∧ s31.2.2.1.length + [q56].length ≤ 4611686018427387904 ∧ ref06_Split_j3 s31 (s31.1, s31.2.1, (s31.2.2.1 ++ [q56])) o31) else (if (decide (0 < (s31.2.2.1.length : Int))) = true then ((s31.1.length + [s31.2.2.1].length) * 24 ≤ 140737488355328 ∧ s31.1.length + [s31.2.2.1].length ≤ 4611686018427387904 ∧ (s31.2.1.length + [(IntKind.i64.wrap (s31.2.2.2 - (s31.2.2.1.length : Int)))].length) * 8 ≤ 140737488355328 ∧ s31.2.1.length + [(IntKind.i64.wrap (s31.2.2.2 - (s31.2.2.1.length : Int)))].length ≤ 4611686018427387904 ∧ ref06_Split_j4 s31 ((s31.1 ++ [s31.2.2.1]), (s31.2.1 ++ [(IntKind.i64.wrap (s31.2.2.2 - (s31.2.2.1.length : Int)))])) o31) else (ref06_Split_j4 s31 (s31.1, s31.2.1) o31))) else (o31 = .inr (s31.1, s31.2.1, s31.2.2.1))
def ref06_Split (a0 : List Int) (r : List (List Int) × List Int × List Int) : Prop :=
  ∃ e31 : List (List Int) × List Int × List Int, Loops (ref06_Split_l2 a0) ([], [], [], 0) e31 ∧ (ref06_Split_j1 e31 r)
def ref05_Blocks_j2  (s10 : List (List Int)) (r : List (List Int)) : Prop :=
  r = s10
def ref05_Blocks_j1  (s3 : List (List Int) × List Int × Bool) (r : List (List Int)) : Prop :=
  if (!s3.2.2) = true then ((s3.1.length + [s3.2.1].length) * 24 ≤ 140737488355328 ∧ s3.1.length + [s3.2.1].length ≤ 4611686018427387904 ∧ ref05_Blocks_j2 (s3.1 ++ [s3.2.1]) r) else (ref05_Blocks_j2 s3.1 r)
def ref05_Blocks_j4 (s33 : List (List Int) × List Int × Bool × Int) (s40 : List (List Int) × List Int × Bool) (o33 : Sum (List (List Int) × List Int × Bool × Int) (List (List Int) × List Int × Bool)) : Prop :=
  o33 = .inl (s40.1, s40.2.1, s40.2.2, (IntKind.i64.wrap (s33.2.2.2 + 1)))
def ref05_Blocks_l3 (a0 : List Int) (s33 : List (List Int) × List Int × Bool × Int) (o33 : Sum (List (List Int) × List Int × Bool × Int) (List (List Int) × List Int × Bool)) : Prop :=
  if (decide (s33.2.2.2 < (a0.length : Int))) = true then (∃ q47 : Int, idx a0 s33.2.2.2 q47 ∧ if (decide (q47 = 0)) = true then ((s33.1.length + [s33.2.1].length) * 24 ≤ 140737488355328 ∧ s33.1.length + [s33.2.1].length ≤ 4611686018427387904 ∧ ref05_Blocks_j4 s33 ((s33.1 ++ [s33.2.1]), [], false) o33) else (∃ q65 : Int, idx a0 s33.2.2.2 q65 ∧ (s33.2.1.length + [q65].length) * 1 ≤ 140737488355328 ∧ s33.2.1.length + [q65].length ≤ 4611686018427387904 ∧ if (decide (((s33.2.1 ++ [q65]).length : Int) = 254)) = true then ((s33.1.length + [(s33.2.1 ++ [q65])].length) * 24 ≤ 140737488355328 ∧ s33.1.length + [(s33.2.1 ++ [q65])].length ≤ 4611686018427387904 ∧ ref05_Blocks_j4 s33 ((s33.1 ++ [(s33.2.1 ++ [q65])]), [], true) o33) else (ref05_Blocks_j4 s33 (s33.1, (s33.2.1 ++ [q65]), false) o33))) else (o33 = .inr (s33.1, s33.2.1, s33.2.2.1))
def ref05_Blocks (a0 : List Int) (r : List (List Int)) : Prop :=
  ∃ e33 : List (List Int) × List Int × Bool, Loops (ref05_Blocks_l3 a0) ([], [], false, 0) e33 ∧ (ref05_Blocks_j1 e33 r)
def ref05_Encode_j1  (s9 : List Int) (r : List Int) : Prop :=
  r = s9
def ref05_Encode_l2 (r3 : List (List Int)) (s19 : List Int × Int) (o19 : Sum (List Int × Int) (List Int)) : Prop :=
  if (decide (s19.2 < (r3.length : Int))) = true then (∃ q23 : List Int, idx r3 s19.2 q23 ∧ (s19.1.length + [(IntKind.u8.wrap (IntKind.i64.wrap ((q23.length : Int) + 1)))].length) * 1 ≤ 140737488355328 ∧ s19.1.length + [(IntKind.u8.wrap (IntKind.i64.wrap ((q23.length : Int) + 1)))].length ≤ 4611686018427387904 ∧ ∃ q38 : List Int, idx r3 s19.2 q38 ∧ ((s19.1 ++ [(IntKind.u8.wrap (IntKind.i64.wrap ((q23.length : Int) + 1)))]).length + q38.length) * 1 ≤ 140737488355328 ∧ (s19.1 ++ [(IntKind.u8.wrap (IntKind.i64.wrap ((q23.length : Int) + 1)))]).length + q38.length ≤ 4611686018427387904 ∧ o19 = .inl (((s19.1 ++ [(IntKind.u8.wrap (IntKind.i64.wrap ((q23.length : Int) + 1)))]) ++ q38), (IntKind.i64.wrap (s19.2 + 1)))) else (o19 = .inr s19.1)
def ref05_Encode (a0 : List Int) (r : List Int) : Prop :=
  ∃ r3 : List (List Int), ref05_Blocks a0 r3 ∧ ∃ e19 : List Int, Loops (ref05_Encode_l2 r3) ([], 0) e19 ∧ (ref05_Encode_j1 e19 r)
def ref05_Decode_j1 (a0 : List Int) (s3 : List Int) (r : List Int × Int) : Prop :=
  ∃ r12 : List Int, ref05_Encode s3 r12 ∧ ∃ r18 : Bool, ref01_Same r12 a0 r18 ∧ if (!r18) = true then (r = ([], 12)) else (r = (s3, 0))
def ref05_Decode_j4 (s22 : List Int × Int) (q26 : Int) (s31 : List Int) (s35 : Bool) (o22 : Sum (List Int × Int) (Sum (List Int) (List Int × Int))) : Prop :=
  if s35 = true then ((s31.length + [0].length) * 1 ≤ 140737488355328 ∧ s31.length + [0].length ≤ 4611686018427387904 ∧ o22 = .inl ((s31 ++ [0]), (IntKind.i64.wrap (s22.2 + (IntKind.i64.wrap q26))))) else (o22 = .inl (s31, (IntKind.i64.wrap (s22.2 + (IntKind.i64.wrap q26)))))
def ref05_Decode_j3 (a0 : List Int) (s22 : List Int × Int) (q26 : Int) (s31 : List Int) (o22 : Sum (List Int × Int) (Sum (List Int) (List Int × Int))) : Prop :=
  if (decide ((IntKind.i64.wrap q26) = 0)) = true then (o22 = .inr (.inr ([], 12))) else (if (decide ((IntKind.i64.wrap q26) < 255)) = true then (ref05_Decode_j4 s22 q26 s31 (decide ((IntKind.i64.wrap (s22.2 + (IntKind.i64.wrap q26))) < (a0.length : Int))) o22) else (ref05_Decode_j4 s22 q26 s31 false o22))
def ref05_Decode_j6 (a0 : List Int) (s22 : List Int × Int) (s44 : List Int × Int) (s48 : Bool) (o44 : Sum (List Int × Int) (List Int)) : Prop :=
  if s48 = true then (∃ q49 : Int, idx a0 (IntKind.i64.wrap (s22.2 + s44.2)) q49 ∧ (s44.1.length + [q49].length) * 1 ≤ 140737488355328 ∧ s44.1.length + [q49].length ≤ 4611686018427387904 ∧ o44 = .inl ((s44.1 ++ [q49]), (IntKind.i64.wrap (s44.2 + 1)))) else (o44 = .inr s44.1)
def ref05_Decode_l5 (a0 : List Int) (s22 : List Int × Int) (q26 : Int) (s44 : List Int × Int) (o44 : Sum (List Int × Int) (List Int)) : Prop :=
  if (decide (s44.2 < (IntKind.i64.wrap q26))) = true then (ref05_Decode_j6 a0 s22 s44 (decide ((IntKind.i64.wrap (s22.2 + s44.2)) < (a0.length : Int))) o44) else (ref05_Decode_j6 a0 s22 s44 false o44)
def ref05_Decode_l2 (a0 : List Int) (s22 : List Int × Int) (o22 : Sum (List Int × Int) (Sum (List Int) (List Int × Int))) : Prop :=
  if (decide (s22.2 < (a0.length : Int))) = true then (∃ q26 : Int, idx a0 s22.2 q26 ∧ ∃ e44 : List Int, Loops (ref05_Decode_l5 a0 s22 q26) (s22.1, 1) e44 ∧ (ref05_Decode_j3 a0 s22 q26 e44 o22)) else (o22 = .inr (.inl s22.1))
def ref05_Decode (a0 : List Int) (r : List Int × Int) : Prop :=
  ∃ e22 : (Sum (List Int) (List Int × Int)), Loops (ref05_Decode_l2 a0) ([], 0) e22 ∧ Aft (fun p63 => ref05_Decode_j1 a0 p63 r) (fun p64 => r = p64) e22
def ref04_Of_j1  (s3 : List Bool) (r : List Bool) : Prop :=
  r = s3
def ref04_Of_l2  (s4 : Int × Int × List Bool) (o4 : Sum (Int × Int × List Bool) (List Bool)) : Prop :=
  if (decide (s4.2.1 < 32)) = true then (0 ≤ s4.2.1 ∧ s4.2.1 < 32 ∧ o4 = .inl ((IntKind.u32.wrap (s4.1.tdiv 2)), (IntKind.i64.wrap (s4.2.1 + 1)), (putN 32 false s4.2.2 s4.2.1.toNat (decide ((s4.1.tmod 2) = 1))))) else (o4 = .inr s4.2.2)
def ref04_Of (a0 : Int) (r : List Bool) : Prop :=
  ∃ e4 : List Bool, Loops (ref04_Of_l2) (a0, 0, (List.replicate 32 false)) e4 ∧ (ref04_Of_j1 e4 r)
def ref04_Xor_j1  (s4 : List Bool) (r : List Bool) : Prop :=
  r = s4
def ref04_Xor_l2 (a1 : List Bool) (s5 : Int × List Bool) (o5 : Sum (Int × List Bool) (List Bool)) : Prop :=
  if (decide (s5.1 < 32)) = true then (0 ≤ s5.1 ∧ s5.1 < 32 ∧ 0 ≤ s5.1 ∧ s5.1 < 32 ∧ 0 ≤ s5.1 ∧ s5.1 < 32 ∧ o5 = .inl ((IntKind.i64.wrap (s5.1 + 1)), (putN 32 false s5.2 s5.1.toNat (!(decide ((s5.2.getD s5.1.toNat false) = (a1.getD s5.1.toNat false))))))) else (o5 = .inr s5.2)
def ref04_Xor (a0 : List Bool) (a1 : List Bool) (r : List Bool) : Prop :=
  ∃ e5 : List Bool, Loops (ref04_Xor_l2 a1) (0, a0) e5 ∧ (ref04_Xor_j1 e5 r)
def ref04_Shift_j1  (s8 : List Bool) (r : List Bool) : Prop :=
  r = s8
def ref04_Shift_j3 (s9 : Int × List Bool) (s10 : List Bool) (o9 : Sum (Int × List Bool) (List Bool)) : Prop :=
  o9 = .inl ((IntKind.i64.wrap (s9.1 + 1)), s10)
def ref04_Shift_j4 (r3 : List Bool) (s9 : Int × List Bool) (s11 : List Bool) (o9 : Sum (Int × List Bool) (List Bool)) : Prop :=
  if (s9.2.getD 0 false) = true then (∃ r12 : List Bool, ref04_Xor (putN 32 false s11 31 false) r3 r12 ∧ ref04_Shift_j3 s9 r12 o9) else (ref04_Shift_j3 s9 (putN 32 false s11 31 false) o9)
def ref04_Shift_l5  (s16 : Int × List Bool) (o16 : Sum (Int × List Bool) (List Bool)) : Prop :=
  if (decide (s16.1 < 31)) = true then (0 ≤ (IntKind.i64.wrap (s16.1 + 1)) ∧ (IntKind.i64.wrap (s16.1 + 1)) < 32 ∧ 0 ≤ s16.1 ∧ s16.1 < 32 ∧ o16 = .inl ((IntKind.i64.wrap (s16.1 + 1)), (putN 32 false s16.2 s16.1.toNat (s16.2.getD ((IntKind.i64.wrap (s16.1 + 1)).toNat) false)))) else (o16 = .inr s16.2)
def ref04_Shift_l2 (r3 : List Bool) (s9 : Int × List Bool) (o9 : Sum (Int × List Bool) (List Bool)) : Prop :=
  if (decide (s9.1 < 8)) = true then (∃ e16 : List Bool, Loops (ref04_Shift_l5) (0, s9.2) e16 ∧ (ref04_Shift_j4 r3 s9 e16 o9)) else (o9 = .inr s9.2)
def ref04_Shift (a0 : List Bool) (r : List Bool) : Prop :=
  ∃ r3 : List Bool, ref04_Of 3988292384 r3 ∧ ∃ e9 : List Bool, Loops (ref04_Shift_l2 r3) (0, a0) e9 ∧ (ref04_Shift_j1 e9 r)
def ref04_Word_j1  (s2 : Int) (r : Int) : Prop :=
  r = s2
def ref04_Word_j3 (s3 : Int × Int) (s4 : Int) (o3 : Sum (Int × Int) Int) : Prop :=
  o3 = .inl (s4, (IntKind.i64.wrap (s3.2 - 1)))
def ref04_Word_l2 (a0 : List Bool) (s3 : Int × Int) (o3 : Sum (Int × Int) Int) : Prop :=
  if (decide (0 ≤ s3.2)) = true then (0 ≤ s3.2 ∧ s3.2 < 32 ∧ if (a0.getD s3.2.toNat false) = true then (ref04_Word_j3 s3 (IntKind.u32.wrap ((IntKind.u32.wrap (2 * s3.1)) + 1)) o3) else (ref04_Word_j3 s3 (IntKind.u32.wrap (2 * s3.1)) o3)) else (o3 = .inr s3.1)
def ref04_Word (a0 : List Bool) (r : Int) : Prop :=
  ∃ e3 : Int, Loops (ref04_Word_l2 a0) (0, 31) e3 ∧ (ref04_Word_j1 e3 r)
def ref04_Sum_j1  (s8 : List Bool) (r : Int) : Prop :=
  ∃ r9 : Int, ref04_Word s8 r9 ∧ r = (IntKind.u32.wrap (4294967295 - r9))
def ref04_Sum_l2 (a0 : List Int) (s13 : Int × List Bool) (o13 : Sum (Int × List Bool) (List Bool)) : Prop :=
  if (decide (s13.1 < (a0.length : Int))) = true then (∃ q14 : Int, idx a0 s13.1 q14 ∧ ∃ r19 : List Bool, ref04_Of (IntKind.u32.wrap q14) r19 ∧ ∃ r23 : List Bool, ref04_Xor s13.2 r19 r23 ∧ ∃ r27 : List Bool, ref04_Shift r23 r27 ∧ o13 = .inl ((IntKind.i64.wrap (s13.1 + 1)), r27)) else (o13 = .inr s13.2)
def ref04_Sum (a0 : List Int) (r : Int) : Prop :=
  ∃ r3 : List Bool, ref04_Of 4294967295 r3 ∧ ∃ e13 : List Bool, Loops (ref04_Sum_l2 a0) (0, r3) e13 ∧ (ref04_Sum_j1 e13 r)
def ref04_Bytes (a0 : Int) (r : List Int) : Prop :=
  r = [(IntKind.u8.wrap (a0.tmod 256)), (IntKind.u8.wrap ((IntKind.u32.wrap (a0.tdiv 256)).tmod 256)), (IntKind.u8.wrap ((IntKind.u32.wrap (a0.tdiv 65536)).tmod 256)), (IntKind.u8.wrap (IntKind.u32.wrap (a0.tdiv 16777216)))]
def ref04_Open_j1 (a0 : List Int) (s17 : Unit) (r : List Int × Int) : Prop :=
  0 ≤ (IntKind.i64.wrap ((a0.length : Int) - 4)) ∧ (IntKind.i64.wrap ((a0.length : Int) - 4)) ≤ (a0.length : Int) ∧ (([] : List Int).length + ((a0.drop (0 : Int).toNat).take (((IntKind.i64.wrap ((a0.length : Int) - 4)) : Int) - 0).toNat).length) * 1 ≤ 140737488355328 ∧ ([] : List Int).length + ((a0.drop (0 : Int).toNat).take (((IntKind.i64.wrap ((a0.length : Int) - 4)) : Int) - 0).toNat).length ≤ 4611686018427387904 ∧ r = ((([] : List Int) ++ ((a0.drop (0 : Int).toNat).take (((IntKind.i64.wrap ((a0.length : Int) - 4)) : Int) - 0).toNat)), 0)
def ref04_Open_l2 (a0 : List Int) (r11 : List Int) (s35 : Int) (o35 : Sum Int (Sum Unit (List Int × Int))) : Prop :=
  if (decide (s35 < 4)) = true then (∃ q36 : Int, idx r11 s35 q36 ∧ ∃ q41 : Int, idx a0 (IntKind.i64.wrap ((IntKind.i64.wrap ((a0.length : Int) - 4)) + s35)) q41 ∧ if (!(decide (q36 = q41))) = true then (o35 = .inr (.inr ([], 11))) else (o35 = .inl (IntKind.i64.wrap (s35 + 1)))) else (o35 = .inr (.inl ()))
def ref04_Open (a0 : List Int) (r : List Int × Int) : Prop :=
  if (decide ((a0.length : Int) < 4)) = true then (r = ([], 13)) else (0 ≤ (IntKind.i64.wrap ((a0.length : Int) - 4)) ∧ (IntKind.i64.wrap ((a0.length : Int) - 4)) ≤ (a0.length : Int) ∧ ∃ r7 : Int, ref04_Sum ((a0.drop (0 : Int).toNat).take (((IntKind.i64.wrap ((a0.length : Int) - 4)) : Int) - 0).toNat) r7 ∧ ∃ r11 : List Int, ref04_Bytes r7 r11 ∧ ∃ e35 : (Sum Unit (List Int × Int)), Loops (ref04_Open_l2 a0 r11) 0 e35 ∧ Aft (fun p47 => ref04_Open_j1 a0 p47 r) (fun p48 => r = p48) e35)
def ref07_Check_j3  (s4 : Bool) (r : Int) : Prop :=
  if s4 = true then (r = 3) else (r = 0)
def ref07_Check_j2 (a0 : Int × Int × Int × Int × Int) (s3 : Bool) (r : Int) : Prop :=
  if s3 = true then (r = 9) else (if (decide (a0.2.2.2.2 < 1)) = true then (ref07_Check_j3 true r) else (if (decide (255 < a0.2.2.2.2)) = true then (ref07_Check_j3 true r) else (if (decide (a0.2.2.2.1 < 0)) = true then (ref07_Check_j3 true r) else (ref07_Check_j3 (decide (a0.2.2.2.2 ≤ a0.2.2.2.1)) r))))
def ref07_Check_j1 (a0 : Int × Int × Int × Int × Int) (s2 : Bool) (r : Int) : Prop :=
  if s2 = true then (r = 10) else (if (decide (a0.2.1 < 1)) = true then (ref07_Check_j2 a0 true r) else (ref07_Check_j2 a0 (decide (5 < a0.2.1)) r))
def ref07_Check (a0 : Int × Int × Int × Int × Int) (r : Int) : Prop :=
  if (!(decide (a0.1 = 1))) = true then (ref07_Check_j1 a0 (!(decide (a0.1 = 2))) r) else (ref07_Check_j1 a0 false r)
def ref07_Parse_j1 (a0 : List Int) (s4 : Int) (r : (Int × Int × Int × Int × Int) × Int) : Prop :=
  ∃ q5 : Int, idx a0 0 q5 ∧ ∃ q10 : Int, idx a0 1 q10 ∧ ∃ q15 : Int, idx a0 6 q15 ∧ ∃ q20 : Int, idx a0 7 q20 ∧ ∃ r27 : Int, ref07_Check ((IntKind.i64.wrap q5), (IntKind.i64.wrap q10), s4, (IntKind.i64.wrap q15), (IntKind.i64.wrap q20)) r27 ∧ if (!(decide (r27 = 0))) = true then (∃ r31 : Int, ref07_Check ((IntKind.i64.wrap q5), (IntKind.i64.wrap q10), s4, (IntKind.i64.wrap q15), (IntKind.i64.wrap q20)) r31 ∧ r = ((0, 0, 0, 0, 0), r31)) else (r = (((IntKind.i64.wrap q5), (IntKind.i64.wrap q10), s4, (IntKind.i64.wrap q15), (IntKind.i64.wrap q20)), 0))
def ref07_Parse_l2 (a0 : List Int) (s35 : Int × Int) (o35 : Sum (Int × Int) Int) : Prop :=
  if (decide (1 < s35.2)) = true then (∃ q36 : Int, idx a0 s35.2 q36 ∧ o35 = .inl ((IntKind.u32.wrap ((IntKind.u32.wrap (256 * s35.1)) + (IntKind.u32.wrap q36))), (IntKind.i64.wrap (s35.2 - 1)))) else (o35 = .inr s35.1)
def ref07_Parse (a0 : List Int) (r : (Int × Int × Int × Int × Int) × Int) : Prop :=
  if (decide ((a0.length : Int) < 8)) = true then (r = ((0, 0, 0, 0, 0), 13)) else (if (decide (8 < (a0.length : Int))) = true then (r = ((0, 0, 0, 0, 0), 3)) else (∃ e35 : Int, Loops (ref07_Parse_l2 a0) (0, 5) e35 ∧ (ref07_Parse_j1 a0 e35 r)))
def ref08_Unpack (a0 : List Int) (r : ((Int × Int × Int × Int × Int) × List Int) × Int) : Prop :=
  if (decide (255 < (a0.length : Int))) = true then (r = (((0, 0, 0, 0, 0), []), 2)) else (∃ r4 : List Int × Int, ref05_Decode a0 r4 ∧ if (!(decide (r4.2 = 0))) = true then (r = (((0, 0, 0, 0, 0), []), r4.2)) else (if (decide ((r4.1.length : Int) < 13)) = true then (r = (((0, 0, 0, 0, 0), []), 13)) else (∃ r10 : List Int × Int, ref04_Open r4.1 r10 ∧ if (!(decide (r10.2 = 0))) = true then (r = (((0, 0, 0, 0, 0), []), r10.2)) else (8 ≤ (r10.1.length : Int) ∧ ∃ r19 : (Int × Int × Int × Int × Int) × Int, ref07_Parse ((r10.1.drop (0 : Int).toNat).take ((8 : Int) - 0).toNat) r19 ∧ if (!(decide (r19.2 = 0))) = true then (r = (((0, 0, 0, 0, 0), []), r19.2)) else (8 ≤ (r10.1.length : Int) ∧ (r10.1.length : Int) ≤ (r10.1.length : Int) ∧ (([] : List Int).length + ((r10.1.drop (8 : Int).toNat).take (((r10.1.length : Int) : Int) - 8).toNat).length) * 1 ≤ 140737488355328 ∧ ([] : List Int).length + ((r10.1.drop (8 : Int).toNat).take (((r10.1.length : Int) : Int) - 8).toNat).length ≤ 4611686018427387904 ∧ r = ((r19.1, (([] : List Int) ++ ((r10.1.drop (8 : Int).toNat).take (((r10.1.length : Int) : Int) - 8).toNat))), 0))))))
def law17_Cut (a0 : Int × List Int × List (Int × Int) × List Int × ByteArray × ByteArray) (r : (Int × List Int × List (Int × Int) × List Int × ByteArray × ByteArray)) : Prop :=
  0 ≤ (min (a0.2.2.1.length : Int) 40) ∧ (min (a0.2.2.1.length : Int) 40) ≤ (a0.2.2.1.length : Int) ∧ 0 ≤ (min (a0.2.2.2.1.length : Int) 40) ∧ (min (a0.2.2.2.1.length : Int) 40) ≤ (a0.2.2.2.1.length : Int) ∧ 0 ≤ (min (a0.2.2.2.2.1.size : Int) 80) ∧ (min (a0.2.2.2.2.1.size : Int) 80) ≤ (a0.2.2.2.2.1.size : Int) ∧ 0 ≤ (min (a0.2.2.2.2.2.size : Int) 80) ∧ (min (a0.2.2.2.2.2.size : Int) 80) ≤ (a0.2.2.2.2.2.size : Int) ∧ r = (a0.1, a0.2.1, ((a0.2.2.1.drop (0 : Int).toNat).take (((min (a0.2.2.1.length : Int) 40) : Int) - 0).toNat), ((a0.2.2.2.1.drop (0 : Int).toNat).take (((min (a0.2.2.2.1.length : Int) 40) : Int) - 0).toNat), (a0.2.2.2.2.1.extract 0 (min (a0.2.2.2.2.1.size : Int) 80).toNat), (a0.2.2.2.2.2.extract 0 (min (a0.2.2.2.2.2.size : Int) 80).toNat))
def law17_Of_j1 (a0 : Int × List Int × List (Int × Int) × List Int × ByteArray × ByteArray) (s8 : List (List Int)) (r : (Int × List Int × List (List Int) × List Int × ByteArray × ByteArray)) : Prop :=
  r = (a0.1, a0.2.1, s8, a0.2.2.2.1, a0.2.2.2.2.1, a0.2.2.2.2.2)
def law17_Of_l2 (a0 : Int × List Int × List (Int × Int) × List Int × ByteArray × ByteArray) (s18 : Int × List (List Int)) (o18 : Sum (Int × List (List Int)) (List (List Int))) : Prop :=
  if (decide (s18.1 < (a0.2.2.1.length : Int))) = true then (∃ q22 : Int × Int, idx a0.2.2.1 s18.1 q22 ∧ ∃ q27 : Int × Int, idx a0.2.2.1 s18.1 q27 ∧ (s18.2.length + [[q22.1, q27.2]].length) * 16 ≤ 140737488355328 ∧ s18.2.length + [[q22.1, q27.2]].length ≤ 4611686018427387904 ∧ o18 = .inl ((IntKind.i64.wrap (s18.1 + 1)), (s18.2 ++ [[q22.1, q27.2]]))) else (o18 = .inr s18.2)
def law17_Of (a0 : Int × List Int × List (Int × Int) × List Int × ByteArray × ByteArray) (r : (Int × List Int × List (List Int) × List Int × ByteArray × ByteArray)) : Prop :=
  ∃ e18 : List (List Int), Loops (law17_Of_l2 a0) (0, []) e18 ∧ (law17_Of_j1 a0 e18 r)
def ref16_All_j2  (s8 : (List (ByteArray × Int × Int × Int × Int × Int × Int))) (r : (List (ByteArray × Int × Int × Int × Int × Int × Int))) : Prop :=
  r = s8
def ref16_All_j4 (s18 : (List (ByteArray × Int × Int × Int × Int × Int × Int)) × Int × Int) (q22 : ByteArray × Int × Int × Int × Int × Int × Int) (s30 : Int × Int) (o18 : Sum ((List (ByteArray × Int × Int × Int × Int × Int × Int)) × Int × Int) (List (ByteArray × Int × Int × Int × Int × Int × Int))) : Prop :=
  (s18.1.length + [(q22.1, q22.2.1, s30.2, q22.2.2.2.1, q22.2.2.2.2.1, q22.2.2.2.2.2.1, q22.2.2.2.2.2.2)].length) * 64 ≤ 140737488355328 ∧ s18.1.length + [(q22.1, q22.2.1, s30.2, q22.2.2.2.1, q22.2.2.2.2.1, q22.2.2.2.2.2.1, q22.2.2.2.2.2.2)].length ≤ 4611686018427387904 ∧ o18 = .inl ((s18.1 ++ [(q22.1, q22.2.1, s30.2, q22.2.2.2.1, q22.2.2.2.2.1, q22.2.2.2.2.2.1, q22.2.2.2.2.2.2)]), s30.1, (IntKind.i64.wrap (s18.2.2 + 1)))
def ref16_All_l3 (s4 : (List (ByteArray × Int × Int × Int × Int × Int × Int))) (s18 : (List (ByteArray × Int × Int × Int × Int × Int × Int)) × Int × Int) (o18 : Sum ((List (ByteArray × Int × Int × Int × Int × Int × Int)) × Int × Int) (List (ByteArray × Int × Int × Int × Int × Int × Int))) : Prop :=
  if (decide (s18.2.2 < (s4.length : Int))) = true then (∃ q22 : ByteArray × Int × Int × Int × Int × Int × Int, idx s4 s18.2.2 q22 ∧ if (decide (q22.2.1 < 3)) = true then (ref16_All_j4 s18 q22 ((IntKind.i64.wrap (s18.2.1 + 1)), s18.2.1) o18) else (ref16_All_j4 s18 q22 (s18.2.1, (-1)) o18)) else (o18 = .inr s18.1)
def ref16_All_j1  (s4 : (List (ByteArray × Int × Int × Int × Int × Int × Int))) (r : (List (ByteArray × Int × Int × Int × Int × Int × Int))) : Prop :=
  ∃ e18 : (List (ByteArray × Int × Int × Int × Int × Int × Int)), Loops (ref16_All_l3 s4) ([], 0, 0) e18 ∧ (ref16_All_j2 e18 r)
def ref16_All (a0 : Int) (r : (List (ByteArray × Int × Int × Int × Int × Int × Int))) : Prop :=
  if (decide (a0 = 1)) = true then (ref16_All_j1 [((bstr [114, 111, 98, 111, 116]), 1, 0, 0, 65535, 1, 0), ((bstr [115, 112, 101, 101, 100]), 1, 0, 1, 5000, 1, 0), ((bstr [97, 99, 99, 101, 108]), 1, 0, 1, 10000, 2, 500), ((bstr [112, 97, 116, 104]), 3, 0, 1, 16, 1, 0), ((bstr [116, 97, 103]), 6, 0, 0, 16, 2, 0)] r) else (if (decide (a0 = 2)) = true then (ref16_All_j1 [((bstr [114, 111, 98, 111, 116]), 1, 0, 0, 65535, 1, 0), ((bstr [114, 101, 97, 115, 111, 110]), 1, 0, 0, 15, 1, 0), ((bstr [122, 111, 110, 101]), 1, 0, 0, 4095, 2, 0)] r) else (if (decide (a0 = 3)) = true then (ref16_All_j1 [((bstr [114, 111, 98, 111, 116]), 1, 0, 0, 65535, 1, 0), ((bstr [122, 111, 110, 101]), 1, 0, 0, 4095, 1, 0), ((bstr [108, 101, 97, 115, 101]), 1, 0, 1, 255, 2, 1), ((bstr [99, 101, 108, 108, 115]), 4, 0, 1, 32, 1, 0)] r) else (if (decide (a0 = 4)) = true then (ref16_All_j1 [((bstr [114, 111, 98, 111, 116]), 1, 0, 0, 65535, 1, 0), ((bstr [120]), 2, 0, (-1000000), 1000000, 1, 0), ((bstr [121]), 2, 0, (-1000000), 1000000, 1, 0), ((bstr [104, 101, 97, 100, 105, 110, 103]), 1, 0, 0, 35999, 1, 0), ((bstr [98, 97, 116, 116, 101, 114, 121]), 1, 0, 0, 1000, 1, 0), ((bstr [115, 117, 114, 101]), 1, 0, 0, 100, 2, 100)] r) else (if (decide (a0 = 5)) = true then (ref16_All_j1 [((bstr [114, 111, 98, 111, 116]), 1, 0, 0, 65535, 1, 0), ((bstr [99, 111, 100, 101]), 1, 0, 1, 9999, 1, 0), ((bstr [115, 101, 118, 101, 114, 105, 116, 121]), 1, 0, 0, 4, 1, 0), ((bstr [112, 97, 114, 116]), 1, 0, 0, 255, 2, 0), ((bstr [116, 105, 109, 101, 115]), 1, 0, 1, 1000000, 2, 1), ((bstr [116, 101, 120, 116]), 5, 0, 0, 64, 1, 0)] r) else (ref16_All_j1 ([] : List (ByteArray × Int × Int × Int × Int × Int × Int)) r)))))
def ref17_path_j1  (s3 : Unit) (r : Int) : Prop :=
  r = 0
def ref17_path_j3 (s4 : Int) (s5 : Unit) (o4 : Sum Int (Sum Unit Int)) : Prop :=
  o4 = .inl (IntKind.i64.wrap (s4 + 1))
def ref17_path_j5 (s6 : Int) (s7 : Bool) (o6 : Sum Int (Sum Unit Int)) : Prop :=
  if s7 = true then (o6 = .inr (.inr 5)) else (o6 = .inl (IntKind.i64.wrap (s6 + 1)))
def ref17_path_l4 (a0 : List (List Int)) (s4 : Int) (s6 : Int) (o6 : Sum Int (Sum Unit Int)) : Prop :=
  if (decide (s6 < 2)) = true then (∃ q8 : List Int, idx a0 s4 q8 ∧ 0 ≤ s6 ∧ s6 < 2 ∧ if (decide ((q8.getD s6.toNat 0) < (-1000000))) = true then (ref17_path_j5 s6 true o6) else (∃ q15 : List Int, idx a0 s4 q15 ∧ 0 ≤ s6 ∧ s6 < 2 ∧ ref17_path_j5 s6 (decide (1000000 < (q15.getD s6.toNat 0))) o6)) else (o6 = .inr (.inl ()))
def ref17_path_l2 (a0 : List (List Int)) (s4 : Int) (o4 : Sum Int (Sum Unit Int)) : Prop :=
  if (decide (s4 < (a0.length : Int))) = true then (∃ e6 : (Sum Unit Int), Loops (ref17_path_l4 a0 s4) 0 e6 ∧ Aft (fun p22 => ref17_path_j3 s4 p22 o4) (fun p23 => o4 = .inr (.inr p23)) e6) else (o4 = .inr (.inl ()))
def ref17_path (a0 : List (List Int)) (r : Int) : Prop :=
  if (decide ((a0.length : Int) = 0)) = true then (r = 13) else (if (decide (16 < (a0.length : Int))) = true then (r = 6) else (∃ e4 : (Sum Unit Int), Loops (ref17_path_l2 a0) 0 e4 ∧ Aft (fun p24 => ref17_path_j1 p24 r) (fun p25 => r = p25) e4))
def ref17_cells_j1  (s3 : Unit) (r : Int) : Prop :=
  r = 0
def ref17_cells_j3 (a0 : List Int) (s4 : Int) (s5 : Bool) (o4 : Sum Int (Sum Unit Int)) : Prop :=
  if s5 = true then (o4 = .inr (.inr 5)) else (∃ q7 : Int, ((decide (0 < s4)) = true → idx a0 s4 q7) ∧ ∃ q12 : Int, ((decide (0 < s4)) = true → idx a0 (IntKind.i64.wrap (s4 - 1)) q12) ∧ if ((decide (0 < s4)) && (decide (q7 ≤ q12))) = true then (o4 = .inr (.inr 3)) else (o4 = .inl (IntKind.i64.wrap (s4 + 1))))
def ref17_cells_l2 (a0 : List Int) (s4 : Int) (o4 : Sum Int (Sum Unit Int)) : Prop :=
  if (decide (s4 < (a0.length : Int))) = true then (∃ q18 : Int, idx a0 s4 q18 ∧ if (decide (q18 < 0)) = true then (ref17_cells_j3 a0 s4 true o4) else (∃ q23 : Int, idx a0 s4 q23 ∧ ref17_cells_j3 a0 s4 (decide (65535 < q23)) o4)) else (o4 = .inr (.inl ()))
def ref17_cells (a0 : List Int) (r : Int) : Prop :=
  if (decide ((a0.length : Int) = 0)) = true then (r = 13) else (if (decide (32 < (a0.length : Int))) = true then (r = 6) else (∃ e4 : (Sum Unit Int), Loops (ref17_cells_l2 a0) 0 e4 ∧ Aft (fun p28 => ref17_cells_j1 p28 r) (fun p29 => r = p29) e4))
def ref17_text_j1  (s1 : Unit) (r : Int) : Prop :=
  r = 0
def ref17_text_j3 (s2 : Int) (s3 : Bool) (o2 : Sum Int (Sum Unit Int)) : Prop :=
  if s3 = true then (o2 = .inr (.inr 19)) else (o2 = .inl (IntKind.i64.wrap (s2 + 1)))
def ref17_text_l2 (a0 : ByteArray) (s2 : Int) (o2 : Sum Int (Sum Unit Int)) : Prop :=
  if (decide (s2 < (a0.size : Int))) = true then (∃ q4 : Int, idx (bints a0) s2 q4 ∧ if (decide (q4 < 32)) = true then (ref17_text_j3 s2 true o2) else (∃ q6 : Int, idx (bints a0) s2 q6 ∧ ref17_text_j3 s2 (decide (126 < q6)) o2)) else (o2 = .inr (.inl ()))
def ref17_text (a0 : ByteArray) (a1 : Int) (r : Int) : Prop :=
  if (decide (a1 < (a0.size : Int))) = true then (r = 6) else (∃ e2 : (Sum Unit Int), Loops (ref17_text_l2 a0) 0 e2 ∧ Aft (fun p8 => ref17_text_j1 p8 r) (fun p9 => r = p9) e2)
def ref17_Check_j3  (s16 : Bool) (r : Int) : Prop :=
  if s16 = true then (r = 3) else (r = 0)
def ref17_Check_j2 (a0 : Int × List Int × List (List Int) × List Int × ByteArray × ByteArray) (s14 : Bool × Bool × Bool × Bool × Bool × Bool × Bool × Bool × Bool × Bool × Bool × Bool × Bool) (s15 : Unit) (r : Int) : Prop :=
  if (!s14.2.2.2.1) = true then (if (decide (0 < (a0.2.2.1.length : Int))) = true then (ref17_Check_j3 true r) else (if (!s14.2.2.2.2.1) = true then (if (decide (0 < (a0.2.2.2.1.length : Int))) = true then (ref17_Check_j3 true r) else (if (!s14.2.2.2.2.2.1) = true then (if (!(decide (a0.2.2.2.2.1 = (bstr [])))) = true then (ref17_Check_j3 true r) else (if (!s14.2.2.2.2.2.2.1) = true then (ref17_Check_j3 (!(decide (a0.2.2.2.2.2 = (bstr [])))) r) else (ref17_Check_j3 false r))) else (if (!s14.2.2.2.2.2.2.1) = true then (ref17_Check_j3 (!(decide (a0.2.2.2.2.2 = (bstr [])))) r) else (ref17_Check_j3 false r)))) else (if (!s14.2.2.2.2.2.1) = true then (if (!(decide (a0.2.2.2.2.1 = (bstr [])))) = true then (ref17_Check_j3 true r) else (if (!s14.2.2.2.2.2.2.1) = true then (ref17_Check_j3 (!(decide (a0.2.2.2.2.2 = (bstr [])))) r) else (ref17_Check_j3 false r))) else (if (!s14.2.2.2.2.2.2.1) = true then (ref17_Check_j3 (!(decide (a0.2.2.2.2.2 = (bstr [])))) r) else (ref17_Check_j3 false r))))) else (if (!s14.2.2.2.2.1) = true then (if (decide (0 < (a0.2.2.2.1.length : Int))) = true then (ref17_Check_j3 true r) else (if (!s14.2.2.2.2.2.1) = true then (if (!(decide (a0.2.2.2.2.1 = (bstr [])))) = true then (ref17_Check_j3 true r) else (if (!s14.2.2.2.2.2.2.1) = true then (ref17_Check_j3 (!(decide (a0.2.2.2.2.2 = (bstr [])))) r) else (ref17_Check_j3 false r))) else (if (!s14.2.2.2.2.2.2.1) = true then (ref17_Check_j3 (!(decide (a0.2.2.2.2.2 = (bstr [])))) r) else (ref17_Check_j3 false r)))) else (if (!s14.2.2.2.2.2.1) = true then (if (!(decide (a0.2.2.2.2.1 = (bstr [])))) = true then (ref17_Check_j3 true r) else (if (!s14.2.2.2.2.2.2.1) = true then (ref17_Check_j3 (!(decide (a0.2.2.2.2.2 = (bstr [])))) r) else (ref17_Check_j3 false r))) else (if (!s14.2.2.2.2.2.2.1) = true then (ref17_Check_j3 (!(decide (a0.2.2.2.2.2 = (bstr [])))) r) else (ref17_Check_j3 false r))))
def ref17_Check_j5 (s17 : Int) (s18 : Bool) (o17 : Sum Int (Sum Unit Int)) : Prop :=
  if s18 = true then (o17 = .inr (.inr 3)) else (o17 = .inl (IntKind.i64.wrap (s17 + 1)))
def ref17_Check_l4 (a0 : Int × List Int × List (List Int) × List Int × ByteArray × ByteArray) (s14 : Bool × Bool × Bool × Bool × Bool × Bool × Bool × Bool × Bool × Bool × Bool × Bool × Bool) (s17 : Int) (o17 : Sum Int (Sum Unit Int)) : Prop :=
  if (decide (s17 < 6)) = true then (0 ≤ s17 ∧ s17 < 6 ∧ if (!([s14.2.2.2.2.2.2.2.1, s14.2.2.2.2.2.2.2.2.1, s14.2.2.2.2.2.2.2.2.2.1, s14.2.2.2.2.2.2.2.2.2.2.1, s14.2.2.2.2.2.2.2.2.2.2.2.1, s14.2.2.2.2.2.2.2.2.2.2.2.2].getD s17.toNat false)) = true then (0 ≤ s17 ∧ s17 < 6 ∧ ref17_Check_j5 s17 (!(decide ((a0.2.1.getD s17.toNat 0) = 0))) o17) else (ref17_Check_j5 s17 false o17)) else (o17 = .inr (.inl ()))
def ref17_Check_j1 (a0 : Int × List Int × List (List Int) × List Int × ByteArray × ByteArray) (s14 : Bool × Bool × Bool × Bool × Bool × Bool × Bool × Bool × Bool × Bool × Bool × Bool × Bool) (r : Int) : Prop :=
  ∃ e17 : (Sum Unit Int), Loops (ref17_Check_l4 a0 s14) 0 e17 ∧ Aft (fun p23 => ref17_Check_j2 a0 s14 p23 r) (fun p24 => r = p24) e17
def ref17_Check_j7 (s25 : Int × Bool × Bool × Bool × Bool × Bool × Bool × Bool × Bool × Bool × Bool × Bool × Bool × Bool) (q26 : ByteArray × Int × Int × Int × Int × Int × Int) (s33 : Int × Bool × Bool × Bool × Bool × Bool × Bool) (o25 : Sum (Int × Bool × Bool × Bool × Bool × Bool × Bool × Bool × Bool × Bool × Bool × Bool × Bool × Bool) (Sum (Bool × Bool × Bool × Bool × Bool × Bool × Bool × Bool × Bool × Bool × Bool × Bool × Bool) Int)) : Prop :=
  if (!(decide (s33.1 = 0))) = true then (o25 = .inr (.inr s33.1)) else (o25 = .inl ((IntKind.i64.wrap (s25.1 + 1)), ((putN 7 false [s25.2.1, s25.2.2.1, s25.2.2.2.1, s25.2.2.2.2.1, s25.2.2.2.2.2.1, s25.2.2.2.2.2.2.1, s25.2.2.2.2.2.2.2.1] q26.2.1.toNat true).getD 0 false), ((putN 7 false [s25.2.1, s25.2.2.1, s25.2.2.2.1, s25.2.2.2.2.1, s25.2.2.2.2.2.1, s25.2.2.2.2.2.2.1, s25.2.2.2.2.2.2.2.1] q26.2.1.toNat true).getD 1 false), ((putN 7 false [s25.2.1, s25.2.2.1, s25.2.2.2.1, s25.2.2.2.2.1, s25.2.2.2.2.2.1, s25.2.2.2.2.2.2.1, s25.2.2.2.2.2.2.2.1] q26.2.1.toNat true).getD 2 false), ((putN 7 false [s25.2.1, s25.2.2.1, s25.2.2.2.1, s25.2.2.2.2.1, s25.2.2.2.2.2.1, s25.2.2.2.2.2.2.1, s25.2.2.2.2.2.2.2.1] q26.2.1.toNat true).getD 3 false), ((putN 7 false [s25.2.1, s25.2.2.1, s25.2.2.2.1, s25.2.2.2.2.1, s25.2.2.2.2.2.1, s25.2.2.2.2.2.2.1, s25.2.2.2.2.2.2.2.1] q26.2.1.toNat true).getD 4 false), ((putN 7 false [s25.2.1, s25.2.2.1, s25.2.2.2.1, s25.2.2.2.2.1, s25.2.2.2.2.2.1, s25.2.2.2.2.2.2.1, s25.2.2.2.2.2.2.2.1] q26.2.1.toNat true).getD 5 false), ((putN 7 false [s25.2.1, s25.2.2.1, s25.2.2.2.1, s25.2.2.2.2.1, s25.2.2.2.2.2.1, s25.2.2.2.2.2.2.1, s25.2.2.2.2.2.2.2.1] q26.2.1.toNat true).getD 6 false), s33.2.1, s33.2.2.1, s33.2.2.2.1, s33.2.2.2.2.1, s33.2.2.2.2.2.1, s33.2.2.2.2.2.2))
def ref17_Check_l6 (a0 : Int × List Int × List (List Int) × List Int × ByteArray × ByteArray) (r6 : (List (ByteArray × Int × Int × Int × Int × Int × Int))) (s25 : Int × Bool × Bool × Bool × Bool × Bool × Bool × Bool × Bool × Bool × Bool × Bool × Bool × Bool) (o25 : Sum (Int × Bool × Bool × Bool × Bool × Bool × Bool × Bool × Bool × Bool × Bool × Bool × Bool × Bool) (Sum (Bool × Bool × Bool × Bool × Bool × Bool × Bool × Bool × Bool × Bool × Bool × Bool × Bool) Int)) : Prop :=
  if (decide (s25.1 < (r6.length : Int))) = true then (∃ q26 : ByteArray × Int × Int × Int × Int × Int × Int, idx r6 s25.1 q26 ∧ 0 ≤ q26.2.1 ∧ q26.2.1 < 7 ∧ ∃ q34 : ByteArray × Int × Int × Int × Int × Int × Int, idx r6 s25.1 q34 ∧ if (decide (q34.2.1 = 3)) = true then (∃ r39 : Int, ref17_path a0.2.2.1 r39 ∧ ref17_Check_j7 s25 q26 (r39, s25.2.2.2.2.2.2.2.2.1, s25.2.2.2.2.2.2.2.2.2.1, s25.2.2.2.2.2.2.2.2.2.2.1, s25.2.2.2.2.2.2.2.2.2.2.2.1, s25.2.2.2.2.2.2.2.2.2.2.2.2.1, s25.2.2.2.2.2.2.2.2.2.2.2.2.2) o25) else (if (decide (q34.2.1 = 4)) = true then (∃ r43 : Int, ref17_cells a0.2.2.2.1 r43 ∧ ref17_Check_j7 s25 q26 (r43, s25.2.2.2.2.2.2.2.2.1, s25.2.2.2.2.2.2.2.2.2.1, s25.2.2.2.2.2.2.2.2.2.2.1, s25.2.2.2.2.2.2.2.2.2.2.2.1, s25.2.2.2.2.2.2.2.2.2.2.2.2.1, s25.2.2.2.2.2.2.2.2.2.2.2.2.2) o25) else (if (decide (q34.2.1 = 5)) = true then (∃ r47 : Int, ref17_text a0.2.2.2.2.1 64 r47 ∧ ref17_Check_j7 s25 q26 (r47, s25.2.2.2.2.2.2.2.2.1, s25.2.2.2.2.2.2.2.2.2.1, s25.2.2.2.2.2.2.2.2.2.2.1, s25.2.2.2.2.2.2.2.2.2.2.2.1, s25.2.2.2.2.2.2.2.2.2.2.2.2.1, s25.2.2.2.2.2.2.2.2.2.2.2.2.2) o25) else (if (decide (q34.2.1 = 6)) = true then (∃ r51 : Int, ref17_text a0.2.2.2.2.2 16 r51 ∧ ref17_Check_j7 s25 q26 (r51, s25.2.2.2.2.2.2.2.2.1, s25.2.2.2.2.2.2.2.2.2.1, s25.2.2.2.2.2.2.2.2.2.2.1, s25.2.2.2.2.2.2.2.2.2.2.2.1, s25.2.2.2.2.2.2.2.2.2.2.2.2.1, s25.2.2.2.2.2.2.2.2.2.2.2.2.2) o25) else (∃ q55 : ByteArray × Int × Int × Int × Int × Int × Int, idx r6 s25.1 q55 ∧ 0 ≤ q55.2.2.1 ∧ q55.2.2.1 < 6 ∧ ∃ q62 : ByteArray × Int × Int × Int × Int × Int × Int, idx r6 s25.1 q62 ∧ 0 ≤ q62.2.2.1 ∧ q62.2.2.1 < 6 ∧ ∃ q69 : ByteArray × Int × Int × Int × Int × Int × Int, idx r6 s25.1 q69 ∧ ∃ q75 : ByteArray × Int × Int × Int × Int × Int × Int, ((decide ((a0.2.1.getD q62.2.2.1.toNat 0) < q69.2.2.2.1)) = false → idx r6 s25.1 q75) ∧ ((decide ((a0.2.1.getD q62.2.2.1.toNat 0) < q69.2.2.2.1)) = false → 0 ≤ q75.2.2.1) ∧ ((decide ((a0.2.1.getD q62.2.2.1.toNat 0) < q69.2.2.2.1)) = false → q75.2.2.1 < 6) ∧ ∃ q82 : ByteArray × Int × Int × Int × Int × Int × Int, ((decide ((a0.2.1.getD q62.2.2.1.toNat 0) < q69.2.2.2.1)) = false → idx r6 s25.1 q82) ∧ if ((decide ((a0.2.1.getD q62.2.2.1.toNat 0) < q69.2.2.2.1)) || (decide (q82.2.2.2.2.1 < (a0.2.1.getD q75.2.2.1.toNat 0)))) = true then (ref17_Check_j7 s25 q26 (5, ((putN 6 false [s25.2.2.2.2.2.2.2.2.1, s25.2.2.2.2.2.2.2.2.2.1, s25.2.2.2.2.2.2.2.2.2.2.1, s25.2.2.2.2.2.2.2.2.2.2.2.1, s25.2.2.2.2.2.2.2.2.2.2.2.2.1, s25.2.2.2.2.2.2.2.2.2.2.2.2.2] q55.2.2.1.toNat true).getD 0 false), ((putN 6 false [s25.2.2.2.2.2.2.2.2.1, s25.2.2.2.2.2.2.2.2.2.1, s25.2.2.2.2.2.2.2.2.2.2.1, s25.2.2.2.2.2.2.2.2.2.2.2.1, s25.2.2.2.2.2.2.2.2.2.2.2.2.1, s25.2.2.2.2.2.2.2.2.2.2.2.2.2] q55.2.2.1.toNat true).getD 1 false), ((putN 6 false [s25.2.2.2.2.2.2.2.2.1, s25.2.2.2.2.2.2.2.2.2.1, s25.2.2.2.2.2.2.2.2.2.2.1, s25.2.2.2.2.2.2.2.2.2.2.2.1, s25.2.2.2.2.2.2.2.2.2.2.2.2.1, s25.2.2.2.2.2.2.2.2.2.2.2.2.2] q55.2.2.1.toNat true).getD 2 false), ((putN 6 false [s25.2.2.2.2.2.2.2.2.1, s25.2.2.2.2.2.2.2.2.2.1, s25.2.2.2.2.2.2.2.2.2.2.1, s25.2.2.2.2.2.2.2.2.2.2.2.1, s25.2.2.2.2.2.2.2.2.2.2.2.2.1, s25.2.2.2.2.2.2.2.2.2.2.2.2.2] q55.2.2.1.toNat true).getD 3 false), ((putN 6 false [s25.2.2.2.2.2.2.2.2.1, s25.2.2.2.2.2.2.2.2.2.1, s25.2.2.2.2.2.2.2.2.2.2.1, s25.2.2.2.2.2.2.2.2.2.2.2.1, s25.2.2.2.2.2.2.2.2.2.2.2.2.1, s25.2.2.2.2.2.2.2.2.2.2.2.2.2] q55.2.2.1.toNat true).getD 4 false), ((putN 6 false [s25.2.2.2.2.2.2.2.2.1, s25.2.2.2.2.2.2.2.2.2.1, s25.2.2.2.2.2.2.2.2.2.2.1, s25.2.2.2.2.2.2.2.2.2.2.2.1, s25.2.2.2.2.2.2.2.2.2.2.2.2.1, s25.2.2.2.2.2.2.2.2.2.2.2.2.2] q55.2.2.1.toNat true).getD 5 false)) o25) else (ref17_Check_j7 s25 q26 (0, ((putN 6 false [s25.2.2.2.2.2.2.2.2.1, s25.2.2.2.2.2.2.2.2.2.1, s25.2.2.2.2.2.2.2.2.2.2.1, s25.2.2.2.2.2.2.2.2.2.2.2.1, s25.2.2.2.2.2.2.2.2.2.2.2.2.1, s25.2.2.2.2.2.2.2.2.2.2.2.2.2] q55.2.2.1.toNat true).getD 0 false), ((putN 6 false [s25.2.2.2.2.2.2.2.2.1, s25.2.2.2.2.2.2.2.2.2.1, s25.2.2.2.2.2.2.2.2.2.2.1, s25.2.2.2.2.2.2.2.2.2.2.2.1, s25.2.2.2.2.2.2.2.2.2.2.2.2.1, s25.2.2.2.2.2.2.2.2.2.2.2.2.2] q55.2.2.1.toNat true).getD 1 false), ((putN 6 false [s25.2.2.2.2.2.2.2.2.1, s25.2.2.2.2.2.2.2.2.2.1, s25.2.2.2.2.2.2.2.2.2.2.1, s25.2.2.2.2.2.2.2.2.2.2.2.1, s25.2.2.2.2.2.2.2.2.2.2.2.2.1, s25.2.2.2.2.2.2.2.2.2.2.2.2.2] q55.2.2.1.toNat true).getD 2 false), ((putN 6 false [s25.2.2.2.2.2.2.2.2.1, s25.2.2.2.2.2.2.2.2.2.1, s25.2.2.2.2.2.2.2.2.2.2.1, s25.2.2.2.2.2.2.2.2.2.2.2.1, s25.2.2.2.2.2.2.2.2.2.2.2.2.1, s25.2.2.2.2.2.2.2.2.2.2.2.2.2] q55.2.2.1.toNat true).getD 3 false), ((putN 6 false [s25.2.2.2.2.2.2.2.2.1, s25.2.2.2.2.2.2.2.2.2.1, s25.2.2.2.2.2.2.2.2.2.2.1, s25.2.2.2.2.2.2.2.2.2.2.2.1, s25.2.2.2.2.2.2.2.2.2.2.2.2.1, s25.2.2.2.2.2.2.2.2.2.2.2.2.2] q55.2.2.1.toNat true).getD 4 false), ((putN 6 false [s25.2.2.2.2.2.2.2.2.1, s25.2.2.2.2.2.2.2.2.2.1, s25.2.2.2.2.2.2.2.2.2.2.1, s25.2.2.2.2.2.2.2.2.2.2.2.1, s25.2.2.2.2.2.2.2.2.2.2.2.2.1, s25.2.2.2.2.2.2.2.2.2.2.2.2.2] q55.2.2.1.toNat true).getD 5 false)) o25)))))) else (o25 = .inr (.inl (s25.2.1, s25.2.2.1, s25.2.2.2.1, s25.2.2.2.2.1, s25.2.2.2.2.2.1, s25.2.2.2.2.2.2.1, s25.2.2.2.2.2.2.2.1, s25.2.2.2.2.2.2.2.2.1, s25.2.2.2.2.2.2.2.2.2.1, s25.2.2.2.2.2.2.2.2.2.2.1, s25.2.2.2.2.2.2.2.2.2.2.2.1, s25.2.2.2.2.2.2.2.2.2.2.2.2.1, s25.2.2.2.2.2.2.2.2.2.2.2.2.2)))
def ref17_Check (a0 : Int × List Int × List (List Int) × List Int × ByteArray × ByteArray) (r : Int) : Prop :=
  ∃ r6 : (List (ByteArray × Int × Int × Int × Int × Int × Int)), ref16_All a0.1 r6 ∧ if (decide ((r6.length : Int) = 0)) = true then (r = 9) else (∃ e25 : (Sum (Bool × Bool × Bool × Bool × Bool × Bool × Bool × Bool × Bool × Bool × Bool × Bool × Bool) Int), Loops (ref17_Check_l6 a0 r6) (0, false, false, false, false, false, false, false, false, false, false, false, false, false) e25 ∧ Aft (fun p88 => ref17_Check_j1 a0 p88 r) (fun p89 => r = p89) e25)
def ref16_Word_j1 (a0 : Int) (s1 : Bool) (r : ByteArray) : Prop :=
  if s1 = true then (r = (bstr [])) else (∃ q5 : ByteArray, idx [(bstr [109, 111, 118, 101]), (bstr [104, 111, 108, 100]), (bstr [103, 114, 97, 110, 116]), (bstr [112, 111, 115, 101]), (bstr [102, 97, 117, 108, 116])] (IntKind.i64.wrap (a0 - 1)) q5 ∧ r = q5)
def ref16_Word (a0 : Int) (r : ByteArray) : Prop :=
  if (decide (a0 < 1)) = true then (ref16_Word_j1 a0 true r) else (ref16_Word_j1 a0 (decide (5 < a0)) r)
def ref20_digit (a0 : Int) (r : Int) : Prop :=
  if (decide (a0 < 10)) = true then (r = (IntKind.u8.wrap (48 + a0))) else (r = (IntKind.u8.wrap (87 + a0)))
def ref20_hex_j1  (s1 : ByteArray) (r : ByteArray) : Prop :=
  r = s1
def ref20_hex_l2 (a0 : ByteArray) (s2 : ByteArray × Int) (o2 : Sum (ByteArray × Int) ByteArray) : Prop :=
  if (decide (s2.2 < (a0.size : Int))) = true then (∃ q3 : Int, idx (bints a0) s2.2 q3 ∧ ∃ r5 : Int, ref20_digit (IntKind.u8.wrap (q3.tdiv 16)) r5 ∧ ∃ q9 : Int, idx (bints a0) s2.2 q9 ∧ ∃ r11 : Int, ref20_digit (q9.tmod 16) r11 ∧ s2.1.size + (bstr [r5, r11]).size < 4611686018427387904 ∧ o2 = .inl ((s2.1 ++ (bstr [r5, r11])), (IntKind.i64.wrap (s2.2 + 1)))) else (o2 = .inr s2.1)
def ref20_hex (a0 : ByteArray) (r : ByteArray) : Prop :=
  if (decide (a0 = (bstr []))) = true then (r = (bstr [45])) else (∃ e2 : ByteArray, Loops (ref20_hex_l2 a0) ((bstr []), 0) e2 ∧ (ref20_hex_j1 e2 r))
def ref20_Line_j1  (s20 : ByteArray) (r : ByteArray) : Prop :=
  r = s20
def ref20_Line_j3 (r14 : (List (ByteArray × Int × Int × Int × Int × Int × Int))) (s21 : ByteArray × Int) (s22 : ByteArray) (o21 : Sum (ByteArray × Int) ByteArray) : Prop :=
  s21.1.size + (bstr [32]).size < 4611686018427387904 ∧ ∃ q24 : ByteArray × Int × Int × Int × Int × Int × Int, idx r14 s21.2 q24 ∧ (s21.1 ++ (bstr [32])).size + q24.1.size < 4611686018427387904 ∧ ((s21.1 ++ (bstr [32])) ++ q24.1).size + (bstr [32]).size < 4611686018427387904 ∧ (((s21.1 ++ (bstr [32])) ++ q24.1) ++ (bstr [32])).size + s22.size < 4611686018427387904 ∧ o21 = .inl (((((s21.1 ++ (bstr [32])) ++ q24.1) ++ (bstr [32])) ++ s22), (IntKind.i64.wrap (s21.2 + 1)))
def ref20_Line_j5 (a0 : Int × List Int × List (List Int) × List Int × ByteArray × ByteArray) (s37 : ByteArray × Int) (s38 : ByteArray) (o37 : Sum (ByteArray × Int) ByteArray) : Prop :=
  ∃ q39 : List Int, idx a0.2.2.1 s37.2 q39 ∧ ∃ r44 : ByteArray, ref07_Digits (q39.getD 0 0) r44 ∧ s38.size + r44.size < 4611686018427387904 ∧ (s38 ++ r44).size + (bstr [44]).size < 4611686018427387904 ∧ ∃ q50 : List Int, idx a0.2.2.1 s37.2 q50 ∧ ∃ r55 : ByteArray, ref07_Digits (q50.getD 1 0) r55 ∧ ((s38 ++ r44) ++ (bstr [44])).size + r55.size < 4611686018427387904 ∧ o37 = .inl ((((s38 ++ r44) ++ (bstr [44])) ++ r55), (IntKind.i64.wrap (s37.2 + 1)))
def ref20_Line_l4 (a0 : Int × List Int × List (List Int) × List Int × ByteArray × ByteArray) (s37 : ByteArray × Int) (o37 : Sum (ByteArray × Int) ByteArray) : Prop :=
  if (decide (s37.2 < (a0.2.2.1.length : Int))) = true then (if (decide (0 < s37.2)) = true then (s37.1.size + (bstr [59]).size < 4611686018427387904 ∧ ref20_Line_j5 a0 s37 (s37.1 ++ (bstr [59])) o37) else (ref20_Line_j5 a0 s37 s37.1 o37)) else (o37 = .inr s37.1)
def ref20_Line_j7 (a0 : Int × List Int × List (List Int) × List Int × ByteArray × ByteArray) (s63 : ByteArray × Int) (s64 : ByteArray) (o63 : Sum (ByteArray × Int) ByteArray) : Prop :=
  ∃ q65 : Int, idx a0.2.2.2.1 s63.2 q65 ∧ ∃ r70 : ByteArray, ref07_Digits q65 r70 ∧ s64.size + r70.size < 4611686018427387904 ∧ o63 = .inl ((s64 ++ r70), (IntKind.i64.wrap (s63.2 + 1)))
def ref20_Line_l6 (a0 : Int × List Int × List (List Int) × List Int × ByteArray × ByteArray) (s63 : ByteArray × Int) (o63 : Sum (ByteArray × Int) ByteArray) : Prop :=
  if (decide (s63.2 < (a0.2.2.2.1.length : Int))) = true then (if (decide (0 < s63.2)) = true then (s63.1.size + (bstr [44]).size < 4611686018427387904 ∧ ref20_Line_j7 a0 s63 (s63.1 ++ (bstr [44])) o63) else (ref20_Line_j7 a0 s63 s63.1 o63)) else (o63 = .inr s63.1)
def ref20_Line_l2 (a0 : Int × List Int × List (List Int) × List Int × ByteArray × ByteArray) (r14 : (List (ByteArray × Int × Int × Int × Int × Int × Int))) (s21 : ByteArray × Int) (o21 : Sum (ByteArray × Int) ByteArray) : Prop :=
  if (decide (s21.2 < (r14.length : Int))) = true then (∃ q32 : ByteArray × Int × Int × Int × Int × Int × Int, idx r14 s21.2 q32 ∧ if (decide (q32.2.1 = 3)) = true then (∃ e37 : ByteArray, Loops (ref20_Line_l4 a0) ((bstr []), 0) e37 ∧ (ref20_Line_j3 r14 s21 e37 o21)) else (if (decide (q32.2.1 = 4)) = true then (∃ e63 : ByteArray, Loops (ref20_Line_l6 a0) ((bstr []), 0) e63 ∧ (ref20_Line_j3 r14 s21 e63 o21)) else (if (decide (q32.2.1 = 5)) = true then (∃ r77 : ByteArray, ref20_hex a0.2.2.2.2.1 r77 ∧ ref20_Line_j3 r14 s21 r77 o21) else (if (decide (q32.2.1 = 6)) = true then (∃ r81 : ByteArray, ref20_hex a0.2.2.2.2.2 r81 ∧ ref20_Line_j3 r14 s21 r81 o21) else (∃ q85 : ByteArray × Int × Int × Int × Int × Int × Int, idx r14 s21.2 q85 ∧ 0 ≤ q85.2.2.1 ∧ q85.2.2.1 < 6 ∧ ∃ r92 : ByteArray, ref07_Digits (a0.2.1.getD q85.2.2.1.toNat 0) r92 ∧ ref20_Line_j3 r14 s21 r92 o21))))) else (o21 = .inr s21.1)
def ref20_Line (a0 : Int × List Int × List (List Int) × List Int × ByteArray × ByteArray) (r : ByteArray) : Prop :=
  ∃ r6 : Int, ref17_Check a0 r6 ∧ if (!(decide (r6 = 0))) = true then (r = (bstr [])) else (∃ r10 : ByteArray, ref16_Word a0.1 r10 ∧ ∃ r14 : (List (ByteArray × Int × Int × Int × Int × Int × Int)), ref16_All a0.1 r14 ∧ ∃ e21 : ByteArray, Loops (ref20_Line_l2 a0 r14) (r10, 0) e21 ∧ (ref20_Line_j1 e21 r))
def frame_Codec_Check (a0 : List Int) (a1 : (Int × Int × Int × Int × Int) × List Int) (r : Int) : Prop :=
  ∃ r8 : Int, head_Check a1.1 r8 ∧ if (!(decide (r8 = 0))) = true then (r = r8) else (if (decide ((a1.2.length : Int) = 0)) = true then (r = 13) else (if (decide (242 < (a1.2.length : Int))) = true then (r = 2) else (r = 0)))
def head_Bytes (a0 : Int × Int × Int × Int × Int) (r : List Int × Int) : Prop :=
  ∃ r2 : Int, head_Check a0 r2 ∧ if (!(decide (r2 = 0))) = true then (r = ([], r2)) else (r = ([(IntKind.u8.wrap a0.1), (IntKind.u8.wrap a0.2.1), (IntKind.u8.wrap a0.2.2.1), (IntKind.u8.wrap (ishr .u32 a0.2.2.1 8)), (IntKind.u8.wrap (ishr .u32 a0.2.2.1 16)), (IntKind.u8.wrap (ishr .u32 a0.2.2.1 24)), (IntKind.u8.wrap a0.2.2.2.1), (IntKind.u8.wrap a0.2.2.2.2)], 0))
def crc_Seal (a0 : List Int) (a1 : List Int) (r : List Int) : Prop :=
  ∃ r12 : Int, crc_Table_Sum a0 [a1] r12 ∧ ∃ r16 : List Int, crc_bytes r12 r16 ∧ (([] : List Int).length + a1.length) * 1 ≤ 140737488355328 ∧ ([] : List Int).length + a1.length ≤ 4611686018427387904 ∧ ((([] : List Int) ++ a1).length + [(r16.getD 0 0), (r16.getD 1 0), (r16.getD 2 0), (r16.getD 3 0)].length) * 1 ≤ 140737488355328 ∧ (([] : List Int) ++ a1).length + [(r16.getD 0 0), (r16.getD 1 0), (r16.getD 2 0), (r16.getD 3 0)].length ≤ 4611686018427387904 ∧ r = ((([] : List Int) ++ a1) ++ [(r16.getD 0 0), (r16.getD 1 0), (r16.getD 2 0), (r16.getD 3 0)])
def cobs_block_j1 (a0 : List Int) (s3 : Unit) (r : Int × Int × Bool) : Prop :=
  if (decide (254 ≤ (a0.length : Int))) = true then (r = (254, 254, (decide (254 < (a0.length : Int))))) else (r = ((a0.length : Int), (a0.length : Int), false))
def cobs_block_l2 (a0 : List Int) (s8 : Int) (o8 : Sum Int (Sum Unit (Int × Int × Bool))) : Prop :=
  if (decide (s8 < (((a0.drop (0 : Int).toNat).take (((min (a0.length : Int) 254) : Int) - 0).toNat).length : Int))) = true then (∃ q9 : Int, idx ((a0.drop (0 : Int).toNat).take (((min (a0.length : Int) 254) : Int) - 0).toNat) s8 q9 ∧ if (decide (q9 = 0)) = true then (o8 = .inr (.inr (s8, (IntKind.i64.wrap (s8 + 1)), true))) else (o8 = .inl (IntKind.i64.wrap (s8 + 1)))) else (o8 = .inr (.inl ()))
def cobs_block (a0 : List Int) (r : Int × Int × Bool) : Prop :=
  0 ≤ (min (a0.length : Int) 254) ∧ (min (a0.length : Int) 254) ≤ (a0.length : Int) ∧ ∃ e8 : (Sum Unit (Int × Int × Bool)), Loops (cobs_block_l2 a0) 0 e8 ∧ Aft (fun p14 => cobs_block_j1 a0 p14 r) (fun p15 => r = p15) e8
def cobs_Blocks_1_l1 (S : Type) (Y : (List Int) → S → Bool × S → Prop) (s3 : S × List Int × Bool) (o3 : Sum (S × List Int × Bool) (S × Unit)) : Prop :=
  if s3.2.2 = true then (∃ r8 : Int × Int × Bool, cobs_block s3.2.1 r8 ∧ 0 ≤ r8.1 ∧ r8.1 ≤ (s3.2.1.length : Int) ∧ r8.1 ≤ r8.1 ∧ r8.1 ≤ (s3.2.1.length : Int) ∧ (([] : List Int).length + ((s3.2.1.drop (0 : Int).toNat).take ((r8.1 : Int) - 0).toNat).length) * 1 ≤ 140737488355328 ∧ ([] : List Int).length + ((s3.2.1.drop (0 : Int).toNat).take ((r8.1 : Int) - 0).toNat).length ≤ 4611686018427387904 ∧ ∃ y30 : Bool, ∃ u31 : S, Y (([] : List Int) ++ ((s3.2.1.drop (0 : Int).toNat).take ((r8.1 : Int) - 0).toNat)) s3.1 (y30, u31) ∧ if (!y30) = true then (o3 = .inr (u31, ())) else (0 ≤ r8.2.1 ∧ r8.2.1 ≤ (s3.2.1.length : Int) ∧ (s3.2.1.length : Int) ≤ (s3.2.1.length : Int) ∧ o3 = .inl (u31, ((s3.2.1.drop r8.2.1.toNat).take (((s3.2.1.length : Int) : Int) - r8.2.1).toNat), r8.2.2))) else (o3 = .inr (s3.1, ()))
def cobs_Blocks_1 (c0 : List Int) (S : Type) (Y : (List Int) → S → Bool × S → Prop) (s : S) (r : S × Unit) : Prop :=
  ∃ e3 : S × Unit, Loops (cobs_Blocks_1_l1 S Y) (s, c0, true) e3 ∧ (r = e3)
def cobs_Blocks (a0 : List Int) (r : (((S : Type) → ((List Int) → S → Bool × S → Prop) → S → S × Unit → Prop))) : Prop :=
  r = (cobs_Blocks_1 a0)
def cobs_Encode_l1  (x11 : List Int) (s11 : List Int) (o11 : Sum (List Int) Unit) : Prop :=
  (s11.length + [(IntKind.u8.wrap (IntKind.i64.wrap ((x11.length : Int) + 1)))].length) * 1 ≤ 140737488355328 ∧ s11.length + [(IntKind.u8.wrap (IntKind.i64.wrap ((x11.length : Int) + 1)))].length ≤ 4611686018427387904 ∧ ((s11 ++ [(IntKind.u8.wrap (IntKind.i64.wrap ((x11.length : Int) + 1)))]).length + x11.length) * 1 ≤ 140737488355328 ∧ (s11 ++ [(IntKind.u8.wrap (IntKind.i64.wrap ((x11.length : Int) + 1)))]).length + x11.length ≤ 4611686018427387904 ∧ o11 = .inl ((s11 ++ [(IntKind.u8.wrap (IntKind.i64.wrap ((x11.length : Int) + 1)))]) ++ x11)
def cobs_Encode (a0 : List Int) (r : List Int) : Prop :=
  ∃ r4 : (((S : Type) → ((List Int) → S → Bool × S → Prop) → S → S × Unit → Prop)), cobs_Blocks a0 r4 ∧ ∃ (t11 : Sum (List Int) Unit) (w11 : Unit), r4 (Sum (List Int) Unit) (Yof (cobs_Encode_l1)) (.inl []) (t11, w11) ∧ Aft (fun p30 => r = p30) (fun _ => True) t11
def frame_Codec_Segment (a0 : List Int) (a1 : (Int × Int × Int × Int × Int) × List Int) (r : List Int × Int) : Prop :=
  ∃ r8 : Int, frame_Codec_Check a0 a1 r8 ∧ if (!(decide (r8 = 0))) = true then (r = ([], r8)) else (∃ r12 : List Int × Int, head_Bytes a1.1 r12 ∧ (r12.1.length + a1.2.length) * 1 ≤ 140737488355328 ∧ r12.1.length + a1.2.length ≤ 4611686018427387904 ∧ ∃ r25 : List Int, crc_Seal a0 (r12.1 ++ a1.2) r25 ∧ ∃ r31 : List Int, cobs_Encode r25 r31 ∧ r = (r31, r12.2))
def fence_Wrap_j1  (s3 : List Int) (r : List Int) : Prop :=
  r = s3
def fence_Wrap_l2 (a0 : List (List Int)) (s13 : List Int × Int) (o13 : Sum (List Int × Int) (List Int)) : Prop :=
  if (decide (s13.2 < (a0.length : Int))) = true then (∃ q17 : List Int, idx a0 s13.2 q17 ∧ (s13.1.length + [0].length) * 1 ≤ 140737488355328 ∧ s13.1.length + [0].length ≤ 4611686018427387904 ∧ ((s13.1 ++ [0]).length + q17.length) * 1 ≤ 140737488355328 ∧ (s13.1 ++ [0]).length + q17.length ≤ 4611686018427387904 ∧ (((s13.1 ++ [0]) ++ q17).length + [0].length) * 1 ≤ 140737488355328 ∧ ((s13.1 ++ [0]) ++ q17).length + [0].length ≤ 4611686018427387904 ∧ o13 = .inl ((((s13.1 ++ [0]) ++ q17) ++ [0]), (IntKind.i64.wrap (s13.2 + 1)))) else (o13 = .inr s13.1)
def fence_Wrap (a0 : List (List Int)) (r : List Int) : Prop :=
  ∃ e13 : List Int, Loops (fence_Wrap_l2 a0) ([], 0) e13 ∧ (fence_Wrap_j1 e13 r)
def frame_Codec_Pack_j1  (s7 : List (List Int) × Int) (r : List Int × Int) : Prop :=
  ∃ r16 : List Int, fence_Wrap s7.1 r16 ∧ r = (r16, s7.2)
def frame_Codec_Pack_l2 (a0 : List Int) (a1 : List ((Int × Int × Int × Int × Int) × List Int)) (s22 : List (List Int) × Int) (o22 : Sum (List (List Int) × Int) (List (List Int) × Int)) : Prop :=
  if (decide (s22.2 < (a1.length : Int))) = true then (∃ q26 : (Int × Int × Int × Int × Int) × List Int, idx a1 s22.2 q26 ∧ ∃ r34 : List Int × Int, frame_Codec_Segment a0 q26 r34 ∧ if (!(decide (r34.2 = 0))) = true then (o22 = .inr ([], r34.2)) else ((s22.1.length + [r34.1].length) * 24 ≤ 140737488355328 ∧ s22.1.length + [r34.1].length ≤ 4611686018427387904 ∧ o22 = .inl ((s22.1 ++ [r34.1]), (IntKind.i64.wrap (s22.2 + 1))))) else (o22 = .inr (s22.1, 0))
def frame_Codec_Pack (a0 : List Int) (a1 : List ((Int × Int × Int × Int × Int) × List Int)) (r : List Int × Int) : Prop :=
  ∃ e22 : List (List Int) × Int, Loops (frame_Codec_Pack_l2 a0 a1) ([], 0) e22 ∧ (frame_Codec_Pack_j1 e22 r)
def ref01_Ints_j1  (s5 : Unit) (r : Bool) : Prop :=
  r = true
def ref01_Ints_l2 (a0 : List Int) (a1 : List Int) (s6 : Int) (o6 : Sum Int (Sum Unit Bool)) : Prop :=
  if (decide (s6 < (a0.length : Int))) = true then (∃ q7 : Int, idx a0 s6 q7 ∧ ∃ q12 : Int, idx a1 s6 q12 ∧ if (!(decide (q7 = q12))) = true then (o6 = .inr (.inr false)) else (o6 = .inl (IntKind.i64.wrap (s6 + 1)))) else (o6 = .inr (.inl ()))
def ref01_Ints (a0 : List Int) (a1 : List Int) (r : Bool) : Prop :=
  if (!(decide ((a0.length : Int) = (a1.length : Int)))) = true then (r = false) else (∃ e6 : (Sum Unit Bool), Loops (ref01_Ints_l2 a0 a1) 0 e6 ∧ Aft (fun p18 => ref01_Ints_j1 p18 r) (fun p19 => r = p19) e6)
def ref17_Same_j2  (s12 : Unit) (r : Bool) : Prop :=
  r = true
def ref17_Same_l3 (a0 : Int × List Int × List (List Int) × List Int × ByteArray × ByteArray) (a1 : Int × List Int × List (List Int) × List Int × ByteArray × ByteArray) (s13 : Int) (o13 : Sum Int (Sum Unit Bool)) : Prop :=
  if (decide (s13 < (a0.2.2.1.length : Int))) = true then (∃ q14 : List Int, idx a0.2.2.1 s13 q14 ∧ ∃ q19 : List Int, idx a1.2.2.1 s13 q19 ∧ if (!(eqN 2 0 q14 q19)) = true then (o13 = .inr (.inr false)) else (o13 = .inl (IntKind.i64.wrap (s13 + 1)))) else (o13 = .inr (.inl ()))
def ref17_Same_j1 (a0 : Int × List Int × List (List Int) × List Int × ByteArray × ByteArray) (a1 : Int × List Int × List (List Int) × List Int × ByteArray × ByteArray) (s11 : Bool) (r : Bool) : Prop :=
  if s11 = true then (r = false) else (∃ e13 : (Sum Unit Bool), Loops (ref17_Same_l3 a0 a1) 0 e13 ∧ Aft (fun p25 => ref17_Same_j2 p25 r) (fun p26 => r = p26) e13)
def ref17_Same (a0 : Int × List Int × List (List Int) × List Int × ByteArray × ByteArray) (a1 : Int × List Int × List (List Int) × List Int × ByteArray × ByteArray) (r : Bool) : Prop :=
  if (!(decide (a0.1 = a1.1))) = true then (ref17_Same_j1 a0 a1 true r) else (if (!(eqN 6 0 a0.2.1 a1.2.1)) = true then (ref17_Same_j1 a0 a1 true r) else (if (!(decide ((a0.2.2.1.length : Int) = (a1.2.2.1.length : Int)))) = true then (ref17_Same_j1 a0 a1 true r) else (∃ r27 : Bool, ref01_Ints a0.2.2.2.1 a1.2.2.2.1 r27 ∧ if (!r27) = true then (ref17_Same_j1 a0 a1 true r) else (if (!(decide (a0.2.2.2.2.1 = a1.2.2.2.2.1))) = true then (ref17_Same_j1 a0 a1 true r) else (ref17_Same_j1 a0 a1 (!(decide (a0.2.2.2.2.2 = a1.2.2.2.2.2))) r)))))
def slices_Clone_msg_Point_msg_Point (a0 : List (Int × Int)) (r : (List (Int × Int))) : Prop :=
  ∀ b3 : Bool, (b3 = true → a0 = []) → if b3 = true then (r = []) else ((([] : List (Int × Int)).length + a0.length) * 16 ≤ 140737488355328 ∧ ([] : List (Int × Int)).length + a0.length ≤ 4611686018427387904 ∧ r = (([] : List (Int × Int)) ++ a0))
def slices_Clone_int_int (a0 : List Int) (r : List Int) : Prop :=
  ∀ b3 : Bool, (b3 = true → a0 = []) → if b3 = true then (r = []) else ((([] : List Int).length + a0.length) * 8 ≤ 140737488355328 ∧ ([] : List Int).length + a0.length ≤ 4611686018427387904 ∧ r = (([] : List Int) ++ a0))
def msg_Copy (a0 : Int × List Int × List (Int × Int) × List Int × ByteArray × ByteArray) (r : (Int × List Int × List (Int × Int) × List Int × ByteArray × ByteArray)) : Prop :=
  ∃ r7 : (List (Int × Int)), slices_Clone_msg_Point_msg_Point a0.2.2.1 r7 ∧ ∃ r13 : List Int, slices_Clone_int_int a0.2.2.2.1 r13 ∧ r = (a0.1, a0.2.1, r7, r13, a0.2.2.2.2.1, a0.2.2.2.2.2)
def event_Delivery (a0 : Int) (a1 : Int) (a2 : Int × List Int × List (Int × Int) × List Int × ByteArray × ByteArray) (r : (Int × Int × Int × Int × (Int × List Int × List (Int × Int) × List Int × ByteArray × ByteArray))) : Prop :=
  ∃ r7 : (Int × List Int × List (Int × Int) × List Int × ByteArray × ByteArray), msg_Copy a2 r7 ∧ r = (1, a0, a1, 0, r7)
def law23_Of (a0 : Int × Int × Int × Int × (Int × List Int × List (Int × Int) × List Int × ByteArray × ByteArray)) (r : (Int × Int × Int × Int × (Int × List Int × List (List Int) × List Int × ByteArray × ByteArray))) : Prop :=
  ∃ r7 : (Int × List Int × List (List Int) × List Int × ByteArray × ByteArray), law17_Of a0.2.2.2.2 r7 ∧ r = (a0.1, a0.2.1, a0.2.2.1, a0.2.2.2.1, r7)
def ref23_Same_j1  (s11 : Bool) (r : Bool) : Prop :=
  r = s11
def ref23_Same (a0 : Int × Int × Int × Int × (Int × List Int × List (List Int) × List Int × ByteArray × ByteArray)) (a1 : Int × Int × Int × Int × (Int × List Int × List (List Int) × List Int × ByteArray × ByteArray)) (r : Bool) : Prop :=
  if (decide (a0.1 = a1.1)) = true then (if (decide (a0.2.1 = a1.2.1)) = true then (if (decide (a0.2.2.1 = a1.2.2.1)) = true then (if (decide (a0.2.2.2.1 = a1.2.2.2.1)) = true then (∃ r12 : Bool, ref17_Same a0.2.2.2.2 a1.2.2.2.2 r12 ∧ ref23_Same_j1 r12 r) else (ref23_Same_j1 false r)) else (ref23_Same_j1 false r)) else (ref23_Same_j1 false r)) else (ref23_Same_j1 false r)
def law23_Cut (a0 : Int × Int × Int × Int × (Int × List Int × List (Int × Int) × List Int × ByteArray × ByteArray)) (r : (Int × Int × Int × Int × (Int × List Int × List (Int × Int) × List Int × ByteArray × ByteArray))) : Prop :=
  ∃ r7 : (Int × List Int × List (Int × Int) × List Int × ByteArray × ByteArray), law17_Cut a0.2.2.2.2 r7 ∧ r = (a0.1, a0.2.1, a0.2.2.1, a0.2.2.2.1, r7)
def event_Line (a0 : Int × Int × Int × Int × (Int × List Int × List (Int × Int) × List Int × ByteArray × ByteArray)) (r : ByteArray) : Prop :=
  ∃ r6 : ByteArray, say_Number (IntKind.i64.wrap a0.2.1) r6 ∧ if (decide (a0.1 = 1)) = true then ((bstr [100, 101, 108, 105, 118, 101, 114, 32]).size + r6.size < 4611686018427387904 ∧ ((bstr [100, 101, 108, 105, 118, 101, 114, 32]) ++ r6).size + (bstr [32, 118, 32]).size < 4611686018427387904 ∧ ∃ r12 : ByteArray, say_Number a0.2.2.1 r12 ∧ (((bstr [100, 101, 108, 105, 118, 101, 114, 32]) ++ r6) ++ (bstr [32, 118, 32])).size + r12.size < 4611686018427387904 ∧ ((((bstr [100, 101, 108, 105, 118, 101, 114, 32]) ++ r6) ++ (bstr [32, 118, 32])) ++ r12).size + (bstr [32]).size < 4611686018427387904 ∧ ∃ r18 : ByteArray, say_Line a0.2.2.2.2 r18 ∧ (((((bstr [100, 101, 108, 105, 118, 101, 114, 32]) ++ r6) ++ (bstr [32, 118, 32])) ++ r12) ++ (bstr [32])).size + r18.size < 4611686018427387904 ∧ r = ((((((bstr [100, 101, 108, 105, 118, 101, 114, 32]) ++ r6) ++ (bstr [32, 118, 32])) ++ r12) ++ (bstr [32])) ++ r18)) else (if (decide (a0.1 = 2)) = true then ((bstr [114, 101, 106, 101, 99, 116, 32]).size + r6.size < 4611686018427387904 ∧ ((bstr [114, 101, 106, 101, 99, 116, 32]) ++ r6).size + (bstr [32]).size < 4611686018427387904 ∧ ∃ r26 : ByteArray, event_Word a0.2.2.2.1 r26 ∧ (((bstr [114, 101, 106, 101, 99, 116, 32]) ++ r6) ++ (bstr [32])).size + r26.size < 4611686018427387904 ∧ r = ((((bstr [114, 101, 106, 101, 99, 116, 32]) ++ r6) ++ (bstr [32])) ++ r26)) else (if (decide (a0.1 = 3)) = true then ((bstr [101, 118, 105, 99, 116, 32]).size + r6.size < 4611686018427387904 ∧ r = ((bstr [101, 118, 105, 99, 116, 32]) ++ r6)) else (r = (bstr []))))
def event_Rejection (a0 : Int) (a1 : Int) (r : (Int × Int × Int × Int × (Int × List Int × List (Int × Int) × List Int × ByteArray × ByteArray))) : Prop :=
  r = (2, a0, 0, a1, (0, [0, 0, 0, 0, 0, 0], [], [], (bstr []), (bstr [])))
def event_Eviction (a0 : Int) (r : (Int × Int × Int × Int × (Int × List Int × List (Int × Int) × List Int × ByteArray × ByteArray))) : Prop :=
  r = (3, a0, 0, 0, (0, [0, 0, 0, 0, 0, 0], [], [], (bstr []), (bstr [])))
def law23_known_j1  (s13 : Bool) (r : Bool) : Prop :=
  r = s13
def law23_known  (r : Bool) : Prop :=
  ∃ r1 : (Int × Int × Int × Int × (Int × List Int × List (Int × Int) × List Int × ByteArray × ByteArray)), event_Delivery 7 1 (2, [1, 2, 0, 0, 0, 0], [], [], (bstr []), (bstr [])) r1 ∧ ∃ r9 : ByteArray, event_Line r1 r9 ∧ if (decide (r9 = (bstr [100, 101, 108, 105, 118, 101, 114, 32, 55, 32, 118, 32, 49, 32, 104, 111, 108, 100, 32, 114, 111, 98, 111, 116, 32, 49, 32, 114, 101, 97, 115, 111, 110, 32, 50, 32, 122, 111, 110, 101, 32, 48]))) = true then (∃ r14 : (Int × Int × Int × Int × (Int × List Int × List (Int × Int) × List Int × ByteArray × ByteArray)), event_Rejection 0 11 r14 ∧ ∃ r22 : ByteArray, event_Line r14 r22 ∧ if (decide (r22 = (bstr [114, 101, 106, 101, 99, 116, 32, 48, 32, 115, 117, 109]))) = true then (∃ r26 : (Int × Int × Int × Int × (Int × List Int × List (Int × Int) × List Int × ByteArray × ByteArray)), event_Eviction 5 r26 ∧ ∃ r34 : ByteArray, event_Line r26 r34 ∧ law23_known_j1 (decide (r34 = (bstr [101, 118, 105, 99, 116, 32, 53]))) r) else (law23_known_j1 false r)) else (law23_known_j1 false r)
def ref23_Word_j1  (s7 : Unit) (r : ByteArray) : Prop :=
  r = (bstr [])
def ref23_Word_l2 (a0 : Int) (s8 : Int) (o8 : Sum Int (Sum Unit ByteArray)) : Prop :=
  if (decide (s8 < ([2, 3, 4, 5, 6, 9, 10, 11, 12, 13, 14, 15, 16, 17, 18, 19].length : Int))) = true then (∃ q9 : Int, idx [2, 3, 4, 5, 6, 9, 10, 11, 12, 13, 14, 15, 16, 17, 18, 19] s8 q9 ∧ if (decide (q9 = a0)) = true then (∃ q16 : ByteArray, idx [(bstr [108, 111, 110, 103]), (bstr [102, 111, 114, 109]), (bstr [101, 110, 100]), (bstr [114, 97, 110, 103, 101]), (bstr [109, 97, 110, 121]), (bstr [107, 105, 110, 100]), (bstr [118, 101, 114, 115, 105, 111, 110]), (bstr [115, 117, 109]), (bstr [115, 116, 117, 102, 102]), (bstr [115, 104, 111, 114, 116]), (bstr [115, 101, 101, 110]), (bstr [111, 108, 100]), (bstr [116, 119, 105, 99, 101]), (bstr [109, 101, 101, 116]), (bstr [108, 97, 116, 101]), (bstr [116, 101, 120, 116])] s8 q16 ∧ o8 = .inr (.inr q16)) else (o8 = .inl (IntKind.i64.wrap (s8 + 1)))) else (o8 = .inr (.inl ()))
def ref23_Word (a0 : Int) (r : ByteArray) : Prop :=
  ∃ e8 : (Sum Unit ByteArray), Loops (ref23_Word_l2 a0) 0 e8 ∧ Aft (fun p23 => ref23_Word_j1 p23 r) (fun p24 => r = p24) e8
def ref23_Line (a0 : Int × Int × Int × Int × (Int × List Int × List (List Int) × List Int × ByteArray × ByteArray)) (r : ByteArray) : Prop :=
  ∃ r6 : ByteArray, ref07_Digits (IntKind.i64.wrap a0.2.1) r6 ∧ if (decide (a0.1 = 1)) = true then ((bstr [100, 101, 108, 105, 118, 101, 114, 32]).size + r6.size < 4611686018427387904 ∧ ((bstr [100, 101, 108, 105, 118, 101, 114, 32]) ++ r6).size + (bstr [32, 118, 32]).size < 4611686018427387904 ∧ ∃ r12 : ByteArray, ref07_Digits a0.2.2.1 r12 ∧ (((bstr [100, 101, 108, 105, 118, 101, 114, 32]) ++ r6) ++ (bstr [32, 118, 32])).size + r12.size < 4611686018427387904 ∧ ((((bstr [100, 101, 108, 105, 118, 101, 114, 32]) ++ r6) ++ (bstr [32, 118, 32])) ++ r12).size + (bstr [32]).size < 4611686018427387904 ∧ ∃ r18 : ByteArray, ref20_Line a0.2.2.2.2 r18 ∧ (((((bstr [100, 101, 108, 105, 118, 101, 114, 32]) ++ r6) ++ (bstr [32, 118, 32])) ++ r12) ++ (bstr [32])).size + r18.size < 4611686018427387904 ∧ r = ((((((bstr [100, 101, 108, 105, 118, 101, 114, 32]) ++ r6) ++ (bstr [32, 118, 32])) ++ r12) ++ (bstr [32])) ++ r18)) else (if (decide (a0.1 = 2)) = true then ((bstr [114, 101, 106, 101, 99, 116, 32]).size + r6.size < 4611686018427387904 ∧ ((bstr [114, 101, 106, 101, 99, 116, 32]) ++ r6).size + (bstr [32]).size < 4611686018427387904 ∧ ∃ r26 : ByteArray, ref23_Word a0.2.2.2.1 r26 ∧ (((bstr [114, 101, 106, 101, 99, 116, 32]) ++ r6) ++ (bstr [32])).size + r26.size < 4611686018427387904 ∧ r = ((((bstr [114, 101, 106, 101, 99, 116, 32]) ++ r6) ++ (bstr [32])) ++ r26)) else (if (decide (a0.1 = 3)) = true then ((bstr [101, 118, 105, 99, 116, 32]).size + r6.size < 4611686018427387904 ∧ r = ((bstr [101, 118, 105, 99, 116, 32]) ++ r6)) else (r = (bstr []))))
def event_Same_j1  (s11 : Bool) (r : Bool) : Prop :=
  r = s11
def event_Same (a0 : Int × Int × Int × Int × (Int × List Int × List (Int × Int) × List Int × ByteArray × ByteArray)) (a1 : Int × Int × Int × Int × (Int × List Int × List (Int × Int) × List Int × ByteArray × ByteArray)) (r : Bool) : Prop :=
  if (decide (a0.1 = a1.1)) = true then (if (decide (a0.2.1 = a1.2.1)) = true then (if (decide (a0.2.2.1 = a1.2.2.1)) = true then (if (decide (a0.2.2.2.1 = a1.2.2.2.1)) = true then (∃ r12 : Bool, msg_Same a0.2.2.2.2 a1.2.2.2.2 r12 ∧ event_Same_j1 r12 r) else (event_Same_j1 false r)) else (event_Same_j1 false r)) else (event_Same_j1 false r)) else (event_Same_j1 false r)
def law23_EventLines (a0 : Int × Int × Int × Int × (Int × List Int × List (Int × Int) × List Int × ByteArray × ByteArray)) (a1 : Int × Int × Int × Int × (Int × List Int × List (Int × Int) × List Int × ByteArray × ByteArray)) (a2 : Int) (r : Bool) : Prop :=
  ∃ r11 : (Int × Int × Int × Int × (Int × List Int × List (Int × Int) × List Int × ByteArray × ByteArray)), law23_Cut a0 r11 ∧ ∃ r19 : (Int × Int × Int × Int × (Int × List Int × List (Int × Int) × List Int × ByteArray × ByteArray)), law23_Cut a1 r19 ∧ ∃ r32 : Bool, law23_known r32 ∧ ∃ r37 : ByteArray, (r32 = true → event_Line r11 r37) ∧ ∃ r41 : (Int × Int × Int × Int × (Int × List Int × List (List Int) × List Int × ByteArray × ByteArray)), (r32 = true → law23_Of r11 r41) ∧ ∃ r49 : ByteArray, (r32 = true → ref23_Line r41 r49) ∧ ∃ r54 : Bool, ((r32 && (decide (r37 = r49))) = true → event_Same r11 r19 r54) ∧ ∃ r58 : (Int × Int × Int × Int × (Int × List Int × List (List Int) × List Int × ByteArray × ByteArray)), ((r32 && (decide (r37 = r49))) = true → law23_Of r11 r58) ∧ ∃ r66 : (Int × Int × Int × Int × (Int × List Int × List (List Int) × List Int × ByteArray × ByteArray)), ((r32 && (decide (r37 = r49))) = true → law23_Of r19 r66) ∧ ∃ r74 : Bool, ((r32 && (decide (r37 = r49))) = true → ref23_Same r58 r66 r74) ∧ ∃ r79 : Bool, (((r32 && (decide (r37 = r49))) && (decide (r54 = r74))) = true → event_Same r11 r11 r79) ∧ ∃ r84 : ByteArray, ((((r32 && (decide (r37 = r49))) && (decide (r54 = r74))) && r79) = true → event_Word a2 r84) ∧ ∃ r88 : ByteArray, ((((r32 && (decide (r37 = r49))) && (decide (r54 = r74))) && r79) = true → ref23_Word a2 r88) ∧ r = ((((r32 && (decide (r37 = r49))) && (decide (r54 = r74))) && r79) && (decide (r84 = r88)))
def ref07_Line (a0 : Int × Int × Int × Int × Int) (r : ByteArray) : Prop :=
  ∃ r2 : ByteArray, ref07_Digits a0.1 r2 ∧ (bstr [118, 32]).size + r2.size < 4611686018427387904 ∧ ((bstr [118, 32]) ++ r2).size + (bstr [32, 107, 32]).size < 4611686018427387904 ∧ ∃ r8 : ByteArray, ref07_Digits a0.2.1 r8 ∧ (((bstr [118, 32]) ++ r2) ++ (bstr [32, 107, 32])).size + r8.size < 4611686018427387904 ∧ ((((bstr [118, 32]) ++ r2) ++ (bstr [32, 107, 32])) ++ r8).size + (bstr [32]).size < 4611686018427387904 ∧ ∃ r14 : ByteArray, ref07_Digits (IntKind.i64.wrap a0.2.2.1) r14 ∧ (((((bstr [118, 32]) ++ r2) ++ (bstr [32, 107, 32])) ++ r8) ++ (bstr [32])).size + r14.size < 4611686018427387904 ∧ ((((((bstr [118, 32]) ++ r2) ++ (bstr [32, 107, 32])) ++ r8) ++ (bstr [32])) ++ r14).size + (bstr [32]).size < 4611686018427387904 ∧ ∃ r20 : ByteArray, ref07_Digits a0.2.2.2.1 r20 ∧ (((((((bstr [118, 32]) ++ r2) ++ (bstr [32, 107, 32])) ++ r8) ++ (bstr [32])) ++ r14) ++ (bstr [32])).size + r20.size < 4611686018427387904 ∧ ((((((((bstr [118, 32]) ++ r2) ++ (bstr [32, 107, 32])) ++ r8) ++ (bstr [32])) ++ r14) ++ (bstr [32])) ++ r20).size + (bstr [47]).size < 4611686018427387904 ∧ ∃ r26 : ByteArray, ref07_Digits a0.2.2.2.2 r26 ∧ (((((((((bstr [118, 32]) ++ r2) ++ (bstr [32, 107, 32])) ++ r8) ++ (bstr [32])) ++ r14) ++ (bstr [32])) ++ r20) ++ (bstr [47])).size + r26.size < 4611686018427387904 ∧ r = ((((((((((bstr [118, 32]) ++ r2) ++ (bstr [32, 107, 32])) ++ r8) ++ (bstr [32])) ++ r14) ++ (bstr [32])) ++ r20) ++ (bstr [47])) ++ r26)
def ref08_Line (a0 : (Int × Int × Int × Int × Int) × List Int) (r : ByteArray) : Prop :=
  ∃ r4 : ByteArray, ref07_Line a0.1 r4 ∧ r4.size + (bstr [32]).size < 4611686018427387904 ∧ ∃ r9 : ByteArray, ref07_Digits (a0.2.length : Int) r9 ∧ (r4 ++ (bstr [32])).size + r9.size < 4611686018427387904 ∧ r = ((r4 ++ (bstr [32])) ++ r9)
def ref29_Describe_j1  (s13 : List ByteArray × List Int) (r : List ByteArray × List Int) : Prop :=
  r = (s13.1, s13.2)
def ref29_Describe_j3 (r3 : List (List Int) × List Int × List Int) (s32 : List ByteArray × List Int × Int) (s57 : ByteArray) (o32 : Sum (List ByteArray × List Int × Int) (List ByteArray × List Int)) : Prop :=
  ∃ q58 : Int, idx r3.2.1 s32.2.2 q58 ∧ ∃ r63 : ByteArray, ref07_Digits q58 r63 ∧ r63.size + (bstr [32]).size < 4611686018427387904 ∧ (r63 ++ (bstr [32])).size + s57.size < 4611686018427387904 ∧ (s32.1.length + [((r63 ++ (bstr [32])) ++ s57)].length) * 16 ≤ 140737488355328 ∧ s32.1.length + [((r63 ++ (bstr [32])) ++ s57)].length ≤ 4611686018427387904 ∧ ∃ q84 : List Int, idx r3.1 s32.2.2 q84 ∧ (s32.2.1.length + [(q84.length : Int)].length) * 8 ≤ 140737488355328 ∧ s32.2.1.length + [(q84.length : Int)].length ≤ 4611686018427387904 ∧ o32 = .inl ((s32.1 ++ [((r63 ++ (bstr [32])) ++ s57)]), (s32.2.1 ++ [(q84.length : Int)]), (IntKind.i64.wrap (s32.2.2 + 1)))
def ref29_Describe_l2 (r3 : List (List Int) × List Int × List Int) (s32 : List ByteArray × List Int × Int) (o32 : Sum (List ByteArray × List Int × Int) (List ByteArray × List Int)) : Prop :=
  if (decide (s32.2.2 < (r3.1.length : Int))) = true then (∃ q39 : List Int, idx r3.1 s32.2.2 q39 ∧ ∃ r46 : ((Int × Int × Int × Int × Int) × List Int) × Int, ref08_Unpack q39 r46 ∧ ∃ r53 : ByteArray, ref23_Word r46.2 r53 ∧ if (decide (r46.2 = 0)) = true then (∃ r111 : ByteArray, ref08_Line r46.1 r111 ∧ ref29_Describe_j3 r3 s32 r111 o32) else (ref29_Describe_j3 r3 s32 r53 o32)) else (o32 = .inr (s32.1, s32.2.1))
def ref29_Describe (a0 : List Int) (r : List ByteArray × List Int) : Prop :=
  ∃ r3 : List (List Int) × List Int × List Int, ref06_Split a0 r3 ∧ ∃ e32 : List ByteArray × List Int, Loops (ref29_Describe_l2 r3) ([], [], 0) e32 ∧ (ref29_Describe_j1 e32 r)
def law25_Lines_j1  (s5 : Unit) (r : Bool) : Prop :=
  r = true
def law25_Lines_l2 (a0 : List ByteArray) (a1 : List ByteArray) (s6 : Int) (o6 : Sum Int (Sum Unit Bool)) : Prop :=
  if (decide (s6 < (a0.length : Int))) = true then (∃ q7 : ByteArray, idx a0 s6 q7 ∧ ∃ q12 : ByteArray, idx a1 s6 q12 ∧ if (!(decide (q7 = q12))) = true then (o6 = .inr (.inr false)) else (o6 = .inl (IntKind.i64.wrap (s6 + 1)))) else (o6 = .inr (.inl ()))
def law25_Lines (a0 : List ByteArray) (a1 : List ByteArray) (r : Bool) : Prop :=
  if (!(decide ((a0.length : Int) = (a1.length : Int)))) = true then (r = false) else (∃ e6 : (Sum Unit Bool), Loops (law25_Lines_l2 a0 a1) 0 e6 ∧ Aft (fun p18 => law25_Lines_j1 p18 r) (fun p19 => r = p19) e6)
def law08_Cut (a0 : (Int × Int × Int × Int × Int) × List Int) (r : ((Int × Int × Int × Int × Int) × List Int)) : Prop :=
  0 ≤ (min (a0.2.length : Int) 250) ∧ (min (a0.2.length : Int) 250) ≤ (a0.2.length : Int) ∧ r = (a0.1, ((a0.2.drop (0 : Int).toNat).take (((min (a0.2.length : Int) 250) : Int) - 0).toNat))
def law08_Of (a0 : (Int × Int × Int × Int × Int) × List Int) (r : ((Int × Int × Int × Int × Int) × List Int)) : Prop :=
  r = a0
def ref08_Check (a0 : (Int × Int × Int × Int × Int) × List Int) (r : Int) : Prop :=
  ∃ r4 : Int, ref07_Check a0.1 r4 ∧ if (!(decide (r4 = 0))) = true then (∃ r8 : Int, ref07_Check a0.1 r8 ∧ r = r8) else (if (decide ((a0.2.length : Int) = 0)) = true then (r = 13) else (if (decide (242 < (a0.2.length : Int))) = true then (r = 2) else (r = 0)))
def bytes_Equal (a0 : List Int) (a1 : List Int) (r : Bool) : Prop :=
  r = (decide ((bstr a0) = (bstr a1)))
def frame_Same_j1  (s7 : Bool) (r : Bool) : Prop :=
  r = s7
def frame_Same (a0 : (Int × Int × Int × Int × Int) × List Int) (a1 : (Int × Int × Int × Int × Int) × List Int) (r : Bool) : Prop :=
  if ((decide (a0.1.1 = a1.1.1)) && ((decide (a0.1.2.1 = a1.1.2.1)) && ((decide (a0.1.2.2.1 = a1.1.2.2.1)) && ((decide (a0.1.2.2.2.1 = a1.1.2.2.2.1)) && ((decide (a0.1.2.2.2.2 = a1.1.2.2.2.2)) && true))))) = true then (∃ r8 : Bool, bytes_Equal a0.2 a1.2 r8 ∧ frame_Same_j1 r8 r) else (frame_Same_j1 false r)
def ref08_Same_j1  (s7 : Bool) (r : Bool) : Prop :=
  r = s7
def ref08_Same (a0 : (Int × Int × Int × Int × Int) × List Int) (a1 : (Int × Int × Int × Int × Int) × List Int) (r : Bool) : Prop :=
  if ((decide (a0.1.1 = a1.1.1)) && ((decide (a0.1.2.1 = a1.1.2.1)) && ((decide (a0.1.2.2.1 = a1.1.2.2.1)) && ((decide (a0.1.2.2.2.1 = a1.1.2.2.2.1)) && ((decide (a0.1.2.2.2.2 = a1.1.2.2.2.2)) && true))))) = true then (∃ r8 : Bool, ref01_Same a0.2 a1.2 r8 ∧ ref08_Same_j1 r8 r) else (ref08_Same_j1 false r)
def law08_known_j1  (s33 : Bool) (r : Bool) : Prop :=
  r = s33
def law08_known  (r : Bool) : Prop :=
  ∃ r11 : List Int, frame_New r11 ∧ ∃ r26 : List Int × Int, frame_Codec_Pack r11 [((1, 1, 0, 0, 1), [7])] r26 ∧ if (decide (r26.2 = 0)) = true then (if (decide ((r26.1.length : Int) = 16)) = true then (∃ r34 : Int, frame_Wire 1 r34 ∧ if (decide (r34 = 16)) = true then (∃ r38 : Int, frame_Room 16 r38 ∧ if (decide (r38 = 1)) = true then (∃ r42 : Int, frame_Room 257 r42 ∧ if (decide (r42 = 242)) = true then (∃ r46 : Int, frame_Room 15 r46 ∧ law08_known_j1 (decide (r46 = 0)) r) else (law08_known_j1 false r)) else (law08_known_j1 false r)) else (law08_known_j1 false r)) else (law08_known_j1 false r)) else (law08_known_j1 false r)
def frame_Codec_Frames_1_l1 (S : Type) (Y : (((Int × Int × Int × Int × Int) × List Int) × Int) → S → Bool × S → Prop) (c0 : List Int) (x15 : Int × List Int) (s15 : S) (o15 : Sum S S) : Prop :=
  ∃ r20 : ((Int × Int × Int × Int × Int) × List Int) × Int, frame_Codec_Unpack c0 x15.2 r20 ∧ ∃ y26 : Bool, ∃ u27 : S, Y (r20.1, r20.2) s15 (y26, u27) ∧ if (!y26) = true then (o15 = .inr u27) else (o15 = .inl u27)
def frame_Codec_Frames_1 (c0 : List Int) (c1 : List Int) (S : Type) (Y : (((Int × Int × Int × Int × Int) × List Int) × Int) → S → Bool × S → Prop) (s : S) (r : S × Unit) : Prop :=
  ∃ r8 : (((S : Type) → ((Int × List Int) → S → Bool × S → Prop) → S → S × Unit → Prop)), fence_Segments c1 r8 ∧ ∃ (t15 : Sum S S) (w15 : Unit), r8 (Sum S S) (Yof (frame_Codec_Frames_1_l1 S Y c0)) (.inl s) (t15, w15) ∧ Aft (fun p41 => r = (p41, ())) (fun p36 => r = (p36, ())) t15
def frame_Codec_Frames (a0 : List Int) (a1 : List Int) (r : (((S : Type) → ((((Int × Int × Int × Int × Int) × List Int) × Int) → S → Bool × S → Prop) → S → S × Unit → Prop))) : Prop :=
  r = (frame_Codec_Frames_1 a0 a1)
def ref02_Word_j1  (s1 : List Int) (r : List Int) : Prop :=
  r = s1
def ref02_Word_l2 (a1 : Int) (s11 : Int × List Int × Int) (o11 : Sum (Int × List Int × Int) (List Int)) : Prop :=
  if (decide (s11.2.2 < a1)) = true then ((s11.2.1.length + [(IntKind.u8.wrap (s11.1.tmod 256))].length) * 1 ≤ 140737488355328 ∧ s11.2.1.length + [(IntKind.u8.wrap (s11.1.tmod 256))].length ≤ 4611686018427387904 ∧ o11 = .inl ((IntKind.u32.wrap (s11.1.tdiv 256)), (s11.2.1 ++ [(IntKind.u8.wrap (s11.1.tmod 256))]), (IntKind.i64.wrap (s11.2.2 + 1)))) else (o11 = .inr s11.2.1)
def ref02_Word (a0 : Int) (a1 : Int) (r : List Int) : Prop :=
  ∃ e11 : List Int, Loops (ref02_Word_l2 a1) (a0, [], 0) e11 ∧ (ref02_Word_j1 e11 r)
def ref07_Bytes (a0 : Int × Int × Int × Int × Int) (r : List Int) : Prop :=
  ∃ r8 : List Int, ref02_Word a0.2.2.1 4 r8 ∧ ([(IntKind.u8.wrap a0.1), (IntKind.u8.wrap a0.2.1)].length + r8.length) * 1 ≤ 140737488355328 ∧ [(IntKind.u8.wrap a0.1), (IntKind.u8.wrap a0.2.1)].length + r8.length ≤ 4611686018427387904 ∧ (([(IntKind.u8.wrap a0.1), (IntKind.u8.wrap a0.2.1)] ++ r8).length + [(IntKind.u8.wrap a0.2.2.2.1), (IntKind.u8.wrap a0.2.2.2.2)].length) * 1 ≤ 140737488355328 ∧ ([(IntKind.u8.wrap a0.1), (IntKind.u8.wrap a0.2.1)] ++ r8).length + [(IntKind.u8.wrap a0.2.2.2.1), (IntKind.u8.wrap a0.2.2.2.2)].length ≤ 4611686018427387904 ∧ r = (([(IntKind.u8.wrap a0.1), (IntKind.u8.wrap a0.2.1)] ++ r8) ++ [(IntKind.u8.wrap a0.2.2.2.1), (IntKind.u8.wrap a0.2.2.2.2)])
def ref08_Segment (a0 : (Int × Int × Int × Int × Int) × List Int) (r : List Int) : Prop :=
  ∃ r4 : List Int, ref07_Bytes a0.1 r4 ∧ (r4.length + a0.2.length) * 1 ≤ 140737488355328 ∧ r4.length + a0.2.length ≤ 4611686018427387904 ∧ (([] : List Int).length + (r4 ++ a0.2).length) * 1 ≤ 140737488355328 ∧ ([] : List Int).length + (r4 ++ a0.2).length ≤ 4611686018427387904 ∧ ∃ r38 : Int, ref04_Sum (r4 ++ a0.2) r38 ∧ ∃ r42 : List Int, ref04_Bytes r38 r42 ∧ ((([] : List Int) ++ (r4 ++ a0.2)).length + r42.length) * 1 ≤ 140737488355328 ∧ (([] : List Int) ++ (r4 ++ a0.2)).length + r42.length ≤ 4611686018427387904 ∧ ∃ r57 : List Int, ref05_Encode ((([] : List Int) ++ (r4 ++ a0.2)) ++ r42) r57 ∧ r = r57
def ref08_Wire_j1  (s3 : List Int) (r : List Int) : Prop :=
  r = s3
def ref08_Wire_l2 (a0 : List ((Int × Int × Int × Int × Int) × List Int)) (s13 : List Int × Int) (o13 : Sum (List Int × Int) (List Int)) : Prop :=
  if (decide (s13.2 < (a0.length : Int))) = true then ((s13.1.length + [0].length) * 1 ≤ 140737488355328 ∧ s13.1.length + [0].length ≤ 4611686018427387904 ∧ ∃ q25 : (Int × Int × Int × Int × Int) × List Int, idx a0 s13.2 q25 ∧ ∃ r32 : List Int, ref08_Segment q25 r32 ∧ ((s13.1 ++ [0]).length + r32.length) * 1 ≤ 140737488355328 ∧ (s13.1 ++ [0]).length + r32.length ≤ 4611686018427387904 ∧ (((s13.1 ++ [0]) ++ r32).length + [0].length) * 1 ≤ 140737488355328 ∧ ((s13.1 ++ [0]) ++ r32).length + [0].length ≤ 4611686018427387904 ∧ o13 = .inl ((((s13.1 ++ [0]) ++ r32) ++ [0]), (IntKind.i64.wrap (s13.2 + 1)))) else (o13 = .inr s13.1)
def ref08_Wire (a0 : List ((Int × Int × Int × Int × Int) × List Int)) (r : List Int) : Prop :=
  ∃ e13 : List Int, Loops (ref08_Wire_l2 a0) ([], 0) e13 ∧ (ref08_Wire_j1 e13 r)
def law08_FramePacks_j3  (s32 : Bool) (r : Bool) : Prop :=
  r = s32
def law08_FramePacks_l4 (s13 : (List ((Int × Int × Int × Int × Int) × List Int)) × Int × (List ((Int × Int × Int × Int × Int) × List Int))) (x45 : ((Int × Int × Int × Int × Int) × List Int) × Int) (s45 : Int) (o45 : Sum Int Int) : Prop :=
  ∃ q51 : (Int × Int × Int × Int × Int) × List Int, (((decide ((s13.2.2.length : Int) ≤ s45)) || (!(decide (x45.2 = 0)))) = false → idx s13.2.2 s45 q51) ∧ ∃ r59 : Bool, (((decide ((s13.2.2.length : Int) ≤ s45)) || (!(decide (x45.2 = 0)))) = false → frame_Same x45.1 q51 r59) ∧ if (((decide ((s13.2.2.length : Int) ≤ s45)) || (!(decide (x45.2 = 0)))) || (!r59)) = true then (o45 = .inr s45) else (o45 = .inl (IntKind.i64.wrap (s45 + 1)))
def law08_FramePacks_j5  (s70 : Bool) (r : Bool) : Prop :=
  r = s70
def law08_FramePacks_j2 (r4 : List Int) (s13 : (List ((Int × Int × Int × Int × Int) × List Int)) × Int × (List ((Int × Int × Int × Int × Int) × List Int))) (r25 : List Int × Int) (s31 : Bool) (r : Bool) : Prop :=
  if s31 = true then (∃ r33 : Bool, law08_known r33 ∧ if r33 = true then (if (decide (r25.2 = s13.2.1)) = true then (law08_FramePacks_j3 (decide ((r25.1.length : Int) = 0)) r) else (law08_FramePacks_j3 false r)) else (law08_FramePacks_j3 false r)) else (∃ r38 : (((S : Type) → ((((Int × Int × Int × Int × Int) × List Int) × Int) → S → Bool × S → Prop) → S → S × Unit → Prop)), frame_Codec_Frames r4 r25.1 r38 ∧ ∃ (t45 : Sum Int Int) (w45 : Unit), r38 (Sum Int Int) (Yof (law08_FramePacks_l4 s13)) (.inl 0) (t45, w45) ∧ Aft (fun p67 => ∃ r71 : Bool, law08_known r71 ∧ if r71 = true then (∃ r80 : List Int, ref08_Wire s13.1 r80 ∧ ∃ r86 : Bool, ref01_Same r25.1 r80 r86 ∧ if r86 = true then (law08_FramePacks_j5 (decide (p67 = (s13.2.2.length : Int))) r) else (law08_FramePacks_j5 false r)) else (law08_FramePacks_j5 false r)) (fun p64 => r = false) t45)
def law08_FramePacks_j1 (r4 : List Int) (s13 : (List ((Int × Int × Int × Int × Int) × List Int)) × Int × (List ((Int × Int × Int × Int × Int) × List Int))) (r : Bool) : Prop :=
  ∃ r25 : List Int × Int, frame_Codec_Pack r4 s13.2.2 r25 ∧ if (!(decide (r25.2 = s13.2.1))) = true then (law08_FramePacks_j2 r4 s13 r25 true r) else (law08_FramePacks_j2 r4 s13 r25 (!(decide (s13.2.1 = 0))) r)
def law08_FramePacks_j8 (s90 : (List ((Int × Int × Int × Int × Int) × List Int)) × Int × Int × (List ((Int × Int × Int × Int × Int) × List Int))) (s98 : (List ((Int × Int × Int × Int × Int) × List Int)) × Int × (List ((Int × Int × Int × Int × Int) × List Int))) (o90 : Sum ((List ((Int × Int × Int × Int × Int) × List Int)) × Int × Int × (List ((Int × Int × Int × Int × Int) × List Int))) (Sum ((List ((Int × Int × Int × Int × Int) × List Int)) × Int × (List ((Int × Int × Int × Int × Int) × List Int))) Bool)) : Prop :=
  o90 = .inl (s98.1, s98.2.1, (IntKind.i64.wrap (s90.2.2.1 + 1)), s98.2.2)
def law08_FramePacks_j7 (a0 : List ((Int × Int × Int × Int × Int) × List Int)) (r4 : List Int) (s90 : (List ((Int × Int × Int × Int × Int) × List Int)) × Int × Int × (List ((Int × Int × Int × Int × Int) × List Int))) (s97 : Bool) (o90 : Sum ((List ((Int × Int × Int × Int × Int) × List Int)) × Int × Int × (List ((Int × Int × Int × Int × Int) × List Int))) (Sum ((List ((Int × Int × Int × Int × Int) × List Int)) × Int × (List ((Int × Int × Int × Int × Int) × List Int))) Bool)) : Prop :=
  if s97 = true then (∃ q105 : (Int × Int × Int × Int × Int) × List Int, idx a0 s90.2.2.1 q105 ∧ ∃ r112 : ((Int × Int × Int × Int × Int) × List Int), law08_Cut q105 r112 ∧ (s90.2.2.2.length + [r112].length) * 64 ≤ 140737488355328 ∧ s90.2.2.2.length + [r112].length ≤ 4611686018427387904 ∧ ∃ r127 : ((Int × Int × Int × Int × Int) × List Int), law08_Of r112 r127 ∧ (s90.1.length + [r127].length) * 64 ≤ 140737488355328 ∧ s90.1.length + [r127].length ≤ 4611686018427387904 ∧ ∃ r141 : ((Int × Int × Int × Int × Int) × List Int), law08_Of r112 r141 ∧ ∃ r147 : Int, ref08_Check r141 r147 ∧ ∃ r151 : Int, frame_Codec_Check r4 r112 r151 ∧ ∃ r156 : Bool, ((!(decide (r151 = r147))) = false → frame_Same r112 r112 r156) ∧ ∃ r161 : ByteArray, (((!(decide (r151 = r147))) || (!r156)) = false → frame_Line r112 r161) ∧ ∃ r165 : ((Int × Int × Int × Int × Int) × List Int), (((!(decide (r151 = r147))) || (!r156)) = false → law08_Of r112 r165) ∧ ∃ r171 : ByteArray, (((!(decide (r151 = r147))) || (!r156)) = false → ref08_Line r165 r171) ∧ ∃ q176 : (Int × Int × Int × Int × Int) × List Int, ((((!(decide (r151 = r147))) || (!r156)) || (!(decide (r161 = r171)))) = false → idx (s90.2.2.2 ++ [r112]) 0 q176) ∧ ∃ r185 : Bool, ((((!(decide (r151 = r147))) || (!r156)) || (!(decide (r161 = r171)))) = false → frame_Same r112 q176 r185) ∧ ∃ r189 : ((Int × Int × Int × Int × Int) × List Int), ((((!(decide (r151 = r147))) || (!r156)) || (!(decide (r161 = r171)))) = false → law08_Of r112 r189) ∧ ∃ q195 : (Int × Int × Int × Int × Int) × List Int, ((((!(decide (r151 = r147))) || (!r156)) || (!(decide (r161 = r171)))) = false → idx (s90.1 ++ [r127]) 0 q195) ∧ ∃ r204 : Bool, ((((!(decide (r151 = r147))) || (!r156)) || (!(decide (r161 = r171)))) = false → ref08_Same r189 q195 r204) ∧ if ((((!(decide (r151 = r147))) || (!r156)) || (!(decide (r161 = r171)))) || (!(decide (r185 = r204)))) = true then (o90 = .inr (.inr false)) else (if (decide (s90.2.1 = 0)) = true then (law08_FramePacks_j8 s90 ((s90.1 ++ [r127]), r147, (s90.2.2.2 ++ [r112])) o90) else (law08_FramePacks_j8 s90 ((s90.1 ++ [r127]), s90.2.1, (s90.2.2.2 ++ [r112])) o90))) else (o90 = .inr (.inl (s90.1, s90.2.1, s90.2.2.2)))
def law08_FramePacks_l6 (a0 : List ((Int × Int × Int × Int × Int) × List Int)) (r4 : List Int) (s90 : (List ((Int × Int × Int × Int × Int) × List Int)) × Int × Int × (List ((Int × Int × Int × Int × Int) × List Int))) (o90 : Sum ((List ((Int × Int × Int × Int × Int) × List Int)) × Int × Int × (List ((Int × Int × Int × Int × Int) × List Int))) (Sum ((List ((Int × Int × Int × Int × Int) × List Int)) × Int × (List ((Int × Int × Int × Int × Int) × List Int))) Bool)) : Prop :=
  if (decide (s90.2.2.1 < (a0.length : Int))) = true then (law08_FramePacks_j7 a0 r4 s90 (decide (s90.2.2.1 < 10)) o90) else (law08_FramePacks_j7 a0 r4 s90 false o90)
def law08_FramePacks (a0 : List ((Int × Int × Int × Int × Int) × List Int)) (r : Bool) : Prop :=
  ∃ r4 : List Int, frame_New r4 ∧ ∃ e90 : (Sum ((List ((Int × Int × Int × Int × Int) × List Int)) × Int × (List ((Int × Int × Int × Int × Int) × List Int))) Bool), Loops (law08_FramePacks_l6 a0 r4) ([], 0, 0, []) e90 ∧ Aft (fun p209 => law08_FramePacks_j1 r4 p209 r) (fun p210 => r = p210) e90
def pen_Pen_Raw (a0 : (List Int × Int × Bool)) (a1 : List Int) (r : Int × ((List Int × Int × Bool))) : Prop :=
  if (a0.2.2 || (decide ((IntKind.i64.wrap (a0.2.1 - (a0.1.length : Int))) < (a1.length : Int)))) = true then (r = (2, (a0.1, a0.2.1, true))) else ((a0.1.length + a1.length) * 1 ≤ 140737488355328 ∧ a0.1.length + a1.length ≤ 4611686018427387904 ∧ r = (0, ((a0.1 ++ a1), a0.2.1, a0.2.2)))
def pen_Pen_word (a0 : (List Int × Int × Bool)) (a1 : Int) (a2 : Int) (r : Int × ((List Int × Int × Bool))) : Prop :=
  0 ≤ a2 ∧ a2 ≤ 4 ∧ a2 ≤ 4 ∧ ∃ r13 : Int × ((List Int × Int × Bool)), pen_Pen_Raw a0 (([(IntKind.u8.wrap a1), (IntKind.u8.wrap (ishr .u32 a1 8)), (IntKind.u8.wrap (ishr .u32 a1 16)), (IntKind.u8.wrap (ishr .u32 a1 24))].drop (0 : Int).toNat).take ((a2 : Int) - 0).toNat) r13 ∧ r = (r13.1, r13.2)
def pen_Pen_U32 (a0 : (List Int × Int × Bool)) (a1 : Int) (r : Int × ((List Int × Int × Bool))) : Prop :=
  ∃ r4 : Int × ((List Int × Int × Bool)), pen_Pen_word a0 a1 4 r4 ∧ r = (r4.1, r4.2)
def pen_Pen_Bytes (a0 : (List Int × Int × Bool)) (r : List Int) : Prop :=
  (([] : List Int).length + a0.1.length) * 1 ≤ 140737488355328 ∧ ([] : List Int).length + a0.1.length ≤ 4611686018427387904 ∧ r = (([] : List Int) ++ a0.1)
def ref08_Frames_j1  (s13 : (List ((Int × Int × Int × Int × Int) × List Int)) × List Int) (r : (List ((Int × Int × Int × Int × Int) × List Int)) × List Int) : Prop :=
  r = (s13.1, s13.2)
def ref08_Frames_l2 (r3 : List (List Int) × List Int × List Int) (s32 : (List ((Int × Int × Int × Int × Int) × List Int)) × List Int × Int) (o32 : Sum ((List ((Int × Int × Int × Int × Int) × List Int)) × List Int × Int) ((List ((Int × Int × Int × Int × Int) × List Int)) × List Int)) : Prop :=
  if (decide (s32.2.2 < (r3.1.length : Int))) = true then (∃ q39 : List Int, idx r3.1 s32.2.2 q39 ∧ ∃ r46 : ((Int × Int × Int × Int × Int) × List Int) × Int, ref08_Unpack q39 r46 ∧ (s32.1.length + [r46.1].length) * 64 ≤ 140737488355328 ∧ s32.1.length + [r46.1].length ≤ 4611686018427387904 ∧ (s32.2.1.length + [r46.2].length) * 8 ≤ 140737488355328 ∧ s32.2.1.length + [r46.2].length ≤ 4611686018427387904 ∧ o32 = .inl ((s32.1 ++ [r46.1]), (s32.2.1 ++ [r46.2]), (IntKind.i64.wrap (s32.2.2 + 1)))) else (o32 = .inr (s32.1, s32.2.1))
def ref08_Frames (a0 : List Int) (r : (List ((Int × Int × Int × Int × Int) × List Int)) × List Int) : Prop :=
  ∃ r3 : List (List Int) × List Int × List Int, ref06_Split a0 r3 ∧ ∃ e32 : (List ((Int × Int × Int × Int × Int) × List Int)) × List Int, Loops (ref08_Frames_l2 r3) ([], [], 0) e32 ∧ (ref08_Frames_j1 e32 r)
def law08_FrameStream_l1 (r17 : (List ((Int × Int × Int × Int × Int) × List Int)) × List Int) (x35 : ((Int × Int × Int × Int × Int) × List Int) × Int) (s35 : Int) (o35 : Sum Int Int) : Prop :=
  ∃ q39 : Int, ((decide ((r17.1.length : Int) ≤ s35)) = false → idx r17.2 s35 q39) ∧ ∃ r44 : ((Int × Int × Int × Int × Int) × List Int), (((decide ((r17.1.length : Int) ≤ s35)) || (!(decide (x35.2 = q39)))) = false → law08_Of x35.1 r44) ∧ ∃ q50 : (Int × Int × Int × Int × Int) × List Int, (((decide ((r17.1.length : Int) ≤ s35)) || (!(decide (x35.2 = q39)))) = false → idx r17.1 s35 q50) ∧ ∃ r58 : Bool, (((decide ((r17.1.length : Int) ≤ s35)) || (!(decide (x35.2 = q39)))) = false → ref08_Same r44 q50 r58) ∧ if (((decide ((r17.1.length : Int) ≤ s35)) || (!(decide (x35.2 = q39)))) || (!r58)) = true then (o35 = .inr s35) else (o35 = .inl (IntKind.i64.wrap (s35 + 1)))
def law08_FrameStream_j4  (s79 : Bool) (r : Bool) : Prop :=
  r = s79
def law08_FrameStream_j3 (r17 : (List ((Int × Int × Int × Int × Int) × List Int)) × List Int) (p66 : Int) (s77 : Int) (s78 : Int) (r : Bool) : Prop :=
  ∃ r80 : Bool, law08_known r80 ∧ if r80 = true then (if (decide (p66 = (r17.1.length : Int))) = true then (law08_FrameStream_j4 (decide (s77 = s78)) r) else (law08_FrameStream_j4 false r)) else (law08_FrameStream_j4 false r)
def law08_FrameStream_j5 (a1 : Int) (r17 : (List ((Int × Int × Int × Int × Int) × List Int)) × List Int) (p66 : Int) (s77 : Int) (s84 : Bool) (r : Bool) : Prop :=
  if s84 = true then (law08_FrameStream_j3 r17 p66 s77 (IntKind.i64.wrap (a1 + 1)) r) else (law08_FrameStream_j3 r17 p66 s77 (r17.1.length : Int) r)
def law08_FrameStream_j2 (a1 : Int) (r17 : (List ((Int × Int × Int × Int × Int) × List Int)) × List Int) (p66 : Int) (s77 : Int) (r : Bool) : Prop :=
  if (decide (0 ≤ a1)) = true then (law08_FrameStream_j5 a1 r17 p66 s77 (decide (a1 < (r17.1.length : Int))) r) else (law08_FrameStream_j5 a1 r17 p66 s77 false r)
def law08_FrameStream_l6 (a1 : Int) (x85 : ((Int × Int × Int × Int × Int) × List Int) × Int) (s85 : Int) (o85 : Sum Int Int) : Prop :=
  if (decide ((IntKind.i64.wrap ((IntKind.i64.wrap (s85 + 1)) - 1)) = a1)) = true then (o85 = .inr (IntKind.i64.wrap (s85 + 1))) else (o85 = .inl (IntKind.i64.wrap (s85 + 1)))
def law08_FrameStream (a0 : List Int) (a1 : Int) (r : Bool) : Prop :=
  0 ≤ (min (a0.length : Int) 900) ∧ (min (a0.length : Int) 900) ≤ (a0.length : Int) ∧ ∃ r9 : List Int, frame_New r9 ∧ ∃ r17 : (List ((Int × Int × Int × Int × Int) × List Int)) × List Int, ref08_Frames ((a0.drop (0 : Int).toNat).take (((min (a0.length : Int) 900) : Int) - 0).toNat) r17 ∧ ∃ r28 : (((S : Type) → ((((Int × Int × Int × Int × Int) × List Int) × Int) → S → Bool × S → Prop) → S → S × Unit → Prop)), frame_Codec_Frames r9 ((a0.drop (0 : Int).toNat).take (((min (a0.length : Int) 900) : Int) - 0).toNat) r28 ∧ ∃ (t35 : Sum Int Int) (w35 : Unit), r28 (Sum Int Int) (Yof (law08_FrameStream_l1 r17)) (.inl 0) (t35, w35) ∧ Aft (fun p66 => ∃ r70 : (((S : Type) → ((((Int × Int × Int × Int × Int) × List Int) × Int) → S → Bool × S → Prop) → S → S × Unit → Prop)), frame_Codec_Frames r9 ((a0.drop (0 : Int).toNat).take (((min (a0.length : Int) 900) : Int) - 0).toNat) r70 ∧ ∃ (t85 : Sum Int Int) (w85 : Unit), r70 (Sum Int Int) (Yof (law08_FrameStream_l6 a1)) (.inl 0) (t85, w85) ∧ Aft (fun p91 => law08_FrameStream_j2 a1 r17 p66 p91 r) (fun p88 => law08_FrameStream_j2 a1 r17 p66 p88 r) t85) (fun p63 => r = false) t35
def law07_known_j1  (s9 : Bool) (r : Bool) : Prop :=
  r = s9
def law07_known  (r : Bool) : Prop :=
  ∃ r2 : List Int × Int, head_Bytes (2, 4, 258, 0, 3) r2 ∧ if (decide (r2.2 = 0)) = true then (∃ r17 : Bool, ref01_Same r2.1 [2, 4, 2, 1, 0, 0, 0, 3] r17 ∧ if r17 = true then (∃ r21 : ByteArray, head_Line (2, 4, 77, 0, 3) r21 ∧ law07_known_j1 (decide (r21 = (bstr [118, 32, 50, 32, 107, 32, 52, 32, 55, 55, 32, 48, 47, 51]))) r) else (law07_known_j1 false r)) else (law07_known_j1 false r)
def head_Mates (a0 : Int × Int × Int × Int × Int) (a1 : Int × Int × Int × Int × Int) (r : Bool) : Prop :=
  r = ((decide (a0.1 = a1.1)) && ((decide (a0.2.1 = a1.2.1)) && ((decide (a0.2.2.1 = a1.2.2.1)) && ((decide (a1.2.2.2.1 = a1.2.2.2.1)) && ((decide (a0.2.2.2.2 = a1.2.2.2.2)) && true)))))
def law07_HeadMates_j2  (s5 : Bool) (r : Bool) : Prop :=
  r = s5
def law07_HeadMates_j1 (a0 : Int × Int × Int × Int × Int) (a1 : Int × Int × Int × Int × Int) (s3 : Bool) (r : Bool) : Prop :=
  ∃ r6 : Bool, law07_known r6 ∧ if r6 = true then (∃ r10 : Bool, head_Mates a0 a1 r10 ∧ if (decide (r10 = s3)) = true then (∃ r14 : Bool, head_Mates a1 a0 r14 ∧ if (decide (r14 = s3)) = true then (∃ r18 : Bool, head_Mates a0 (a0.1, a0.2.1, a0.2.2.1, a1.2.2.2.1, a0.2.2.2.2) r18 ∧ law07_HeadMates_j2 r18 r) else (law07_HeadMates_j2 false r)) else (law07_HeadMates_j2 false r)) else (law07_HeadMates_j2 false r)
def law07_HeadMates (a0 : Int × Int × Int × Int × Int) (a1 : Int × Int × Int × Int × Int) (r : Bool) : Prop :=
  if (decide (a0.1 = a1.1)) = true then (if (decide (a0.2.1 = a1.2.1)) = true then (if (decide (a0.2.2.1 = a1.2.2.1)) = true then (law07_HeadMates_j1 a0 a1 (decide (a0.2.2.2.2 = a1.2.2.2.2)) r) else (law07_HeadMates_j1 a0 a1 false r)) else (law07_HeadMates_j1 a0 a1 false r)) else (law07_HeadMates_j1 a0 a1 false r)
def law07_HeadParses_j2  (s29 : Bool) (r : Bool) : Prop :=
  r = s29
def law07_HeadParses_j1 (a0 : List Int) (r7 : (Int × Int × Int × Int × Int) × Int) (s17 : Bool) (r : Bool) : Prop :=
  if s17 = true then (r = false) else (if (!(decide (r7.2 = 0))) = true then (∃ r18 : Bool, law07_known r18 ∧ r = r18) else (∃ r22 : List Int × Int, head_Bytes r7.1 r22 ∧ ∃ r30 : Bool, law07_known r30 ∧ if r30 = true then (if (decide (r22.2 = 0)) = true then (∃ r34 : Bool, ref01_Same r22.1 ((a0.drop (0 : Int).toNat).take (((min (a0.length : Int) 20) : Int) - 0).toNat) r34 ∧ law07_HeadParses_j2 r34 r) else (law07_HeadParses_j2 false r)) else (law07_HeadParses_j2 false r)))
def law07_HeadParses (a0 : List Int) (r : Bool) : Prop :=
  0 ≤ (min (a0.length : Int) 20) ∧ (min (a0.length : Int) 20) ≤ (a0.length : Int) ∧ ∃ r7 : (Int × Int × Int × Int × Int) × Int, head_Parse ((a0.drop (0 : Int).toNat).take (((min (a0.length : Int) 20) : Int) - 0).toNat) r7 ∧ ∃ r12 : (Int × Int × Int × Int × Int) × Int, ref07_Parse ((a0.drop (0 : Int).toNat).take (((min (a0.length : Int) 20) : Int) - 0).toNat) r12 ∧ if (!((decide (r7.1.1 = r12.1.1)) && ((decide (r7.1.2.1 = r12.1.2.1)) && ((decide (r7.1.2.2.1 = r12.1.2.2.1)) && ((decide (r7.1.2.2.2.1 = r12.1.2.2.2.1)) && ((decide (r7.1.2.2.2.2 = r12.1.2.2.2.2)) && true)))))) = true then (law07_HeadParses_j1 a0 r7 true r) else (law07_HeadParses_j1 a0 r7 (!(decide (r7.2 = r12.2))) r)
def head_Last (a0 : Int × Int × Int × Int × Int) (r : Bool) : Prop :=
  r = (decide ((IntKind.i64.wrap (a0.2.2.2.2 - 1)) = a0.2.2.2.1))
def law07_HeadTells_j1  (s26 : Bool) (r : Bool) : Prop :=
  r = s26
def law07_HeadTells (a0 : Int × Int × Int × Int × Int) (r : Bool) : Prop :=
  ∃ r2 : List Int × Int, head_Bytes a0 r2 ∧ ∃ r9 : Int, ref07_Check a0 r9 ∧ ∃ r13 : Int, head_Check a0 r13 ∧ ∃ r17 : ByteArray, (((!(decide (r13 = r9))) || (!(decide (r2.2 = r9)))) = false → head_Line a0 r17) ∧ ∃ r21 : ByteArray, (((!(decide (r13 = r9))) || (!(decide (r2.2 = r9)))) = false → ref07_Line a0 r21) ∧ if (((!(decide (r13 = r9))) || (!(decide (r2.2 = r9)))) || (!(decide (r17 = r21)))) = true then (r = false) else (if (!(decide (r9 = 0))) = true then (∃ r27 : Bool, law07_known r27 ∧ if r27 = true then (law07_HeadTells_j1 (decide ((r2.1.length : Int) = 0)) r) else (law07_HeadTells_j1 false r)) else (∃ r31 : (Int × Int × Int × Int × Int) × Int, head_Parse r2.1 r31 ∧ ∃ r36 : Bool, law07_known r36 ∧ ∃ r40 : List Int, (r36 = true → ref07_Bytes a0 r40) ∧ ∃ r46 : Bool, (r36 = true → ref01_Same r2.1 r40 r46) ∧ ∃ r50 : Bool, (((((r36 && r46) && ((decide (r31.1.1 = a0.1)) && ((decide (r31.1.2.1 = a0.2.1)) && ((decide (r31.1.2.2.1 = a0.2.2.1)) && ((decide (r31.1.2.2.2.1 = a0.2.2.2.1)) && ((decide (r31.1.2.2.2.2 = a0.2.2.2.2)) && true)))))) && (decide (r31.2 = 0))) && (decide ((r2.1.length : Int) = 8))) = true → head_Last a0 r50) ∧ r = (((((r36 && r46) && ((decide (r31.1.1 = a0.1)) && ((decide (r31.1.2.1 = a0.2.1)) && ((decide (r31.1.2.2.1 = a0.2.2.1)) && ((decide (r31.1.2.2.2.1 = a0.2.2.2.1)) && ((decide (r31.1.2.2.2.2 = a0.2.2.2.2)) && true)))))) && (decide (r31.2 = 0))) && (decide ((r2.1.length : Int) = 8))) && (decide (r50 = (decide (a0.2.2.2.1 = (IntKind.i64.wrap (a0.2.2.2.2 - 1)))))))))
end Go.Rel
