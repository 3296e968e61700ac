import Derived.Test.YtemehkcopcjekaaGreatDoorEngQ
/-! The functions as plain relations. -/
set_option linter.unusedVariables false
namespace Go.Rel
open Go Go.Eng
open Go.IntKind (i64 u8 u16 u32 u64)
abbrev TyA := ByteArray × Int × Int × Int × Int × Int × Int
abbrev TyM := Int × List Int × List (Int × Int) × List Int × ByteArray × ByteArray
abbrev TyR := Int × List Int × List (List Int) × List Int × ByteArray × ByteArray
abbrev TyI := Int × Int × Int × Int × List Int
abbrev TyS := Int × (TyM) × (TyI) × List Int
abbrev TyZ := Int × (TyR) × (TyI) × List Int
abbrev K0 := List ByteArray
abbrev K1 := List ByteArray × Int × Int × Int × Int × Int × Int × Int × (List (Int × Int)) × List Int × ByteArray × ByteArray × Int
abbrev K2 := (Int × Int × Int) × (Int × Int) × (List (TyS)) × Int × Int
abbrev K3 := Sum (List ByteArray × Int × Int × Int × Int × Int × Int × Int × (List (Int × Int)) × List Int × ByteArray × ByteArray × Int) (List ByteArray × Int × Int × Int × Int × Int × Int × Int × (List (Int × Int)) × List Int × ByteArray × ByteArray × Int)
abbrev K4 := Int × Int × Int × Int × Int × (List (TyS)) × Int × Int
abbrev K5 := Sum (Int × Bool × Bool × Bool × Bool × Bool × Bool × Bool × Bool × Bool × Bool × Bool × Bool × Bool) (Sum (Bool × Bool × Bool × Bool × Bool × Bool × Bool × Bool × Bool × Bool × Bool × Bool × Bool) Int)
abbrev K6 := Sum Int (Sum Unit Int)
abbrev K7 := List Int × Int
abbrev K8 := Bool × Bool × Bool × Bool × Bool × Bool × Bool × Bool × Bool × Bool × Bool × Bool × Bool
abbrev K9 := Sum (Int × Int × Int × Int × Int × (List (TyS)) × Int × Int) (Int × Int × Int × Int × Int × (List (TyS)) × Int × Int)
abbrev K10 := List Value
abbrev K11 := (Int × Int × Int) × (Int × Int) × Int
abbrev K12 := Sum ((List (TyZ)) × Int × Int × Int × Int × Int × Int) (Sum ((List (TyZ)) × Int × Int × Int × Int × Int) ((Int × Int × Int) × (Int × Int) × (List (TyZ)) × Int × Int))
abbrev K13 := Int × Int × Int × Int × Int × Int × Int × Int × (List (Int × Int)) × List Int × ByteArray × ByteArray
abbrev K14 := (Int × Int × Int) × (Int × Int) × (List (TyZ)) × Int × Int
abbrev K15 := ByteArray × Int
abbrev K16 := Int × Bool × Bool × Bool × Bool × Bool × Bool × Bool × Bool × Bool × Bool × Bool × Bool × Bool
abbrev K17 := Sum (List Int × Int) (Sum (List Int) (List Int × Int))
abbrev K18 := (List (TyZ)) × Int × Int × Int × Int × Int × Int
abbrev K19 := Int × Int × Int × Int × Int × Int × Int × Int × Int × (List (Int × Int)) × List Int × ByteArray × ByteArray × TyI
abbrev K20 := Int × Int × Int
abbrev K21 := Int × Int × Int × Int × Int × Int × Int × Int × Int × (List (Int × Int)) × List Int × ByteArray × ByteArray
abbrev K22 := Int × Int × Int × Int × Int × Int × Int × Int × Int × List (List Int) × List Int × ByteArray × ByteArray
abbrev K23 := Sum ByteArray ByteArray
abbrev K24 := Sum (List ByteArray) Unit
abbrev K25 := Int × Int × Int × Int × Int × Int
abbrev K26 := Int × Int × Int × Int × Int × Int × Int × Int × List (List Int) × List Int × ByteArray × ByteArray
abbrev K27 := Int × Int × Int × Int × Int × Int × Int × (List (Int × Int)) × List Int × ByteArray × ByteArray
abbrev K28 := Int × Int × Int × Int × Int × Int × Int × List (List Int) × List Int × ByteArray × ByteArray
abbrev K29 := Sum (List Int × Int × Int) (Sum (List Int) (ByteArray × Int))
abbrev K30 := Int × Int × Int × Int × Int × Int × (List (Int × Int)) × List Int × ByteArray × ByteArray
abbrev K31 := Sum (List (Int × Int)) (Int × (List (Int × Int)))
abbrev K32 := Sum (List ByteArray × Int × Int) (List ByteArray)
abbrev K33 := Sum Int (Sum Unit Bool)
abbrev K34 := Int × ByteArray
abbrev K35 := Sum (List Int × Bool × Int) (List Int × Bool)
abbrev K36 := Sum (Int × Int) Int
abbrev K37 := Sum (Int × Int × Int × Int) (Sum (Int × Int × Int) ((TyI) × Int))
abbrev K38 := (List (TyZ)) × Int × Int × Int × Int × Int
abbrev K39 := Sum (ByteArray × Int) ByteArray
abbrev K40 := List ByteArray × Int
abbrev K41 := Int × List Int
abbrev K42 := List ByteArray × Int × Int
abbrev K43 := List Int × Int × Int
abbrev K44 := List (Int × Int)
abbrev K45 := Int × Int × Int × Int
abbrev K46 := List Int × Bool × Int
def unicode_utf8_DecodeRuneInString (a0 : ByteArray) (r : Int × Int) : Prop := False ∧ r = r ∧ a0 = a0
def strings_Index (a0 : ByteArray) (a1 : ByteArray) (r : Int) : Prop := ∃ c : Int, bints a1 = [c] ∧ r = (((bints a0).findIdx? (fun x => decide (x = c))).map Int.ofNat).getD (-1)
def strings_splitSeq_1_j1 (S : Type) (Y : ByteArray → S → Bool × S → Prop) (s1 : S × ByteArray) (r : S × ByteArray) : Prop :=
  r = (s1.1, s1.2)
def strings_splitSeq_1_l2 (S : Type) (Y : ByteArray → S → Bool × S → Prop) (s4 : S × ByteArray) (o4 : Sum (S × ByteArray) (Sum (S × ByteArray) (S × ByteArray))) : Prop :=
  if (decide (0 < (s4.2.size : Int))) = true then (∃ r7 : Int × Int, unicode_utf8_DecodeRuneInString s4.2 r7 ∧ 0 ≤ r7.2 ∧ r7.2 ≤ (s4.2.size : Int) ∧ ∃ y13 : Bool, ∃ u14 : S, Y (s4.2.extract 0 r7.2.toNat) s4.1 (y13, u14) ∧ if (!y13) = true then (o4 = .inr (.inr (u14, s4.2))) else (0 ≤ r7.2 ∧ r7.2 ≤ (s4.2.size : Int) ∧ o4 = .inl (u14, (s4.2.extract r7.2.toNat s4.2.size)))) else (o4 = .inr (.inl (s4.1, s4.2)))
def strings_splitSeq_1_j3 (S : Type) (Y : ByteArray → S → Bool × S → Prop) (s24 : S × ByteArray) (r : S × ByteArray) : Prop :=
  ∃ y27 : Bool, ∃ u28 : S, Y s24.2 s24.1 (y27, u28) ∧ r = (u28, s24.2)
def strings_splitSeq_1_l4 (S : Type) (Y : ByteArray → S → Bool × S → Prop) (c0 : ByteArray) (c2 : Int) (s34 : S × ByteArray) (o34 : Sum (S × ByteArray) (Sum (S × ByteArray) (S × ByteArray))) : Prop :=
  ∃ r37 : Int, strings_Index s34.2 c0 r37 ∧ if (decide (r37 < 0)) = true then (o34 = .inr (.inl (s34.1, s34.2))) else (0 ≤ (i64.wrap (r37 + c2)) ∧ (i64.wrap (r37 + c2)) ≤ (s34.2.size : Int) ∧ ∃ y43 : Bool, ∃ u44 : S, Y (s34.2.extract 0 (i64.wrap (r37 + c2)).toNat) s34.1 (y43, u44) ∧ if (!y43) = true then (o34 = .inr (.inr (u44, s34.2))) else (0 ≤ (i64.wrap (r37 + (c0.size : Int))) ∧ (i64.wrap (r37 + (c0.size : Int))) ≤ (s34.2.size : Int) ∧ o34 = .inl (u44, (s34.2.extract (i64.wrap (r37 + (c0.size : Int))).toNat s34.2.size))))
def strings_splitSeq_1 (c0 : ByteArray) (c2 : Int) (c1 : ByteArray) (S : Type) (Y : ByteArray → S → Bool × S → Prop) (s : S) (r : S × ByteArray) : Prop :=
  if (decide ((c0.size : Int) = 0)) = true then (∃ e4 : (Sum (S × ByteArray) (S × ByteArray)), Loops (strings_splitSeq_1_l2 S Y) (s, c1) e4 ∧ Aft (fun p22 => strings_splitSeq_1_j1 S Y p22 r) (fun p23 => r = p23) e4) else (∃ e34 : (Sum (S × ByteArray) (S × ByteArray)), Loops (strings_splitSeq_1_l4 S Y c0 c2) (s, c1) e34 ∧ Aft (fun p52 => strings_splitSeq_1_j3 S Y p52 r) (fun p53 => r = p53) e34)
def strings_splitSeq (a0 : ByteArray) (a1 : ByteArray) (a2 : Int) (r : ((ByteArray → (S : Type) → (ByteArray → S → Bool × S → Prop) → S → S × ByteArray → Prop)) × ByteArray) : Prop :=
  r = ((strings_splitSeq_1 a1 a2), a0)
def strings_SplitSeq (a0 : ByteArray) (a1 : ByteArray) (r : ((ByteArray → (S : Type) → (ByteArray → S → Bool × S → Prop) → S → S × ByteArray → Prop)) × ByteArray) : Prop :=
  ∃ r1 : ((ByteArray → (S : Type) → (ByteArray → S → Bool × S → Prop) → S → S × ByteArray → Prop)) × ByteArray, strings_splitSeq a0 a1 0 r1 ∧ r = (r1.1, r1.2)
def say_Words_1_l1 (S : Type) (Y : (Int × ByteArray) → S → Bool × S → Prop) (x14 : ByteArray) (s14 : S × Int) (o14 : Sum (S × Int) (S × Int)) : Prop :=
  ∃ y17 : Bool, ∃ u18 : S, Y (s14.2, x14) s14.1 (y17, u18) ∧ if (!y17) = true then (o14 = .inr (u18, s14.2)) else (o14 = .inl (u18, (i64.wrap (s14.2 + (i64.wrap ((x14.size : Int) + 1))))))
def say_Words_1 (c0 : ByteArray) (S : Type) (Y : (Int × ByteArray) → S → Bool × S → Prop) (s : S) (r : S × Unit) : Prop :=
  ∃ r3 : ((ByteArray → (S : Type) → (ByteArray → S → Bool × S → Prop) → S → S × ByteArray → Prop)) × ByteArray, strings_SplitSeq c0 (bstr [32]) r3 ∧ ∃ (t14 : Sum (S × Int) (S × Int)) (w14 : ByteArray), r3.1 r3.2 (Sum (S × Int) (S × Int)) (Yof (say_Words_1_l1 S Y)) (.inl (s, 0)) (t14, w14) ∧ Aft (fun p30 => r = (p30.1, ())) (fun p24 => r = (p24.1, ())) t14
def say_Words (a0 : ByteArray) (r : (((S : Type) → ((Int × ByteArray) → S → Bool × S → Prop) → S → S × Unit → Prop))) : Prop :=
  r = (say_Words_1 a0)
def script_word (a0 : Int) (r : ByteArray) : Prop :=
  if (decide (a0 = 1)) = true then (r = (bstr [115, 101, 110, 100])) else (if (decide (a0 = 3)) = true then (r = (bstr [97, 108, 108])) else (if (decide (a0 = 4)) = true then (r = (bstr [99, 104, 117, 110, 107])) else (if (decide (a0 = 5)) = true then (r = (bstr [115, 116, 97, 116, 101])) else (if (decide (a0 = 6)) = true then (r = (bstr [116, 97, 108, 108, 121])) else (r = (bstr []))))))
def internal_stringslite_Index (a0 : ByteArray) (a1 : ByteArray) (r : Int) : Prop := ∃ c : Int, bints a1 = [c] ∧ r = (((bints a0).findIdx? (fun x => decide (x = c))).map Int.ofNat).getD (-1)
def internal_stringslite_Cut (a0 : ByteArray) (a1 : ByteArray) (r : ByteArray × ByteArray × Bool) : Prop :=
  ∃ r1 : Int, internal_stringslite_Index a0 a1 r1 ∧ if (decide (0 ≤ r1)) = true then (0 ≤ r1 ∧ r1 ≤ (a0.size : Int) ∧ 0 ≤ (i64.wrap (r1 + (a1.size : Int))) ∧ (i64.wrap (r1 + (a1.size : Int))) ≤ (a0.size : Int) ∧ r = ((a0.extract 0 r1.toNat), (a0.extract (i64.wrap (r1 + (a1.size : Int))).toNat a0.size), true)) else (r = (a0, (bstr []), false))
def strings_Cut (a0 : ByteArray) (a1 : ByteArray) (r : ByteArray × ByteArray × Bool) : Prop :=
  ∃ r1 : ByteArray × ByteArray × Bool, internal_stringslite_Cut a0 a1 r1 ∧ r = (r1.1, r1.2.1, r1.2.2)
def say_Parse_1 (c0 : K0) (r : ByteArray × Bool × List ByteArray) : Prop :=
  if (decide ((c0.length : Int) = 0)) = true then (r = ((bstr []), false, c0)) else (∃ q3 : ByteArray, idx c0 0 q3 ∧ 1 ≤ (c0.length : Int) ∧ (c0.length : Int) ≤ (c0.length : Int) ∧ r = (q3, true, ((c0.drop (1 : Int).toNat).take (((c0.length : Int) : Int) - 1).toNat)))
def field_Word (a0 : Int) (r : ByteArray) : Prop :=
  if (decide (a0 = 1)) = true then (r = (bstr [109, 111, 118, 101])) else (if (decide (a0 = 2)) = true then (r = (bstr [104, 111, 108, 100])) else (if (decide (a0 = 3)) = true then (r = (bstr [103, 114, 97, 110, 116])) else (if (decide (a0 = 4)) = true then (r = (bstr [112, 111, 115, 101])) else (if (decide (a0 = 5)) = true then (r = (bstr [102, 97, 117, 108, 116])) else (r = (bstr []))))))
def field_Kinds_1_l1 (S : Type) (Y : (Int × ByteArray) → S → Bool × S → Prop) (s1 : S × Int) (o1 : Sum (S × Int) (S × Unit)) : Prop :=
  if (decide (s1.2 ≤ 5)) = true then (∃ r4 : ByteArray, field_Word s1.2 r4 ∧ ∃ y8 : Bool, ∃ u9 : S, Y (s1.2, r4) s1.1 (y8, u9) ∧ if (!y8) = true then (o1 = .inr (u9, ())) else (o1 = .inl (u9, (i64.wrap (s1.2 + 1))))) else (o1 = .inr (s1.1, ()))
def field_Kinds_1  (S : Type) (Y : (Int × ByteArray) → S → Bool × S → Prop) (s : S) (r : S × Unit) : Prop :=
  ∃ e1 : S × Unit, Loops (field_Kinds_1_l1 S Y) (s, 1) e1 ∧ (r = e1)
def field_Kinds  (r : (((S : Type) → ((Int × ByteArray) → S → Bool × S → Prop) → S → S × Unit → Prop))) : Prop :=
  r = (field_Kinds_1)
def field_Kind_l1 (a0 : ByteArray) (x10 : K34) (s10 : Unit) (o10 : Sum Unit Int) : Prop :=
  if (decide (x10.2 = a0)) = true then (o10 = .inr x10.1) else (o10 = .inl ())
def field_Kind (a0 : ByteArray) (r : Int) : Prop :=
  ∃ r3 : (((S : Type) → ((Int × ByteArray) → S → Bool × S → Prop) → S → S × Unit → Prop)), field_Kinds r3 ∧ ∃ (t10 : Sum Unit Int) (w10 : Unit), r3 (Sum Unit Int) (Yof (field_Kind_l1 a0)) (.inl ()) (t10, w10) ∧ Aft (fun p14 => r = 0) (fun p11 => r = p11) t10
def field_robot  (r : (TyA)) : Prop :=
  r = ((bstr [114, 111, 98, 111, 116]), 1, 0, 0, 65535, 1, 0)
def field_Of (a0 : Int) (r : (List (TyA))) : Prop :=
  if (decide (a0 = 1)) = true then (∃ r1 : (TyA), field_robot r1 ∧ r = [r1, ((bstr [115, 112, 101, 101, 100]), 1, 1, 1, 5000, 1, 0), ((bstr [97, 99, 99, 101, 108]), 1, 2, 1, 10000, 2, 500), ((bstr [112, 97, 116, 104]), 3, (-1), 1, 16, 1, 0), ((bstr [116, 97, 103]), 6, (-1), 0, 16, 2, 0)]) else (if (decide (a0 = 2)) = true then (∃ r13 : (TyA), field_robot r13 ∧ r = [r13, ((bstr [114, 101, 97, 115, 111, 110]), 1, 1, 0, 15, 1, 0), ((bstr [122, 111, 110, 101]), 1, 2, 0, 4095, 2, 0)]) else (if (decide (a0 = 3)) = true then (∃ r25 : (TyA), field_robot r25 ∧ r = [r25, ((bstr [122, 111, 110, 101]), 1, 1, 0, 4095, 1, 0), ((bstr [108, 101, 97, 115, 101]), 1, 2, 1, 255, 2, 1), ((bstr [99, 101, 108, 108, 115]), 4, (-1), 1, 32, 1, 0)]) else (if (decide (a0 = 4)) = true then (∃ r37 : (TyA), field_robot r37 ∧ r = [r37, ((bstr [120]), 2, 1, (-1000000), 1000000, 1, 0), ((bstr [121]), 2, 2, (-1000000), 1000000, 1, 0), ((bstr [104, 101, 97, 100, 105, 110, 103]), 1, 3, 0, 35999, 1, 0), ((bstr [98, 97, 116, 116, 101, 114, 121]), 1, 4, 0, 1000, 1, 0), ((bstr [115, 117, 114, 101]), 1, 5, 0, 100, 2, 100)]) else (if (decide (a0 = 5)) = true then (∃ r49 : (TyA), field_robot r49 ∧ r = [r49, ((bstr [99, 111, 100, 101]), 1, 1, 1, 9999, 1, 0), ((bstr [115, 101, 118, 101, 114, 105, 116, 121]), 1, 2, 0, 4, 1, 0), ((bstr [112, 97, 114, 116]), 1, 3, 0, 255, 2, 0), ((bstr [116, 105, 109, 101, 115]), 1, 4, 1, 1000000, 2, 1), ((bstr [116, 101, 120, 116]), 5, (-1), 0, 64, 1, 0)]) else (r = [])))))
def field_All_1_j2 (S : Type) (Y : (TyA) → S → Bool × S → Prop) (s7 : S × Int) (s10 : S) (o7 : Sum (S × Int) (S × Unit)) : Prop :=
  o7 = .inl (s10, (i64.wrap (s7.2 + 1)))
def field_All_1_l1 (S : Type) (Y : (TyA) → S → Bool × S → Prop) (c1 : Int) (r1 : (List (TyA))) (s7 : S × Int) (o7 : Sum (S × Int) (S × Unit)) : Prop :=
  if (decide (s7.2 < (r1.length : Int))) = true then (∃ q13 : TyA, idx r1 s7.2 q13 ∧ if (decide (c1 < q13.t4.2.1)) = true then (field_All_1_j2 S Y s7 s7.1 o7) else (∃ y19 : Bool, ∃ u20 : S, Y q13 s7.1 (y19, u20) ∧ if (!y19) = true then (o7 = .inr (u20, ())) else (field_All_1_j2 S Y s7 u20 o7))) else (o7 = .inr (s7.1, ()))
def field_All_1 (c0 : Int) (c1 : Int) (S : Type) (Y : (TyA) → S → Bool × S → Prop) (s : S) (r : S × Unit) : Prop :=
  ∃ r1 : (List (TyA)), field_Of c0 r1 ∧ ∃ e7 : S × Unit, Loops (field_All_1_l1 S Y c1 r1) (s, 0) e7 ∧ (r = e7)
def field_All (a0 : Int) (a1 : Int) (r : (((S : Type) → ((TyA) → S → Bool × S → Prop) → S → S × Unit → Prop))) : Prop :=
  r = (field_All_1 a0 a1)
def strings_Contains (a0 : ByteArray) (a1 : ByteArray) (r : Bool) : Prop :=
  ∃ r1 : Int, strings_Index a0 a1 r1 ∧ r = (decide (0 ≤ r1))
def strconv_ParseInt (a0 : ByteArray) (a1 : Int) (a2 : Int) (r : Int × Bool) : Prop := a1 = 10 ∧ a2 = 64 ∧ a0.size ≤ 281474976710656 ∧ r = pi64 (bints a0)
def internal_stringslite_HasPrefix_j1  (s1 : Bool) (r : Bool) : Prop :=
  r = s1
def internal_stringslite_HasPrefix (a0 : ByteArray) (a1 : ByteArray) (r : Bool) : Prop :=
  if (decide ((a1.size : Int) ≤ (a0.size : Int))) = true then (0 ≤ (a1.size : Int) ∧ (a1.size : Int) ≤ (a0.size : Int) ∧ internal_stringslite_HasPrefix_j1 (decide ((a0.extract 0 (a1.size : Int).toNat) = a1)) r) else (internal_stringslite_HasPrefix_j1 false r)
def internal_stringslite_TrimPrefix (a0 : ByteArray) (a1 : ByteArray) (r : ByteArray) : Prop :=
  ∃ r1 : Bool, internal_stringslite_HasPrefix a0 a1 r1 ∧ if r1 = true then (0 ≤ (a1.size : Int) ∧ (a1.size : Int) ≤ (a0.size : Int) ∧ r = (a0.extract (a1.size : Int).toNat a0.size)) else (r = a0)
def strings_TrimPrefix (a0 : ByteArray) (a1 : ByteArray) (r : ByteArray) : Prop :=
  ∃ r1 : ByteArray, internal_stringslite_TrimPrefix a0 a1 r1 ∧ r = r1
def strings_trimRightByte_j1  (s1 : ByteArray) (r : ByteArray) : Prop :=
  r = s1
def strings_trimRightByte_j3 (s2 : ByteArray) (s3 : Bool) (o2 : K23) : Prop :=
  if s3 = true then (0 ≤ (i64.wrap ((s2.size : Int) - 1)) ∧ (i64.wrap ((s2.size : Int) - 1)) ≤ (s2.size : Int) ∧ o2 = .inl (s2.extract 0 (i64.wrap ((s2.size : Int) - 1)).toNat)) else (o2 = .inr s2)
def strings_trimRightByte_l2 (a1 : Int) (s2 : ByteArray) (o2 : K23) : Prop :=
  if (decide (0 < (s2.size : Int))) = true then (∃ q6 : Int, idx (bints s2) (i64.wrap ((s2.size : Int) - 1)) q6 ∧ strings_trimRightByte_j3 s2 (decide (q6 = a1)) o2) else (strings_trimRightByte_j3 s2 false o2)
def strings_trimRightByte (a0 : ByteArray) (a1 : Int) (r : ByteArray) : Prop :=
  ∃ e2 : ByteArray, Loops (strings_trimRightByte_l2 a1) a0 e2 ∧ (strings_trimRightByte_j1 e2 r)
def strings_trimLeftByte_j1  (s1 : ByteArray) (r : ByteArray) : Prop :=
  r = s1
def strings_trimLeftByte_j3 (s2 : ByteArray) (s3 : Bool) (o2 : K23) : Prop :=
  if s3 = true then (1 ≤ (s2.size : Int) ∧ o2 = .inl (s2.extract (1 : Int).toNat s2.size)) else (o2 = .inr s2)
def strings_trimLeftByte_l2 (a1 : Int) (s2 : ByteArray) (o2 : K23) : Prop :=
  if (decide (0 < (s2.size : Int))) = true then (∃ q5 : Int, idx (bints s2) 0 q5 ∧ strings_trimLeftByte_j3 s2 (decide (q5 = a1)) o2) else (strings_trimLeftByte_j3 s2 false o2)
def strings_trimLeftByte (a0 : ByteArray) (a1 : Int) (r : ByteArray) : Prop :=
  ∃ e2 : ByteArray, Loops (strings_trimLeftByte_l2 a1) a0 e2 ∧ (strings_trimLeftByte_j1 e2 r)
def strings_makeASCIISet_j1  (s2 : List Bool) (r : List Bool × Bool) : Prop :=
  r = (s2, true)
def strings_makeASCIISet_l2 (a0 : ByteArray) (s3 : Int × List Bool) (o3 : Sum (Int × List Bool) (Sum (List Bool) (List Bool × Bool))) : Prop :=
  if (decide (s3.1 < (a0.size : Int))) = true then (∃ q4 : Int, idx (bints a0) s3.1 q4 ∧ if (decide (128 ≤ q4)) = true then (o3 = .inr (.inr (s3.2, false))) else (0 ≤ q4 ∧ q4 < 256 ∧ o3 = .inl ((i64.wrap (s3.1 + 1)), (putN 256 false s3.2 q4.toNat true)))) else (o3 = .inr (.inl s3.2))
def strings_makeASCIISet (a0 : ByteArray) (r : List Bool × Bool) : Prop :=
  ∃ e3 : (Sum (List Bool) (List Bool × Bool)), Loops (strings_makeASCIISet_l2 a0) (0, (List.replicate 256 false)) e3 ∧ Aft (fun p8 => strings_makeASCIISet_j1 p8 r) (fun p9 => r = p9) e3
def strings_asciiSet_contains (a0 : List Bool) (a1 : Int) (r : Bool) : Prop :=
  0 ≤ a1 ∧ a1 < 256 ∧ r = (a0.getD a1.toNat false)
def strings_trimRightASCII_j1  (s1 : ByteArray) (r : ByteArray) : Prop :=
  r = s1
def strings_trimRightASCII_l2 (a1 : List Bool) (s2 : ByteArray) (o2 : K23) : Prop :=
  if (decide (0 < (s2.size : Int))) = true then (∃ q3 : Int, idx (bints s2) (i64.wrap ((s2.size : Int) - 1)) q3 ∧ ∃ r5 : Bool, strings_asciiSet_contains a1 q3 r5 ∧ if (!r5) = true then (o2 = .inr s2) else (0 ≤ (i64.wrap ((s2.size : Int) - 1)) ∧ (i64.wrap ((s2.size : Int) - 1)) ≤ (s2.size : Int) ∧ o2 = .inl (s2.extract 0 (i64.wrap ((s2.size : Int) - 1)).toNat))) else (o2 = .inr s2)
def strings_trimRightASCII (a0 : ByteArray) (a1 : List Bool) (r : ByteArray) : Prop :=
  ∃ e2 : ByteArray, Loops (strings_trimRightASCII_l2 a1) a0 e2 ∧ (strings_trimRightASCII_j1 e2 r)
def strings_trimLeftASCII_j1  (s1 : ByteArray) (r : ByteArray) : Prop :=
  r = s1
def strings_trimLeftASCII_l2 (a1 : List Bool) (s2 : ByteArray) (o2 : K23) : Prop :=
  if (decide (0 < (s2.size : Int))) = true then (∃ q3 : Int, idx (bints s2) 0 q3 ∧ ∃ r5 : Bool, strings_asciiSet_contains a1 q3 r5 ∧ if (!r5) = true then (o2 = .inr s2) else (1 ≤ (s2.size : Int) ∧ o2 = .inl (s2.extract (1 : Int).toNat s2.size))) else (o2 = .inr s2)
def strings_trimLeftASCII (a0 : ByteArray) (a1 : List Bool) (r : ByteArray) : Prop :=
  ∃ e2 : ByteArray, Loops (strings_trimLeftASCII_l2 a1) a0 e2 ∧ (strings_trimLeftASCII_j1 e2 r)
def unicode_utf8_RuneStart (a0 : Int) (r : Bool) : Prop :=
  r = (!(decide ((iand .u8 a0 192) = 128)))
def unicode_utf8_DecodeLastRuneInString_j2 (a0 : ByteArray) (s4 : Int) (r : Int × Int) : Prop :=
  0 ≤ s4 ∧ s4 ≤ (a0.size : Int) ∧ (a0.size : Int) ≤ (a0.size : Int) ∧ ∃ r8 : Int × Int, unicode_utf8_DecodeRuneInString (a0.extract s4.toNat (a0.size : Int).toNat) r8 ∧ if (!(decide ((i64.wrap (s4 + r8.2)) = (a0.size : Int)))) = true then (r = (65533, 1)) else (r = (r8.1, r8.2))
def unicode_utf8_DecodeLastRuneInString_j1 (a0 : ByteArray) (s3 : Int) (r : Int × Int) : Prop :=
  if (decide (s3 < 0)) = true then (unicode_utf8_DecodeLastRuneInString_j2 a0 0 r) else (unicode_utf8_DecodeLastRuneInString_j2 a0 s3 r)
def unicode_utf8_DecodeLastRuneInString_l3 (a0 : ByteArray) (s12 : Int) (o12 : Sum Int Int) : Prop :=
  if (decide ((max (i64.wrap ((a0.size : Int) - 4)) 0) ≤ s12)) = true then (∃ q13 : Int, idx (bints a0) s12 q13 ∧ ∃ r15 : Bool, unicode_utf8_RuneStart q13 r15 ∧ if r15 = true then (o12 = .inr s12) else (o12 = .inl (i64.wrap (s12 - 1)))) else (o12 = .inr s12)
def unicode_utf8_DecodeLastRuneInString (a0 : ByteArray) (r : Int × Int) : Prop :=
  if (decide ((a0.size : Int) = 0)) = true then (r = (65533, 0)) else (∃ q1 : Int, idx (bints a0) (i64.wrap ((a0.size : Int) - 1)) q1 ∧ if (decide ((IntKind.i32.wrap q1) < 128)) = true then (r = ((IntKind.i32.wrap q1), 1)) else (∃ e12 : Int, Loops (unicode_utf8_DecodeLastRuneInString_l3 a0) (i64.wrap ((i64.wrap ((a0.size : Int) - 1)) - 1)) e12 ∧ (unicode_utf8_DecodeLastRuneInString_j1 a0 e12 r)))
def strings_IndexByte (a0 : ByteArray) (a1 : Int) (r : Int) : Prop := IntOk .u8 a1 ∧ r = (((bints a0).findIdx? (fun x => decide (x = a1))).map Int.ofNat).getD (-1)
def unicode_utf8_ValidRune_j2  (s2 : Bool) (r : Bool) : Prop :=
  if s2 = true then (r = true) else (r = false)
def unicode_utf8_ValidRune_j1 (a0 : Int) (s1 : Bool) (r : Bool) : Prop :=
  if s1 = true then (r = true) else (if (decide (57343 < a0)) = true then (unicode_utf8_ValidRune_j2 (decide (a0 ≤ 1114111)) r) else (unicode_utf8_ValidRune_j2 false r))
def unicode_utf8_ValidRune (a0 : Int) (r : Bool) : Prop :=
  if (decide (0 ≤ a0)) = true then (unicode_utf8_ValidRune_j1 a0 (decide (a0 < 55296)) r) else (unicode_utf8_ValidRune_j1 a0 false r)
def strings_IndexRune_j1 (a0 : ByteArray) (a1 : Int) (s1 : Bool) (r : Int) : Prop :=
  if s1 = true then (∃ r2 : Int, strings_IndexByte a0 (u8.wrap a1) r2 ∧ r = r2) else (if (decide (a1 = 65533)) = true then (False) else (∃ r6 : Bool, unicode_utf8_ValidRune a1 r6 ∧ if (!r6) = true then (r = (-1)) else (False)))
def strings_IndexRune (a0 : ByteArray) (a1 : Int) (r : Int) : Prop :=
  if (decide (0 ≤ a1)) = true then (strings_IndexRune_j1 a0 a1 (decide (a1 < 128)) r) else (strings_IndexRune_j1 a0 a1 false r)
def strings_ContainsRune (a0 : ByteArray) (a1 : Int) (r : Bool) : Prop :=
  ∃ r1 : Int, strings_IndexRune a0 a1 r1 ∧ r = (decide (0 ≤ r1))
def strings_trimRightUnicode_j1  (s1 : ByteArray) (r : ByteArray) : Prop :=
  r = s1
def strings_trimRightUnicode_j3 (a1 : ByteArray) (s2 : ByteArray) (s5 : Int × Int) (o2 : K23) : Prop :=
  ∃ r6 : Bool, strings_ContainsRune a1 s5.1 r6 ∧ if (!r6) = true then (o2 = .inr s2) else (0 ≤ (i64.wrap ((s2.size : Int) - s5.2)) ∧ (i64.wrap ((s2.size : Int) - s5.2)) ≤ (s2.size : Int) ∧ o2 = .inl (s2.extract 0 (i64.wrap ((s2.size : Int) - s5.2)).toNat))
def strings_trimRightUnicode_l2 (a1 : ByteArray) (s2 : ByteArray) (o2 : K23) : Prop :=
  if (decide (0 < (s2.size : Int))) = true then (∃ q3 : Int, idx (bints s2) (i64.wrap ((s2.size : Int) - 1)) q3 ∧ if (decide (128 ≤ (IntKind.i32.wrap q3))) = true then (∃ r12 : Int × Int, unicode_utf8_DecodeLastRuneInString s2 r12 ∧ strings_trimRightUnicode_j3 a1 s2 (r12.1, r12.2) o2) else (strings_trimRightUnicode_j3 a1 s2 ((IntKind.i32.wrap q3), 1) o2)) else (o2 = .inr s2)
def strings_trimRightUnicode (a0 : ByteArray) (a1 : ByteArray) (r : ByteArray) : Prop :=
  ∃ e2 : ByteArray, Loops (strings_trimRightUnicode_l2 a1) a0 e2 ∧ (strings_trimRightUnicode_j1 e2 r)
def strings_trimLeftUnicode_j1  (s1 : ByteArray) (r : ByteArray) : Prop :=
  r = s1
def strings_trimLeftUnicode_l2 (a1 : ByteArray) (s2 : ByteArray) (o2 : K23) : Prop :=
  if (decide (0 < (s2.size : Int))) = true then (∃ r3 : Int × Int, unicode_utf8_DecodeRuneInString s2 r3 ∧ ∃ r7 : Bool, strings_ContainsRune a1 r3.1 r7 ∧ if (!r7) = true then (o2 = .inr s2) else (0 ≤ r3.2 ∧ r3.2 ≤ (s2.size : Int) ∧ o2 = .inl (s2.extract r3.2.toNat s2.size))) else (o2 = .inr s2)
def strings_trimLeftUnicode (a0 : ByteArray) (a1 : ByteArray) (r : ByteArray) : Prop :=
  ∃ e2 : ByteArray, Loops (strings_trimLeftUnicode_l2 a1) a0 e2 ∧ (strings_trimLeftUnicode_j1 e2 r)
def strings_Trim_j2 (a0 : ByteArray) (a1 : ByteArray) (s2 : Bool) (r : ByteArray) : Prop :=
  if s2 = true then (∃ q3 : Int, idx (bints a1) 0 q3 ∧ ∃ r5 : ByteArray, strings_trimRightByte a0 q3 r5 ∧ ∃ q9 : Int, idx (bints a1) 0 q9 ∧ ∃ r11 : ByteArray, strings_trimLeftByte r5 q9 r11 ∧ r = r11) else (∃ r16 : List Bool × Bool, strings_makeASCIISet a1 r16 ∧ if r16.2 = true then (∃ r21 : ByteArray, strings_trimRightASCII a0 r16.1 r21 ∧ ∃ r25 : ByteArray, strings_trimLeftASCII r21 r16.1 r25 ∧ r = r25) else (∃ r29 : ByteArray, strings_trimRightUnicode a0 a1 r29 ∧ ∃ r33 : ByteArray, strings_trimLeftUnicode r29 a1 r33 ∧ r = r33))
def strings_Trim_j1 (a0 : ByteArray) (a1 : ByteArray) (s1 : Bool) (r : ByteArray) : Prop :=
  if s1 = true then (r = a0) else (if (decide ((a1.size : Int) = 1)) = true then (∃ q37 : Int, idx (bints a1) 0 q37 ∧ strings_Trim_j2 a0 a1 (decide (q37 < 128)) r) else (strings_Trim_j2 a0 a1 false r))
def strings_Trim (a0 : ByteArray) (a1 : ByteArray) (r : ByteArray) : Prop :=
  if (decide (a0 = (bstr []))) = true then (strings_Trim_j1 a0 a1 true r) else (strings_Trim_j1 a0 a1 (decide (a1 = (bstr []))) r)
def say_Read_j1 (r1 : Int × Bool) (s11 : Bool) (r : Int × Int) : Prop :=
  if s11 = true then (r = (0, 3)) else (if r1.2 = true then (r = (0, 5)) else (r = (r1.1, 0)))
def say_Read (a0 : ByteArray) (r : Int × Int) : Prop :=
  ∃ r1 : Int × Bool, strconv_ParseInt a0 10 64 r1 ∧ ∃ r7 : ByteArray, strings_TrimPrefix a0 (bstr [45]) r7 ∧ if (decide (r7 = (bstr []))) = true then (say_Read_j1 r1 true r) else (∃ r12 : ByteArray, strings_Trim r7 (bstr [48, 49, 50, 51, 52, 53, 54, 55, 56, 57]) r12 ∧ if (!(decide (r12 = (bstr [])))) = true then (say_Read_j1 r1 true r) else (∃ q16 : Int, idx (bints r7) 0 q16 ∧ if (decide (q16 = 48)) = true then (say_Read_j1 r1 (!(decide (a0 = (bstr [48])))) r) else (say_Read_j1 r1 false r)))
def say_points_j2 (s15 : (List (Int × Int))) (r19 : ByteArray × ByteArray × Bool) (s23 : Bool) (o15 : K31) : Prop :=
  if s23 = true then (o15 = .inr (3, s15)) else (∃ r24 : Int × Int, say_Read r19.1 r24 ∧ if (!(decide (r24.2 = 0))) = true then (o15 = .inr (r24.2, s15)) else (∃ r28 : Int × Int, say_Read r19.2.1 r28 ∧ if (!(decide (r28.2 = 0))) = true then (o15 = .inr (r28.2, s15)) else ((s15.length + [(r24.1, r28.1)].length) * 16 ≤ 140737488355328 ∧ s15.length + [(r24.1, r28.1)].length ≤ 4611686018427387904 ∧ o15 = .inl (s15 ++ [(r24.1, r28.1)]))))
def say_points_l1  (x15 : ByteArray) (s15 : (List (Int × Int))) (o15 : K31) : Prop :=
  ∃ r19 : ByteArray × ByteArray × Bool, strings_Cut x15 (bstr [44]) r19 ∧ if (!r19.2.2) = true then (say_points_j2 s15 r19 true o15) else (∃ r40 : Bool, strings_Contains r19.2.1 (bstr [44]) r40 ∧ say_points_j2 s15 r19 r40 o15)
def say_points (a0 : ByteArray) (r : (List (Int × Int)) × Int) : Prop :=
  ∃ r4 : ((ByteArray → (S : Type) → (ByteArray → S → Bool × S → Prop) → S → S × ByteArray → Prop)) × ByteArray, strings_SplitSeq a0 (bstr [59]) r4 ∧ ∃ (t15 : K31) (w15 : ByteArray), r4.1 r4.2 (Sum (List (Int × Int)) (Int × (List (Int × Int)))) (Yof (say_points_l1)) (.inl []) (t15, w15) ∧ Aft (fun p51 => r = (p51, 0)) (fun p44 => r = ([], p44.1)) t15
def say_cells_l1  (x15 : ByteArray) (s15 : List Int) (o15 : Sum (List Int) (Int × List Int)) : Prop :=
  ∃ r19 : Int × Int, say_Read x15 r19 ∧ if (!(decide (r19.2 = 0))) = true then (o15 = .inr (r19.2, s15)) else ((s15.length + [r19.1].length) * 8 ≤ 140737488355328 ∧ s15.length + [r19.1].length ≤ 4611686018427387904 ∧ o15 = .inl (s15 ++ [r19.1]))
def say_cells (a0 : ByteArray) (r : K7) : Prop :=
  ∃ r4 : ((ByteArray → (S : Type) → (ByteArray → S → Bool × S → Prop) → S → S × ByteArray → Prop)) × ByteArray, strings_SplitSeq a0 (bstr [44]) r4 ∧ ∃ (t15 : Sum (List Int) (Int × List Int)) (w15 : ByteArray), r4.1 r4.2 (Sum (List Int) (Int × List Int)) (Yof (say_cells_l1)) (.inl []) (t15, w15) ∧ Aft (fun p38 => r = (p38, 0)) (fun p31 => r = ([], p31.1)) t15
def say_unhex_j2  (s2 : List Int) (r : K15) : Prop :=
  r = ((bstr s2), 0)
def say_unhex_j4 (s11 : K7) (r17 : Int) (r23 : Int) (s28 : Bool) (o11 : Sum (List Int × Int) (Sum (List Int) (ByteArray × Int))) : Prop :=
  if s28 = true then (o11 = .inr (.inr ((bstr []), 3))) else ((s11.1.length + [(u8.wrap (ior .i64 (ishl .i64 r17 4) r23))].length) * 1 ≤ 140737488355328 ∧ s11.1.length + [(u8.wrap (ior .i64 (ishl .i64 r17 4) r23))].length ≤ 4611686018427387904 ∧ o11 = .inl ((s11.1 ++ [(u8.wrap (ior .i64 (ishl .i64 r17 4) r23))]), (i64.wrap (s11.2 + 2))))
def say_unhex_l3 (a0 : ByteArray) (s11 : K7) (o11 : Sum (List Int × Int) (Sum (List Int) (ByteArray × Int))) : Prop :=
  if (decide (s11.2 < (a0.size : Int))) = true then (∃ q15 : Int, idx (bints a0) s11.2 q15 ∧ ∃ r17 : Int, strings_IndexByte (bstr [48, 49, 50, 51, 52, 53, 54, 55, 56, 57, 97, 98, 99, 100, 101, 102]) q15 r17 ∧ ∃ q21 : Int, idx (bints a0) (i64.wrap (s11.2 + 1)) q21 ∧ ∃ r23 : Int, strings_IndexByte (bstr [48, 49, 50, 51, 52, 53, 54, 55, 56, 57, 97, 98, 99, 100, 101, 102]) q21 r23 ∧ if (decide (r17 < 0)) = true then (say_unhex_j4 s11 r17 r23 true o11) else (say_unhex_j4 s11 r17 r23 (decide (r23 < 0)) o11)) else (o11 = .inr (.inl s11.1))
def say_unhex_j1 (a0 : ByteArray) (s1 : Bool) (r : K15) : Prop :=
  if s1 = true then (r = ((bstr []), 3)) else (∃ e11 : (Sum (List Int) (ByteArray × Int)), Loops (say_unhex_l3 a0) ([], 0) e11 ∧ Aft (fun p37 => say_unhex_j2 p37 r) (fun p38 => r = p38) e11)
def say_unhex (a0 : ByteArray) (r : K15) : Prop :=
  if (decide (a0 = (bstr [45]))) = true then (r = ((bstr []), 0)) else (if (decide (a0 = (bstr []))) = true then (say_unhex_j1 a0 true r) else (say_unhex_j1 a0 (!(decide (((a0.size : Int).tmod 2) = 0))) r))
def say_read_j1 (a0 : TyM) (s6 : K27) (r : Int × (TyM)) : Prop :=
  r = (s6.1, (a0.1, [s6.2.1, s6.2.2.1, s6.2.2.2.1, s6.t4.1, s6.t4.2.1, s6.t4.2.2.1], s6.t4.2.2.2.1, s6.t4.t4.1, s6.t4.t4.2.1, s6.t4.t4.2.2))
def say_read (a0 : TyM) (a1 : TyA) (a2 : ByteArray) (r : Int × (TyM)) : Prop :=
  if (decide (a1.2.1 = 3)) = true then (∃ r11 : (List (Int × Int)) × Int, say_points a2 r11 ∧ say_read_j1 a0 (r11.2, (a0.2.1.getD 0 0), (a0.2.1.getD 1 0), (a0.2.1.getD 2 0), (a0.2.1.getD 3 0), (a0.2.1.getD 4 0), (a0.2.1.getD 5 0), r11.1, a0.2.2.2.1, a0.t4.1, a0.t4.2) r) else (if (decide (a1.2.1 = 4)) = true then (∃ r17 : List Int × Int, say_cells a2 r17 ∧ say_read_j1 a0 (r17.2, (a0.2.1.getD 0 0), (a0.2.1.getD 1 0), (a0.2.1.getD 2 0), (a0.2.1.getD 3 0), (a0.2.1.getD 4 0), (a0.2.1.getD 5 0), a0.2.2.1, r17.1, a0.t4.1, a0.t4.2) r) else (if (decide (a1.2.1 = 5)) = true then (∃ r23 : ByteArray × Int, say_unhex a2 r23 ∧ say_read_j1 a0 (r23.2, (a0.2.1.getD 0 0), (a0.2.1.getD 1 0), (a0.2.1.getD 2 0), (a0.2.1.getD 3 0), (a0.2.1.getD 4 0), (a0.2.1.getD 5 0), a0.2.2.1, a0.2.2.2.1, r23.1, a0.t4.2) r) else (if (decide (a1.2.1 = 6)) = true then (∃ r27 : ByteArray × Int, say_unhex a2 r27 ∧ say_read_j1 a0 (r27.2, (a0.2.1.getD 0 0), (a0.2.1.getD 1 0), (a0.2.1.getD 2 0), (a0.2.1.getD 3 0), (a0.2.1.getD 4 0), (a0.2.1.getD 5 0), a0.2.2.1, a0.2.2.2.1, a0.t4.1, r27.1) r) else (∃ r31 : Int × Int, say_Read a2 r31 ∧ 0 ≤ a1.2.2.1 ∧ a1.2.2.1 < 6 ∧ say_read_j1 a0 (r31.2, ((putN 6 0 a0.2.1 a1.2.2.1.toNat r31.1).getD 0 0), ((putN 6 0 a0.2.1 a1.2.2.1.toNat r31.1).getD 1 0), ((putN 6 0 a0.2.1 a1.2.2.1.toNat r31.1).getD 2 0), ((putN 6 0 a0.2.1 a1.2.2.1.toNat r31.1).getD 3 0), ((putN 6 0 a0.2.1 a1.2.2.1.toNat r31.1).getD 4 0), ((putN 6 0 a0.2.1 a1.2.2.1.toNat r31.1).getD 5 0), a0.2.2.1, a0.2.2.2.1, a0.t4.1, a0.t4.2) r))))
def msg_many (a0 : Int) (a1 : TyA) (r : Int) : Prop :=
  if (decide (a0 < a1.2.2.2.1)) = true then (r = 13) else (if (decide (a1.t4.1 < a0)) = true then (r = 6) else (r = 0))
def msg_path_j1  (s8 : Unit) (r : Int) : Prop :=
  r = 0
def msg_path_j3 (s9 : Int) (s16 : Bool) (o9 : K6) : Prop :=
  if s16 = true then (o9 = .inr (.inr 5)) else (o9 = .inl (i64.wrap (s9 + 1)))
def msg_path_l2 (a0 : K44) (s9 : Int) (o9 : K6) : Prop :=
  if (decide (s9 < (a0.length : Int))) = true then (∃ q10 : Int × Int, idx a0 s9 q10 ∧ if (decide (1000000 < (max q10.1 q10.2))) = true then (msg_path_j3 s9 true o9) else (msg_path_j3 s9 (decide ((min q10.1 q10.2) < (-1000000))) o9)) else (o9 = .inr (.inl ()))
def msg_path (a0 : K44) (a1 : TyA) (r : Int) : Prop :=
  ∃ r4 : Int, msg_many (a0.length : Int) a1 r4 ∧ if (!(decide (r4 = 0))) = true then (r = r4) else (∃ e9 : (Sum Unit Int), Loops (msg_path_l2 a0) 0 e9 ∧ Aft (fun p17 => msg_path_j1 p17 r) (fun p18 => r = p18) e9)
def msg_cells_j1  (s8 : Unit) (r : Int) : Prop :=
  r = 0
def msg_cells_j3 (s9 : Int × Int) (q10 : Int) (s15 : Bool) (o9 : Sum (Int × Int) (Sum Unit Int)) : Prop :=
  if s15 = true then (o9 = .inr (.inr 5)) else (if (decide (q10 ≤ s9.1)) = true then (o9 = .inr (.inr 3)) else (o9 = .inl (q10, (i64.wrap (s9.2 + 1)))))
def msg_cells_l2 (a0 : List Int) (s9 : Int × Int) (o9 : Sum (Int × Int) (Sum Unit Int)) : Prop :=
  if (decide (s9.2 < (a0.length : Int))) = true then (∃ q10 : Int, idx a0 s9.2 q10 ∧ if (decide (q10 < 0)) = true then (msg_cells_j3 s9 q10 true o9) else (msg_cells_j3 s9 q10 (decide (65535 < q10)) o9)) else (o9 = .inr (.inl ()))
def msg_cells (a0 : List Int) (a1 : TyA) (r : Int) : Prop :=
  ∃ r4 : Int, msg_many (a0.length : Int) a1 r4 ∧ if (!(decide (r4 = 0))) = true then (r = r4) else (∃ e9 : (Sum Unit Int), Loops (msg_cells_l2 a0) ((-1), 0) e9 ∧ Aft (fun p16 => msg_cells_j1 p16 r) (fun p17 => r = p17) e9)
def msg_text_j1  (s6 : Unit) (r : Int) : Prop :=
  r = 0
def msg_text_j3 (s12 : Int) (s18 : Bool) (o12 : K6) : Prop :=
  if s18 = true then (o12 = .inr (.inr 19)) else (o12 = .inl (i64.wrap (s12 + 1)))
def msg_text_l2 (a0 : ByteArray) (s12 : Int) (o12 : K6) : Prop :=
  if (decide (s12 < ((bints a0).length : Int))) = true then (∃ q13 : Int, idx (bints a0) s12 q13 ∧ if (decide (q13 < 32)) = true then (msg_text_j3 s12 true o12) else (msg_text_j3 s12 (decide (126 < q13)) o12)) else (o12 = .inr (.inl ()))
def msg_text (a0 : ByteArray) (a1 : TyA) (r : Int) : Prop :=
  ∃ r2 : Int, msg_many (a0.size : Int) a1 r2 ∧ if (!(decide (r2 = 0))) = true then (r = r2) else (a0.size ≤ 4611686018427387904 ∧ ∃ e12 : (Sum Unit Int), Loops (msg_text_l2 a0) 0 e12 ∧ Aft (fun p19 => msg_text_j1 p19 r) (fun p20 => r = p20) e12)
def msg_wrong_j1  (s25 : Bool) (r : Int) : Prop :=
  if s25 = true then (r = 5) else (r = 0)
def msg_wrong (a0 : TyM) (a1 : TyA) (r : Int) : Prop :=
  if (decide (a1.2.1 = 3)) = true then (∃ r7 : Int, msg_path a0.2.2.1 a1 r7 ∧ r = r7) else (if (decide (a1.2.1 = 4)) = true then (∃ r11 : Int, msg_cells a0.2.2.2.1 a1 r11 ∧ r = r11) else (if (decide (a1.2.1 = 5)) = true then (∃ r15 : Int, msg_text a0.t4.1 a1 r15 ∧ r = r15) else (if (decide (a1.2.1 = 6)) = true then (∃ r19 : Int, msg_text a0.t4.2 a1 r19 ∧ r = r19) else (0 ≤ a1.2.2.1 ∧ a1.2.2.1 < 6 ∧ if (decide ((a0.2.1.getD a1.2.2.1.toNat 0) < a1.2.2.2.1)) = true then (msg_wrong_j1 true r) else (msg_wrong_j1 (decide (a1.t4.1 < (a0.2.1.getD a1.2.2.1.toNat 0))) r)))))
def msg_without_j1 (a0 : TyM) (s8 : K30) (r : (TyM)) : Prop :=
  r = (a0.1, [s8.1, s8.2.1, s8.2.2.1, s8.2.2.2.1, s8.t4.1, s8.t4.2.1], s8.t4.2.2.1, s8.t4.2.2.2.1, s8.t4.t4.1, s8.t4.t4.2)
def msg_without (a0 : TyM) (a1 : TyA) (r : (TyM)) : Prop :=
  if (decide (a1.2.1 = 3)) = true then (msg_without_j1 a0 ((a0.2.1.getD 0 0), (a0.2.1.getD 1 0), (a0.2.1.getD 2 0), (a0.2.1.getD 3 0), (a0.2.1.getD 4 0), (a0.2.1.getD 5 0), [], a0.2.2.2.1, a0.t4.1, a0.t4.2) r) else (if (decide (a1.2.1 = 4)) = true then (msg_without_j1 a0 ((a0.2.1.getD 0 0), (a0.2.1.getD 1 0), (a0.2.1.getD 2 0), (a0.2.1.getD 3 0), (a0.2.1.getD 4 0), (a0.2.1.getD 5 0), a0.2.2.1, [], a0.t4.1, a0.t4.2) r) else (if (decide (a1.2.1 = 5)) = true then (msg_without_j1 a0 ((a0.2.1.getD 0 0), (a0.2.1.getD 1 0), (a0.2.1.getD 2 0), (a0.2.1.getD 3 0), (a0.2.1.getD 4 0), (a0.2.1.getD 5 0), a0.2.2.1, a0.2.2.2.1, (bstr []), a0.t4.2) r) else (if (decide (a1.2.1 = 6)) = true then (msg_without_j1 a0 ((a0.2.1.getD 0 0), (a0.2.1.getD 1 0), (a0.2.1.getD 2 0), (a0.2.1.getD 3 0), (a0.2.1.getD 4 0), (a0.2.1.getD 5 0), a0.2.2.1, a0.2.2.2.1, a0.t4.1, (bstr [])) r) else (0 ≤ a1.2.2.1 ∧ a1.2.2.1 < 6 ∧ msg_without_j1 a0 (((putN 6 0 a0.2.1 a1.2.2.1.toNat 0).getD 0 0), ((putN 6 0 a0.2.1 a1.2.2.1.toNat 0).getD 1 0), ((putN 6 0 a0.2.1 a1.2.2.1.toNat 0).getD 2 0), ((putN 6 0 a0.2.1 a1.2.2.1.toNat 0).getD 3 0), ((putN 6 0 a0.2.1 a1.2.2.1.toNat 0).getD 4 0), ((putN 6 0 a0.2.1 a1.2.2.1.toNat 0).getD 5 0), a0.2.2.1, a0.2.2.2.1, a0.t4.1, a0.t4.2) r))))
def slices_Equal_msg_Point_msg_Point_j1  (s5 : Unit) (r : Bool) : Prop :=
  r = true
def slices_Equal_msg_Point_msg_Point_l2 (a0 : K44) (a1 : K44) (s6 : Int) (o6 : K33) : Prop :=
  if (decide (s6 < (a0.length : Int))) = true then (∃ q7 : Int × Int, idx a0 s6 q7 ∧ ∃ q12 : Int × Int, idx a1 s6 q12 ∧ if (!((decide (q7.1 = q12.1)) && ((decide (q7.2 = q12.2)) && true))) = true then (o6 = .inr (.inr false)) else (o6 = .inl (i64.wrap (s6 + 1)))) else (o6 = .inr (.inl ()))
def slices_Equal_msg_Point_msg_Point (a0 : K44) (a1 : K44) (r : Bool) : Prop :=
  if (!(decide ((a0.length : Int) = (a1.length : Int)))) = true then (r = false) else (∃ e6 : (Sum Unit Bool), Loops (slices_Equal_msg_Point_msg_Point_l2 a0 a1) 0 e6 ∧ Aft (fun p18 => slices_Equal_msg_Point_msg_Point_j1 p18 r) (fun p19 => r = p19) e6)
def slices_Equal_int_int_j1  (s5 : Unit) (r : Bool) : Prop :=
  r = true
def slices_Equal_int_int_l2 (a0 : List Int) (a1 : List Int) (s6 : Int) (o6 : K33) : Prop :=
  if (decide (s6 < (a0.length : Int))) = true then (∃ q7 : Int, idx a0 s6 q7 ∧ ∃ q12 : Int, idx a1 s6 q12 ∧ if (!(decide (q7 = q12))) = true then (o6 = .inr (.inr false)) else (o6 = .inl (i64.wrap (s6 + 1)))) else (o6 = .inr (.inl ()))
def slices_Equal_int_int (a0 : List Int) (a1 : List Int) (r : Bool) : Prop :=
  if (!(decide ((a0.length : Int) = (a1.length : Int)))) = true then (r = false) else (∃ e6 : (Sum Unit Bool), Loops (slices_Equal_int_int_l2 a0 a1) 0 e6 ∧ Aft (fun p18 => slices_Equal_int_int_j1 p18 r) (fun p19 => r = p19) e6)
def msg_Same_j1  (s11 : Bool) (r : Bool) : Prop :=
  r = s11
def msg_Same (a0 : TyM) (a1 : TyM) (r : Bool) : Prop :=
  if (decide (a0.1 = a1.1)) = true then (if (eqN 6 0 a0.2.1 a1.2.1) = true then (∃ r12 : Bool, slices_Equal_msg_Point_msg_Point a0.2.2.1 a1.2.2.1 r12 ∧ if r12 = true then (∃ r16 : Bool, slices_Equal_int_int a0.2.2.2.1 a1.2.2.2.1 r16 ∧ if r16 = true then (if (decide (a0.t4.1 = a1.t4.1)) = true then (msg_Same_j1 (decide (a0.t4.2 = a1.t4.2)) r) else (msg_Same_j1 false r)) else (msg_Same_j1 false r)) else (msg_Same_j1 false r)) else (msg_Same_j1 false r)) else (msg_Same_j1 false r)
def msg_Check_j2 (s8 : K13) (s13 : Bool) (r : Int) : Prop :=
  if s13 = true then (r = 3) else (r = s8.1)
def msg_Check_j1 (a0 : TyM) (s8 : K13) (r : Int) : Prop :=
  if (decide (s8.1 = 0)) = true then (∃ r14 : Bool, msg_Same (s8.2.1, [s8.2.2.1, s8.2.2.2.1, s8.t4.1, s8.t4.2.1, s8.t4.2.2.1, s8.t4.2.2.2.1], s8.t4.t4.1, s8.t4.t4.2.1, s8.t4.t4.2.2.1, s8.t4.t4.2.2.2) (a0.1, (List.replicate 6 0), [], [], (bstr []), (bstr [])) r14 ∧ msg_Check_j2 s8 (!r14) r) else (msg_Check_j2 s8 false r)
def msg_Check_l3 (a0 : TyM) (r18 : (List (TyA))) (s24 : K21) (o24 : Sum (Int × Int × Int × Int × Int × Int × Int × Int × Int × (List (Int × Int)) × List Int × ByteArray × ByteArray) (Int × Int × Int × Int × Int × Int × Int × Int × (List (Int × Int)) × List Int × ByteArray × ByteArray)) : Prop :=
  if (decide (s24.2.1 < (r18.length : Int))) = true then (∃ q29 : TyA, idx r18 s24.2.1 q29 ∧ ∃ r35 : Int, msg_wrong a0 q29 r35 ∧ if (!(decide (r35 = 0))) = true then (o24 = .inr (r35, s24.2.2.1, s24.2.2.2.1, s24.t4.1, s24.t4.2.1, s24.t4.2.2.1, s24.t4.2.2.2.1, s24.t4.t4.1, s24.t4.t4.2.1, s24.t4.t4.2.2.1, s24.t4.t4.2.2.2.1, s24.t4.t4.t4)) else (∃ r39 : (TyM), msg_without (s24.2.2.1, [s24.2.2.2.1, s24.t4.1, s24.t4.2.1, s24.t4.2.2.1, s24.t4.2.2.2.1, s24.t4.t4.1], s24.t4.t4.2.1, s24.t4.t4.2.2.1, s24.t4.t4.2.2.2.1, s24.t4.t4.t4) q29 r39 ∧ o24 = .inl (r35, (i64.wrap (s24.2.1 + 1)), r39.1, (r39.2.1.getD 0 0), (r39.2.1.getD 1 0), (r39.2.1.getD 2 0), (r39.2.1.getD 3 0), (r39.2.1.getD 4 0), (r39.2.1.getD 5 0), r39.2.2.1, r39.2.2.2.1, r39.t4.1, r39.t4.2))) else (o24 = .inr (s24.1, s24.2.2.1, s24.2.2.2.1, s24.t4.1, s24.t4.2.1, s24.t4.2.2.1, s24.t4.2.2.2.1, s24.t4.t4.1, s24.t4.t4.2.1, s24.t4.t4.2.2.1, s24.t4.t4.2.2.2.1, s24.t4.t4.t4))
def msg_Check (a0 : TyM) (r : Int) : Prop :=
  ∃ r18 : (List (TyA)), field_Of a0.1 r18 ∧ ∃ e24 : Int × Int × Int × Int × Int × Int × Int × Int × (List (Int × Int)) × List Int × ByteArray × ByteArray, Loops (msg_Check_l3 a0 r18) (9, 0, a0.1, (a0.2.1.getD 0 0), (a0.2.1.getD 1 0), (a0.2.1.getD 2 0), (a0.2.1.getD 3 0), (a0.2.1.getD 4 0), (a0.2.1.getD 5 0), a0.2.2.1, a0.2.2.2.1, a0.t4.1, a0.t4.2) e24 ∧ (msg_Check_j1 a0 e24 r)
def say_Parse_l1  (x10 : K34) (s10 : K0) (o10 : K24) : Prop :=
  (s10.length + [x10.2].length) * 16 ≤ 140737488355328 ∧ s10.length + [x10.2].length ≤ 4611686018427387904 ∧ o10 = .inl (s10 ++ [x10.2])
def say_Parse_j3  (s46 : K1) (r : (TyM) × Int) : Prop :=
  if (!(decide (s46.t4.t4.t4 = 0))) = true then (r = ((0, [0, 0, 0, 0, 0, 0], [], [], (bstr []), (bstr [])), s46.t4.t4.t4)) else (if (decide (0 < (s46.1.length : Int))) = true then (r = ((0, [0, 0, 0, 0, 0, 0], [], [], (bstr []), (bstr [])), 6)) else (∃ r54 : Int, msg_Check (s46.2.1, [s46.2.2.1, s46.2.2.2.1, s46.t4.1, s46.t4.2.1, s46.t4.2.2.1, s46.t4.2.2.2.1], s46.t4.t4.1, s46.t4.t4.2.1, s46.t4.t4.2.2.1, s46.t4.t4.2.2.2.1) r54 ∧ if (!(decide (r54 = 0))) = true then (r = ((0, [0, 0, 0, 0, 0, 0], [], [], (bstr []), (bstr [])), r54)) else (r = ((s46.2.1, [s46.2.2.1, s46.2.2.2.1, s46.t4.1, s46.t4.2.1, s46.t4.2.2.1, s46.t4.2.2.2.1], s46.t4.t4.1, s46.t4.t4.2.1, s46.t4.t4.2.2.1, s46.t4.t4.2.2.2.1), 0))))
def say_Parse_l4  (x65 : (TyA)) (s65 : K1) (o65 : K3) : Prop :=
  ∃ r73 : ByteArray × Bool × List ByteArray, say_Parse_1 s65.1 r73 ∧ if (!r73.2.1) = true then (o65 = .inr (r73.2.2, s65.2.1, s65.2.2.1, s65.2.2.2.1, s65.t4.1, s65.t4.2.1, s65.t4.2.2.1, s65.t4.2.2.2.1, s65.t4.t4.1, s65.t4.t4.2.1, s65.t4.t4.2.2.1, s65.t4.t4.2.2.2.1, 13)) else (if (!(decide (r73.1 = x65.1))) = true then (o65 = .inr (r73.2.2, s65.2.1, s65.2.2.1, s65.2.2.2.1, s65.t4.1, s65.t4.2.1, s65.t4.2.2.1, s65.t4.2.2.2.1, s65.t4.t4.1, s65.t4.t4.2.1, s65.t4.t4.2.2.1, s65.t4.t4.2.2.2.1, 3)) else (∃ r79 : ByteArray × Bool × List ByteArray, say_Parse_1 r73.2.2 r79 ∧ if (!r79.2.1) = true then (o65 = .inr (r79.2.2, s65.2.1, s65.2.2.1, s65.2.2.2.1, s65.t4.1, s65.t4.2.1, s65.t4.2.2.1, s65.t4.2.2.2.1, s65.t4.t4.1, s65.t4.t4.2.1, s65.t4.t4.2.2.1, s65.t4.t4.2.2.2.1, 13)) else (∃ r85 : Int × (TyM), say_read (s65.2.1, [s65.2.2.1, s65.2.2.2.1, s65.t4.1, s65.t4.2.1, s65.t4.2.2.1, s65.t4.2.2.2.1], s65.t4.t4.1, s65.t4.t4.2.1, s65.t4.t4.2.2.1, s65.t4.t4.2.2.2.1) x65 r79.1 r85 ∧ if (!(decide (r85.1 = 0))) = true then (o65 = .inr (r79.2.2, r85.2.1, (r85.2.2.1.getD 0 0), (r85.2.2.1.getD 1 0), (r85.2.2.1.getD 2 0), (r85.2.2.1.getD 3 0), (r85.2.2.1.getD 4 0), (r85.2.2.1.getD 5 0), r85.2.2.2.1, r85.t4.1, r85.t4.2.1, r85.t4.2.2, r85.1)) else (o65 = .inl (r79.2.2, r85.2.1, (r85.2.2.1.getD 0 0), (r85.2.2.1.getD 1 0), (r85.2.2.1.getD 2 0), (r85.2.2.1.getD 3 0), (r85.2.2.1.getD 4 0), (r85.2.2.1.getD 5 0), r85.2.2.2.1, r85.t4.1, r85.t4.2.1, r85.t4.2.2, r85.1)))))
def say_Parse_j2 (r33 : ByteArray × Bool × List ByteArray) (r39 : Int) (s45 : Int) (r : (TyM) × Int) : Prop :=
  ∃ r58 : (((S : Type) → ((TyA) → S → Bool × S → Prop) → S → S × Unit → Prop)), field_All r39 2 r58 ∧ ∃ (t65 : K3) (w65 : Unit), r58 (Sum (List ByteArray × Int × Int × Int × Int × Int × Int × Int × (List (Int × Int)) × List Int × ByteArray × ByteArray × Int) (List ByteArray × Int × Int × Int × Int × Int × Int × Int × (List (Int × Int)) × List Int × ByteArray × ByteArray × Int)) (Yof (say_Parse_l4)) (.inl (r33.2.2, r39, 0, 0, 0, 0, 0, 0, [], [], (bstr []), (bstr []), s45)) (t65, w65) ∧ Aft (fun p102 => say_Parse_j3 (p102.1, p102.2.1, p102.2.2.1, p102.2.2.2.1, p102.t4.1, p102.t4.2.1, p102.t4.2.2.1, p102.t4.2.2.2.1, p102.t4.t4.1, p102.t4.t4.2.1, p102.t4.t4.2.2.1, p102.t4.t4.2.2.2.1, p102.t4.t4.t4) r) (fun p93 => say_Parse_j3 (p93.1, p93.2.1, p93.2.2.1, p93.2.2.2.1, p93.t4.1, p93.t4.2.1, p93.t4.2.2.1, p93.t4.2.2.2.1, p93.t4.t4.1, p93.t4.t4.2.1, p93.t4.t4.2.2.1, p93.t4.t4.2.2.2.1, p93.t4.t4.t4) r) t65
def say_Parse (a0 : ByteArray) (r : (TyM) × Int) : Prop :=
  ∃ r3 : (((S : Type) → ((Int × ByteArray) → S → Bool × S → Prop) → S → S × Unit → Prop)), say_Words a0 r3 ∧ ∃ (t10 : K24) (w10 : Unit), r3 (Sum (List ByteArray) Unit) (Yof (say_Parse_l1)) (.inl []) (t10, w10) ∧ Aft (fun p22 => ∃ r33 : ByteArray × Bool × List ByteArray, say_Parse_1 p22 r33 ∧ ∃ r39 : Int, field_Kind r33.1 r39 ∧ if (decide (r39 = 0)) = true then (say_Parse_j2 r33 r39 9 r) else (say_Parse_j2 r33 r39 0 r)) (fun _ => True) t10
def noise_word (a0 : Int) (r : K15) : Prop :=
  if (decide (a0 = 1)) = true then (r = ((bstr [119, 104, 111, 108, 101]), 1)) else (if (decide (a0 = 2)) = true then (r = ((bstr [99, 117, 116]), 3)) else (if (decide (a0 = 3)) = true then (r = ((bstr [116, 117, 114, 110]), 3)) else (if (decide (a0 = 4)) = true then (r = ((bstr [106, 117, 110, 107]), 0)) else (r = ((bstr []), 0)))))
def noise_hex_j1  (s3 : List Int) (r : ByteArray) : Prop :=
  r = (bstr s3)
def noise_hex_l2 (a0 : List Int) (s12 : K7) (o12 : Sum (List Int × Int) (List Int)) : Prop :=
  if (decide (s12.2 < (a0.length : Int))) = true then (∃ q16 : Int, idx a0 s12.2 q16 ∧ ∃ q21 : Int, idx (bints (bstr [48, 49, 50, 51, 52, 53, 54, 55, 56, 57, 97, 98, 99, 100, 101, 102])) (ishr .u8 q16 4) q21 ∧ ∃ q23 : Int, idx (bints (bstr [48, 49, 50, 51, 52, 53, 54, 55, 56, 57, 97, 98, 99, 100, 101, 102])) (iand .u8 q16 15) q23 ∧ (s12.1.length + [q21, q23].length) * 1 ≤ 140737488355328 ∧ s12.1.length + [q21, q23].length ≤ 4611686018427387904 ∧ o12 = .inl ((s12.1 ++ [q21, q23]), (i64.wrap (s12.2 + 1)))) else (o12 = .inr s12.1)
def noise_hex (a0 : List Int) (r : ByteArray) : Prop :=
  if (decide ((a0.length : Int) = 0)) = true then (r = (bstr [45])) else (∃ e12 : List Int, Loops (noise_hex_l2 a0) ([], 0) e12 ∧ (noise_hex_j1 e12 r))
def strconv_Itoa (a0 : Int) (r : ByteArray) : Prop := IntOk .i64 a0 ∧ r = bstr (decI a0)
def say_Number (a0 : Int) (r : ByteArray) : Prop :=
  ∃ r1 : ByteArray, strconv_Itoa a0 r1 ∧ r = r1
def noise_Line_j1  (s14 : ByteArray) (r : ByteArray) : Prop :=
  r = s14
def noise_Line_j3 (s15 : K15) (s16 : ByteArray) (o15 : K39) : Prop :=
  o15 = .inl (s16, (i64.wrap (s15.2 + 1)))
def noise_Line_l2 (a0 : TyI) (r4 : K15) (s15 : K15) (o15 : K39) : Prop :=
  if (decide (s15.2 < 3)) = true then (0 ≤ s15.2 ∧ s15.2 < 3 ∧ if (decide (s15.2 < r4.2)) = true then (∃ r19 : ByteArray, say_Number ([a0.2.1, a0.2.2.1, a0.2.2.2.1].getD s15.2.toNat 0) r19 ∧ (bstr [32]).size + r19.size < 4611686018427387904 ∧ s15.1.size + ((bstr [32]) ++ r19).size < 4611686018427387904 ∧ noise_Line_j3 s15 (s15.1 ++ ((bstr [32]) ++ r19)) o15) else (noise_Line_j3 s15 s15.1 o15)) else (o15 = .inr s15.1)
def noise_Line (a0 : TyI) (r : ByteArray) : Prop :=
  ∃ r4 : ByteArray × Int, noise_word a0.1 r4 ∧ if (decide (r4.1 = (bstr []))) = true then (r = (bstr [])) else (if (decide (r4.2 = 0)) = true then (r4.1.size + (bstr [32]).size < 4611686018427387904 ∧ ∃ r9 : ByteArray, noise_hex a0.t4 r9 ∧ (r4.1 ++ (bstr [32])).size + r9.size < 4611686018427387904 ∧ r = ((r4.1 ++ (bstr [32])) ++ r9)) else (∃ e15 : ByteArray, Loops (noise_Line_l2 a0 r4) (r4.1, 0) e15 ∧ (noise_Line_j1 e15 r)))
def script_Check_1_j1  (s1 : Bool) (r : Bool) : Prop :=
  r = s1
def script_Check_1 (a0 : Int) (r : Bool) : Prop :=
  if (decide (a0 < 0)) = true then (script_Check_1_j1 true r) else (script_Check_1_j1 (decide (1000 < a0)) r)
def slices_IndexFunc_int_int__script_Check_1_j1  (s3 : Unit) (r : Int) : Prop :=
  r = (-1)
def slices_IndexFunc_int_int__script_Check_1_l2 (a0 : List Int) (s4 : Int) (o4 : K6) : Prop :=
  if (decide (s4 < (a0.length : Int))) = true then (∃ q5 : Int, idx a0 s4 q5 ∧ ∃ r10 : Bool, script_Check_1 q5 r10 ∧ if r10 = true then (o4 = .inr (.inr s4)) else (o4 = .inl (i64.wrap (s4 + 1)))) else (o4 = .inr (.inl ()))
def slices_IndexFunc_int_int__script_Check_1 (a0 : List Int) (r : Int) : Prop :=
  ∃ e4 : (Sum Unit Int), Loops (slices_IndexFunc_int_int__script_Check_1_l2 a0) 0 e4 ∧ Aft (fun p14 => slices_IndexFunc_int_int__script_Check_1_j1 p14 r) (fun p15 => r = p15) e4
def slices_ContainsFunc_int_int__script_Check_1 (a0 : List Int) (r : Bool) : Prop :=
  ∃ r3 : Int, slices_IndexFunc_int_int__script_Check_1 a0 r3 ∧ r = (decide (0 ≤ r3))
def script_Check_j1  (s10 : Unit) (r : Int) : Prop :=
  r = 0
def script_Check_j2  (s23 : Bool) (r : Int) : Prop :=
  if s23 = true then (script_Check_j1 () r) else (r = 9)
def script_Check (a0 : TyS) (r : Int) : Prop :=
  if (decide (a0.1 = 1)) = true then (∃ r11 : Int, msg_Check a0.2.1 r11 ∧ r = r11) else (if (decide (a0.1 = 2)) = true then (∃ r15 : ByteArray, noise_Line a0.2.2.1 r15 ∧ if (decide (r15 = (bstr []))) = true then (r = 9) else (script_Check_j1 () r)) else (if (decide (a0.1 = 4)) = true then (if (decide (16 < (a0.2.2.2.length : Int))) = true then (r = 6) else (∃ r19 : Bool, slices_ContainsFunc_int_int__script_Check_1 a0.2.2.2 r19 ∧ if r19 = true then (r = 5) else (script_Check_j1 () r))) else (if (decide (a0.1 = 3)) = true then (script_Check_j2 (decide (a0.1 = 3)) r) else (if (decide (a0.1 = 5)) = true then (script_Check_j2 (decide (a0.1 = 5)) r) else (script_Check_j2 (decide (a0.1 = 6)) r)))))
def script_chunk_j1  (s5 : List Int) (r : (TyS) × Int) : Prop :=
  ∃ r13 : Int, script_Check (4, (0, [0, 0, 0, 0, 0, 0], [], [], (bstr []), (bstr [])), (0, 0, 0, 0, []), s5) r13 ∧ r = ((4, (0, [0, 0, 0, 0, 0, 0], [], [], (bstr []), (bstr [])), (0, 0, 0, 0, []), s5), r13)
def script_chunk_l2 (a0 : K0) (s18 : K41) (o18 : Sum (Int × List Int) (Sum (List Int) ((TyS) × Int))) : Prop :=
  if (decide (s18.1 < (a0.length : Int))) = true then (∃ q22 : ByteArray, idx a0 s18.1 q22 ∧ ∃ r27 : Int × Int, say_Read q22 r27 ∧ if (!(decide (r27.2 = 0))) = true then (o18 = .inr (.inr ((4, (0, [0, 0, 0, 0, 0, 0], [], [], (bstr []), (bstr [])), (0, 0, 0, 0, []), s18.2), r27.2))) else ((s18.2.length + [r27.1].length) * 8 ≤ 140737488355328 ∧ s18.2.length + [r27.1].length ≤ 4611686018427387904 ∧ o18 = .inl ((i64.wrap (s18.1 + 1)), (s18.2 ++ [r27.1])))) else (o18 = .inr (.inl s18.2))
def script_chunk (a0 : K0) (r : (TyS) × Int) : Prop :=
  ∃ e18 : (Sum (List Int) ((TyS) × Int)), Loops (script_chunk_l2 a0) (0, []) e18 ∧ Aft (fun p45 => script_chunk_j1 p45 r) (fun p46 => r = p46) e18
def noise_unhex_j2  (s2 : List Int) (r : K7) : Prop :=
  r = (s2, 0)
def noise_unhex_j4 (s12 : K7) (r18 : Int) (r24 : Int) (s29 : Bool) (o12 : K17) : Prop :=
  if s29 = true then (o12 = .inr (.inr ([], 3))) else ((s12.1.length + [(u8.wrap (ior .i64 (ishl .i64 r18 4) r24))].length) * 1 ≤ 140737488355328 ∧ s12.1.length + [(u8.wrap (ior .i64 (ishl .i64 r18 4) r24))].length ≤ 4611686018427387904 ∧ o12 = .inl ((s12.1 ++ [(u8.wrap (ior .i64 (ishl .i64 r18 4) r24))]), (i64.wrap (s12.2 + 2))))
def noise_unhex_l3 (a0 : ByteArray) (s12 : K7) (o12 : K17) : Prop :=
  if (decide (s12.2 < (a0.size : Int))) = true then (∃ q16 : Int, idx (bints a0) s12.2 q16 ∧ ∃ r18 : Int, strings_IndexByte (bstr [48, 49, 50, 51, 52, 53, 54, 55, 56, 57, 97, 98, 99, 100, 101, 102]) q16 r18 ∧ ∃ q22 : Int, idx (bints a0) (i64.wrap (s12.2 + 1)) q22 ∧ ∃ r24 : Int, strings_IndexByte (bstr [48, 49, 50, 51, 52, 53, 54, 55, 56, 57, 97, 98, 99, 100, 101, 102]) q22 r24 ∧ if (decide (r18 < 0)) = true then (noise_unhex_j4 s12 r18 r24 true o12) else (noise_unhex_j4 s12 r18 r24 (decide (r24 < 0)) o12)) else (o12 = .inr (.inl s12.1))
def noise_unhex_j1 (a0 : ByteArray) (s1 : Bool) (r : K7) : Prop :=
  if s1 = true then (r = ([], 3)) else (∃ e12 : (Sum (List Int) (List Int × Int)), Loops (noise_unhex_l3 a0) ([], 0) e12 ∧ Aft (fun p38 => noise_unhex_j2 p38 r) (fun p39 => r = p39) e12)
def noise_unhex (a0 : ByteArray) (r : K7) : Prop :=
  if (decide (a0 = (bstr [45]))) = true then (r = ([], 0)) else (if (decide (a0 = (bstr []))) = true then (noise_unhex_j1 a0 true r) else (noise_unhex_j1 a0 (!(decide (((a0.size : Int).tmod 2) = 0))) r))
def noise_Parse_l1  (x10 : K34) (s10 : K0) (o10 : K24) : Prop :=
  (s10.length + [x10.2].length) * 16 ≤ 140737488355328 ∧ s10.length + [x10.2].length ≤ 4611686018427387904 ∧ o10 = .inl (s10 ++ [x10.2])
def noise_Parse_j4 (s29 : Int × Int) (s30 : K41) (s33 : K20) (r : (TyI) × Int) : Prop :=
  r = ((s29.2, s33.1, s33.2.1, s33.2.2, s30.2), 0)
def noise_Parse_l5 (p22 : K0) (s29 : Int × Int) (s34 : K45) (o34 : K37) : Prop :=
  if (decide (s34.1 < 3)) = true then (0 ≤ s34.1 ∧ s34.1 < 3 ∧ if (decide (s29.1 ≤ s34.1)) = true then (o34 = .inr (.inl (s34.2.1, s34.2.2.1, s34.2.2.2))) else (∃ q37 : ByteArray, idx p22 (i64.wrap (s34.1 + 1)) q37 ∧ ∃ r44 : Int × Int, say_Read q37 r44 ∧ if (!(decide (r44.2 = 0))) = true then (o34 = .inr (.inr ((0, 0, 0, 0, []), r44.2))) else (o34 = .inl ((i64.wrap (s34.1 + 1)), ((putN 3 0 [s34.2.1, s34.2.2.1, s34.2.2.2] s34.1.toNat r44.1).getD 0 0), ((putN 3 0 [s34.2.1, s34.2.2.1, s34.2.2.2] s34.1.toNat r44.1).getD 1 0), ((putN 3 0 [s34.2.1, s34.2.2.1, s34.2.2.2] s34.1.toNat r44.1).getD 2 0))))) else (o34 = .inr (.inl (s34.2.1, s34.2.2.1, s34.2.2.2)))
def noise_Parse_j3 (p22 : K0) (s29 : Int × Int) (s30 : K41) (r : (TyI) × Int) : Prop :=
  if (!(decide (s30.1 = 0))) = true then (r = ((0, 0, 0, 0, []), s30.1)) else (∃ e34 : (Sum (Int × Int × Int) ((TyI) × Int)), Loops (noise_Parse_l5 p22 s29) (0, 0, 0, 0) e34 ∧ Aft (fun p48 => noise_Parse_j4 s29 s30 p48 r) (fun p49 => r = p49) e34)
def noise_Parse_j2 (p22 : K0) (s29 : Int × Int) (r : (TyI) × Int) : Prop :=
  if (decide (s29.2 = 0)) = true then (noise_Parse_j3 p22 s29 (9, []) r) else (if (!(decide ((p22.length : Int) = (i64.wrap (1 + (max s29.1 1)))))) = true then (noise_Parse_j3 p22 s29 (3, []) r) else (if (decide (s29.1 = 0)) = true then (∃ q50 : ByteArray, idx p22 1 q50 ∧ ∃ r57 : List Int × Int, noise_unhex q50 r57 ∧ noise_Parse_j3 p22 s29 (r57.2, r57.1) r) else (noise_Parse_j3 p22 s29 (0, []) r)))
def noise_Parse_j7 (s63 : K20) (s64 : Int × Int) (o63 : Sum (Int × Int × Int) (Int × Int)) : Prop :=
  o63 = .inl (s64.1, (i64.wrap (s63.2.1 + 1)), s64.2)
def noise_Parse_l6 (p22 : K0) (s63 : K20) (o63 : Sum (Int × Int × Int) (Int × Int)) : Prop :=
  if (decide (s63.2.1 ≤ 4)) = true then (∃ r65 : ByteArray × Int, noise_word s63.2.1 r65 ∧ ∃ q69 : ByteArray, idx p22 0 q69 ∧ if (decide (r65.1 = q69)) = true then (noise_Parse_j7 s63 (r65.2, s63.2.1) o63) else (noise_Parse_j7 s63 (s63.1, s63.2.2) o63)) else (o63 = .inr (s63.1, s63.2.2))
def noise_Parse (a0 : ByteArray) (r : (TyI) × Int) : Prop :=
  ∃ r3 : (((S : Type) → ((Int × ByteArray) → S → Bool × S → Prop) → S → S × Unit → Prop)), say_Words a0 r3 ∧ ∃ (t10 : K24) (w10 : Unit), r3 (Sum (List ByteArray) Unit) (Yof (noise_Parse_l1)) (.inl []) (t10, w10) ∧ Aft (fun p22 => ∃ e63 : Int × Int, Loops (noise_Parse_l6 p22) (0, 1, 0) e63 ∧ (noise_Parse_j2 p22 e63 r)) (fun _ => True) t10
def script_parse_l1  (x10 : K34) (s10 : K0) (o10 : K24) : Prop :=
  (s10.length + [x10.2].length) * 16 ≤ 140737488355328 ∧ s10.length + [x10.2].length ≤ 4611686018427387904 ∧ o10 = .inl (s10 ++ [x10.2])
def script_parse_j3  (s29 : K19) (r : (TyS) × Int) : Prop :=
  r = ((s29.2.1, (s29.2.2.1, [s29.2.2.2.1, s29.t4.1, s29.t4.2.1, s29.t4.2.2.1, s29.t4.2.2.2.1, s29.t4.t4.1], s29.t4.t4.2.1, s29.t4.t4.2.2.1, s29.t4.t4.2.2.2.1, s29.t4.t4.t4.1), s29.t4.t4.t4.2, []), s29.1)
def script_parse_j4 (a0 : ByteArray) (p22 : K0) (s28 : Int) (s69 : Bool) (r : (TyS) × Int) : Prop :=
  if s69 = true then (if (decide (1 < (p22.length : Int))) = true then (script_parse_j3 (3, s28, 0, 0, 0, 0, 0, 0, 0, [], [], (bstr []), (bstr []), 0, 0, 0, 0, []) r) else (script_parse_j3 (0, s28, 0, 0, 0, 0, 0, 0, 0, [], [], (bstr []), (bstr []), 0, 0, 0, 0, []) r)) else (∃ r70 : (TyI) × Int, noise_Parse a0 r70 ∧ script_parse_j3 (r70.2, 2, 0, 0, 0, 0, 0, 0, 0, [], [], (bstr []), (bstr []), r70.1.1, r70.1.2.1, r70.1.2.2.1, r70.1.2.2.2.1, r70.1.t4) r)
def script_parse_j2 (a0 : ByteArray) (p22 : K0) (s28 : Int) (r : (TyS) × Int) : Prop :=
  if (decide (s28 = 1)) = true then (∃ r36 : ByteArray × ByteArray × Bool, strings_Cut a0 (bstr [32]) r36 ∧ ∃ r40 : (TyM) × Int, say_Parse r36.2.1 r40 ∧ script_parse_j3 (r40.2, s28, r40.1.1, (r40.1.2.1.getD 0 0), (r40.1.2.1.getD 1 0), (r40.1.2.1.getD 2 0), (r40.1.2.1.getD 3 0), (r40.1.2.1.getD 4 0), (r40.1.2.1.getD 5 0), r40.1.2.2.1, r40.1.2.2.2.1, r40.1.t4.1, r40.1.t4.2, 0, 0, 0, 0, []) r) else (if (decide (s28 = 4)) = true then (1 ≤ (p22.length : Int) ∧ (p22.length : Int) ≤ (p22.length : Int) ∧ ∃ r57 : (TyS) × Int, script_chunk ((p22.drop (1 : Int).toNat).take (((p22.length : Int) : Int) - 1).toNat) r57 ∧ r = (r57.1, r57.2)) else (if (decide (s28 = 3)) = true then (script_parse_j4 a0 p22 s28 (decide (s28 = 3)) r) else (if (decide (s28 = 5)) = true then (script_parse_j4 a0 p22 s28 (decide (s28 = 5)) r) else (script_parse_j4 a0 p22 s28 (decide (s28 = 6)) r))))
def script_parse_j6 (s76 : Int × Int) (s77 : Int) (o76 : K36) : Prop :=
  o76 = .inl ((i64.wrap (s76.1 + 1)), s77)
def script_parse_j7 (s76 : Int × Int) (s82 : Bool) (o76 : K36) : Prop :=
  if s82 = true then (script_parse_j6 s76 s76.1 o76) else (script_parse_j6 s76 s76.2 o76)
def script_parse_l5 (p22 : K0) (s76 : Int × Int) (o76 : K36) : Prop :=
  if (decide (s76.1 ≤ 6)) = true then (∃ r78 : ByteArray, script_word s76.1 r78 ∧ if (!(decide (r78 = (bstr [])))) = true then (∃ q83 : ByteArray, idx p22 0 q83 ∧ script_parse_j7 s76 (decide (r78 = q83)) o76) else (script_parse_j7 s76 false o76)) else (o76 = .inr s76.2)
def script_parse (a0 : ByteArray) (r : (TyS) × Int) : Prop :=
  ∃ r3 : (((S : Type) → ((Int × ByteArray) → S → Bool × S → Prop) → S → S × Unit → Prop)), say_Words a0 r3 ∧ ∃ (t10 : K24) (w10 : Unit), r3 (Sum (List ByteArray) Unit) (Yof (script_parse_l1)) (.inl []) (t10, w10) ∧ Aft (fun p22 => ∃ e76 : Int, Loops (script_parse_l5 p22) (1, 0) e76 ∧ (script_parse_j2 a0 p22 e76 r)) (fun _ => True) t10
def script_Parse (a0 : ByteArray) (r : (TyS) × Int) : Prop :=
  ∃ r2 : (TyS) × Int, script_parse a0 r2 ∧ if (!(decide (r2.2 = 0))) = true then (r = ((0, (0, [0, 0, 0, 0, 0, 0], [], [], (bstr []), (bstr [])), (0, 0, 0, 0, []), []), r2.2)) else (r = (r2.1, 0))
def ref20_Split_j1  (s1 : K0) (r : K0) : Prop :=
  r = s1
def ref20_Split_j3 (s11 : K42) (s15 : K40) (o11 : K32) : Prop :=
  o11 = .inl (s15.1, s15.2, (i64.wrap (s11.2.2 + 1)))
def ref20_Split_j4 (a0 : ByteArray) (s11 : K42) (s19 : Bool) (o11 : K32) : Prop :=
  if s19 = true then (0 ≤ s11.2.1 ∧ s11.2.1 ≤ s11.2.2 ∧ s11.2.2 ≤ (a0.size : Int) ∧ (s11.1.length + [(a0.extract s11.2.1.toNat s11.2.2.toNat)].length) * 16 ≤ 140737488355328 ∧ s11.1.length + [(a0.extract s11.2.1.toNat s11.2.2.toNat)].length ≤ 4611686018427387904 ∧ ref20_Split_j3 s11 ((s11.1 ++ [(a0.extract s11.2.1.toNat s11.2.2.toNat)]), (i64.wrap (s11.2.2 + 1))) o11) else (ref20_Split_j3 s11 (s11.1, s11.2.1) o11)
def ref20_Split_l2 (a0 : ByteArray) (a1 : Int) (s11 : K42) (o11 : K32) : Prop :=
  if (decide (s11.2.2 ≤ (a0.size : Int))) = true then (if (decide (s11.2.2 = (a0.size : Int))) = true then (ref20_Split_j4 a0 s11 true o11) else (∃ q31 : Int, idx (bints a0) s11.2.2 q31 ∧ ref20_Split_j4 a0 s11 (decide (q31 = a1)) o11)) else (o11 = .inr s11.1)
def ref20_Split (a0 : ByteArray) (a1 : Int) (r : K0) : Prop :=
  ∃ e11 : List ByteArray, Loops (ref20_Split_l2 a0 a1) ([], 0, 0) e11 ∧ (ref20_Split_j1 e11 r)
def ref16_Word_j1 (a0 : Int) (s1 : Bool) (r : ByteArray) : Prop :=
  if s1 = true then (r = (bstr [])) else (∃ q5 : ByteArray, idx [(bstr [109, 111, 118, 101]), (bstr [104, 111, 108, 100]), (bstr [103, 114, 97, 110, 116]), (bstr [112, 111, 115, 101]), (bstr [102, 97, 117, 108, 116])] (i64.wrap (a0 - 1)) q5 ∧ r = q5)
def ref16_Word (a0 : Int) (r : ByteArray) : Prop :=
  if (decide (a0 < 1)) = true then (ref16_Word_j1 a0 true r) else (ref16_Word_j1 a0 (decide (5 < a0)) r)
def ref16_All_j2  (s8 : (List (TyA))) (r : (List (TyA))) : Prop :=
  r = s8
def ref16_All_j4 (s18 : (List (TyA)) × Int × Int) (q22 : TyA) (s30 : Int × Int) (o18 : Sum ((List (TyA)) × Int × Int) (List (TyA))) : Prop :=
  (s18.1.length + [(q22.1, q22.2.1, s30.2, q22.2.2.2.1, q22.t4.1, q22.t4.2.1, q22.t4.2.2)].length) * 64 ≤ 140737488355328 ∧ s18.1.length + [(q22.1, q22.2.1, s30.2, q22.2.2.2.1, q22.t4.1, q22.t4.2.1, q22.t4.2.2)].length ≤ 4611686018427387904 ∧ o18 = .inl ((s18.1 ++ [(q22.1, q22.2.1, s30.2, q22.2.2.2.1, q22.t4.1, q22.t4.2.1, q22.t4.2.2)]), s30.1, (i64.wrap (s18.2.2 + 1)))
def ref16_All_l3 (s4 : (List (TyA))) (s18 : (List (TyA)) × Int × Int) (o18 : Sum ((List (TyA)) × Int × Int) (List (TyA))) : Prop :=
  if (decide (s18.2.2 < (s4.length : Int))) = true then (∃ q22 : TyA, idx s4 s18.2.2 q22 ∧ if (decide (q22.2.1 < 3)) = true then (ref16_All_j4 s18 q22 ((i64.wrap (s18.2.1 + 1)), s18.2.1) o18) else (ref16_All_j4 s18 q22 (s18.2.1, (-1)) o18)) else (o18 = .inr s18.1)
def ref16_All_j1  (s4 : (List (TyA))) (r : (List (TyA))) : Prop :=
  ∃ e18 : (List (TyA)), Loops (ref16_All_l3 s4) ([], 0, 0) e18 ∧ (ref16_All_j2 e18 r)
def ref16_All (a0 : Int) (r : (List (TyA))) : Prop :=
  if (decide (a0 = 1)) = true then (ref16_All_j1 [((bstr [114, 111, 98, 111, 116]), 1, 0, 0, 65535, 1, 0), ((bstr [115, 112, 101, 101, 100]), 1, 0, 1, 5000, 1, 0), ((bstr [97, 99, 99, 101, 108]), 1, 0, 1, 10000, 2, 500), ((bstr [112, 97, 116, 104]), 3, 0, 1, 16, 1, 0), ((bstr [116, 97, 103]), 6, 0, 0, 16, 2, 0)] r) else (if (decide (a0 = 2)) = true then (ref16_All_j1 [((bstr [114, 111, 98, 111, 116]), 1, 0, 0, 65535, 1, 0), ((bstr [114, 101, 97, 115, 111, 110]), 1, 0, 0, 15, 1, 0), ((bstr [122, 111, 110, 101]), 1, 0, 0, 4095, 2, 0)] r) else (if (decide (a0 = 3)) = true then (ref16_All_j1 [((bstr [114, 111, 98, 111, 116]), 1, 0, 0, 65535, 1, 0), ((bstr [122, 111, 110, 101]), 1, 0, 0, 4095, 1, 0), ((bstr [108, 101, 97, 115, 101]), 1, 0, 1, 255, 2, 1), ((bstr [99, 101, 108, 108, 115]), 4, 0, 1, 32, 1, 0)] r) else (if (decide (a0 = 4)) = true then (ref16_All_j1 [((bstr [114, 111, 98, 111, 116]), 1, 0, 0, 65535, 1, 0), ((bstr [120]), 2, 0, (-1000000), 1000000, 1, 0), ((bstr [121]), 2, 0, (-1000000), 1000000, 1, 0), ((bstr [104, 101, 97, 100, 105, 110, 103]), 1, 0, 0, 35999, 1, 0), ((bstr [98, 97, 116, 116, 101, 114, 121]), 1, 0, 0, 1000, 1, 0), ((bstr [115, 117, 114, 101]), 1, 0, 0, 100, 2, 100)] r) else (if (decide (a0 = 5)) = true then (ref16_All_j1 [((bstr [114, 111, 98, 111, 116]), 1, 0, 0, 65535, 1, 0), ((bstr [99, 111, 100, 101]), 1, 0, 1, 9999, 1, 0), ((bstr [115, 101, 118, 101, 114, 105, 116, 121]), 1, 0, 0, 4, 1, 0), ((bstr [112, 97, 114, 116]), 1, 0, 0, 255, 2, 0), ((bstr [116, 105, 109, 101, 115]), 1, 0, 1, 1000000, 2, 1), ((bstr [116, 101, 120, 116]), 5, 0, 0, 64, 1, 0)] r) else (ref16_All_j1 ([] : List (TyA)) r)))))
def ref20_Read_j4 (s1 : Int) (s4 : Int) (r : Int × Int) : Prop :=
  if (decide (s1 = 1)) = true then (r = (s4, 0)) else (if (decide (s4 = (-9223372036854775808))) = true then (r = (0, 5)) else (r = ((i64.wrap (0 - s4)), 0)))
def ref20_Read_l5 (a0 : ByteArray) (s5 : Int × Int) (o5 : Sum (Int × Int) (Sum Int (Int × Int))) : Prop :=
  if (decide (s5.2 < (a0.size : Int))) = true then (∃ q6 : Int, idx (bints a0) s5.2 q6 ∧ if (decide (s5.1 < (i64.wrap ((i64.wrap ((-9223372036854775808) + (i64.wrap ((i64.wrap q6) - 48)))).tdiv 10)))) = true then (o5 = .inr (.inr (0, 5))) else (o5 = .inl ((i64.wrap ((i64.wrap (10 * s5.1)) - (i64.wrap ((i64.wrap q6) - 48)))), (i64.wrap (s5.2 + 1))))) else (o5 = .inr (.inl s5.1))
def ref20_Read_j3 (a0 : ByteArray) (s1 : Int) (s3 : Unit) (r : Int × Int) : Prop :=
  ∃ e5 : (Sum Int (Int × Int)), Loops (ref20_Read_l5 a0) (0, s1) e5 ∧ Aft (fun p8 => ref20_Read_j4 s1 p8 r) (fun p9 => r = p9) e5
def ref20_Read_j7 (s10 : Int) (s11 : Bool) (o10 : Sum Int (Sum Unit (Int × Int))) : Prop :=
  if s11 = true then (o10 = .inr (.inr (0, 3))) else (o10 = .inl (i64.wrap (s10 + 1)))
def ref20_Read_l6 (a0 : ByteArray) (s10 : Int) (o10 : Sum Int (Sum Unit (Int × Int))) : Prop :=
  if (decide (s10 < (a0.size : Int))) = true then (∃ q12 : Int, idx (bints a0) s10 q12 ∧ if (decide (q12 < 48)) = true then (ref20_Read_j7 s10 true o10) else (∃ q14 : Int, idx (bints a0) s10 q14 ∧ ref20_Read_j7 s10 (decide (57 < q14)) o10)) else (o10 = .inr (.inl ()))
def ref20_Read_j2 (a0 : ByteArray) (s1 : Int) (s2 : Bool) (r : Int × Int) : Prop :=
  if s2 = true then (r = (0, 3)) else (∃ e10 : (Sum Unit (Int × Int)), Loops (ref20_Read_l6 a0) s1 e10 ∧ Aft (fun p16 => ref20_Read_j3 a0 s1 p16 r) (fun p17 => r = p17) e10)
def ref20_Read_j1 (a0 : ByteArray) (s1 : Int) (r : Int × Int) : Prop :=
  if (decide (s1 = (a0.size : Int))) = true then (ref20_Read_j2 a0 s1 true r) else (∃ q18 : Int, idx (bints a0) s1 q18 ∧ if (decide (q18 = 48)) = true then (ref20_Read_j2 a0 s1 (decide (1 < (a0.size : Int))) r) else (ref20_Read_j2 a0 s1 false r))
def ref20_Read_j8 (a0 : ByteArray) (s20 : Bool) (r : Int × Int) : Prop :=
  if s20 = true then (ref20_Read_j1 a0 1 r) else (ref20_Read_j1 a0 0 r)
def ref20_Read (a0 : ByteArray) (r : Int × Int) : Prop :=
  if (decide (0 < (a0.size : Int))) = true then (∃ q21 : Int, idx (bints a0) 0 q21 ∧ ref20_Read_j8 a0 (decide (q21 = 45)) r) else (ref20_Read_j8 a0 false r)
def ref20_numbers_j1  (s3 : List Int) (r : K7) : Prop :=
  r = (s3, 0)
def ref20_numbers_l2 (a0 : K0) (s13 : K7) (o13 : K17) : Prop :=
  if (decide (s13.2 < (a0.length : Int))) = true then (∃ q17 : ByteArray, idx a0 s13.2 q17 ∧ ∃ r22 : Int × Int, ref20_Read q17 r22 ∧ if (!(decide (r22.2 = 0))) = true then (o13 = .inr (.inr ([], r22.2))) else ((s13.1.length + [r22.1].length) * 8 ≤ 140737488355328 ∧ s13.1.length + [r22.1].length ≤ 4611686018427387904 ∧ o13 = .inl ((s13.1 ++ [r22.1]), (i64.wrap (s13.2 + 1))))) else (o13 = .inr (.inl s13.1))
def ref20_numbers (a0 : K0) (r : K7) : Prop :=
  ∃ e13 : (Sum (List Int) (List Int × Int)), Loops (ref20_numbers_l2 a0) ([], 0) e13 ∧ Aft (fun p34 => ref20_numbers_j1 p34 r) (fun p35 => r = p35) e13
def ref20_digit (a0 : Int) (r : Int) : Prop :=
  if (decide (a0 < 10)) = true then (r = (u8.wrap (48 + a0))) else (r = (u8.wrap (87 + a0)))
def ref20_unhex_j2  (s2 : List Int) (r : K15) : Prop :=
  r = ((bstr s2), 0)
def ref20_unhex_j4 (s11 : K43) (s15 : K7) (o11 : K29) : Prop :=
  o11 = .inl (s15.1, s15.2, (i64.wrap (s11.2.2 + 1)))
def ref20_unhex_j5 (s11 : K43) (s19 : Int) (o11 : K29) : Prop :=
  if (decide (s19 < 0)) = true then (o11 = .inr (.inr ((bstr []), 3))) else (if (decide ((s11.2.2.tmod 2) = 1)) = true then ((s11.1.length + [(u8.wrap (i64.wrap ((i64.wrap (16 * s11.2.1)) + s19)))].length) * 1 ≤ 140737488355328 ∧ s11.1.length + [(u8.wrap (i64.wrap ((i64.wrap (16 * s11.2.1)) + s19)))].length ≤ 4611686018427387904 ∧ ref20_unhex_j4 s11 ((s11.1 ++ [(u8.wrap (i64.wrap ((i64.wrap (16 * s11.2.1)) + s19)))]), 0) o11) else (ref20_unhex_j4 s11 (s11.1, (i64.wrap ((i64.wrap (16 * s11.2.1)) + s19))) o11))
def ref20_unhex_j7 (s28 : Int × Int) (s29 : Int) (o28 : K36) : Prop :=
  o28 = .inl (s29, (i64.wrap (s28.2 + 1)))
def ref20_unhex_l6 (a0 : ByteArray) (s11 : K43) (s28 : Int × Int) (o28 : K36) : Prop :=
  if (decide (s28.2 < 16)) = true then (∃ r30 : Int, ref20_digit (u8.wrap s28.2) r30 ∧ ∃ q34 : Int, idx (bints a0) s11.2.2 q34 ∧ if (decide (r30 = q34)) = true then (ref20_unhex_j7 s28 s28.2 o28) else (ref20_unhex_j7 s28 s28.1 o28)) else (o28 = .inr s28.1)
def ref20_unhex_l3 (a0 : ByteArray) (s11 : K43) (o11 : K29) : Prop :=
  if (decide (s11.2.2 < (a0.size : Int))) = true then (∃ e28 : Int, Loops (ref20_unhex_l6 a0 s11) ((-1), 0) e28 ∧ (ref20_unhex_j5 s11 e28 o11)) else (o11 = .inr (.inl s11.1))
def ref20_unhex_j1 (a0 : ByteArray) (s1 : Bool) (r : K15) : Prop :=
  if s1 = true then (r = ((bstr []), 3)) else (∃ e11 : (Sum (List Int) (ByteArray × Int)), Loops (ref20_unhex_l3 a0) ([], 0, 0) e11 ∧ Aft (fun p38 => ref20_unhex_j2 p38 r) (fun p39 => r = p39) e11)
def ref20_unhex (a0 : ByteArray) (r : K15) : Prop :=
  if (decide (a0 = (bstr [45]))) = true then (r = ((bstr []), 0)) else (if (decide (a0 = (bstr []))) = true then (ref20_unhex_j1 a0 true r) else (ref20_unhex_j1 a0 (decide (((a0.size : Int).tmod 2) = 1)) r))
def ref20_value_j1 (a0 : TyR) (s8 : K28) (r : (TyR) × Int) : Prop :=
  r = ((a0.1, [s8.2.1, s8.2.2.1, s8.2.2.2.1, s8.t4.1, s8.t4.2.1, s8.t4.2.2.1], s8.t4.2.2.2.1, s8.t4.t4.1, s8.t4.t4.2.1, s8.t4.t4.2.2), s8.1)
def ref20_value_l2 (a0 : TyR) (r13 : K0) (s19 : Int × List (List Int)) (o19 : Sum (Int × List (List Int)) (Sum (Int × Int × Int × Int × Int × Int × Int × List (List Int) × List Int × ByteArray × ByteArray) ((TyR) × Int))) : Prop :=
  if (decide (s19.1 < (r13.length : Int))) = true then (∃ q22 : ByteArray, idx r13 s19.1 q22 ∧ ∃ r27 : List ByteArray, ref20_Split q22 44 r27 ∧ if (!(decide ((r27.length : Int) = 2))) = true then (o19 = .inr (.inr ((a0.1, a0.2.1, s19.2, a0.2.2.2.1, a0.t4.1, a0.t4.2), 3))) else (∃ r33 : List Int × Int, ref20_numbers r27 r33 ∧ if (!(decide (r33.2 = 0))) = true then (o19 = .inr (.inr ((a0.1, a0.2.1, s19.2, a0.2.2.2.1, a0.t4.1, a0.t4.2), r33.2))) else ((([] : List (List Int)).length + s19.2.length) * 16 ≤ 140737488355328 ∧ ([] : List (List Int)).length + s19.2.length ≤ 4611686018427387904 ∧ ∃ q53 : Int, idx r33.1 0 q53 ∧ ∃ q58 : Int, idx r33.1 1 q58 ∧ ((([] : List (List Int)) ++ s19.2).length + [[q53, q58]].length) * 16 ≤ 140737488355328 ∧ (([] : List (List Int)) ++ s19.2).length + [[q53, q58]].length ≤ 4611686018427387904 ∧ o19 = .inl ((i64.wrap (s19.1 + 1)), ((([] : List (List Int)) ++ s19.2) ++ [[q53, q58]]))))) else (o19 = .inr (.inl (0, (a0.2.1.getD 0 0), (a0.2.1.getD 1 0), (a0.2.1.getD 2 0), (a0.2.1.getD 3 0), (a0.2.1.getD 4 0), (a0.2.1.getD 5 0), s19.2, a0.2.2.2.1, a0.t4.1, a0.t4.2)))
def ref20_value (a0 : TyR) (a1 : TyA) (a2 : ByteArray) (r : (TyR) × Int) : Prop :=
  if (decide (a1.2.1 = 3)) = true then (∃ r13 : List ByteArray, ref20_Split a2 59 r13 ∧ ∃ e19 : (Sum (Int × Int × Int × Int × Int × Int × Int × List (List Int) × List Int × ByteArray × ByteArray) ((TyR) × Int)), Loops (ref20_value_l2 a0 r13) (0, a0.2.2.1) e19 ∧ Aft (fun p84 => ref20_value_j1 a0 p84 r) (fun p85 => r = p85) e19) else (if (decide (a1.2.1 = 4)) = true then (∃ r86 : List ByteArray, ref20_Split a2 44 r86 ∧ ∃ r92 : List Int × Int, ref20_numbers r86 r92 ∧ ref20_value_j1 a0 (r92.2, (a0.2.1.getD 0 0), (a0.2.1.getD 1 0), (a0.2.1.getD 2 0), (a0.2.1.getD 3 0), (a0.2.1.getD 4 0), (a0.2.1.getD 5 0), a0.2.2.1, r92.1, a0.t4.1, a0.t4.2) r) else (if (decide (a1.2.1 = 5)) = true then (∃ r98 : ByteArray × Int, ref20_unhex a2 r98 ∧ ref20_value_j1 a0 (r98.2, (a0.2.1.getD 0 0), (a0.2.1.getD 1 0), (a0.2.1.getD 2 0), (a0.2.1.getD 3 0), (a0.2.1.getD 4 0), (a0.2.1.getD 5 0), a0.2.2.1, a0.2.2.2.1, r98.1, a0.t4.2) r) else (if (decide (a1.2.1 = 6)) = true then (∃ r102 : ByteArray × Int, ref20_unhex a2 r102 ∧ ref20_value_j1 a0 (r102.2, (a0.2.1.getD 0 0), (a0.2.1.getD 1 0), (a0.2.1.getD 2 0), (a0.2.1.getD 3 0), (a0.2.1.getD 4 0), (a0.2.1.getD 5 0), a0.2.2.1, a0.2.2.2.1, a0.t4.1, r102.1) r) else (∃ r106 : Int × Int, ref20_Read a2 r106 ∧ 0 ≤ a1.2.2.1 ∧ a1.2.2.1 < 6 ∧ ref20_value_j1 a0 (r106.2, ((putN 6 0 a0.2.1 a1.2.2.1.toNat r106.1).getD 0 0), ((putN 6 0 a0.2.1 a1.2.2.1.toNat r106.1).getD 1 0), ((putN 6 0 a0.2.1 a1.2.2.1.toNat r106.1).getD 2 0), ((putN 6 0 a0.2.1 a1.2.2.1.toNat r106.1).getD 3 0), ((putN 6 0 a0.2.1 a1.2.2.1.toNat r106.1).getD 4 0), ((putN 6 0 a0.2.1 a1.2.2.1.toNat r106.1).getD 5 0), a0.2.2.1, a0.2.2.2.1, a0.t4.1, a0.t4.2) r))))
def ref17_path_j1  (s3 : Unit) (r : Int) : Prop :=
  r = 0
def ref17_path_j3 (s4 : Int) (s5 : Unit) (o4 : K6) : Prop :=
  o4 = .inl (i64.wrap (s4 + 1))
def ref17_path_j5 (s6 : Int) (s7 : Bool) (o6 : K6) : Prop :=
  if s7 = true then (o6 = .inr (.inr 5)) else (o6 = .inl (i64.wrap (s6 + 1)))
def ref17_path_l4 (a0 : List (List Int)) (s4 : Int) (s6 : Int) (o6 : K6) : Prop :=
  if (decide (s6 < 2)) = true then (∃ q8 : List Int, idx a0 s4 q8 ∧ 0 ≤ s6 ∧ s6 < 2 ∧ if (decide ((q8.getD s6.toNat 0) < (-1000000))) = true then (ref17_path_j5 s6 true o6) else (∃ q15 : List Int, idx a0 s4 q15 ∧ 0 ≤ s6 ∧ s6 < 2 ∧ ref17_path_j5 s6 (decide (1000000 < (q15.getD s6.toNat 0))) o6)) else (o6 = .inr (.inl ()))
def ref17_path_l2 (a0 : List (List Int)) (s4 : Int) (o4 : K6) : Prop :=
  if (decide (s4 < (a0.length : Int))) = true then (∃ e6 : (Sum Unit Int), Loops (ref17_path_l4 a0 s4) 0 e6 ∧ Aft (fun p22 => ref17_path_j3 s4 p22 o4) (fun p23 => o4 = .inr (.inr p23)) e6) else (o4 = .inr (.inl ()))
def ref17_path (a0 : List (List Int)) (r : Int) : Prop :=
  if (decide ((a0.length : Int) = 0)) = true then (r = 13) else (if (decide (16 < (a0.length : Int))) = true then (r = 6) else (∃ e4 : (Sum Unit Int), Loops (ref17_path_l2 a0) 0 e4 ∧ Aft (fun p24 => ref17_path_j1 p24 r) (fun p25 => r = p25) e4))
def ref17_cells_j1  (s3 : Unit) (r : Int) : Prop :=
  r = 0
def ref17_cells_j3 (a0 : List Int) (s4 : Int) (s5 : Bool) (o4 : K6) : Prop :=
  if s5 = true then (o4 = .inr (.inr 5)) else (∃ q7 : Int, ((decide (0 < s4)) = true → idx a0 s4 q7) ∧ ∃ q12 : Int, ((decide (0 < s4)) = true → idx a0 (i64.wrap (s4 - 1)) q12) ∧ if ((decide (0 < s4)) && (decide (q7 ≤ q12))) = true then (o4 = .inr (.inr 3)) else (o4 = .inl (i64.wrap (s4 + 1))))
def ref17_cells_l2 (a0 : List Int) (s4 : Int) (o4 : K6) : Prop :=
  if (decide (s4 < (a0.length : Int))) = true then (∃ q18 : Int, idx a0 s4 q18 ∧ if (decide (q18 < 0)) = true then (ref17_cells_j3 a0 s4 true o4) else (∃ q23 : Int, idx a0 s4 q23 ∧ ref17_cells_j3 a0 s4 (decide (65535 < q23)) o4)) else (o4 = .inr (.inl ()))
def ref17_cells (a0 : List Int) (r : Int) : Prop :=
  if (decide ((a0.length : Int) = 0)) = true then (r = 13) else (if (decide (32 < (a0.length : Int))) = true then (r = 6) else (∃ e4 : (Sum Unit Int), Loops (ref17_cells_l2 a0) 0 e4 ∧ Aft (fun p28 => ref17_cells_j1 p28 r) (fun p29 => r = p29) e4))
def ref17_text_j1  (s1 : Unit) (r : Int) : Prop :=
  r = 0
def ref17_text_j3 (s2 : Int) (s3 : Bool) (o2 : K6) : Prop :=
  if s3 = true then (o2 = .inr (.inr 19)) else (o2 = .inl (i64.wrap (s2 + 1)))
def ref17_text_l2 (a0 : ByteArray) (s2 : Int) (o2 : K6) : Prop :=
  if (decide (s2 < (a0.size : Int))) = true then (∃ q4 : Int, idx (bints a0) s2 q4 ∧ if (decide (q4 < 32)) = true then (ref17_text_j3 s2 true o2) else (∃ q6 : Int, idx (bints a0) s2 q6 ∧ ref17_text_j3 s2 (decide (126 < q6)) o2)) else (o2 = .inr (.inl ()))
def ref17_text (a0 : ByteArray) (a1 : Int) (r : Int) : Prop :=
  if (decide (a1 < (a0.size : Int))) = true then (r = 6) else (∃ e2 : (Sum Unit Int), Loops (ref17_text_l2 a0) 0 e2 ∧ Aft (fun p8 => ref17_text_j1 p8 r) (fun p9 => r = p9) e2)
def ref17_Check_j3  (s16 : Bool) (r : Int) : Prop :=
  if s16 = true then (r = 3) else (r = 0)
def ref17_Check_j2 (a0 : TyR) (s14 : K8) (s15 : Unit) (r : Int) : Prop :=
  if (!s14.2.2.2.1) = true then (if (decide (0 < (a0.2.2.1.length : Int))) = true then (ref17_Check_j3 true r) else (if (!s14.t4.1) = true then (if (decide (0 < (a0.2.2.2.1.length : Int))) = true then (ref17_Check_j3 true r) else (if (!s14.t4.2.1) = true then (if (!(decide (a0.t4.1 = (bstr [])))) = true then (ref17_Check_j3 true r) else (if (!s14.t4.2.2.1) = true then (ref17_Check_j3 (!(decide (a0.t4.2 = (bstr [])))) r) else (ref17_Check_j3 false r))) else (if (!s14.t4.2.2.1) = true then (ref17_Check_j3 (!(decide (a0.t4.2 = (bstr [])))) r) else (ref17_Check_j3 false r)))) else (if (!s14.t4.2.1) = true then (if (!(decide (a0.t4.1 = (bstr [])))) = true then (ref17_Check_j3 true r) else (if (!s14.t4.2.2.1) = true then (ref17_Check_j3 (!(decide (a0.t4.2 = (bstr [])))) r) else (ref17_Check_j3 false r))) else (if (!s14.t4.2.2.1) = true then (ref17_Check_j3 (!(decide (a0.t4.2 = (bstr [])))) r) else (ref17_Check_j3 false r))))) else (if (!s14.t4.1) = true then (if (decide (0 < (a0.2.2.2.1.length : Int))) = true then (ref17_Check_j3 true r) else (if (!s14.t4.2.1) = true then (if (!(decide (a0.t4.1 = (bstr [])))) = true then (ref17_Check_j3 true r) else (if (!s14.t4.2.2.1) = true then (ref17_Check_j3 (!(decide (a0.t4.2 = (bstr [])))) r) else (ref17_Check_j3 false r))) else (if (!s14.t4.2.2.1) = true then (ref17_Check_j3 (!(decide (a0.t4.2 = (bstr [])))) r) else (ref17_Check_j3 false r)))) else (if (!s14.t4.2.1) = true then (if (!(decide (a0.t4.1 = (bstr [])))) = true then (ref17_Check_j3 true r) else (if (!s14.t4.2.2.1) = true then (ref17_Check_j3 (!(decide (a0.t4.2 = (bstr [])))) r) else (ref17_Check_j3 false r))) else (if (!s14.t4.2.2.1) = true then (ref17_Check_j3 (!(decide (a0.t4.2 = (bstr [])))) r) else (ref17_Check_j3 false r))))
def ref17_Check_j5 (s17 : Int) (s18 : Bool) (o17 : K6) : Prop :=
  if s18 = true then (o17 = .inr (.inr 3)) else (o17 = .inl (i64.wrap (s17 + 1)))
def ref17_Check_l4 (a0 : TyR) (s14 : K8) (s17 : Int) (o17 : K6) : Prop :=
  if (decide (s17 < 6)) = true then (0 ≤ s17 ∧ s17 < 6 ∧ if (!([s14.t4.2.2.2.1, s14.t4.t4.1, s14.t4.t4.2.1, s14.t4.t4.2.2.1, s14.t4.t4.2.2.2.1, s14.t4.t4.t4].getD s17.toNat false)) = true then (0 ≤ s17 ∧ s17 < 6 ∧ ref17_Check_j5 s17 (!(decide ((a0.2.1.getD s17.toNat 0) = 0))) o17) else (ref17_Check_j5 s17 false o17)) else (o17 = .inr (.inl ()))
def ref17_Check_j1 (a0 : TyR) (s14 : K8) (r : Int) : Prop :=
  ∃ e17 : (Sum Unit Int), Loops (ref17_Check_l4 a0 s14) 0 e17 ∧ Aft (fun p23 => ref17_Check_j2 a0 s14 p23 r) (fun p24 => r = p24) e17
def ref17_Check_j7 (s25 : K16) (q26 : TyA) (s33 : Int × Bool × Bool × Bool × Bool × Bool × Bool) (o25 : K5) : Prop :=
  if (!(decide (s33.1 = 0))) = true then (o25 = .inr (.inr s33.1)) else (o25 = .inl ((i64.wrap (s25.1 + 1)), ((putN 7 false [s25.2.1, s25.2.2.1, s25.2.2.2.1, s25.t4.1, s25.t4.2.1, s25.t4.2.2.1, s25.t4.2.2.2.1] q26.2.1.toNat true).getD 0 false), ((putN 7 false [s25.2.1, s25.2.2.1, s25.2.2.2.1, s25.t4.1, s25.t4.2.1, s25.t4.2.2.1, s25.t4.2.2.2.1] q26.2.1.toNat true).getD 1 false), ((putN 7 false [s25.2.1, s25.2.2.1, s25.2.2.2.1, s25.t4.1, s25.t4.2.1, s25.t4.2.2.1, s25.t4.2.2.2.1] q26.2.1.toNat true).getD 2 false), ((putN 7 false [s25.2.1, s25.2.2.1, s25.2.2.2.1, s25.t4.1, s25.t4.2.1, s25.t4.2.2.1, s25.t4.2.2.2.1] q26.2.1.toNat true).getD 3 false), ((putN 7 false [s25.2.1, s25.2.2.1, s25.2.2.2.1, s25.t4.1, s25.t4.2.1, s25.t4.2.2.1, s25.t4.2.2.2.1] q26.2.1.toNat true).getD 4 false), ((putN 7 false [s25.2.1, s25.2.2.1, s25.2.2.2.1, s25.t4.1, s25.t4.2.1, s25.t4.2.2.1, s25.t4.2.2.2.1] q26.2.1.toNat true).getD 5 false), ((putN 7 false [s25.2.1, s25.2.2.1, s25.2.2.2.1, s25.t4.1, s25.t4.2.1, s25.t4.2.2.1, s25.t4.2.2.2.1] q26.2.1.toNat true).getD 6 false), s33.2.1, s33.2.2.1, s33.2.2.2.1, s33.t4.1, s33.t4.2.1, s33.t4.2.2))
def ref17_Check_l6 (a0 : TyR) (r6 : (List (TyA))) (s25 : K16) (o25 : K5) : Prop :=
  if (decide (s25.1 < (r6.length : Int))) = true then (∃ q26 : TyA, idx r6 s25.1 q26 ∧ 0 ≤ q26.2.1 ∧ q26.2.1 < 7 ∧ ∃ q34 : TyA, idx r6 s25.1 q34 ∧ if (decide (q34.2.1 = 3)) = true then (∃ r39 : Int, ref17_path a0.2.2.1 r39 ∧ ref17_Check_j7 s25 q26 (r39, s25.t4.t4.1, s25.t4.t4.2.1, s25.t4.t4.2.2.1, s25.t4.t4.2.2.2.1, s25.t4.t4.t4.1, s25.t4.t4.t4.2) o25) else (if (decide (q34.2.1 = 4)) = true then (∃ r43 : Int, ref17_cells a0.2.2.2.1 r43 ∧ ref17_Check_j7 s25 q26 (r43, s25.t4.t4.1, s25.t4.t4.2.1, s25.t4.t4.2.2.1, s25.t4.t4.2.2.2.1, s25.t4.t4.t4.1, s25.t4.t4.t4.2) o25) else (if (decide (q34.2.1 = 5)) = true then (∃ r47 : Int, ref17_text a0.t4.1 64 r47 ∧ ref17_Check_j7 s25 q26 (r47, s25.t4.t4.1, s25.t4.t4.2.1, s25.t4.t4.2.2.1, s25.t4.t4.2.2.2.1, s25.t4.t4.t4.1, s25.t4.t4.t4.2) o25) else (if (decide (q34.2.1 = 6)) = true then (∃ r51 : Int, ref17_text a0.t4.2 16 r51 ∧ ref17_Check_j7 s25 q26 (r51, s25.t4.t4.1, s25.t4.t4.2.1, s25.t4.t4.2.2.1, s25.t4.t4.2.2.2.1, s25.t4.t4.t4.1, s25.t4.t4.t4.2) o25) else (∃ q55 : TyA, idx r6 s25.1 q55 ∧ 0 ≤ q55.2.2.1 ∧ q55.2.2.1 < 6 ∧ ∃ q62 : TyA, idx r6 s25.1 q62 ∧ 0 ≤ q62.2.2.1 ∧ q62.2.2.1 < 6 ∧ ∃ q69 : TyA, idx r6 s25.1 q69 ∧ ∃ q75 : TyA, ((decide ((a0.2.1.getD q62.2.2.1.toNat 0) < q69.2.2.2.1)) = false → idx r6 s25.1 q75) ∧ ((decide ((a0.2.1.getD q62.2.2.1.toNat 0) < q69.2.2.2.1)) = false → 0 ≤ q75.2.2.1) ∧ ((decide ((a0.2.1.getD q62.2.2.1.toNat 0) < q69.2.2.2.1)) = false → q75.2.2.1 < 6) ∧ ∃ q82 : TyA, ((decide ((a0.2.1.getD q62.2.2.1.toNat 0) < q69.2.2.2.1)) = false → idx r6 s25.1 q82) ∧ if ((decide ((a0.2.1.getD q62.2.2.1.toNat 0) < q69.2.2.2.1)) || (decide (q82.t4.1 < (a0.2.1.getD q75.2.2.1.toNat 0)))) = true then (ref17_Check_j7 s25 q26 (5, ((putN 6 false [s25.t4.t4.1, s25.t4.t4.2.1, s25.t4.t4.2.2.1, s25.t4.t4.2.2.2.1, s25.t4.t4.t4.1, s25.t4.t4.t4.2] q55.2.2.1.toNat true).getD 0 false), ((putN 6 false [s25.t4.t4.1, s25.t4.t4.2.1, s25.t4.t4.2.2.1, s25.t4.t4.2.2.2.1, s25.t4.t4.t4.1, s25.t4.t4.t4.2] q55.2.2.1.toNat true).getD 1 false), ((putN 6 false [s25.t4.t4.1, s25.t4.t4.2.1, s25.t4.t4.2.2.1, s25.t4.t4.2.2.2.1, s25.t4.t4.t4.1, s25.t4.t4.t4.2] q55.2.2.1.toNat true).getD 2 false), ((putN 6 false [s25.t4.t4.1, s25.t4.t4.2.1, s25.t4.t4.2.2.1, s25.t4.t4.2.2.2.1, s25.t4.t4.t4.1, s25.t4.t4.t4.2] q55.2.2.1.toNat true).getD 3 false), ((putN 6 false [s25.t4.t4.1, s25.t4.t4.2.1, s25.t4.t4.2.2.1, s25.t4.t4.2.2.2.1, s25.t4.t4.t4.1, s25.t4.t4.t4.2] q55.2.2.1.toNat true).getD 4 false), ((putN 6 false [s25.t4.t4.1, s25.t4.t4.2.1, s25.t4.t4.2.2.1, s25.t4.t4.2.2.2.1, s25.t4.t4.t4.1, s25.t4.t4.t4.2] q55.2.2.1.toNat true).getD 5 false)) o25) else (ref17_Check_j7 s25 q26 (0, ((putN 6 false [s25.t4.t4.1, s25.t4.t4.2.1, s25.t4.t4.2.2.1, s25.t4.t4.2.2.2.1, s25.t4.t4.t4.1, s25.t4.t4.t4.2] q55.2.2.1.toNat true).getD 0 false), ((putN 6 false [s25.t4.t4.1, s25.t4.t4.2.1, s25.t4.t4.2.2.1, s25.t4.t4.2.2.2.1, s25.t4.t4.t4.1, s25.t4.t4.t4.2] q55.2.2.1.toNat true).getD 1 false), ((putN 6 false [s25.t4.t4.1, s25.t4.t4.2.1, s25.t4.t4.2.2.1, s25.t4.t4.2.2.2.1, s25.t4.t4.t4.1, s25.t4.t4.t4.2] q55.2.2.1.toNat true).getD 2 false), ((putN 6 false [s25.t4.t4.1, s25.t4.t4.2.1, s25.t4.t4.2.2.1, s25.t4.t4.2.2.2.1, s25.t4.t4.t4.1, s25.t4.t4.t4.2] q55.2.2.1.toNat true).getD 3 false), ((putN 6 false [s25.t4.t4.1, s25.t4.t4.2.1, s25.t4.t4.2.2.1, s25.t4.t4.2.2.2.1, s25.t4.t4.t4.1, s25.t4.t4.t4.2] q55.2.2.1.toNat true).getD 4 false), ((putN 6 false [s25.t4.t4.1, s25.t4.t4.2.1, s25.t4.t4.2.2.1, s25.t4.t4.2.2.2.1, s25.t4.t4.t4.1, s25.t4.t4.t4.2] q55.2.2.1.toNat true).getD 5 false)) o25)))))) else (o25 = .inr (.inl (s25.2.1, s25.2.2.1, s25.2.2.2.1, s25.t4.1, s25.t4.2.1, s25.t4.2.2.1, s25.t4.2.2.2.1, s25.t4.t4.1, s25.t4.t4.2.1, s25.t4.t4.2.2.1, s25.t4.t4.2.2.2.1, s25.t4.t4.t4.1, s25.t4.t4.t4.2)))
def ref17_Check (a0 : TyR) (r : Int) : Prop :=
  ∃ r6 : (List (TyA)), ref16_All a0.1 r6 ∧ if (decide ((r6.length : Int) = 0)) = true then (r = 9) else (∃ e25 : (Sum (Bool × Bool × Bool × Bool × Bool × Bool × Bool × Bool × Bool × Bool × Bool × Bool × Bool) Int), Loops (ref17_Check_l6 a0 r6) (0, false, false, false, false, false, false, false, false, false, false, false, false, false) e25 ∧ Aft (fun p88 => ref17_Check_j1 a0 p88 r) (fun p89 => r = p89) e25)
def ref20_Parse_j2 (r2 : K0) (s16 : K26) (r : (TyR) × Int) : Prop :=
  if (decide (s16.1 < (r2.length : Int))) = true then (r = ((0, [0, 0, 0, 0, 0, 0], [], [], (bstr []), (bstr [])), 6)) else (∃ r21 : Int, ref17_Check (s16.2.1, [s16.2.2.1, s16.2.2.2.1, s16.t4.1, s16.t4.2.1, s16.t4.2.2.1, s16.t4.2.2.2.1], s16.t4.t4.1, s16.t4.t4.2.1, s16.t4.t4.2.2.1, s16.t4.t4.2.2.2) r21 ∧ if (!(decide (r21 = 0))) = true then (∃ r25 : Int, ref17_Check (s16.2.1, [s16.2.2.1, s16.2.2.2.1, s16.t4.1, s16.t4.2.1, s16.t4.2.2.1, s16.t4.2.2.2.1], s16.t4.t4.1, s16.t4.t4.2.1, s16.t4.t4.2.2.1, s16.t4.t4.2.2.2) r25 ∧ r = ((0, [0, 0, 0, 0, 0, 0], [], [], (bstr []), (bstr [])), r25)) else (r = ((s16.2.1, [s16.2.2.1, s16.2.2.2.1, s16.t4.1, s16.t4.2.1, s16.t4.2.2.1, s16.t4.2.2.2.1], s16.t4.t4.1, s16.t4.t4.2.1, s16.t4.t4.2.2.1, s16.t4.t4.2.2.2), 0)))
def ref20_Parse_l3 (r2 : K0) (r10 : (List (TyA))) (s29 : K22) (o29 : Sum (Int × Int × Int × Int × Int × Int × Int × Int × Int × List (List Int) × List Int × ByteArray × ByteArray) (Sum (Int × Int × Int × Int × Int × Int × Int × Int × List (List Int) × List Int × ByteArray × ByteArray) ((TyR) × Int))) : Prop :=
  if (decide (s29.2.1 < (r10.length : Int))) = true then (if (decide ((r2.length : Int) ≤ s29.1)) = true then (o29 = .inr (.inr ((0, [0, 0, 0, 0, 0, 0], [], [], (bstr []), (bstr [])), 13))) else (∃ q34 : ByteArray, idx r2 s29.1 q34 ∧ ∃ q39 : TyA, idx r10 s29.2.1 q39 ∧ if (!(decide (q34 = q39.1))) = true then (o29 = .inr (.inr ((0, [0, 0, 0, 0, 0, 0], [], [], (bstr []), (bstr [])), 3))) else (if (decide ((r2.length : Int) ≤ (i64.wrap (s29.1 + 1)))) = true then (o29 = .inr (.inr ((0, [0, 0, 0, 0, 0, 0], [], [], (bstr []), (bstr [])), 13))) else (∃ q45 : TyA, idx r10 s29.2.1 q45 ∧ ∃ q50 : ByteArray, idx r2 (i64.wrap (s29.1 + 1)) q50 ∧ ∃ r55 : (TyR) × Int, ref20_value (s29.2.2.1, [s29.2.2.2.1, s29.t4.1, s29.t4.2.1, s29.t4.2.2.1, s29.t4.2.2.2.1, s29.t4.t4.1], s29.t4.t4.2.1, s29.t4.t4.2.2.1, s29.t4.t4.2.2.2.1, s29.t4.t4.t4) q45 q50 r55 ∧ if (!(decide (r55.2 = 0))) = true then (o29 = .inr (.inr ((0, [0, 0, 0, 0, 0, 0], [], [], (bstr []), (bstr [])), r55.2))) else (o29 = .inl ((i64.wrap (s29.1 + 2)), (i64.wrap (s29.2.1 + 1)), r55.1.1, (r55.1.2.1.getD 0 0), (r55.1.2.1.getD 1 0), (r55.1.2.1.getD 2 0), (r55.1.2.1.getD 3 0), (r55.1.2.1.getD 4 0), (r55.1.2.1.getD 5 0), r55.1.2.2.1, r55.1.2.2.2.1, r55.1.t4.1, r55.1.t4.2)))))) else (o29 = .inr (.inl (s29.1, s29.2.2.1, s29.2.2.2.1, s29.t4.1, s29.t4.2.1, s29.t4.2.2.1, s29.t4.2.2.2.1, s29.t4.t4.1, s29.t4.t4.2.1, s29.t4.t4.2.2.1, s29.t4.t4.2.2.2.1, s29.t4.t4.t4)))
def ref20_Parse_j1 (r2 : K0) (s9 : Int) (r : (TyR) × Int) : Prop :=
  if (decide (s9 = 0)) = true then (r = ((0, [0, 0, 0, 0, 0, 0], [], [], (bstr []), (bstr [])), 9)) else (∃ r10 : (List (TyA)), ref16_All s9 r10 ∧ ∃ e29 : (Sum (Int × Int × Int × Int × Int × Int × Int × Int × List (List Int) × List Int × ByteArray × ByteArray) ((TyR) × Int)), Loops (ref20_Parse_l3 r2 r10) (1, 0, s9, 0, 0, 0, 0, 0, 0, [], [], (bstr []), (bstr [])) e29 ∧ Aft (fun p71 => ref20_Parse_j2 r2 p71 r) (fun p72 => r = p72) e29)
def ref20_Parse_j5 (s73 : Int × Int) (s74 : Int) (o73 : K36) : Prop :=
  o73 = .inl ((i64.wrap (s73.1 + 1)), s74)
def ref20_Parse_l4 (r2 : K0) (s73 : Int × Int) (o73 : K36) : Prop :=
  if (decide (s73.1 < 6)) = true then (∃ r75 : ByteArray, ref16_Word s73.1 r75 ∧ ∃ q79 : ByteArray, idx r2 0 q79 ∧ if (decide (r75 = q79)) = true then (ref20_Parse_j5 s73 s73.1 o73) else (ref20_Parse_j5 s73 s73.2 o73)) else (o73 = .inr s73.2)
def ref20_Parse (a0 : ByteArray) (r : (TyR) × Int) : Prop :=
  ∃ r2 : List ByteArray, ref20_Split a0 32 r2 ∧ ∃ e73 : Int, Loops (ref20_Parse_l4 r2) (1, 0) e73 ∧ (ref20_Parse_j1 r2 e73 r)
def ref27_Check_j4  (s17 : Unit) (r : Int) : Prop :=
  r = 0
def ref27_Check_j7 (s18 : Int) (s20 : Bool) (o18 : K6) : Prop :=
  if s20 = true then (o18 = .inr (.inr 5)) else (o18 = .inl (i64.wrap (s18 + 1)))
def ref27_Check_j6 (a0 : TyZ) (s18 : Int) (s19 : Bool) (o18 : K6) : Prop :=
  if s19 = true then (∃ q21 : Int, idx a0.2.2.2 s18 q21 ∧ if (decide (q21 < 0)) = true then (ref27_Check_j7 s18 true o18) else (∃ q26 : Int, idx a0.2.2.2 s18 q26 ∧ ref27_Check_j7 s18 (decide (1000 < q26)) o18)) else (o18 = .inr (.inl ()))
def ref27_Check_l5 (a0 : TyZ) (s18 : Int) (o18 : K6) : Prop :=
  if (decide (s18 < (a0.2.2.2.length : Int))) = true then (ref27_Check_j6 a0 s18 (decide (a0.1 = 4)) o18) else (ref27_Check_j6 a0 s18 false o18)
def ref27_Check_j3 (a0 : TyZ) (s16 : Bool) (r : Int) : Prop :=
  if s16 = true then (r = 6) else (∃ e18 : (Sum Unit Int), Loops (ref27_Check_l5 a0) 0 e18 ∧ Aft (fun p31 => ref27_Check_j4 p31 r) (fun p32 => r = p32) e18)
def ref27_Check_j2 (a0 : TyZ) (s15 : Bool) (r : Int) : Prop :=
  if s15 = true then (r = 9) else (if (decide (a0.1 = 4)) = true then (ref27_Check_j3 a0 (decide (16 < (a0.2.2.2.length : Int))) r) else (ref27_Check_j3 a0 false r))
def ref27_Check_j1 (a0 : TyZ) (s10 : Bool) (r : Int) : Prop :=
  if s10 = true then (r = 9) else (if (decide (a0.1 = 1)) = true then (∃ r11 : Int, ref17_Check a0.2.1 r11 ∧ r = r11) else (if (decide (a0.1 = 2)) = true then (if (decide (a0.2.2.1.1 < 1)) = true then (ref27_Check_j2 a0 true r) else (ref27_Check_j2 a0 (decide (4 < a0.2.2.1.1)) r)) else (ref27_Check_j2 a0 false r)))
def ref27_Check (a0 : TyZ) (r : Int) : Prop :=
  if (decide (a0.1 < 1)) = true then (ref27_Check_j1 a0 true r) else (ref27_Check_j1 a0 (decide (6 < a0.1)) r)
def ref26_digit (a0 : Int) (r : Int) : Prop :=
  if (decide (a0 < 10)) = true then (r = (u8.wrap (48 + a0))) else (r = (u8.wrap (87 + a0)))
def ref26_Unhex_j2  (s2 : List Int) (r : K7) : Prop :=
  r = (s2, 0)
def ref26_Unhex_j4 (s12 : K7) (s16 : List Int × Bool) (o12 : K17) : Prop :=
  if (!s16.2) = true then (o12 = .inr (.inr ([], 3))) else (o12 = .inl (s16.1, (i64.wrap (s12.2 + 2))))
def ref26_Unhex_j7 (s20 : K46) (s25 : List Int × Bool) (o20 : K35) : Prop :=
  o20 = .inl (s25.1, s25.2, (i64.wrap (s20.2.2 + 1)))
def ref26_Unhex_j6 (a0 : ByteArray) (s12 : K7) (s20 : K46) (s24 : Bool) (o20 : K35) : Prop :=
  if s24 = true then (∃ r29 : Int, ref26_digit (u8.wrap (i64.wrap (s20.2.2.tdiv 16))) r29 ∧ ∃ q33 : Int, idx (bints a0) s12.2 q33 ∧ ∃ r36 : Int, ((decide (r29 = q33)) = true → ref26_digit (u8.wrap (s20.2.2.tmod 16)) r36) ∧ ∃ q40 : Int, ((decide (r29 = q33)) = true → idx (bints a0) (i64.wrap (s12.2 + 1)) q40) ∧ if ((decide (r29 = q33)) && (decide (r36 = q40))) = true then ((s20.1.length + [(u8.wrap s20.2.2)].length) * 1 ≤ 140737488355328 ∧ s20.1.length + [(u8.wrap s20.2.2)].length ≤ 4611686018427387904 ∧ ref26_Unhex_j7 s20 ((s20.1 ++ [(u8.wrap s20.2.2)]), true) o20) else (ref26_Unhex_j7 s20 (s20.1, s20.2.1) o20)) else (o20 = .inr (s20.1, s20.2.1))
def ref26_Unhex_l5 (a0 : ByteArray) (s12 : K7) (s20 : K46) (o20 : K35) : Prop :=
  if (decide (s20.2.2 < 256)) = true then (ref26_Unhex_j6 a0 s12 s20 (!s20.2.1) o20) else (ref26_Unhex_j6 a0 s12 s20 false o20)
def ref26_Unhex_l3 (a0 : ByteArray) (s12 : K7) (o12 : K17) : Prop :=
  if (decide (s12.2 < (a0.size : Int))) = true then (∃ e20 : List Int × Bool, Loops (ref26_Unhex_l5 a0 s12) (s12.1, false, 0) e20 ∧ (ref26_Unhex_j4 s12 e20 o12)) else (o12 = .inr (.inl s12.1))
def ref26_Unhex_j1 (a0 : ByteArray) (s1 : Bool) (r : K7) : Prop :=
  if s1 = true then (r = ([], 3)) else (∃ e12 : (Sum (List Int) (List Int × Int)), Loops (ref26_Unhex_l3 a0) ([], 0) e12 ∧ Aft (fun p52 => ref26_Unhex_j2 p52 r) (fun p53 => r = p53) e12)
def ref26_Unhex (a0 : ByteArray) (r : K7) : Prop :=
  if (decide (a0 = (bstr [45]))) = true then (r = ([], 0)) else (if (decide (a0 = (bstr []))) = true then (ref26_Unhex_j1 a0 true r) else (ref26_Unhex_j1 a0 (decide (((a0.size : Int).tmod 2) = 1)) r))
def ref26_Parse_j2 (s9 : Int × Int) (s22 : K20) (r : (TyI) × Int) : Prop :=
  r = ((s9.2, s22.1, s22.2.1, s22.2.2, []), 0)
def ref26_Parse_l3 (r2 : K0) (s9 : Int × Int) (s24 : K45) (o24 : K37) : Prop :=
  if (decide (s24.1 < s9.1)) = true then (∃ q25 : ByteArray, idx r2 (i64.wrap (s24.1 + 1)) q25 ∧ ∃ r30 : Int × Int, ref20_Read q25 r30 ∧ if (!(decide (r30.2 = 0))) = true then (o24 = .inr (.inr ((0, 0, 0, 0, []), r30.2))) else (0 ≤ s24.1 ∧ s24.1 < 3 ∧ o24 = .inl ((i64.wrap (s24.1 + 1)), ((putN 3 0 [s24.2.1, s24.2.2.1, s24.2.2.2] s24.1.toNat r30.1).getD 0 0), ((putN 3 0 [s24.2.1, s24.2.2.1, s24.2.2.2] s24.1.toNat r30.1).getD 1 0), ((putN 3 0 [s24.2.1, s24.2.2.1, s24.2.2.2] s24.1.toNat r30.1).getD 2 0)))) else (o24 = .inr (.inl (s24.2.1, s24.2.2.1, s24.2.2.2)))
def ref26_Parse_j1 (r2 : K0) (s9 : Int × Int) (r : (TyI) × Int) : Prop :=
  if (!(decide ((r2.length : Int) = (i64.wrap (s9.1 + 1))))) = true then (r = ((0, 0, 0, 0, []), 3)) else (if (decide (s9.2 = 4)) = true then (∃ q10 : ByteArray, idx r2 1 q10 ∧ ∃ r15 : List Int × Int, ref26_Unhex q10 r15 ∧ if (!(decide (r15.2 = 0))) = true then (r = ((0, 0, 0, 0, []), r15.2)) else (r = ((s9.2, 0, 0, 0, r15.1), 0))) else (∃ e24 : (Sum (Int × Int × Int) ((TyI) × Int)), Loops (ref26_Parse_l3 r2 s9) (0, 0, 0, 0) e24 ∧ Aft (fun p36 => ref26_Parse_j2 s9 p36 r) (fun p37 => r = p37) e24))
def ref26_Parse (a0 : ByteArray) (r : (TyI) × Int) : Prop :=
  ∃ r2 : List ByteArray, ref20_Split a0 32 r2 ∧ ∃ q38 : ByteArray, idx r2 0 q38 ∧ if (decide (q38 = (bstr [119, 104, 111, 108, 101]))) = true then (ref26_Parse_j1 r2 (1, 1) r) else (if (decide (q38 = (bstr [99, 117, 116]))) = true then (ref26_Parse_j1 r2 (3, 2) r) else (if (decide (q38 = (bstr [116, 117, 114, 110]))) = true then (ref26_Parse_j1 r2 (3, 3) r) else (if (decide (q38 = (bstr [106, 117, 110, 107]))) = true then (ref26_Parse_j1 r2 (1, 4) r) else (r = ((0, 0, 0, 0, []), 9)))))
def ref27_Parse_j1  (s13 : ByteArray) (r : (TyZ) × Int) : Prop :=
  ∃ r14 : (TyR) × Int, ref20_Parse s13 r14 ∧ if (!(decide (r14.2 = 0))) = true then (r = ((0, (0, [0, 0, 0, 0, 0, 0], [], [], (bstr []), (bstr [])), (0, 0, 0, 0, []), []), r14.2)) else (r = ((1, r14.1, (0, 0, 0, 0, []), []), 0))
def ref27_Parse_j3  (s36 : List Int) (r : (TyZ) × Int) : Prop :=
  ∃ r45 : Int, ref27_Check (4, (0, [0, 0, 0, 0, 0, 0], [], [], (bstr []), (bstr [])), (0, 0, 0, 0, []), s36) r45 ∧ if (!(decide (r45 = 0))) = true then (∃ r49 : Int, ref27_Check (4, (0, [0, 0, 0, 0, 0, 0], [], [], (bstr []), (bstr [])), (0, 0, 0, 0, []), s36) r49 ∧ r = ((0, (0, [0, 0, 0, 0, 0, 0], [], [], (bstr []), (bstr [])), (0, 0, 0, 0, []), []), r49)) else (r = ((4, (0, [0, 0, 0, 0, 0, 0], [], [], (bstr []), (bstr [])), (0, 0, 0, 0, []), s36), 0))
def ref27_Parse_l4 (r2 : K0) (s53 : K41) (o53 : Sum (Int × List Int) (Sum (List Int) ((TyZ) × Int))) : Prop :=
  if (decide (s53.1 < (r2.length : Int))) = true then (∃ q57 : ByteArray, idx r2 s53.1 q57 ∧ ∃ r62 : Int × Int, ref20_Read q57 r62 ∧ if (!(decide (r62.2 = 0))) = true then (o53 = .inr (.inr ((0, (0, [0, 0, 0, 0, 0, 0], [], [], (bstr []), (bstr [])), (0, 0, 0, 0, []), []), r62.2))) else ((s53.2.length + [r62.1].length) * 8 ≤ 140737488355328 ∧ s53.2.length + [r62.1].length ≤ 4611686018427387904 ∧ o53 = .inl ((i64.wrap (s53.1 + 1)), (s53.2 ++ [r62.1])))) else (o53 = .inr (.inl s53.2))
def ref27_Parse_j2 (a0 : ByteArray) (r2 : K0) (q8 : ByteArray) (s24 : Bool) (r : (TyZ) × Int) : Prop :=
  if s24 = true then (if (decide (1 < (r2.length : Int))) = true then (r = ((0, (0, [0, 0, 0, 0, 0, 0], [], [], (bstr []), (bstr [])), (0, 0, 0, 0, []), []), 3)) else (∃ q25 : ByteArray, idx r2 0 q25 ∧ if (decide (q25 = (bstr [97, 108, 108]))) = true then (r = ((3, (0, [0, 0, 0, 0, 0, 0], [], [], (bstr []), (bstr [])), (0, 0, 0, 0, []), []), 0)) else (∃ q30 : ByteArray, idx r2 0 q30 ∧ if (decide (q30 = (bstr [115, 116, 97, 116, 101]))) = true then (r = ((5, (0, [0, 0, 0, 0, 0, 0], [], [], (bstr []), (bstr [])), (0, 0, 0, 0, []), []), 0)) else (r = ((6, (0, [0, 0, 0, 0, 0, 0], [], [], (bstr []), (bstr [])), (0, 0, 0, 0, []), []), 0))))) else (if (decide (q8 = (bstr [99, 104, 117, 110, 107]))) = true then (∃ e53 : (Sum (List Int) ((TyZ) × Int)), Loops (ref27_Parse_l4 r2) (1, []) e53 ∧ Aft (fun p74 => ref27_Parse_j3 p74 r) (fun p75 => r = p75) e53) else (∃ r76 : (TyI) × Int, ref26_Parse a0 r76 ∧ if (!(decide (r76.2 = 0))) = true then (r = ((0, (0, [0, 0, 0, 0, 0, 0], [], [], (bstr []), (bstr [])), (0, 0, 0, 0, []), []), r76.2)) else (r = ((2, (0, [0, 0, 0, 0, 0, 0], [], [], (bstr []), (bstr [])), r76.1, []), 0))))
def ref27_Parse (a0 : ByteArray) (r : (TyZ) × Int) : Prop :=
  ∃ r2 : List ByteArray, ref20_Split a0 32 r2 ∧ ∃ q8 : ByteArray, idx r2 0 q8 ∧ if (decide (q8 = (bstr [115, 101, 110, 100]))) = true then (if (decide (1 < (r2.length : Int))) = true then (5 ≤ (a0.size : Int) ∧ ref27_Parse_j1 (a0.extract (5 : Int).toNat a0.size) r) else (ref27_Parse_j1 (bstr []) r)) else (if (decide (q8 = (bstr [97, 108, 108]))) = true then (ref27_Parse_j2 a0 r2 q8 (decide (q8 = (bstr [97, 108, 108]))) r) else (if (decide (q8 = (bstr [115, 116, 97, 116, 101]))) = true then (ref27_Parse_j2 a0 r2 q8 (decide (q8 = (bstr [115, 116, 97, 116, 101]))) r) else (ref27_Parse_j2 a0 r2 q8 (decide (q8 = (bstr [116, 97, 108, 108, 121]))) r)))
def conf_CheckSender_j2  (s3 : Bool) (r : Int) : Prop :=
  if s3 = true then (r = 5) else (r = 0)
def conf_CheckSender_j1 (a0 : K20) (s2 : Bool) (r : Int) : Prop :=
  if s2 = true then (r = 10) else (if (decide (a0.2.1 < 16)) = true then (conf_CheckSender_j2 true r) else (conf_CheckSender_j2 (decide (257 < a0.2.1)) r))
def conf_CheckSender (a0 : K20) (r : Int) : Prop :=
  if (!(decide (a0.1 = 1))) = true then (conf_CheckSender_j1 a0 (!(decide (a0.1 = 2))) r) else (conf_CheckSender_j1 a0 false r)
def conf_CheckReceiver_j1  (s2 : Bool) (r : Int) : Prop :=
  if s2 = true then (r = 5) else (r = 0)
def conf_CheckReceiver (a0 : Int × Int) (r : Int) : Prop :=
  if (decide (a0.2 < 1)) = true then (conf_CheckReceiver_j1 true r) else (conf_CheckReceiver_j1 (decide (16 < a0.2)) r)
def conf_Line_j2  (s4 : ByteArray) (r : ByteArray) : Prop :=
  r = s4
def conf_Line_l3 (a0 : K20) (a1 : Int × Int) (s5 : K15) (o5 : K39) : Prop :=
  if (decide (s5.2 < 5)) = true then (0 ≤ s5.2 ∧ s5.2 < 5 ∧ ∃ r8 : ByteArray, say_Number ([a0.1, a0.2.1, (i64.wrap a0.2.2), (i64.wrap a1.1), a1.2].getD s5.2.toNat 0) r8 ∧ (bstr [32]).size + r8.size < 4611686018427387904 ∧ s5.1.size + ((bstr [32]) ++ r8).size < 4611686018427387904 ∧ o5 = .inl ((s5.1 ++ ((bstr [32]) ++ r8)), (i64.wrap (s5.2 + 1)))) else (o5 = .inr s5.1)
def conf_Line_j1 (a0 : K20) (a1 : Int × Int) (s3 : Bool) (r : ByteArray) : Prop :=
  if s3 = true then (r = (bstr [])) else (∃ e5 : ByteArray, Loops (conf_Line_l3 a0 a1) ((bstr [108, 105, 110, 107]), 0) e5 ∧ (conf_Line_j2 e5 r))
def conf_Line (a0 : K20) (a1 : Int × Int) (r : ByteArray) : Prop :=
  ∃ r15 : Int, conf_CheckSender a0 r15 ∧ if (!(decide (r15 = 0))) = true then (conf_Line_j1 a0 a1 true r) else (∃ r19 : Int, conf_CheckReceiver a1 r19 ∧ conf_Line_j1 a0 a1 (!(decide (r19 = 0))) r)
def strings_Join (a0 : K0) (a1 : ByteArray) (r : ByteArray) : Prop := a0.length ≤ 140737488355328 ∧ (joinS a0 a1).size ≤ 140737488355328 ∧ r = joinS a0 a1
def say_hex_j1  (s1 : List Int) (r : ByteArray) : Prop :=
  r = (bstr s1)
def say_hex_l2 (a0 : ByteArray) (s15 : K7) (o15 : Sum (List Int × Int) (List Int)) : Prop :=
  if (decide (s15.2 < ((bints a0).length : Int))) = true then (∃ q19 : Int, idx (bints a0) s15.2 q19 ∧ ∃ q24 : Int, idx (bints (bstr [48, 49, 50, 51, 52, 53, 54, 55, 56, 57, 97, 98, 99, 100, 101, 102])) (ishr .u8 q19 4) q24 ∧ ∃ q26 : Int, idx (bints (bstr [48, 49, 50, 51, 52, 53, 54, 55, 56, 57, 97, 98, 99, 100, 101, 102])) (iand .u8 q19 15) q26 ∧ (s15.1.length + [q24, q26].length) * 1 ≤ 140737488355328 ∧ s15.1.length + [q24, q26].length ≤ 4611686018427387904 ∧ o15 = .inl ((s15.1 ++ [q24, q26]), (i64.wrap (s15.2 + 1)))) else (o15 = .inr s15.1)
def say_hex (a0 : ByteArray) (r : ByteArray) : Prop :=
  if (decide (a0 = (bstr []))) = true then (r = (bstr [45])) else (a0.size ≤ 4611686018427387904 ∧ ∃ e15 : List Int, Loops (say_hex_l2 a0) ([], 0) e15 ∧ (say_hex_j1 e15 r))
def say_value_j1  (s7 : K0) (r : ByteArray) : Prop :=
  ∃ r16 : ByteArray, strings_Join s7 (bstr [59]) r16 ∧ r = r16
def say_value_l2 (a0 : TyM) (s20 : K40) (o20 : Sum (List ByteArray × Int) (List ByteArray)) : Prop :=
  if (decide (s20.2 < (a0.2.2.1.length : Int))) = true then (∃ q24 : Int × Int, idx a0.2.2.1 s20.2 q24 ∧ ∃ r30 : ByteArray, say_Number q24.1 r30 ∧ r30.size + (bstr [44]).size < 4611686018427387904 ∧ ∃ r35 : ByteArray, say_Number q24.2 r35 ∧ (r30 ++ (bstr [44])).size + r35.size < 4611686018427387904 ∧ (s20.1.length + [((r30 ++ (bstr [44])) ++ r35)].length) * 16 ≤ 140737488355328 ∧ s20.1.length + [((r30 ++ (bstr [44])) ++ r35)].length ≤ 4611686018427387904 ∧ o20 = .inl ((s20.1 ++ [((r30 ++ (bstr [44])) ++ r35)]), (i64.wrap (s20.2 + 1)))) else (o20 = .inr s20.1)
def say_value_j3  (s57 : K0) (r : ByteArray) : Prop :=
  ∃ r66 : ByteArray, strings_Join s57 (bstr [44]) r66 ∧ r = r66
def say_value_l4 (a0 : TyM) (s70 : K40) (o70 : Sum (List ByteArray × Int) (List ByteArray)) : Prop :=
  if (decide (s70.2 < (a0.2.2.2.1.length : Int))) = true then (∃ q74 : Int, idx a0.2.2.2.1 s70.2 q74 ∧ ∃ r79 : ByteArray, say_Number q74 r79 ∧ (s70.1.length + [r79].length) * 16 ≤ 140737488355328 ∧ s70.1.length + [r79].length ≤ 4611686018427387904 ∧ o70 = .inl ((s70.1 ++ [r79]), (i64.wrap (s70.2 + 1)))) else (o70 = .inr s70.1)
def say_value (a0 : TyM) (a1 : TyA) (r : ByteArray) : Prop :=
  if (decide (a1.2.1 = 3)) = true then (∃ e20 : List ByteArray, Loops (say_value_l2 a0) ([], 0) e20 ∧ (say_value_j1 e20 r)) else (if (decide (a1.2.1 = 4)) = true then (∃ e70 : List ByteArray, Loops (say_value_l4 a0) ([], 0) e70 ∧ (say_value_j3 e70 r)) else (if (decide (a1.2.1 = 5)) = true then (∃ r92 : ByteArray, say_hex a0.t4.1 r92 ∧ r = r92) else (if (decide (a1.2.1 = 6)) = true then (∃ r96 : ByteArray, say_hex a0.t4.2 r96 ∧ r = r96) else (0 ≤ a1.2.2.1 ∧ a1.2.2.1 < 6 ∧ ∃ r102 : ByteArray, say_Number (a0.2.1.getD a1.2.2.1.toNat 0) r102 ∧ r = r102))))
def say_Line_l1 (a0 : TyM) (x22 : (TyA)) (s22 : ByteArray) (o22 : Sum ByteArray Unit) : Prop :=
  (bstr [32]).size + x22.1.size < 4611686018427387904 ∧ ((bstr [32]) ++ x22.1).size + (bstr [32]).size < 4611686018427387904 ∧ ∃ r26 : ByteArray, say_value a0 x22 r26 ∧ (((bstr [32]) ++ x22.1) ++ (bstr [32])).size + r26.size < 4611686018427387904 ∧ s22.size + ((((bstr [32]) ++ x22.1) ++ (bstr [32])) ++ r26).size < 4611686018427387904 ∧ o22 = .inl (s22 ++ ((((bstr [32]) ++ x22.1) ++ (bstr [32])) ++ r26))
def say_Line (a0 : TyM) (r : ByteArray) : Prop :=
  ∃ r6 : Int, msg_Check a0 r6 ∧ if (!(decide (r6 = 0))) = true then (r = (bstr [])) else (∃ r10 : ByteArray, field_Word a0.1 r10 ∧ ∃ r15 : (((S : Type) → ((TyA) → S → Bool × S → Prop) → S → S × Unit → Prop)), field_All a0.1 2 r15 ∧ ∃ (t22 : Sum ByteArray Unit) (w22 : Unit), r15 (Sum ByteArray Unit) (Yof (say_Line_l1 a0)) (.inl r10) (t22, w22) ∧ Aft (fun p33 => r = p33) (fun _ => True) t22)
def script_Line_j1  (s23 : ByteArray) (r : ByteArray) : Prop :=
  r = s23
def script_Line_l2 (a0 : TyS) (s24 : K15) (o24 : K39) : Prop :=
  if (decide (s24.2 < (a0.2.2.2.length : Int))) = true then (∃ q25 : Int, idx a0.2.2.2 s24.2 q25 ∧ ∃ r30 : ByteArray, say_Number q25 r30 ∧ (bstr [32]).size + r30.size < 4611686018427387904 ∧ s24.1.size + ((bstr [32]) ++ r30).size < 4611686018427387904 ∧ o24 = .inl ((s24.1 ++ ((bstr [32]) ++ r30)), (i64.wrap (s24.2 + 1)))) else (o24 = .inr s24.1)
def script_Line (a0 : TyS) (r : ByteArray) : Prop :=
  ∃ r10 : Int, script_Check a0 r10 ∧ if (!(decide (r10 = 0))) = true then (r = (bstr [])) else (if (decide (a0.1 = 1)) = true then (∃ r14 : ByteArray, say_Line a0.2.1 r14 ∧ (bstr [115, 101, 110, 100, 32]).size + r14.size < 4611686018427387904 ∧ r = ((bstr [115, 101, 110, 100, 32]) ++ r14)) else (if (decide (a0.1 = 2)) = true then (∃ r19 : ByteArray, noise_Line a0.2.2.1 r19 ∧ r = r19) else (if (decide (a0.1 = 4)) = true then (∃ e24 : ByteArray, Loops (script_Line_l2 a0) ((bstr [99, 104, 117, 110, 107]), 0) e24 ∧ (script_Line_j1 e24 r)) else (∃ r37 : ByteArray, script_word a0.1 r37 ∧ r = r37))))
def script_Print_j1  (s18 : ByteArray) (r : K15) : Prop :=
  r = (s18, 0)
def script_Print_l2 (a2 : List (TyS)) (s19 : K15) (o19 : Sum (ByteArray × Int) (Sum ByteArray (ByteArray × Int))) : Prop :=
  if (decide (s19.2 < (a2.length : Int))) = true then (∃ q20 : TyS, idx a2 s19.2 q20 ∧ ∃ r34 : Int, script_Check q20 r34 ∧ if (!(decide (r34 = 0))) = true then (o19 = .inr (.inr ((bstr []), r34))) else (∃ r38 : ByteArray, script_Line q20 r38 ∧ r38.size + (bstr [10]).size < 4611686018427387904 ∧ s19.1.size + (r38 ++ (bstr [10])).size < 4611686018427387904 ∧ o19 = .inl ((s19.1 ++ (r38 ++ (bstr [10]))), (i64.wrap (s19.2 + 1))))) else (o19 = .inr (.inl s19.1))
def script_Print (a0 : K20) (a1 : Int × Int) (a2 : List (TyS)) (r : K15) : Prop :=
  ∃ r5 : Int, conf_CheckSender a0 r5 ∧ if (!(decide (r5 = 0))) = true then (r = ((bstr []), r5)) else (∃ r9 : Int, conf_CheckReceiver a1 r9 ∧ if (!(decide (r9 = 0))) = true then (r = ((bstr []), r9)) else (∃ r13 : ByteArray, conf_Line a0 a1 r13 ∧ r13.size + (bstr [10]).size < 4611686018427387904 ∧ ∃ e19 : (Sum ByteArray (ByteArray × Int)), Loops (script_Print_l2 a2) ((r13 ++ (bstr [10])), 0) e19 ∧ Aft (fun p44 => script_Print_j1 p44 r) (fun p45 => r = p45) e19))
def law27_known_j1  (s20 : Bool) (r : Bool) : Prop :=
  r = s20
def law27_known  (r : Bool) : Prop :=
  ∃ r16 : ByteArray × Int, script_Print (2, 64, 10) (10, 4) [(1, (2, [1, 2, 3, 0, 0, 0], [], [], (bstr []), (bstr [])), (0, 0, 0, 0, []), []), (4, (0, (List.replicate 6 0), [], [], (bstr []), (bstr [])), (0, 0, 0, 0, []), [1, 2]), (3, (0, (List.replicate 6 0), [], [], (bstr []), (bstr [])), (0, 0, 0, 0, []), [])] r16 ∧ if (decide (r16.2 = 0)) = true then (law27_known_j1 (decide (r16.1 = (bstr [108, 105, 110, 107, 32, 50, 32, 54, 52, 32, 49, 48, 32, 49, 48, 32, 52, 10, 115, 101, 110, 100, 32, 104, 111, 108, 100, 32, 114, 111, 98, 111, 116, 32, 49, 32, 114, 101, 97, 115, 111, 110, 32, 50, 32, 122, 111, 110, 101, 32, 51, 10, 99, 104, 117, 110, 107, 32, 49, 32, 50, 10, 97, 108, 108, 10]))) r) else (law27_known_j1 false r)
def law17_Of_j1 (a0 : TyM) (s8 : List (List Int)) (r : (TyR)) : Prop :=
  r = (a0.1, a0.2.1, s8, a0.2.2.2.1, a0.t4.1, a0.t4.2)
def law17_Of_l2 (a0 : TyM) (s18 : Int × List (List Int)) (o18 : Sum (Int × List (List Int)) (List (List Int))) : Prop :=
  if (decide (s18.1 < (a0.2.2.1.length : Int))) = true then (∃ q22 : Int × Int, idx a0.2.2.1 s18.1 q22 ∧ ∃ q27 : Int × Int, idx a0.2.2.1 s18.1 q27 ∧ (s18.2.length + [[q22.1, q27.2]].length) * 16 ≤ 140737488355328 ∧ s18.2.length + [[q22.1, q27.2]].length ≤ 4611686018427387904 ∧ o18 = .inl ((i64.wrap (s18.1 + 1)), (s18.2 ++ [[q22.1, q27.2]]))) else (o18 = .inr s18.2)
def law17_Of (a0 : TyM) (r : (TyR)) : Prop :=
  ∃ e18 : List (List Int), Loops (law17_Of_l2 a0) (0, []) e18 ∧ (law17_Of_j1 a0 e18 r)
def law26_Of (a0 : TyI) (r : (TyI)) : Prop :=
  r = a0
def law27_Of (a0 : TyS) (r : (TyZ)) : Prop :=
  ∃ r11 : (TyR), law17_Of a0.2.1 r11 ∧ ∃ r19 : (TyI), law26_Of a0.2.2.1 r19 ∧ r = (a0.1, r11, r19, a0.2.2.2)
def ref01_Ints_j1  (s5 : Unit) (r : Bool) : Prop :=
  r = true
def ref01_Ints_l2 (a0 : List Int) (a1 : List Int) (s6 : Int) (o6 : K33) : Prop :=
  if (decide (s6 < (a0.length : Int))) = true then (∃ q7 : Int, idx a0 s6 q7 ∧ ∃ q12 : Int, idx a1 s6 q12 ∧ if (!(decide (q7 = q12))) = true then (o6 = .inr (.inr false)) else (o6 = .inl (i64.wrap (s6 + 1)))) else (o6 = .inr (.inl ()))
def ref01_Ints (a0 : List Int) (a1 : List Int) (r : Bool) : Prop :=
  if (!(decide ((a0.length : Int) = (a1.length : Int)))) = true then (r = false) else (∃ e6 : (Sum Unit Bool), Loops (ref01_Ints_l2 a0 a1) 0 e6 ∧ Aft (fun p18 => ref01_Ints_j1 p18 r) (fun p19 => r = p19) e6)
def ref01_Same_j1  (s5 : Unit) (r : Bool) : Prop :=
  r = true
def ref01_Same_l2 (a0 : List Int) (a1 : List Int) (s6 : Int) (o6 : K33) : Prop :=
  if (decide (s6 < (a0.length : Int))) = true then (∃ q7 : Int, idx a0 s6 q7 ∧ ∃ q12 : Int, idx a1 s6 q12 ∧ if (!(decide (q7 = q12))) = true then (o6 = .inr (.inr false)) else (o6 = .inl (i64.wrap (s6 + 1)))) else (o6 = .inr (.inl ()))
def ref01_Same (a0 : List Int) (a1 : List Int) (r : Bool) : Prop :=
  if (!(decide ((a0.length : Int) = (a1.length : Int)))) = true then (r = false) else (∃ e6 : (Sum Unit Bool), Loops (ref01_Same_l2 a0 a1) 0 e6 ∧ Aft (fun p18 => ref01_Same_j1 p18 r) (fun p19 => r = p19) e6)
def ref26_Same_j1  (s7 : Bool) (r : Bool) : Prop :=
  r = s7
def ref26_Same (a0 : TyI) (a1 : TyI) (r : Bool) : Prop :=
  if (decide (a0.1 = a1.1)) = true then (if (decide (a0.2.1 = a1.2.1)) = true then (if (decide (a0.2.2.1 = a1.2.2.1)) = true then (if (decide (a0.2.2.2.1 = a1.2.2.2.1)) = true then (∃ r8 : Bool, ref01_Same a0.t4 a1.t4 r8 ∧ ref26_Same_j1 r8 r) else (ref26_Same_j1 false r)) else (ref26_Same_j1 false r)) else (ref26_Same_j1 false r)) else (ref26_Same_j1 false r)
def ref17_Same_j2  (s12 : Unit) (r : Bool) : Prop :=
  r = true
def ref17_Same_l3 (a0 : TyR) (a1 : TyR) (s13 : Int) (o13 : K33) : Prop :=
  if (decide (s13 < (a0.2.2.1.length : Int))) = true then (∃ q14 : List Int, idx a0.2.2.1 s13 q14 ∧ ∃ q19 : List Int, idx a1.2.2.1 s13 q19 ∧ if (!(eqN 2 0 q14 q19)) = true then (o13 = .inr (.inr false)) else (o13 = .inl (i64.wrap (s13 + 1)))) else (o13 = .inr (.inl ()))
def ref17_Same_j1 (a0 : TyR) (a1 : TyR) (s11 : Bool) (r : Bool) : Prop :=
  if s11 = true then (r = false) else (∃ e13 : (Sum Unit Bool), Loops (ref17_Same_l3 a0 a1) 0 e13 ∧ Aft (fun p25 => ref17_Same_j2 p25 r) (fun p26 => r = p26) e13)
def ref17_Same (a0 : TyR) (a1 : TyR) (r : Bool) : Prop :=
  if (!(decide (a0.1 = a1.1))) = true then (ref17_Same_j1 a0 a1 true r) else (if (!(eqN 6 0 a0.2.1 a1.2.1)) = true then (ref17_Same_j1 a0 a1 true r) else (if (!(decide ((a0.2.2.1.length : Int) = (a1.2.2.1.length : Int)))) = true then (ref17_Same_j1 a0 a1 true r) else (∃ r27 : Bool, ref01_Ints a0.2.2.2.1 a1.2.2.2.1 r27 ∧ if (!r27) = true then (ref17_Same_j1 a0 a1 true r) else (if (!(decide (a0.t4.1 = a1.t4.1))) = true then (ref17_Same_j1 a0 a1 true r) else (ref17_Same_j1 a0 a1 (!(decide (a0.t4.2 = a1.t4.2))) r)))))
def law27_same_j1  (s32 : Bool) (r : Bool) : Prop :=
  r = s32
def law27_same (a0 : TyS) (a1 : TyZ) (r : Bool) : Prop :=
  ∃ r19 : (TyZ), law27_Of a0 r19 ∧ if (decide (r19.1 = a1.1)) = true then (if (!(decide (r19.1 = 1))) = true then (if (!(decide (r19.1 = 2))) = true then (if (!(decide (r19.1 = 4))) = true then (law27_same_j1 true r) else (∃ r33 : Bool, ref01_Ints r19.2.2.2 a1.2.2.2 r33 ∧ law27_same_j1 r33 r)) else (∃ r37 : Bool, ref26_Same r19.2.2.1 a1.2.2.1 r37 ∧ if r37 = true then (if (!(decide (r19.1 = 4))) = true then (law27_same_j1 true r) else (∃ r41 : Bool, ref01_Ints r19.2.2.2 a1.2.2.2 r41 ∧ law27_same_j1 r41 r)) else (law27_same_j1 false r))) else (∃ r45 : Bool, ref17_Same r19.2.1 a1.2.1 r45 ∧ if r45 = true then (if (!(decide (r19.1 = 2))) = true then (if (!(decide (r19.1 = 4))) = true then (law27_same_j1 true r) else (∃ r49 : Bool, ref01_Ints r19.2.2.2 a1.2.2.2 r49 ∧ law27_same_j1 r49 r)) else (∃ r53 : Bool, ref26_Same r19.2.2.1 a1.2.2.1 r53 ∧ if r53 = true then (if (!(decide (r19.1 = 4))) = true then (law27_same_j1 true r) else (∃ r57 : Bool, ref01_Ints r19.2.2.2 a1.2.2.2 r57 ∧ law27_same_j1 r57 r)) else (law27_same_j1 false r))) else (law27_same_j1 false r))) else (law27_same_j1 false r)
def strings_Lines_1_j2 (S : Type) (Y : ByteArray → S → Bool × S → Prop) (s4 : S × ByteArray × ByteArray) (o1 : Sum (S × ByteArray) (S × ByteArray)) : Prop :=
  ∃ y7 : Bool, ∃ u8 : S, Y s4.2.1 s4.1 (y7, u8) ∧ if (!y7) = true then (o1 = .inr (u8, s4.2.2)) else (o1 = .inl (u8, s4.2.2))
def strings_Lines_1_l1 (S : Type) (Y : ByteArray → S → Bool × S → Prop) (s1 : S × ByteArray) (o1 : Sum (S × ByteArray) (S × ByteArray)) : Prop :=
  if (decide (0 < (s1.2.size : Int))) = true then (∃ r14 : Int, strings_IndexByte s1.2 10 r14 ∧ if (decide (0 ≤ r14)) = true then (0 ≤ (i64.wrap (r14 + 1)) ∧ (i64.wrap (r14 + 1)) ≤ (s1.2.size : Int) ∧ 0 ≤ (i64.wrap (r14 + 1)) ∧ (i64.wrap (r14 + 1)) ≤ (s1.2.size : Int) ∧ strings_Lines_1_j2 S Y (s1.1, (s1.2.extract 0 (i64.wrap (r14 + 1)).toNat), (s1.2.extract (i64.wrap (r14 + 1)).toNat s1.2.size)) o1) else (strings_Lines_1_j2 S Y (s1.1, s1.2, (bstr [])) o1)) else (o1 = .inr (s1.1, s1.2))
def strings_Lines_1 (c0 : ByteArray) (S : Type) (Y : ByteArray → S → Bool × S → Prop) (s : S) (r : S × ByteArray) : Prop :=
  ∃ e1 : S × ByteArray, Loops (strings_Lines_1_l1 S Y) (s, c0) e1 ∧ (r = e1)
def strings_Lines (a0 : ByteArray) (r : ((ByteArray → (S : Type) → (ByteArray → S → Bool × S → Prop) → S → S × ByteArray → Prop)) × ByteArray) : Prop :=
  r = ((strings_Lines_1), a0)
def internal_stringslite_HasSuffix_j1  (s1 : Bool) (r : Bool) : Prop :=
  r = s1
def internal_stringslite_HasSuffix (a0 : ByteArray) (a1 : ByteArray) (r : Bool) : Prop :=
  if (decide ((a1.size : Int) ≤ (a0.size : Int))) = true then (0 ≤ (i64.wrap ((a0.size : Int) - (a1.size : Int))) ∧ (i64.wrap ((a0.size : Int) - (a1.size : Int))) ≤ (a0.size : Int) ∧ internal_stringslite_HasSuffix_j1 (decide ((a0.extract (i64.wrap ((a0.size : Int) - (a1.size : Int))).toNat a0.size) = a1)) r) else (internal_stringslite_HasSuffix_j1 false r)
def internal_stringslite_CutSuffix (a0 : ByteArray) (a1 : ByteArray) (r : ByteArray × Bool) : Prop :=
  ∃ r1 : Bool, internal_stringslite_HasSuffix a0 a1 r1 ∧ if (!r1) = true then (r = (a0, false)) else (0 ≤ (i64.wrap ((a0.size : Int) - (a1.size : Int))) ∧ (i64.wrap ((a0.size : Int) - (a1.size : Int))) ≤ (a0.size : Int) ∧ r = ((a0.extract 0 (i64.wrap ((a0.size : Int) - (a1.size : Int))).toNat), true))
def strings_CutSuffix (a0 : ByteArray) (a1 : ByteArray) (r : ByteArray × Bool) : Prop :=
  ∃ r1 : ByteArray × Bool, internal_stringslite_CutSuffix a0 a1 r1 ∧ r = (r1.1, r1.2)
def script_Lines_1_j2 (S : Type) (Y : (Int × ByteArray) → S → Bool × S → Prop) (s14 : S × Int) (s21 : S × Bool) (o14 : Sum (S × Int) (S × Int)) : Prop :=
  if s21.2 = true then (o14 = .inr (s21.1, s14.2)) else (o14 = .inl (s21.1, (i64.wrap (s14.2 + 1))))
def script_Lines_1_l1 (S : Type) (Y : (Int × ByteArray) → S → Bool × S → Prop) (x14 : ByteArray) (s14 : S × Int) (o14 : Sum (S × Int) (S × Int)) : Prop :=
  ∃ r17 : ByteArray × Bool, strings_CutSuffix x14 (bstr [10]) r17 ∧ if (!r17.2) = true then (script_Lines_1_j2 S Y s14 (s14.1, true) o14) else (∃ y24 : Bool, ∃ u25 : S, Y (s14.2, r17.1) s14.1 (y24, u25) ∧ script_Lines_1_j2 S Y s14 (u25, (!y24)) o14)
def script_Lines_1 (c0 : ByteArray) (S : Type) (Y : (Int × ByteArray) → S → Bool × S → Prop) (s : S) (r : S × Unit) : Prop :=
  ∃ r3 : ((ByteArray → (S : Type) → (ByteArray → S → Bool × S → Prop) → S → S × ByteArray → Prop)) × ByteArray, strings_Lines c0 r3 ∧ ∃ (t14 : Sum (S × Int) (S × Int)) (w14 : ByteArray), r3.1 r3.2 (Sum (S × Int) (S × Int)) (Yof (script_Lines_1_l1 S Y)) (.inl (s, 0)) (t14, w14) ∧ Aft (fun p37 => r = (p37.1, ())) (fun p31 => r = (p31.1, ())) t14
def script_Lines (a0 : ByteArray) (r : (((S : Type) → ((Int × ByteArray) → S → Bool × S → Prop) → S → S × Unit → Prop))) : Prop :=
  r = (script_Lines_1 a0)
def conf_start (a0 : Int) (r : Int × Bool) : Prop :=
  r = ((u32.wrap a0), (decide ((i64.wrap (u32.wrap a0)) = a0)))
def conf_Parse_l1  (x12 : K34) (s12 : K0) (o12 : K24) : Prop :=
  (s12.length + [x12.2].length) * 16 ≤ 140737488355328 ∧ s12.length + [x12.2].length ≤ 4611686018427387904 ∧ o12 = .inl (s12 ++ [x12.2])
def conf_Parse_j4 (s31 : K25) (r32 : Int × Bool) (r36 : Int × Bool) (s46 : Int) (r : K11) : Prop :=
  if (!(decide (s46 = 0))) = true then (r = ((0, 0, 0), (0, 0), s46)) else (r = ((s31.2.1, s31.2.2.1, r32.1), (r36.1, s31.t4.2), 0))
def conf_Parse_j5 (s31 : K25) (r32 : Int × Bool) (r36 : Int × Bool) (s48 : Bool) (r : K11) : Prop :=
  if s48 = true then (conf_Parse_j4 s31 r32 r36 5 r) else (∃ r49 : Int, conf_CheckSender (s31.2.1, s31.2.2.1, r32.1) r49 ∧ if (decide (r49 = 0)) = true then (∃ r53 : Int, conf_CheckReceiver (r36.1, s31.t4.2) r53 ∧ conf_Parse_j4 s31 r32 r36 r53 r) else (conf_Parse_j4 s31 r32 r36 r49 r))
def conf_Parse_j3  (s31 : K25) (r : K11) : Prop :=
  ∃ r32 : Int × Bool, conf_start s31.2.2.2.1 r32 ∧ ∃ r36 : Int × Bool, conf_start s31.t4.1 r36 ∧ if (!(decide (s31.1 = 0))) = true then (conf_Parse_j4 s31 r32 r36 s31.1 r) else (if (!r32.2) = true then (conf_Parse_j5 s31 r32 r36 true r) else (conf_Parse_j5 s31 r32 r36 (!r36.2) r))
def conf_Parse_l6 (p24 : K0) (s57 : Int × Int × Int × Int × Int × Int × Int) (o57 : Sum (Int × Int × Int × Int × Int × Int × Int) (Int × Int × Int × Int × Int × Int)) : Prop :=
  if (decide (s57.2.1 < 5)) = true then (∃ q58 : ByteArray, idx p24 (i64.wrap (s57.2.1 + 1)) q58 ∧ ∃ r65 : Int × Int, say_Read q58 r65 ∧ 0 ≤ s57.2.1 ∧ s57.2.1 < 5 ∧ if (!(decide (r65.2 = 0))) = true then (o57 = .inr (r65.2, ((putN 5 0 [s57.2.2.1, s57.2.2.2.1, s57.t4.1, s57.t4.2.1, s57.t4.2.2] s57.2.1.toNat r65.1).getD 0 0), ((putN 5 0 [s57.2.2.1, s57.2.2.2.1, s57.t4.1, s57.t4.2.1, s57.t4.2.2] s57.2.1.toNat r65.1).getD 1 0), ((putN 5 0 [s57.2.2.1, s57.2.2.2.1, s57.t4.1, s57.t4.2.1, s57.t4.2.2] s57.2.1.toNat r65.1).getD 2 0), ((putN 5 0 [s57.2.2.1, s57.2.2.2.1, s57.t4.1, s57.t4.2.1, s57.t4.2.2] s57.2.1.toNat r65.1).getD 3 0), ((putN 5 0 [s57.2.2.1, s57.2.2.2.1, s57.t4.1, s57.t4.2.1, s57.t4.2.2] s57.2.1.toNat r65.1).getD 4 0))) else (o57 = .inl (r65.2, (i64.wrap (s57.2.1 + 1)), ((putN 5 0 [s57.2.2.1, s57.2.2.2.1, s57.t4.1, s57.t4.2.1, s57.t4.2.2] s57.2.1.toNat r65.1).getD 0 0), ((putN 5 0 [s57.2.2.1, s57.2.2.2.1, s57.t4.1, s57.t4.2.1, s57.t4.2.2] s57.2.1.toNat r65.1).getD 1 0), ((putN 5 0 [s57.2.2.1, s57.2.2.2.1, s57.t4.1, s57.t4.2.1, s57.t4.2.2] s57.2.1.toNat r65.1).getD 2 0), ((putN 5 0 [s57.2.2.1, s57.2.2.2.1, s57.t4.1, s57.t4.2.1, s57.t4.2.2] s57.2.1.toNat r65.1).getD 3 0), ((putN 5 0 [s57.2.2.1, s57.2.2.2.1, s57.t4.1, s57.t4.2.1, s57.t4.2.2] s57.2.1.toNat r65.1).getD 4 0)))) else (o57 = .inr (s57.1, s57.2.2.1, s57.2.2.2.1, s57.t4.1, s57.t4.2.1, s57.t4.2.2))
def conf_Parse_j2 (p24 : K0) (s30 : Bool) (r : K11) : Prop :=
  if s30 = true then (r = ((0, 0, 0), (0, 0), 3)) else (∃ e57 : Int × Int × Int × Int × Int × Int, Loops (conf_Parse_l6 p24) (0, 0, 0, 0, 0, 0, 0) e57 ∧ (conf_Parse_j3 e57 r))
def conf_Parse (a0 : ByteArray) (r : K11) : Prop :=
  ∃ r5 : (((S : Type) → ((Int × ByteArray) → S → Bool × S → Prop) → S → S × Unit → Prop)), say_Words a0 r5 ∧ ∃ (t12 : K24) (w12 : Unit), r5 (Sum (List ByteArray) Unit) (Yof (conf_Parse_l1)) (.inl []) (t12, w12) ∧ Aft (fun p24 => if (!(decide ((p24.length : Int) = 6))) = true then (conf_Parse_j2 p24 true r) else (∃ q72 : ByteArray, idx p24 0 q72 ∧ conf_Parse_j2 p24 (!(decide (q72 = (bstr [108, 105, 110, 107])))) r)) (fun _ => True) t12
def strings_HasSuffix (a0 : ByteArray) (a1 : ByteArray) (r : Bool) : Prop :=
  ∃ r1 : Bool, internal_stringslite_HasSuffix a0 a1 r1 ∧ r = r1
def script_Read_j2 (s8 : K4) (s12 : Int) (r : K2) : Prop :=
  if (!(decide (s12 = 0))) = true then (r = ((0, 0, 0), (0, 0), [], s8.t4.2.2.1, s12)) else (r = ((s8.1, s8.2.1, s8.2.2.1), (s8.2.2.2.1, s8.t4.1), s8.t4.2.1, 0, 0))
def script_Read_j3 (s8 : K4) (s21 : Bool) (r : K2) : Prop :=
  if s21 = true then (script_Read_j2 s8 4 r) else (script_Read_j2 s8 s8.t4.2.2.2 r)
def script_Read_j1 (a0 : ByteArray) (s8 : K4) (r : K2) : Prop :=
  if (decide (s8.t4.2.2.2 = 0)) = true then (if (decide (s8.t4.2.2.1 = 0)) = true then (script_Read_j3 s8 true r) else (∃ r22 : Bool, strings_HasSuffix a0 (bstr [10]) r22 ∧ script_Read_j3 s8 (!r22) r)) else (script_Read_j3 s8 false r)
def script_Read_j5 (x33 : K34) (s33 : K4) (s38 : Int × Int × Int × Int × Int × (List (TyS)) × Int) (o33 : K9) : Prop :=
  if (!(decide (s38.t4.2.2 = 0))) = true then (o33 = .inr (s38.1, s38.2.1, s38.2.2.1, s38.2.2.2.1, s38.t4.1, s38.t4.2.1, s33.t4.2.2.1, s38.t4.2.2)) else (o33 = .inl (s38.1, s38.2.1, s38.2.2.1, s38.2.2.2.1, s38.t4.1, s38.t4.2.1, (i64.wrap (x33.1 + 1)), s38.t4.2.2))
def script_Read_l4  (x33 : K34) (s33 : K4) (o33 : K9) : Prop :=
  if (decide (x33.1 = 0)) = true then (∃ r42 : (Int × Int × Int) × (Int × Int) × Int, conf_Parse x33.2 r42 ∧ script_Read_j5 x33 s33 (r42.1.1, r42.1.2.1, r42.1.2.2, r42.2.1.1, r42.2.1.2, s33.t4.2.1, r42.2.2) o33) else (∃ r46 : (TyS) × Int, script_Parse x33.2 r46 ∧ if (decide (r46.2 = 0)) = true then ((s33.t4.2.1.length + [r46.1].length) * 224 ≤ 140737488355328 ∧ s33.t4.2.1.length + [r46.1].length ≤ 4611686018427387904 ∧ script_Read_j5 x33 s33 (s33.1, s33.2.1, s33.2.2.1, s33.2.2.2.1, s33.t4.1, (s33.t4.2.1 ++ [r46.1]), r46.2) o33) else (script_Read_j5 x33 s33 (s33.1, s33.2.1, s33.2.2.1, s33.2.2.2.1, s33.t4.1, s33.t4.2.1, r46.2) o33))
def script_Read (a0 : ByteArray) (r : K2) : Prop :=
  ∃ r26 : (((S : Type) → ((Int × ByteArray) → S → Bool × S → Prop) → S → S × Unit → Prop)), script_Lines a0 r26 ∧ ∃ (t33 : K9) (w33 : Unit), r26 (Sum (Int × Int × Int × Int × Int × (List (TyS)) × Int × Int) (Int × Int × Int × Int × Int × (List (TyS)) × Int × Int)) (Yof (script_Read_l4)) (.inl (0, 0, 0, 0, 0, [], 0, 0)) (t33, w33) ∧ Aft (fun p72 => script_Read_j1 a0 (p72.1, p72.2.1, p72.2.2.1, p72.2.2.2.1, p72.t4.1, p72.t4.2.1, p72.t4.2.2.1, p72.t4.2.2.2) r) (fun p66 => script_Read_j1 a0 (p66.1, p66.2.1, p66.2.2.1, p66.2.2.2.1, p66.t4.1, p66.t4.2.1, p66.t4.2.2.1, p66.t4.2.2.2) r) t33
def ref21_Sender_j2  (s3 : Bool) (r : Int) : Prop :=
  if s3 = true then (r = 5) else (r = 0)
def ref21_Sender_j1 (a0 : K20) (s2 : Bool) (r : Int) : Prop :=
  if s2 = true then (r = 10) else (if (decide (a0.2.1 < 16)) = true then (ref21_Sender_j2 true r) else (ref21_Sender_j2 (decide (257 < a0.2.1)) r))
def ref21_Sender (a0 : K20) (r : Int) : Prop :=
  if (decide (a0.1 < 1)) = true then (ref21_Sender_j1 a0 true r) else (ref21_Sender_j1 a0 (decide (2 < a0.1)) r)
def ref21_Receiver_j1  (s2 : Bool) (r : Int) : Prop :=
  if s2 = true then (r = 5) else (r = 0)
def ref21_Receiver (a0 : Int × Int) (r : Int) : Prop :=
  if (decide (a0.2 < 1)) = true then (ref21_Receiver_j1 true r) else (ref21_Receiver_j1 (decide (16 < a0.2)) r)
def ref21_Parse_j3 (s11 : Int × Int × Int × Int × Int) (s12 : Bool) (r : K11) : Prop :=
  if s12 = true then (r = ((0, 0, 0), (0, 0), 5)) else (∃ r19 : Int, ref21_Sender (s11.1, s11.2.1, (u32.wrap s11.2.2.1)) r19 ∧ if (!(decide (r19 = 0))) = true then (∃ r23 : Int, ref21_Sender (s11.1, s11.2.1, (u32.wrap s11.2.2.1)) r23 ∧ r = ((0, 0, 0), (0, 0), r23)) else (∃ r27 : Int, ref21_Receiver ((u32.wrap s11.2.2.2.1), s11.t4) r27 ∧ if (!(decide (r27 = 0))) = true then (∃ r31 : Int, ref21_Receiver ((u32.wrap s11.2.2.2.1), s11.t4) r31 ∧ r = ((0, 0, 0), (0, 0), r31)) else (r = ((s11.1, s11.2.1, (u32.wrap s11.2.2.1)), ((u32.wrap s11.2.2.2.1), s11.t4), 0))))
def ref21_Parse_j2  (s11 : Int × Int × Int × Int × Int) (r : K11) : Prop :=
  if (decide (s11.2.2.1 < 0)) = true then (ref21_Parse_j3 s11 true r) else (if (decide (4294967295 < s11.2.2.1)) = true then (ref21_Parse_j3 s11 true r) else (if (decide (s11.2.2.2.1 < 0)) = true then (ref21_Parse_j3 s11 true r) else (ref21_Parse_j3 s11 (decide (4294967295 < s11.2.2.2.1)) r)))
def ref21_Parse_l4 (r3 : K0) (s36 : K25) (o36 : Sum (Int × Int × Int × Int × Int × Int) (Sum (Int × Int × Int × Int × Int) ((Int × Int × Int) × (Int × Int) × Int))) : Prop :=
  if (decide (s36.1 < 5)) = true then (∃ q37 : ByteArray, idx r3 (i64.wrap (s36.1 + 1)) q37 ∧ ∃ r42 : Int × Int, ref20_Read q37 r42 ∧ if (!(decide (r42.2 = 0))) = true then (o36 = .inr (.inr ((0, 0, 0), (0, 0), r42.2))) else (0 ≤ s36.1 ∧ s36.1 < 5 ∧ o36 = .inl ((i64.wrap (s36.1 + 1)), ((putN 5 0 [s36.2.1, s36.2.2.1, s36.2.2.2.1, s36.t4.1, s36.t4.2] s36.1.toNat r42.1).getD 0 0), ((putN 5 0 [s36.2.1, s36.2.2.1, s36.2.2.2.1, s36.t4.1, s36.t4.2] s36.1.toNat r42.1).getD 1 0), ((putN 5 0 [s36.2.1, s36.2.2.1, s36.2.2.2.1, s36.t4.1, s36.t4.2] s36.1.toNat r42.1).getD 2 0), ((putN 5 0 [s36.2.1, s36.2.2.1, s36.2.2.2.1, s36.t4.1, s36.t4.2] s36.1.toNat r42.1).getD 3 0), ((putN 5 0 [s36.2.1, s36.2.2.1, s36.2.2.2.1, s36.t4.1, s36.t4.2] s36.1.toNat r42.1).getD 4 0)))) else (o36 = .inr (.inl (s36.2.1, s36.2.2.1, s36.2.2.2.1, s36.t4.1, s36.t4.2)))
def ref21_Parse_j1 (r3 : K0) (s9 : Bool) (r : K11) : Prop :=
  if s9 = true then (r = ((0, 0, 0), (0, 0), 3)) else (∃ e36 : (Sum (Int × Int × Int × Int × Int) ((Int × Int × Int) × (Int × Int) × Int)), Loops (ref21_Parse_l4 r3) (0, 0, 0, 0, 0, 0) e36 ∧ Aft (fun p48 => ref21_Parse_j2 p48 r) (fun p49 => r = p49) e36)
def ref21_Parse (a0 : ByteArray) (r : K11) : Prop :=
  ∃ r3 : List ByteArray, ref20_Split a0 32 r3 ∧ if (!(decide ((r3.length : Int) = 6))) = true then (ref21_Parse_j1 r3 true r) else (∃ q50 : ByteArray, idx r3 0 q50 ∧ ref21_Parse_j1 r3 (!(decide (q50 = (bstr [108, 105, 110, 107])))) r)
def ref27_Read_j2 (r5 : K0) (s11 : K38) (s15 : Bool) (r : K14) : Prop :=
  if s15 = true then (r = ((0, 0, 0), (0, 0), [], (i64.wrap ((r5.length : Int) - 1)), 4)) else (r = ((s11.2.1, s11.2.2.1, s11.2.2.2.1), s11.t4, s11.1, 0, 0))
def ref27_Read_j1 (r5 : K0) (s11 : K38) (r : K14) : Prop :=
  if (decide ((r5.length : Int) = 1)) = true then (ref27_Read_j2 r5 s11 true r) else (∃ q22 : ByteArray, idx r5 (i64.wrap ((r5.length : Int) - 1)) q22 ∧ ref27_Read_j2 r5 s11 (!(decide (q22 = (bstr [])))) r)
def ref27_Read_j4 (s27 : K18) (s31 : K18) (o27 : K12) : Prop :=
  if (!(decide (s31.2.1 = 0))) = true then (o27 = .inr (.inr ((0, 0, 0), (0, 0), [], s27.2.1, s31.2.1))) else (o27 = .inl (s31.1, (i64.wrap (s27.2.1 + 1)), s31.2.2.1, s31.2.2.2.1, s31.t4.1, s31.t4.2.1, s31.t4.2.2))
def ref27_Read_l3 (r5 : K0) (s27 : K18) (o27 : K12) : Prop :=
  if (decide (s27.2.1 < (i64.wrap ((r5.length : Int) - 1)))) = true then (if (decide (s27.2.1 = 0)) = true then (∃ q35 : ByteArray, idx r5 0 q35 ∧ ∃ r40 : (Int × Int × Int) × (Int × Int) × Int, ref21_Parse q35 r40 ∧ ref27_Read_j4 s27 (s27.1, r40.2.2, r40.1.1, r40.1.2.1, r40.1.2.2, r40.2.1.1, r40.2.1.2) o27) else (∃ q44 : ByteArray, idx r5 s27.2.1 q44 ∧ ∃ r49 : (TyZ) × Int, ref27_Parse q44 r49 ∧ (s27.1.length + [r49.1].length) * 224 ≤ 140737488355328 ∧ s27.1.length + [r49.1].length ≤ 4611686018427387904 ∧ ref27_Read_j4 s27 ((s27.1 ++ [r49.1]), r49.2, s27.2.2.1, s27.2.2.2.1, s27.t4.1, s27.t4.2.1, s27.t4.2.2) o27)) else (o27 = .inr (.inl (s27.1, s27.2.2.1, s27.2.2.2.1, s27.t4.1, s27.t4.2.1, s27.t4.2.2)))
def ref27_Read (a0 : ByteArray) (r : K14) : Prop :=
  ∃ r5 : List ByteArray, ref20_Split a0 10 r5 ∧ ∃ e27 : (Sum ((List (TyZ)) × Int × Int × Int × Int × Int) ((Int × Int × Int) × (Int × Int) × (List (TyZ)) × Int × Int)), Loops (ref27_Read_l3 r5) ([], 0, 0, 0, 0, 0, 0) e27 ∧ Aft (fun p70 => ref27_Read_j1 r5 p70 r) (fun p71 => r = p71) e27
def law27_ScriptReads_j4 (s38 : Int) (s39 : Bool) (o38 : Sum Int Int) : Prop :=
  if s39 = true then (o38 = .inr s38) else (o38 = .inl (i64.wrap (s38 + 1)))
def law27_ScriptReads_l3 (r23 : K0) (x38 : K34) (s38 : Int) (o38 : Sum Int Int) : Prop :=
  if (!(decide (x38.1 = s38))) = true then (law27_ScriptReads_j4 s38 true o38) else (if (decide ((i64.wrap ((r23.length : Int) - 1)) ≤ s38)) = true then (law27_ScriptReads_j4 s38 true o38) else (∃ q40 : ByteArray, idx r23 s38 q40 ∧ law27_ScriptReads_j4 s38 (!(decide (x38.2 = q40))) o38))
def law27_ScriptReads_j7  (s69 : Bool) (r : Bool) : Prop :=
  r = s69
def law27_ScriptReads_j6 (a0 : ByteArray) (r5 : K2) (s60 : Bool) (r : Bool) : Prop :=
  if s60 = true then (r = false) else (if (!(decide (r5.t4 = 0))) = true then (∃ r61 : Bool, law27_known r61 ∧ r = r61) else (∃ r65 : ByteArray × Int, script_Print r5.1 r5.2.1 r5.2.2.1 r65 ∧ ∃ r70 : Bool, law27_known r70 ∧ if r70 = true then (if (decide (r65.2 = 0)) = true then (law27_ScriptReads_j7 (decide (r65.1 = (a0.extract 0 (min (a0.size : Int) 900).toNat))) r) else (law27_ScriptReads_j7 false r)) else (law27_ScriptReads_j7 false r)))
def law27_ScriptReads_j5 (a0 : ByteArray) (a1 : Int) (r5 : K2) (r23 : K0) (p48 : Int) (s59 : Int) (r : Bool) : Prop :=
  if (!(decide (p48 = (i64.wrap ((r23.length : Int) - 1))))) = true then (law27_ScriptReads_j6 a0 r5 true r) else (if (!(decide (s59 = p48))) = true then (law27_ScriptReads_j6 a0 r5 (!(decide (s59 = a1))) r) else (law27_ScriptReads_j6 a0 r5 false r))
def law27_ScriptReads_l8 (a1 : Int) (x74 : K34) (s74 : Int) (o74 : Sum Int Int) : Prop :=
  if (decide (s74 = a1)) = true then (o74 = .inr s74) else (o74 = .inl (i64.wrap (s74 + 1)))
def law27_ScriptReads_j2 (a0 : ByteArray) (a1 : Int) (r5 : K2) (s22 : Unit) (r : Bool) : Prop :=
  ∃ r23 : List ByteArray, ref20_Split (a0.extract 0 (min (a0.size : Int) 900).toNat) 10 r23 ∧ ∃ r31 : (((S : Type) → ((Int × ByteArray) → S → Bool × S → Prop) → S → S × Unit → Prop)), script_Lines (a0.extract 0 (min (a0.size : Int) 900).toNat) r31 ∧ ∃ (t38 : Sum Int Int) (w38 : Unit), r31 (Sum Int Int) (Yof (law27_ScriptReads_l3 r23)) (.inl 0) (t38, w38) ∧ Aft (fun p48 => ∃ r52 : (((S : Type) → ((Int × ByteArray) → S → Bool × S → Prop) → S → S × Unit → Prop)), script_Lines (a0.extract 0 (min (a0.size : Int) 900).toNat) r52 ∧ ∃ (t74 : Sum Int Int) (w74 : Unit), r52 (Sum Int Int) (Yof (law27_ScriptReads_l8 a1)) (.inl 0) (t74, w74) ∧ Aft (fun p78 => law27_ScriptReads_j5 a0 a1 r5 r23 p48 p78 r) (fun p75 => law27_ScriptReads_j5 a0 a1 r5 r23 p48 p75 r) t74) (fun p45 => r = false) t38
def law27_ScriptReads_l9 (r5 : K2) (r13 : K14) (s81 : Int) (o81 : K33) : Prop :=
  if (decide (s81 < (r5.2.2.1.length : Int))) = true then (∃ q82 : TyS, idx r5.2.2.1 s81 q82 ∧ ∃ q99 : TyZ, idx r13.2.2.1 s81 q99 ∧ ∃ r116 : Bool, law27_same q82 q99 r116 ∧ if (!r116) = true then (o81 = .inr (.inr false)) else (o81 = .inl (i64.wrap (s81 + 1)))) else (o81 = .inr (.inl ()))
def law27_ScriptReads_j1 (a0 : ByteArray) (a1 : Int) (r5 : K2) (r13 : K14) (s21 : Bool) (r : Bool) : Prop :=
  if s21 = true then (r = false) else (∃ e81 : (Sum Unit Bool), Loops (law27_ScriptReads_l9 r5 r13) 0 e81 ∧ Aft (fun p121 => law27_ScriptReads_j2 a0 a1 r5 p121 r) (fun p122 => r = p122) e81)
def law27_ScriptReads (a0 : ByteArray) (a1 : Int) (r : Bool) : Prop :=
  0 ≤ (min (a0.size : Int) 900) ∧ (min (a0.size : Int) 900) ≤ (a0.size : Int) ∧ ∃ r5 : (Int × Int × Int) × (Int × Int) × (List (TyS)) × Int × Int, script_Read (a0.extract 0 (min (a0.size : Int) 900).toNat) r5 ∧ ∃ r13 : (Int × Int × Int) × (Int × Int) × (List (TyZ)) × Int × Int, ref27_Read (a0.extract 0 (min (a0.size : Int) 900).toNat) r13 ∧ if (!(decide (r5.t4 = r13.t4))) = true then (law27_ScriptReads_j1 a0 a1 r5 r13 true r) else (if (!(decide (r5.2.2.2.1 = r13.2.2.2.1))) = true then (law27_ScriptReads_j1 a0 a1 r5 r13 true r) else (if (!((decide (r5.1.1 = r13.1.1)) && ((decide (r5.1.2.1 = r13.1.2.1)) && ((decide (r5.1.2.2 = r13.1.2.2)) && true)))) = true then (law27_ScriptReads_j1 a0 a1 r5 r13 true r) else (if (!((decide (r5.2.1.1 = r13.2.1.1)) && ((decide (r5.2.1.2 = r13.2.1.2)) && true))) = true then (law27_ScriptReads_j1 a0 a1 r5 r13 true r) else (law27_ScriptReads_j1 a0 a1 r5 r13 (!(decide ((r5.2.2.1.length : Int) = (r13.2.2.1.length : Int)))) r))))
end Go.Rel
