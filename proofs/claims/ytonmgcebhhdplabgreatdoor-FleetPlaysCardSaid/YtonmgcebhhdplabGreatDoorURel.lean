import Derived.Test.YtonmgcebhhdplabGreatDoorEngQ
/-! The functions as plain relations. -/
set_option linter.unusedVariables false
namespace Go.Rel
open Go Go.Eng
open Go.IntKind (i64 u8 u16 u32 u64)
abbrev TyA := ByteArray × Int × Int × Int × Int × Int × Int
abbrev TyM := Int × List Int × List (Int × Int) × List Int × ByteArray × ByteArray
abbrev TyR := Int × List Int × List (List Int) × List Int × ByteArray × ByteArray
abbrev TyI := Int × Int × Int × Int × List Int
abbrev TyS := Int × (TyM) × (TyI) × List Int
abbrev TyZ := Int × (TyR) × (TyI) × List Int
abbrev K0 := List (Int × (Int × Int × Int × Int × Int × Bool × Bool × Int × Int × List (Int × Int) × Int × Int)) × List ((Int × Int) × List Int)
abbrev K1 := List (TyR) × List (Int × Int × List Int)
abbrev K2 := (List (Int × (Int × Int × Int × Int × Int × Bool × Bool × Int × Int × List (Int × Int) × Int × Int)) × List ((Int × Int) × List Int)) × Int × (List (TyR)) × (List (Int × Int × List Int))
abbrev K3 := Sum ((List (Int × (Int × Int × Int × Int × Int × Bool × Bool × Int × Int × List (Int × Int) × Int × Int)) × List ((Int × Int) × List Int)) × Int × (List (TyR)) × (List (Int × Int × List Int))) (Sum Unit Bool)
abbrev K4 := List Value
abbrev K5 := Sum (Int × Int × (List (Int × (Int × Int × Int × Int × Int × Bool × Bool × Int × Int × List (Int × Int) × Int × Int))) × (List ((Int × Int) × List Int))) (Int × (List (Int × (Int × Int × Int × Int × Int × Bool × Bool × Int × Int × List (Int × Int) × Int × Int))) × (List ((Int × Int) × List Int)))
abbrev K6 := Int × Int × Int × Int × Int × Bool × Bool × Int × Int × List (List Int) × Int × Int
abbrev K7 := Int × (List (Int × (Int × Int × Int × Int × Int × Bool × Bool × Int × Int × List (Int × Int) × Int × Int))) × (List ((Int × Int) × List Int))
abbrev K8 := (List (Int × (Int × Int × Int × Int × Int × Bool × Bool × Int × Int × List (Int × Int) × Int × Int)) × List ((Int × Int) × List Int)) × (List (TyR)) × (List (Int × Int × List Int))
abbrev K9 := Int × Int × (List (Int × (Int × Int × Int × Int × Int × Bool × Bool × Int × Int × List (Int × Int) × Int × Int))) × (List ((Int × Int) × List Int))
abbrev K10 := Int × Int × Int × Int × Int × Bool × Bool × Int × Int × List (Int × Int) × Int × Int
abbrev K11 := (List (Int × (Int × Int × Int × Int × Int × Bool × Bool × Int × Int × List (Int × Int) × Int × Int)))
abbrev K12 := Sum (Int × Bool × Bool × Bool × Bool × Bool × Bool × Bool × Bool × Bool × Bool × Bool × Bool × Bool) (Sum (Bool × Bool × Bool × Bool × Bool × Bool × Bool × Bool × Bool × Bool × Bool × Bool × Bool) Int)
abbrev K13 := (List (Int × (Int × Int × Int × Int × Int × Bool × Bool × Int × Int × List (Int × Int) × Int × Int)) × List ((Int × Int) × List Int))
abbrev K14 := Sum (Int × Int × Int × Int × Int × Int × Bool × Bool × Int × Int × List (List Int) × Int × Int) (Int × Int × Int × Int × Int × Bool × Bool × Int × Int × List (List Int) × Int × Int)
abbrev K15 := Bool × Bool × Bool × Bool × Bool × Bool × Bool × Bool × Bool × Bool × Bool × Bool × Bool
abbrev K16 := (Int × Int × Int × Int × Int × Bool × Bool × Int × Int × List (List Int) × Int × Int)
abbrev K17 := Sum Int (Sum Unit Int)
abbrev K18 := Int × Int × Int × Int × Int × Int × Int × Int × (List (Int × Int)) × List Int × ByteArray × ByteArray
abbrev K19 := List (Int × (Int × Int × Int × Int × Int × Bool × Bool × Int × Int × List (Int × Int) × Int × Int))
abbrev K20 := List ByteArray
abbrev K21 := Int × Bool × Bool × Bool × Bool × Bool × Bool × Bool × Bool × Bool × Bool × Bool × Bool × Bool
abbrev K22 := Sum (List Int × Int) (List Int)
abbrev K23 := Int × (List (Int × (Int × Int × Int × Int × Int × Bool × Bool × Int × Int × List (Int × Int) × Int × Int)) × List ((Int × Int) × List Int))
abbrev K24 := Int × Int × Int × Int × Int × Int × Bool × Bool × Int × Int × List (List Int) × Int × Int
abbrev K25 := Sum (List ByteArray × Int) (List ByteArray)
abbrev K26 := Sum (List (Int × (Int × Int × Int × Int × Int × Bool × Bool × Int × Int × List (Int × Int) × Int × Int))) (Sum Unit Bool)
abbrev K27 := (List ((Int × Int) × List Int)) × Int × Int × Int × Int × Int × Bool × Bool × Int × Int × (List (Int × Int)) × Int × Int
abbrev K28 := (List ((Int × Int) × Int)) × (List ((Int × Int) × List Int))
abbrev K29 := List (List Int)
abbrev K30 := Sum (List (List Int) × Int) (List (List Int))
abbrev K31 := Int × Int × Int × Int × Int × Int × Int × Int × Int × (List (Int × Int)) × List Int × ByteArray × ByteArray
abbrev K32 := Option (Int × (Int × Int × Int × Int × Int × Bool × Bool × Int × Int × List (Int × Int) × Int × Int))
abbrev K33 := List ByteArray × Int
abbrev K34 := List Int × Int
abbrev K35 := List (List Int) × Int
abbrev K36 := (Int × Int × Int × Int × Int × Bool × Bool × Int × Int × List (Int × Int) × Int × Int) × Bool
abbrev K37 := Option ((Int × Int) × List Int)
abbrev K38 := Int × Int × Int × Int × Int × Int × (List (Int × Int)) × List Int × ByteArray × ByteArray
abbrev K39 := (List (Int × Int × List Int))
abbrev K40 := (List (Int × Int))
abbrev K41 := Sum Int (Sum Unit Bool)
abbrev K42 := (List (TyR) × List (Int × Int × List Int)) × Bool
abbrev K43 := Sum ((List (Int × Int × List Int)) × Int) (List (Int × Int × List Int))
abbrev K44 := (List (Int × Int)) × (List ((Int × Int) × Int))
abbrev K45 := (List (TyR) × List (Int × Int × List Int))
abbrev K46 := List Int × (List ((Int × Int) × List Int))
abbrev K47 := (List ((Int × Int) × List Int))
abbrev K48 := Int × ByteArray
abbrev K49 := Int × Int × Int × Int × (TyM)
abbrev K50 := List (Int × Int)
abbrev K51 := List (Int × Int × Int × Int × (TyM))
abbrev K52 := (List (Int × Int × List Int)) × Int
abbrev K53 := Int × Int × List Int
abbrev K54 := Sum (List ByteArray) Unit
def fleet_New  (r : K13) : Prop :=
  r = (([] : List (Int × (Int × Int × Int × Int × Int × Bool × Bool × Int × Int × List (Int × Int) × Int × Int))), ([] : List ((Int × Int) × List Int)))
def law17_Cut (a0 : TyM) (r : (TyM)) : Prop :=
  0 ≤ (min (a0.2.2.1.length : Int) 40) ∧ (min (a0.2.2.1.length : Int) 40) ≤ (a0.2.2.1.length : Int) ∧ 0 ≤ (min (a0.2.2.2.1.length : Int) 40) ∧ (min (a0.2.2.2.1.length : Int) 40) ≤ (a0.2.2.2.1.length : Int) ∧ 0 ≤ (min (a0.t4.1.size : Int) 80) ∧ (min (a0.t4.1.size : Int) 80) ≤ (a0.t4.1.size : Int) ∧ 0 ≤ (min (a0.t4.2.size : Int) 80) ∧ (min (a0.t4.2.size : Int) 80) ≤ (a0.t4.2.size : Int) ∧ r = (a0.1, a0.2.1, ((a0.2.2.1.drop (0 : Int).toNat).take (((min (a0.2.2.1.length : Int) 40) : Int) - 0).toNat), ((a0.2.2.2.1.drop (0 : Int).toNat).take (((min (a0.2.2.2.1.length : Int) 40) : Int) - 0).toNat), (a0.t4.1.extract 0 (min (a0.t4.1.size : Int) 80).toNat), (a0.t4.2.extract 0 (min (a0.t4.2.size : Int) 80).toNat))
def law17_Of_j1 (a0 : TyM) (s8 : K29) (r : (TyR)) : Prop :=
  r = (a0.1, a0.2.1, s8, a0.2.2.2.1, a0.t4.1, a0.t4.2)
def law17_Of_l2 (a0 : TyM) (s18 : Int × List (List Int)) (o18 : Sum (Int × List (List Int)) (List (List Int))) : Prop :=
  if (decide (s18.1 < (a0.2.2.1.length : Int))) = true then (∃ q22 : Int × Int, idx a0.2.2.1 s18.1 q22 ∧ ∃ q27 : Int × Int, idx a0.2.2.1 s18.1 q27 ∧ (s18.2.length + [[q22.1, q27.2]].length) * 16 ≤ 140737488355328 ∧ s18.2.length + [[q22.1, q27.2]].length ≤ 4611686018427387904 ∧ o18 = .inl ((i64.wrap (s18.1 + 1)), (s18.2 ++ [[q22.1, q27.2]]))) else (o18 = .inr s18.2)
def law17_Of (a0 : TyM) (r : (TyR)) : Prop :=
  ∃ e18 : List (List Int), Loops (law17_Of_l2 a0) (0, []) e18 ∧ (law17_Of_j1 a0 e18 r)
def ref16_All_j2  (s8 : (List (TyA))) (r : (List (TyA))) : Prop :=
  r = s8
def ref16_All_j4 (s18 : (List (TyA)) × Int × Int) (q22 : TyA) (s30 : Int × Int) (o18 : Sum ((List (TyA)) × Int × Int) (List (TyA))) : Prop :=
  (s18.1.length + [(q22.1, q22.2.1, s30.2, q22.2.2.2.1, q22.t4.1, q22.t4.2.1, q22.t4.2.2)].length) * 64 ≤ 140737488355328 ∧ s18.1.length + [(q22.1, q22.2.1, s30.2, q22.2.2.2.1, q22.t4.1, q22.t4.2.1, q22.t4.2.2)].length ≤ 4611686018427387904 ∧ o18 = .inl ((s18.1 ++ [(q22.1, q22.2.1, s30.2, q22.2.2.2.1, q22.t4.1, q22.t4.2.1, q22.t4.2.2)]), s30.1, (i64.wrap (s18.2.2 + 1)))
def ref16_All_l3 (s4 : (List (TyA))) (s18 : (List (TyA)) × Int × Int) (o18 : Sum ((List (TyA)) × Int × Int) (List (TyA))) : Prop :=
  if (decide (s18.2.2 < (s4.length : Int))) = true then (∃ q22 : TyA, idx s4 s18.2.2 q22 ∧ if (decide (q22.2.1 < 3)) = true then (ref16_All_j4 s18 q22 ((i64.wrap (s18.2.1 + 1)), s18.2.1) o18) else (ref16_All_j4 s18 q22 (s18.2.1, (-1)) o18)) else (o18 = .inr s18.1)
def ref16_All_j1  (s4 : (List (TyA))) (r : (List (TyA))) : Prop :=
  ∃ e18 : (List (TyA)), Loops (ref16_All_l3 s4) ([], 0, 0) e18 ∧ (ref16_All_j2 e18 r)
def ref16_All (a0 : Int) (r : (List (TyA))) : Prop :=
  if (decide (a0 = 1)) = true then (ref16_All_j1 [((bstr [114, 111, 98, 111, 116]), 1, 0, 0, 65535, 1, 0), ((bstr [115, 112, 101, 101, 100]), 1, 0, 1, 5000, 1, 0), ((bstr [97, 99, 99, 101, 108]), 1, 0, 1, 10000, 2, 500), ((bstr [112, 97, 116, 104]), 3, 0, 1, 16, 1, 0), ((bstr [116, 97, 103]), 6, 0, 0, 16, 2, 0)] r) else (if (decide (a0 = 2)) = true then (ref16_All_j1 [((bstr [114, 111, 98, 111, 116]), 1, 0, 0, 65535, 1, 0), ((bstr [114, 101, 97, 115, 111, 110]), 1, 0, 0, 15, 1, 0), ((bstr [122, 111, 110, 101]), 1, 0, 0, 4095, 2, 0)] r) else (if (decide (a0 = 3)) = true then (ref16_All_j1 [((bstr [114, 111, 98, 111, 116]), 1, 0, 0, 65535, 1, 0), ((bstr [122, 111, 110, 101]), 1, 0, 0, 4095, 1, 0), ((bstr [108, 101, 97, 115, 101]), 1, 0, 1, 255, 2, 1), ((bstr [99, 101, 108, 108, 115]), 4, 0, 1, 32, 1, 0)] r) else (if (decide (a0 = 4)) = true then (ref16_All_j1 [((bstr [114, 111, 98, 111, 116]), 1, 0, 0, 65535, 1, 0), ((bstr [120]), 2, 0, (-1000000), 1000000, 1, 0), ((bstr [121]), 2, 0, (-1000000), 1000000, 1, 0), ((bstr [104, 101, 97, 100, 105, 110, 103]), 1, 0, 0, 35999, 1, 0), ((bstr [98, 97, 116, 116, 101, 114, 121]), 1, 0, 0, 1000, 1, 0), ((bstr [115, 117, 114, 101]), 1, 0, 0, 100, 2, 100)] r) else (if (decide (a0 = 5)) = true then (ref16_All_j1 [((bstr [114, 111, 98, 111, 116]), 1, 0, 0, 65535, 1, 0), ((bstr [99, 111, 100, 101]), 1, 0, 1, 9999, 1, 0), ((bstr [115, 101, 118, 101, 114, 105, 116, 121]), 1, 0, 0, 4, 1, 0), ((bstr [112, 97, 114, 116]), 1, 0, 0, 255, 2, 0), ((bstr [116, 105, 109, 101, 115]), 1, 0, 1, 1000000, 2, 1), ((bstr [116, 101, 120, 116]), 5, 0, 0, 64, 1, 0)] r) else (ref16_All_j1 ([] : List (TyA)) r)))))
def ref17_path_j1  (s3 : Unit) (r : Int) : Prop :=
  r = 0
def ref17_path_j3 (s4 : Int) (s5 : Unit) (o4 : K17) : Prop :=
  o4 = .inl (i64.wrap (s4 + 1))
def ref17_path_j5 (s6 : Int) (s7 : Bool) (o6 : K17) : Prop :=
  if s7 = true then (o6 = .inr (.inr 5)) else (o6 = .inl (i64.wrap (s6 + 1)))
def ref17_path_l4 (a0 : K29) (s4 : Int) (s6 : Int) (o6 : K17) : Prop :=
  if (decide (s6 < 2)) = true then (∃ q8 : List Int, idx a0 s4 q8 ∧ 0 ≤ s6 ∧ s6 < 2 ∧ if (decide ((q8.getD s6.toNat 0) < (-1000000))) = true then (ref17_path_j5 s6 true o6) else (∃ q15 : List Int, idx a0 s4 q15 ∧ 0 ≤ s6 ∧ s6 < 2 ∧ ref17_path_j5 s6 (decide (1000000 < (q15.getD s6.toNat 0))) o6)) else (o6 = .inr (.inl ()))
def ref17_path_l2 (a0 : K29) (s4 : Int) (o4 : K17) : Prop :=
  if (decide (s4 < (a0.length : Int))) = true then (∃ e6 : (Sum Unit Int), Loops (ref17_path_l4 a0 s4) 0 e6 ∧ Aft (fun p22 => ref17_path_j3 s4 p22 o4) (fun p23 => o4 = .inr (.inr p23)) e6) else (o4 = .inr (.inl ()))
def ref17_path (a0 : K29) (r : Int) : Prop :=
  if (decide ((a0.length : Int) = 0)) = true then (r = 13) else (if (decide (16 < (a0.length : Int))) = true then (r = 6) else (∃ e4 : (Sum Unit Int), Loops (ref17_path_l2 a0) 0 e4 ∧ Aft (fun p24 => ref17_path_j1 p24 r) (fun p25 => r = p25) e4))
def ref17_cells_j1  (s3 : Unit) (r : Int) : Prop :=
  r = 0
def ref17_cells_j3 (a0 : List Int) (s4 : Int) (s5 : Bool) (o4 : K17) : Prop :=
  if s5 = true then (o4 = .inr (.inr 5)) else (∃ q7 : Int, ((decide (0 < s4)) = true → idx a0 s4 q7) ∧ ∃ q12 : Int, ((decide (0 < s4)) = true → idx a0 (i64.wrap (s4 - 1)) q12) ∧ if ((decide (0 < s4)) && (decide (q7 ≤ q12))) = true then (o4 = .inr (.inr 3)) else (o4 = .inl (i64.wrap (s4 + 1))))
def ref17_cells_l2 (a0 : List Int) (s4 : Int) (o4 : K17) : Prop :=
  if (decide (s4 < (a0.length : Int))) = true then (∃ q18 : Int, idx a0 s4 q18 ∧ if (decide (q18 < 0)) = true then (ref17_cells_j3 a0 s4 true o4) else (∃ q23 : Int, idx a0 s4 q23 ∧ ref17_cells_j3 a0 s4 (decide (65535 < q23)) o4)) else (o4 = .inr (.inl ()))
def ref17_cells (a0 : List Int) (r : Int) : Prop :=
  if (decide ((a0.length : Int) = 0)) = true then (r = 13) else (if (decide (32 < (a0.length : Int))) = true then (r = 6) else (∃ e4 : (Sum Unit Int), Loops (ref17_cells_l2 a0) 0 e4 ∧ Aft (fun p28 => ref17_cells_j1 p28 r) (fun p29 => r = p29) e4))
def ref17_text_j1  (s1 : Unit) (r : Int) : Prop :=
  r = 0
def ref17_text_j3 (s2 : Int) (s3 : Bool) (o2 : K17) : Prop :=
  if s3 = true then (o2 = .inr (.inr 19)) else (o2 = .inl (i64.wrap (s2 + 1)))
def ref17_text_l2 (a0 : ByteArray) (s2 : Int) (o2 : K17) : Prop :=
  if (decide (s2 < (a0.size : Int))) = true then (∃ q4 : Int, idx (bints a0) s2 q4 ∧ if (decide (q4 < 32)) = true then (ref17_text_j3 s2 true o2) else (∃ q6 : Int, idx (bints a0) s2 q6 ∧ ref17_text_j3 s2 (decide (126 < q6)) o2)) else (o2 = .inr (.inl ()))
def ref17_text (a0 : ByteArray) (a1 : Int) (r : Int) : Prop :=
  if (decide (a1 < (a0.size : Int))) = true then (r = 6) else (∃ e2 : (Sum Unit Int), Loops (ref17_text_l2 a0) 0 e2 ∧ Aft (fun p8 => ref17_text_j1 p8 r) (fun p9 => r = p9) e2)
def ref17_Check_j3  (s16 : Bool) (r : Int) : Prop :=
  if s16 = true then (r = 3) else (r = 0)
def ref17_Check_j2 (a0 : TyR) (s14 : K15) (s15 : Unit) (r : Int) : Prop :=
  if (!s14.2.2.2.1) = true then (if (decide (0 < (a0.2.2.1.length : Int))) = true then (ref17_Check_j3 true r) else (if (!s14.t4.1) = true then (if (decide (0 < (a0.2.2.2.1.length : Int))) = true then (ref17_Check_j3 true r) else (if (!s14.t4.2.1) = true then (if (!(decide (a0.t4.1 = (bstr [])))) = true then (ref17_Check_j3 true r) else (if (!s14.t4.2.2.1) = true then (ref17_Check_j3 (!(decide (a0.t4.2 = (bstr [])))) r) else (ref17_Check_j3 false r))) else (if (!s14.t4.2.2.1) = true then (ref17_Check_j3 (!(decide (a0.t4.2 = (bstr [])))) r) else (ref17_Check_j3 false r)))) else (if (!s14.t4.2.1) = true then (if (!(decide (a0.t4.1 = (bstr [])))) = true then (ref17_Check_j3 true r) else (if (!s14.t4.2.2.1) = true then (ref17_Check_j3 (!(decide (a0.t4.2 = (bstr [])))) r) else (ref17_Check_j3 false r))) else (if (!s14.t4.2.2.1) = true then (ref17_Check_j3 (!(decide (a0.t4.2 = (bstr [])))) r) else (ref17_Check_j3 false r))))) else (if (!s14.t4.1) = true then (if (decide (0 < (a0.2.2.2.1.length : Int))) = true then (ref17_Check_j3 true r) else (if (!s14.t4.2.1) = true then (if (!(decide (a0.t4.1 = (bstr [])))) = true then (ref17_Check_j3 true r) else (if (!s14.t4.2.2.1) = true then (ref17_Check_j3 (!(decide (a0.t4.2 = (bstr [])))) r) else (ref17_Check_j3 false r))) else (if (!s14.t4.2.2.1) = true then (ref17_Check_j3 (!(decide (a0.t4.2 = (bstr [])))) r) else (ref17_Check_j3 false r)))) else (if (!s14.t4.2.1) = true then (if (!(decide (a0.t4.1 = (bstr [])))) = true then (ref17_Check_j3 true r) else (if (!s14.t4.2.2.1) = true then (ref17_Check_j3 (!(decide (a0.t4.2 = (bstr [])))) r) else (ref17_Check_j3 false r))) else (if (!s14.t4.2.2.1) = true then (ref17_Check_j3 (!(decide (a0.t4.2 = (bstr [])))) r) else (ref17_Check_j3 false r))))
def ref17_Check_j5 (s17 : Int) (s18 : Bool) (o17 : K17) : Prop :=
  if s18 = true then (o17 = .inr (.inr 3)) else (o17 = .inl (i64.wrap (s17 + 1)))
def ref17_Check_l4 (a0 : TyR) (s14 : K15) (s17 : Int) (o17 : K17) : Prop :=
  if (decide (s17 < 6)) = true then (0 ≤ s17 ∧ s17 < 6 ∧ if (!([s14.t4.2.2.2.1, s14.t4.t4.1, s14.t4.t4.2.1, s14.t4.t4.2.2.1, s14.t4.t4.2.2.2.1, s14.t4.t4.t4].getD s17.toNat false)) = true then (0 ≤ s17 ∧ s17 < 6 ∧ ref17_Check_j5 s17 (!(decide ((a0.2.1.getD s17.toNat 0) = 0))) o17) else (ref17_Check_j5 s17 false o17)) else (o17 = .inr (.inl ()))
def ref17_Check_j1 (a0 : TyR) (s14 : K15) (r : Int) : Prop :=
  ∃ e17 : (Sum Unit Int), Loops (ref17_Check_l4 a0 s14) 0 e17 ∧ Aft (fun p23 => ref17_Check_j2 a0 s14 p23 r) (fun p24 => r = p24) e17
def ref17_Check_j7 (s25 : K21) (q26 : TyA) (s33 : Int × Bool × Bool × Bool × Bool × Bool × Bool) (o25 : K12) : Prop :=
  if (!(decide (s33.1 = 0))) = true then (o25 = .inr (.inr s33.1)) else (o25 = .inl ((i64.wrap (s25.1 + 1)), ((putN 7 false [s25.2.1, s25.2.2.1, s25.2.2.2.1, s25.t4.1, s25.t4.2.1, s25.t4.2.2.1, s25.t4.2.2.2.1] q26.2.1.toNat true).getD 0 false), ((putN 7 false [s25.2.1, s25.2.2.1, s25.2.2.2.1, s25.t4.1, s25.t4.2.1, s25.t4.2.2.1, s25.t4.2.2.2.1] q26.2.1.toNat true).getD 1 false), ((putN 7 false [s25.2.1, s25.2.2.1, s25.2.2.2.1, s25.t4.1, s25.t4.2.1, s25.t4.2.2.1, s25.t4.2.2.2.1] q26.2.1.toNat true).getD 2 false), ((putN 7 false [s25.2.1, s25.2.2.1, s25.2.2.2.1, s25.t4.1, s25.t4.2.1, s25.t4.2.2.1, s25.t4.2.2.2.1] q26.2.1.toNat true).getD 3 false), ((putN 7 false [s25.2.1, s25.2.2.1, s25.2.2.2.1, s25.t4.1, s25.t4.2.1, s25.t4.2.2.1, s25.t4.2.2.2.1] q26.2.1.toNat true).getD 4 false), ((putN 7 false [s25.2.1, s25.2.2.1, s25.2.2.2.1, s25.t4.1, s25.t4.2.1, s25.t4.2.2.1, s25.t4.2.2.2.1] q26.2.1.toNat true).getD 5 false), ((putN 7 false [s25.2.1, s25.2.2.1, s25.2.2.2.1, s25.t4.1, s25.t4.2.1, s25.t4.2.2.1, s25.t4.2.2.2.1] q26.2.1.toNat true).getD 6 false), s33.2.1, s33.2.2.1, s33.2.2.2.1, s33.t4.1, s33.t4.2.1, s33.t4.2.2))
def ref17_Check_l6 (a0 : TyR) (r6 : (List (TyA))) (s25 : K21) (o25 : K12) : Prop :=
  if (decide (s25.1 < (r6.length : Int))) = true then (∃ q26 : TyA, idx r6 s25.1 q26 ∧ 0 ≤ q26.2.1 ∧ q26.2.1 < 7 ∧ ∃ q34 : TyA, idx r6 s25.1 q34 ∧ if (decide (q34.2.1 = 3)) = true then (∃ r39 : Int, ref17_path a0.2.2.1 r39 ∧ ref17_Check_j7 s25 q26 (r39, s25.t4.t4.1, s25.t4.t4.2.1, s25.t4.t4.2.2.1, s25.t4.t4.2.2.2.1, s25.t4.t4.t4.1, s25.t4.t4.t4.2) o25) else (if (decide (q34.2.1 = 4)) = true then (∃ r43 : Int, ref17_cells a0.2.2.2.1 r43 ∧ ref17_Check_j7 s25 q26 (r43, s25.t4.t4.1, s25.t4.t4.2.1, s25.t4.t4.2.2.1, s25.t4.t4.2.2.2.1, s25.t4.t4.t4.1, s25.t4.t4.t4.2) o25) else (if (decide (q34.2.1 = 5)) = true then (∃ r47 : Int, ref17_text a0.t4.1 64 r47 ∧ ref17_Check_j7 s25 q26 (r47, s25.t4.t4.1, s25.t4.t4.2.1, s25.t4.t4.2.2.1, s25.t4.t4.2.2.2.1, s25.t4.t4.t4.1, s25.t4.t4.t4.2) o25) else (if (decide (q34.2.1 = 6)) = true then (∃ r51 : Int, ref17_text a0.t4.2 16 r51 ∧ ref17_Check_j7 s25 q26 (r51, s25.t4.t4.1, s25.t4.t4.2.1, s25.t4.t4.2.2.1, s25.t4.t4.2.2.2.1, s25.t4.t4.t4.1, s25.t4.t4.t4.2) o25) else (∃ q55 : TyA, idx r6 s25.1 q55 ∧ 0 ≤ q55.2.2.1 ∧ q55.2.2.1 < 6 ∧ ∃ q62 : TyA, idx r6 s25.1 q62 ∧ 0 ≤ q62.2.2.1 ∧ q62.2.2.1 < 6 ∧ ∃ q69 : TyA, idx r6 s25.1 q69 ∧ ∃ q75 : TyA, ((decide ((a0.2.1.getD q62.2.2.1.toNat 0) < q69.2.2.2.1)) = false → idx r6 s25.1 q75) ∧ ((decide ((a0.2.1.getD q62.2.2.1.toNat 0) < q69.2.2.2.1)) = false → 0 ≤ q75.2.2.1) ∧ ((decide ((a0.2.1.getD q62.2.2.1.toNat 0) < q69.2.2.2.1)) = false → q75.2.2.1 < 6) ∧ ∃ q82 : TyA, ((decide ((a0.2.1.getD q62.2.2.1.toNat 0) < q69.2.2.2.1)) = false → idx r6 s25.1 q82) ∧ if ((decide ((a0.2.1.getD q62.2.2.1.toNat 0) < q69.2.2.2.1)) || (decide (q82.t4.1 < (a0.2.1.getD q75.2.2.1.toNat 0)))) = true then (ref17_Check_j7 s25 q26 (5, ((putN 6 false [s25.t4.t4.1, s25.t4.t4.2.1, s25.t4.t4.2.2.1, s25.t4.t4.2.2.2.1, s25.t4.t4.t4.1, s25.t4.t4.t4.2] q55.2.2.1.toNat true).getD 0 false), ((putN 6 false [s25.t4.t4.1, s25.t4.t4.2.1, s25.t4.t4.2.2.1, s25.t4.t4.2.2.2.1, s25.t4.t4.t4.1, s25.t4.t4.t4.2] q55.2.2.1.toNat true).getD 1 false), ((putN 6 false [s25.t4.t4.1, s25.t4.t4.2.1, s25.t4.t4.2.2.1, s25.t4.t4.2.2.2.1, s25.t4.t4.t4.1, s25.t4.t4.t4.2] q55.2.2.1.toNat true).getD 2 false), ((putN 6 false [s25.t4.t4.1, s25.t4.t4.2.1, s25.t4.t4.2.2.1, s25.t4.t4.2.2.2.1, s25.t4.t4.t4.1, s25.t4.t4.t4.2] q55.2.2.1.toNat true).getD 3 false), ((putN 6 false [s25.t4.t4.1, s25.t4.t4.2.1, s25.t4.t4.2.2.1, s25.t4.t4.2.2.2.1, s25.t4.t4.t4.1, s25.t4.t4.t4.2] q55.2.2.1.toNat true).getD 4 false), ((putN 6 false [s25.t4.t4.1, s25.t4.t4.2.1, s25.t4.t4.2.2.1, s25.t4.t4.2.2.2.1, s25.t4.t4.t4.1, s25.t4.t4.t4.2] q55.2.2.1.toNat true).getD 5 false)) o25) else (ref17_Check_j7 s25 q26 (0, ((putN 6 false [s25.t4.t4.1, s25.t4.t4.2.1, s25.t4.t4.2.2.1, s25.t4.t4.2.2.2.1, s25.t4.t4.t4.1, s25.t4.t4.t4.2] q55.2.2.1.toNat true).getD 0 false), ((putN 6 false [s25.t4.t4.1, s25.t4.t4.2.1, s25.t4.t4.2.2.1, s25.t4.t4.2.2.2.1, s25.t4.t4.t4.1, s25.t4.t4.t4.2] q55.2.2.1.toNat true).getD 1 false), ((putN 6 false [s25.t4.t4.1, s25.t4.t4.2.1, s25.t4.t4.2.2.1, s25.t4.t4.2.2.2.1, s25.t4.t4.t4.1, s25.t4.t4.t4.2] q55.2.2.1.toNat true).getD 2 false), ((putN 6 false [s25.t4.t4.1, s25.t4.t4.2.1, s25.t4.t4.2.2.1, s25.t4.t4.2.2.2.1, s25.t4.t4.t4.1, s25.t4.t4.t4.2] q55.2.2.1.toNat true).getD 3 false), ((putN 6 false [s25.t4.t4.1, s25.t4.t4.2.1, s25.t4.t4.2.2.1, s25.t4.t4.2.2.2.1, s25.t4.t4.t4.1, s25.t4.t4.t4.2] q55.2.2.1.toNat true).getD 4 false), ((putN 6 false [s25.t4.t4.1, s25.t4.t4.2.1, s25.t4.t4.2.2.1, s25.t4.t4.2.2.2.1, s25.t4.t4.t4.1, s25.t4.t4.t4.2] q55.2.2.1.toNat true).getD 5 false)) o25)))))) else (o25 = .inr (.inl (s25.2.1, s25.2.2.1, s25.2.2.2.1, s25.t4.1, s25.t4.2.1, s25.t4.2.2.1, s25.t4.2.2.2.1, s25.t4.t4.1, s25.t4.t4.2.1, s25.t4.t4.2.2.1, s25.t4.t4.2.2.2.1, s25.t4.t4.t4.1, s25.t4.t4.t4.2)))
def ref17_Check (a0 : TyR) (r : Int) : Prop :=
  ∃ r6 : (List (TyA)), ref16_All a0.1 r6 ∧ if (decide ((r6.length : Int) = 0)) = true then (r = 9) else (∃ e25 : (Sum (Bool × Bool × Bool × Bool × Bool × Bool × Bool × Bool × Bool × Bool × Bool × Bool × Bool) Int), Loops (ref17_Check_l6 a0 r6) (0, false, false, false, false, false, false, false, false, false, false, false, false, false) e25 ∧ Aft (fun p88 => ref17_Check_j1 a0 p88 r) (fun p89 => r = p89) e25)
def ref30_set_j2 (a0 : K1) (s14 : K39) (r : K45) : Prop :=
  r = (a0.1, s14)
def ref30_set_j1 (a0 : K1) (a1 : K53) (s10 : K39) (r : K45) : Prop :=
  if (decide (0 < (a1.2.2.length : Int))) = true then ((s10.length + [a1].length) * 40 ≤ 140737488355328 ∧ s10.length + [a1].length ≤ 4611686018427387904 ∧ ref30_set_j2 a0 (s10 ++ [a1]) r) else (ref30_set_j2 a0 s10 r)
def ref30_set_j4 (s34 : K52) (s38 : K39) (o34 : K43) : Prop :=
  o34 = .inl (s38, (i64.wrap (s34.2 + 1)))
def ref30_set_l3 (a0 : K1) (a1 : K53) (s34 : K52) (o34 : K43) : Prop :=
  if (decide (s34.2 < (a0.2.length : Int))) = true then (∃ q42 : Int × Int × List Int, idx a0.2 s34.2 q42 ∧ ∃ q51 : Int × Int × List Int, ((!(decide (q42.1 = a1.1))) = false → idx a0.2 s34.2 q51) ∧ if ((!(decide (q42.1 = a1.1))) || (!(decide (q51.2.1 = a1.2.1)))) = true then (∃ q60 : Int × Int × List Int, idx a0.2 s34.2 q60 ∧ (s34.1.length + [q60].length) * 40 ≤ 140737488355328 ∧ s34.1.length + [q60].length ≤ 4611686018427387904 ∧ ref30_set_j4 s34 (s34.1 ++ [q60]) o34) else (ref30_set_j4 s34 s34.1 o34)) else (o34 = .inr s34.1)
def ref30_set (a0 : K1) (a1 : K53) (r : K45) : Prop :=
  ∃ e34 : (List (Int × Int × List Int)), Loops (ref30_set_l3 a0 a1) ([], 0) e34 ∧ (ref30_set_j1 a0 a1 e34 r)
def ref30_Apply_j1  (s46 : (List (TyR)) × (List (Int × Int × List Int))) (r : K42) : Prop :=
  r = (s46, true)
def ref30_Apply (a0 : K1) (a1 : TyR) (r : K42) : Prop :=
  ∃ r12 : Int, ref17_Check a1 r12 ∧ if (!(decide (r12 = 0))) = true then (r = (a0, false)) else ((([] : List (TyR)).length + a0.1.length) * 136 ≤ 140737488355328 ∧ ([] : List (TyR)).length + a0.1.length ≤ 4611686018427387904 ∧ ((([] : List (TyR)) ++ a0.1).length + [a1].length) * 136 ≤ 140737488355328 ∧ (([] : List (TyR)) ++ a0.1).length + [a1].length ≤ 4611686018427387904 ∧ if (decide (a1.1 = 3)) = true then (∃ r57 : (List (TyR) × List (Int × Int × List Int)), ref30_set (((([] : List (TyR)) ++ a0.1) ++ [a1]), a0.2) ((a1.2.1.getD 0 0), (a1.2.1.getD 1 0), a1.2.2.2.1) r57 ∧ ref30_Apply_j1 (r57.1, r57.2) r) else (ref30_Apply_j1 (((([] : List (TyR)) ++ a0.1) ++ [a1]), a0.2) r))
def field_robot  (r : (TyA)) : Prop :=
  r = ((bstr [114, 111, 98, 111, 116]), 1, 0, 0, 65535, 1, 0)
def field_Of (a0 : Int) (r : (List (TyA))) : Prop :=
  if (decide (a0 = 1)) = true then (∃ r1 : (TyA), field_robot r1 ∧ r = [r1, ((bstr [115, 112, 101, 101, 100]), 1, 1, 1, 5000, 1, 0), ((bstr [97, 99, 99, 101, 108]), 1, 2, 1, 10000, 2, 500), ((bstr [112, 97, 116, 104]), 3, (-1), 1, 16, 1, 0), ((bstr [116, 97, 103]), 6, (-1), 0, 16, 2, 0)]) else (if (decide (a0 = 2)) = true then (∃ r13 : (TyA), field_robot r13 ∧ r = [r13, ((bstr [114, 101, 97, 115, 111, 110]), 1, 1, 0, 15, 1, 0), ((bstr [122, 111, 110, 101]), 1, 2, 0, 4095, 2, 0)]) else (if (decide (a0 = 3)) = true then (∃ r25 : (TyA), field_robot r25 ∧ r = [r25, ((bstr [122, 111, 110, 101]), 1, 1, 0, 4095, 1, 0), ((bstr [108, 101, 97, 115, 101]), 1, 2, 1, 255, 2, 1), ((bstr [99, 101, 108, 108, 115]), 4, (-1), 1, 32, 1, 0)]) else (if (decide (a0 = 4)) = true then (∃ r37 : (TyA), field_robot r37 ∧ r = [r37, ((bstr [120]), 2, 1, (-1000000), 1000000, 1, 0), ((bstr [121]), 2, 2, (-1000000), 1000000, 1, 0), ((bstr [104, 101, 97, 100, 105, 110, 103]), 1, 3, 0, 35999, 1, 0), ((bstr [98, 97, 116, 116, 101, 114, 121]), 1, 4, 0, 1000, 1, 0), ((bstr [115, 117, 114, 101]), 1, 5, 0, 100, 2, 100)]) else (if (decide (a0 = 5)) = true then (∃ r49 : (TyA), field_robot r49 ∧ r = [r49, ((bstr [99, 111, 100, 101]), 1, 1, 1, 9999, 1, 0), ((bstr [115, 101, 118, 101, 114, 105, 116, 121]), 1, 2, 0, 4, 1, 0), ((bstr [112, 97, 114, 116]), 1, 3, 0, 255, 2, 0), ((bstr [116, 105, 109, 101, 115]), 1, 4, 1, 1000000, 2, 1), ((bstr [116, 101, 120, 116]), 5, (-1), 0, 64, 1, 0)]) else (r = [])))))
def msg_many (a0 : Int) (a1 : TyA) (r : Int) : Prop :=
  if (decide (a0 < a1.2.2.2.1)) = true then (r = 13) else (if (decide (a1.t4.1 < a0)) = true then (r = 6) else (r = 0))
def msg_path_j1  (s8 : Unit) (r : Int) : Prop :=
  r = 0
def msg_path_j3 (s9 : Int) (s16 : Bool) (o9 : K17) : Prop :=
  if s16 = true then (o9 = .inr (.inr 5)) else (o9 = .inl (i64.wrap (s9 + 1)))
def msg_path_l2 (a0 : K50) (s9 : Int) (o9 : K17) : Prop :=
  if (decide (s9 < (a0.length : Int))) = true then (∃ q10 : Int × Int, idx a0 s9 q10 ∧ if (decide (1000000 < (max q10.1 q10.2))) = true then (msg_path_j3 s9 true o9) else (msg_path_j3 s9 (decide ((min q10.1 q10.2) < (-1000000))) o9)) else (o9 = .inr (.inl ()))
def msg_path (a0 : K50) (a1 : TyA) (r : Int) : Prop :=
  ∃ r4 : Int, msg_many (a0.length : Int) a1 r4 ∧ if (!(decide (r4 = 0))) = true then (r = r4) else (∃ e9 : (Sum Unit Int), Loops (msg_path_l2 a0) 0 e9 ∧ Aft (fun p17 => msg_path_j1 p17 r) (fun p18 => r = p18) e9)
def msg_cells_j1  (s8 : Unit) (r : Int) : Prop :=
  r = 0
def msg_cells_j3 (s9 : Int × Int) (q10 : Int) (s15 : Bool) (o9 : Sum (Int × Int) (Sum Unit Int)) : Prop :=
  if s15 = true then (o9 = .inr (.inr 5)) else (if (decide (q10 ≤ s9.1)) = true then (o9 = .inr (.inr 3)) else (o9 = .inl (q10, (i64.wrap (s9.2 + 1)))))
def msg_cells_l2 (a0 : List Int) (s9 : Int × Int) (o9 : Sum (Int × Int) (Sum Unit Int)) : Prop :=
  if (decide (s9.2 < (a0.length : Int))) = true then (∃ q10 : Int, idx a0 s9.2 q10 ∧ if (decide (q10 < 0)) = true then (msg_cells_j3 s9 q10 true o9) else (msg_cells_j3 s9 q10 (decide (65535 < q10)) o9)) else (o9 = .inr (.inl ()))
def msg_cells (a0 : List Int) (a1 : TyA) (r : Int) : Prop :=
  ∃ r4 : Int, msg_many (a0.length : Int) a1 r4 ∧ if (!(decide (r4 = 0))) = true then (r = r4) else (∃ e9 : (Sum Unit Int), Loops (msg_cells_l2 a0) ((-1), 0) e9 ∧ Aft (fun p16 => msg_cells_j1 p16 r) (fun p17 => r = p17) e9)
def msg_text_j1  (s6 : Unit) (r : Int) : Prop :=
  r = 0
def msg_text_j3 (s12 : Int) (s18 : Bool) (o12 : K17) : Prop :=
  if s18 = true then (o12 = .inr (.inr 19)) else (o12 = .inl (i64.wrap (s12 + 1)))
def msg_text_l2 (a0 : ByteArray) (s12 : Int) (o12 : K17) : Prop :=
  if (decide (s12 < ((bints a0).length : Int))) = true then (∃ q13 : Int, idx (bints a0) s12 q13 ∧ if (decide (q13 < 32)) = true then (msg_text_j3 s12 true o12) else (msg_text_j3 s12 (decide (126 < q13)) o12)) else (o12 = .inr (.inl ()))
def msg_text (a0 : ByteArray) (a1 : TyA) (r : Int) : Prop :=
  ∃ r2 : Int, msg_many (a0.size : Int) a1 r2 ∧ if (!(decide (r2 = 0))) = true then (r = r2) else (a0.size ≤ 4611686018427387904 ∧ ∃ e12 : (Sum Unit Int), Loops (msg_text_l2 a0) 0 e12 ∧ Aft (fun p19 => msg_text_j1 p19 r) (fun p20 => r = p20) e12)
def msg_wrong_j1  (s25 : Bool) (r : Int) : Prop :=
  if s25 = true then (r = 5) else (r = 0)
def msg_wrong (a0 : TyM) (a1 : TyA) (r : Int) : Prop :=
  if (decide (a1.2.1 = 3)) = true then (∃ r7 : Int, msg_path a0.2.2.1 a1 r7 ∧ r = r7) else (if (decide (a1.2.1 = 4)) = true then (∃ r11 : Int, msg_cells a0.2.2.2.1 a1 r11 ∧ r = r11) else (if (decide (a1.2.1 = 5)) = true then (∃ r15 : Int, msg_text a0.t4.1 a1 r15 ∧ r = r15) else (if (decide (a1.2.1 = 6)) = true then (∃ r19 : Int, msg_text a0.t4.2 a1 r19 ∧ r = r19) else (0 ≤ a1.2.2.1 ∧ a1.2.2.1 < 6 ∧ if (decide ((a0.2.1.getD a1.2.2.1.toNat 0) < a1.2.2.2.1)) = true then (msg_wrong_j1 true r) else (msg_wrong_j1 (decide (a1.t4.1 < (a0.2.1.getD a1.2.2.1.toNat 0))) r)))))
def msg_without_j1 (a0 : TyM) (s8 : K38) (r : (TyM)) : Prop :=
  r = (a0.1, [s8.1, s8.2.1, s8.2.2.1, s8.2.2.2.1, s8.t4.1, s8.t4.2.1], s8.t4.2.2.1, s8.t4.2.2.2.1, s8.t4.t4.1, s8.t4.t4.2)
def msg_without (a0 : TyM) (a1 : TyA) (r : (TyM)) : Prop :=
  if (decide (a1.2.1 = 3)) = true then (msg_without_j1 a0 ((a0.2.1.getD 0 0), (a0.2.1.getD 1 0), (a0.2.1.getD 2 0), (a0.2.1.getD 3 0), (a0.2.1.getD 4 0), (a0.2.1.getD 5 0), [], a0.2.2.2.1, a0.t4.1, a0.t4.2) r) else (if (decide (a1.2.1 = 4)) = true then (msg_without_j1 a0 ((a0.2.1.getD 0 0), (a0.2.1.getD 1 0), (a0.2.1.getD 2 0), (a0.2.1.getD 3 0), (a0.2.1.getD 4 0), (a0.2.1.getD 5 0), a0.2.2.1, [], a0.t4.1, a0.t4.2) r) else (if (decide (a1.2.1 = 5)) = true then (msg_without_j1 a0 ((a0.2.1.getD 0 0), (a0.2.1.getD 1 0), (a0.2.1.getD 2 0), (a0.2.1.getD 3 0), (a0.2.1.getD 4 0), (a0.2.1.getD 5 0), a0.2.2.1, a0.2.2.2.1, (bstr []), a0.t4.2) r) else (if (decide (a1.2.1 = 6)) = true then (msg_without_j1 a0 ((a0.2.1.getD 0 0), (a0.2.1.getD 1 0), (a0.2.1.getD 2 0), (a0.2.1.getD 3 0), (a0.2.1.getD 4 0), (a0.2.1.getD 5 0), a0.2.2.1, a0.2.2.2.1, a0.t4.1, (bstr [])) r) else (0 ≤ a1.2.2.1 ∧ a1.2.2.1 < 6 ∧ msg_without_j1 a0 (((putN 6 0 a0.2.1 a1.2.2.1.toNat 0).getD 0 0), ((putN 6 0 a0.2.1 a1.2.2.1.toNat 0).getD 1 0), ((putN 6 0 a0.2.1 a1.2.2.1.toNat 0).getD 2 0), ((putN 6 0 a0.2.1 a1.2.2.1.toNat 0).getD 3 0), ((putN 6 0 a0.2.1 a1.2.2.1.toNat 0).getD 4 0), ((putN 6 0 a0.2.1 a1.2.2.1.toNat 0).getD 5 0), a0.2.2.1, a0.2.2.2.1, a0.t4.1, a0.t4.2) r))))
def slices_Equal_msg_Point_msg_Point_j1  (s5 : Unit) (r : Bool) : Prop :=
  r = true
def slices_Equal_msg_Point_msg_Point_l2 (a0 : K50) (a1 : K50) (s6 : Int) (o6 : K41) : Prop :=
  if (decide (s6 < (a0.length : Int))) = true then (∃ q7 : Int × Int, idx a0 s6 q7 ∧ ∃ q12 : Int × Int, idx a1 s6 q12 ∧ if (!((decide (q7.1 = q12.1)) && ((decide (q7.2 = q12.2)) && true))) = true then (o6 = .inr (.inr false)) else (o6 = .inl (i64.wrap (s6 + 1)))) else (o6 = .inr (.inl ()))
def slices_Equal_msg_Point_msg_Point (a0 : K50) (a1 : K50) (r : Bool) : Prop :=
  if (!(decide ((a0.length : Int) = (a1.length : Int)))) = true then (r = false) else (∃ e6 : (Sum Unit Bool), Loops (slices_Equal_msg_Point_msg_Point_l2 a0 a1) 0 e6 ∧ Aft (fun p18 => slices_Equal_msg_Point_msg_Point_j1 p18 r) (fun p19 => r = p19) e6)
def slices_Equal_int_int_j1  (s5 : Unit) (r : Bool) : Prop :=
  r = true
def slices_Equal_int_int_l2 (a0 : List Int) (a1 : List Int) (s6 : Int) (o6 : K41) : Prop :=
  if (decide (s6 < (a0.length : Int))) = true then (∃ q7 : Int, idx a0 s6 q7 ∧ ∃ q12 : Int, idx a1 s6 q12 ∧ if (!(decide (q7 = q12))) = true then (o6 = .inr (.inr false)) else (o6 = .inl (i64.wrap (s6 + 1)))) else (o6 = .inr (.inl ()))
def slices_Equal_int_int (a0 : List Int) (a1 : List Int) (r : Bool) : Prop :=
  if (!(decide ((a0.length : Int) = (a1.length : Int)))) = true then (r = false) else (∃ e6 : (Sum Unit Bool), Loops (slices_Equal_int_int_l2 a0 a1) 0 e6 ∧ Aft (fun p18 => slices_Equal_int_int_j1 p18 r) (fun p19 => r = p19) e6)
def msg_Same_j1  (s11 : Bool) (r : Bool) : Prop :=
  r = s11
def msg_Same (a0 : TyM) (a1 : TyM) (r : Bool) : Prop :=
  if (decide (a0.1 = a1.1)) = true then (if (eqN 6 0 a0.2.1 a1.2.1) = true then (∃ r12 : Bool, slices_Equal_msg_Point_msg_Point a0.2.2.1 a1.2.2.1 r12 ∧ if r12 = true then (∃ r16 : Bool, slices_Equal_int_int a0.2.2.2.1 a1.2.2.2.1 r16 ∧ if r16 = true then (if (decide (a0.t4.1 = a1.t4.1)) = true then (msg_Same_j1 (decide (a0.t4.2 = a1.t4.2)) r) else (msg_Same_j1 false r)) else (msg_Same_j1 false r)) else (msg_Same_j1 false r)) else (msg_Same_j1 false r)) else (msg_Same_j1 false r)
def msg_Check_j2 (s8 : K18) (s13 : Bool) (r : Int) : Prop :=
  if s13 = true then (r = 3) else (r = s8.1)
def msg_Check_j1 (a0 : TyM) (s8 : K18) (r : Int) : Prop :=
  if (decide (s8.1 = 0)) = true then (∃ r14 : Bool, msg_Same (s8.2.1, [s8.2.2.1, s8.2.2.2.1, s8.t4.1, s8.t4.2.1, s8.t4.2.2.1, s8.t4.2.2.2.1], s8.t4.t4.1, s8.t4.t4.2.1, s8.t4.t4.2.2.1, s8.t4.t4.2.2.2) (a0.1, (List.replicate 6 0), [], [], (bstr []), (bstr [])) r14 ∧ msg_Check_j2 s8 (!r14) r) else (msg_Check_j2 s8 false r)
def msg_Check_l3 (a0 : TyM) (r18 : (List (TyA))) (s24 : K31) (o24 : Sum (Int × Int × Int × Int × Int × Int × Int × Int × Int × (List (Int × Int)) × List Int × ByteArray × ByteArray) (Int × Int × Int × Int × Int × Int × Int × Int × (List (Int × Int)) × List Int × ByteArray × ByteArray)) : Prop :=
  if (decide (s24.2.1 < (r18.length : Int))) = true then (∃ q29 : TyA, idx r18 s24.2.1 q29 ∧ ∃ r35 : Int, msg_wrong a0 q29 r35 ∧ if (!(decide (r35 = 0))) = true then (o24 = .inr (r35, s24.2.2.1, s24.2.2.2.1, s24.t4.1, s24.t4.2.1, s24.t4.2.2.1, s24.t4.2.2.2.1, s24.t4.t4.1, s24.t4.t4.2.1, s24.t4.t4.2.2.1, s24.t4.t4.2.2.2.1, s24.t4.t4.t4)) else (∃ r39 : (TyM), msg_without (s24.2.2.1, [s24.2.2.2.1, s24.t4.1, s24.t4.2.1, s24.t4.2.2.1, s24.t4.2.2.2.1, s24.t4.t4.1], s24.t4.t4.2.1, s24.t4.t4.2.2.1, s24.t4.t4.2.2.2.1, s24.t4.t4.t4) q29 r39 ∧ o24 = .inl (r35, (i64.wrap (s24.2.1 + 1)), r39.1, (r39.2.1.getD 0 0), (r39.2.1.getD 1 0), (r39.2.1.getD 2 0), (r39.2.1.getD 3 0), (r39.2.1.getD 4 0), (r39.2.1.getD 5 0), r39.2.2.1, r39.2.2.2.1, r39.t4.1, r39.t4.2))) else (o24 = .inr (s24.1, s24.2.2.1, s24.2.2.2.1, s24.t4.1, s24.t4.2.1, s24.t4.2.2.1, s24.t4.2.2.2.1, s24.t4.t4.1, s24.t4.t4.2.1, s24.t4.t4.2.2.1, s24.t4.t4.2.2.2.1, s24.t4.t4.t4))
def msg_Check (a0 : TyM) (r : Int) : Prop :=
  ∃ r18 : (List (TyA)), field_Of a0.1 r18 ∧ ∃ e24 : Int × Int × Int × Int × Int × Int × Int × Int × (List (Int × Int)) × List Int × ByteArray × ByteArray, Loops (msg_Check_l3 a0 r18) (9, 0, a0.1, (a0.2.1.getD 0 0), (a0.2.1.getD 1 0), (a0.2.1.getD 2 0), (a0.2.1.getD 3 0), (a0.2.1.getD 4 0), (a0.2.1.getD 5 0), a0.2.2.1, a0.2.2.2.1, a0.t4.1, a0.t4.2) e24 ∧ (msg_Check_j1 a0 e24 r)
def field_Find_j1  (s3 : TyA) (r : (TyA) × Bool) : Prop :=
  r = (s3, (!((decide (s3.1 = (bstr []))) && ((decide (s3.2.1 = 0)) && ((decide (s3.2.2.1 = 0)) && ((decide (s3.2.2.2.1 = 0)) && ((decide (s3.t4.1 = 0)) && ((decide (s3.t4.2.1 = 0)) && ((decide (s3.t4.2.2 = 0)) && true)))))))))
def field_Find_l2 (a1 : ByteArray) (r5 : (List (TyA))) (s11 : Int) (o11 : Sum Int (TyA)) : Prop :=
  if (decide (s11 < (r5.length : Int))) = true then (∃ q12 : TyA, idx r5 s11 q12 ∧ if (decide (q12.1 = a1)) = true then (o11 = .inr (q12.1, q12.2.1, q12.2.2.1, q12.2.2.2.1, q12.t4.1, q12.t4.2.1, q12.t4.2.2)) else (o11 = .inl (i64.wrap (s11 + 1)))) else (o11 = .inr ((bstr []), 0, 0, 0, 0, 0, 0))
def field_Find (a0 : Int) (a1 : ByteArray) (r : (TyA) × Bool) : Prop :=
  ∃ r5 : (List (TyA)), field_Of a0 r5 ∧ ∃ e11 : TyA, Loops (field_Find_l2 a1 r5) 0 e11 ∧ (field_Find_j1 e11 r)
def msg_Get_j1 (a0 : TyM) (r6 : (TyA) × Bool) (s11 : Bool) (r : Int × Bool) : Prop :=
  if s11 = true then (r = (0, false)) else (0 ≤ r6.1.2.2.1 ∧ r6.1.2.2.1 < 6 ∧ r = ((a0.2.1.getD r6.1.2.2.1.toNat 0), true))
def msg_Get (a0 : TyM) (a1 : ByteArray) (r : Int × Bool) : Prop :=
  ∃ r6 : (TyA) × Bool, field_Find a0.1 a1 r6 ∧ if (!r6.2) = true then (msg_Get_j1 a0 r6 true r) else (msg_Get_j1 a0 r6 (decide (r6.1.2.2.1 < 0)) r)
def fleet_value (a0 : TyM) (a1 : ByteArray) (r : Int) : Prop :=
  ∃ r6 : Int × Bool, msg_Get a0 a1 r6 ∧ r = r6.1
def slices_Clone_msg_Point_msg_Point (a0 : K50) (r : K40) : Prop :=
  ∀ b3 : Bool, (b3 = true → a0 = []) → if b3 = true then (r = []) else ((([] : List (Int × Int)).length + a0.length) * 16 ≤ 140737488355328 ∧ ([] : List (Int × Int)).length + a0.length ≤ 4611686018427387904 ∧ r = (([] : List (Int × Int)) ++ a0))
def slices_Clone_int_int (a0 : List Int) (r : List Int) : Prop :=
  ∀ b3 : Bool, (b3 = true → a0 = []) → if b3 = true then (r = []) else ((([] : List Int).length + a0.length) * 8 ≤ 140737488355328 ∧ ([] : List Int).length + a0.length ≤ 4611686018427387904 ∧ r = (([] : List Int) ++ a0))
def fleet_Fleet_apply_j1 (a0 : K0) (r12 : Int) (s21 : K27) (r : K13) : Prop :=
  r = ((mput a0.1 r12 s21.2), s21.1)
def fleet_Fleet_apply (a0 : K0) (a1 : TyM) (r : K13) : Prop :=
  ∃ r12 : Int, fleet_value a1 (bstr [114, 111, 98, 111, 116]) r12 ∧ if (decide (a1.1 = 1)) = true then (∃ r30 : (List (Int × Int)), slices_Clone_msg_Point_msg_Point a1.2.2.1 r30 ∧ fleet_Fleet_apply_j1 a0 r12 (a0.2, ((mget a0.1 r12).getD (0, 0, 0, 0, 0, false, false, 0, 0, [], 0, 0)).1, ((mget a0.1 r12).getD (0, 0, 0, 0, 0, false, false, 0, 0, [], 0, 0)).2.1, ((mget a0.1 r12).getD (0, 0, 0, 0, 0, false, false, 0, 0, [], 0, 0)).2.2.1, ((mget a0.1 r12).getD (0, 0, 0, 0, 0, false, false, 0, 0, [], 0, 0)).2.2.2.1, ((mget a0.1 r12).getD (0, 0, 0, 0, 0, false, false, 0, 0, [], 0, 0)).t4.1, ((mget a0.1 r12).getD (0, 0, 0, 0, 0, false, false, 0, 0, [], 0, 0)).t4.2.1, false, 0, 0, r30, ((mget a0.1 r12).getD (0, 0, 0, 0, 0, false, false, 0, 0, [], 0, 0)).t4.t4.2.2.1, ((mget a0.1 r12).getD (0, 0, 0, 0, 0, false, false, 0, 0, [], 0, 0)).t4.t4.2.2.2) r) else (if (decide (a1.1 = 2)) = true then (∃ r36 : Int, fleet_value a1 (bstr [114, 101, 97, 115, 111, 110]) r36 ∧ ∃ r40 : Int, fleet_value a1 (bstr [122, 111, 110, 101]) r40 ∧ fleet_Fleet_apply_j1 a0 r12 (a0.2, ((mget a0.1 r12).getD (0, 0, 0, 0, 0, false, false, 0, 0, [], 0, 0)).1, ((mget a0.1 r12).getD (0, 0, 0, 0, 0, false, false, 0, 0, [], 0, 0)).2.1, ((mget a0.1 r12).getD (0, 0, 0, 0, 0, false, false, 0, 0, [], 0, 0)).2.2.1, ((mget a0.1 r12).getD (0, 0, 0, 0, 0, false, false, 0, 0, [], 0, 0)).2.2.2.1, ((mget a0.1 r12).getD (0, 0, 0, 0, 0, false, false, 0, 0, [], 0, 0)).t4.1, ((mget a0.1 r12).getD (0, 0, 0, 0, 0, false, false, 0, 0, [], 0, 0)).t4.2.1, true, r36, r40, [], ((mget a0.1 r12).getD (0, 0, 0, 0, 0, false, false, 0, 0, [], 0, 0)).t4.t4.2.2.1, ((mget a0.1 r12).getD (0, 0, 0, 0, 0, false, false, 0, 0, [], 0, 0)).t4.t4.2.2.2) r) else (if (decide (a1.1 = 3)) = true then (∃ r45 : Int, fleet_value a1 (bstr [122, 111, 110, 101]) r45 ∧ ∃ r49 : List Int, slices_Clone_int_int a1.2.2.2.1 r49 ∧ fleet_Fleet_apply_j1 a0 r12 ((mput a0.2 (r12, r45) r49), ((mget a0.1 r12).getD (0, 0, 0, 0, 0, false, false, 0, 0, [], 0, 0)).1, ((mget a0.1 r12).getD (0, 0, 0, 0, 0, false, false, 0, 0, [], 0, 0)).2.1, ((mget a0.1 r12).getD (0, 0, 0, 0, 0, false, false, 0, 0, [], 0, 0)).2.2.1, ((mget a0.1 r12).getD (0, 0, 0, 0, 0, false, false, 0, 0, [], 0, 0)).2.2.2.1, ((mget a0.1 r12).getD (0, 0, 0, 0, 0, false, false, 0, 0, [], 0, 0)).t4.1, ((mget a0.1 r12).getD (0, 0, 0, 0, 0, false, false, 0, 0, [], 0, 0)).t4.2.1, ((mget a0.1 r12).getD (0, 0, 0, 0, 0, false, false, 0, 0, [], 0, 0)).t4.2.2.1, ((mget a0.1 r12).getD (0, 0, 0, 0, 0, false, false, 0, 0, [], 0, 0)).t4.2.2.2.1, ((mget a0.1 r12).getD (0, 0, 0, 0, 0, false, false, 0, 0, [], 0, 0)).t4.t4.1, ((mget a0.1 r12).getD (0, 0, 0, 0, 0, false, false, 0, 0, [], 0, 0)).t4.t4.2.1, ((mget a0.1 r12).getD (0, 0, 0, 0, 0, false, false, 0, 0, [], 0, 0)).t4.t4.2.2.1, ((mget a0.1 r12).getD (0, 0, 0, 0, 0, false, false, 0, 0, [], 0, 0)).t4.t4.2.2.2) r) else (if (decide (a1.1 = 4)) = true then (∃ r58 : Int, fleet_value a1 (bstr [120]) r58 ∧ ∃ r62 : Int, fleet_value a1 (bstr [121]) r62 ∧ ∃ r66 : Int, fleet_value a1 (bstr [104, 101, 97, 100, 105, 110, 103]) r66 ∧ ∃ r71 : Int, fleet_value a1 (bstr [98, 97, 116, 116, 101, 114, 121]) r71 ∧ ∃ r75 : Int, fleet_value a1 (bstr [115, 117, 114, 101]) r75 ∧ fleet_Fleet_apply_j1 a0 r12 (a0.2, r58, r62, r66, r71, r75, true, ((mget a0.1 r12).getD (0, 0, 0, 0, 0, false, false, 0, 0, [], 0, 0)).t4.2.2.1, ((mget a0.1 r12).getD (0, 0, 0, 0, 0, false, false, 0, 0, [], 0, 0)).t4.2.2.2.1, ((mget a0.1 r12).getD (0, 0, 0, 0, 0, false, false, 0, 0, [], 0, 0)).t4.t4.1, ((mget a0.1 r12).getD (0, 0, 0, 0, 0, false, false, 0, 0, [], 0, 0)).t4.t4.2.1, ((mget a0.1 r12).getD (0, 0, 0, 0, 0, false, false, 0, 0, [], 0, 0)).t4.t4.2.2.1, ((mget a0.1 r12).getD (0, 0, 0, 0, 0, false, false, 0, 0, [], 0, 0)).t4.t4.2.2.2) r) else (if (decide (a1.1 = 5)) = true then (∃ r80 : Int, fleet_value a1 (bstr [116, 105, 109, 101, 115]) r80 ∧ ∃ r85 : Int, fleet_value a1 (bstr [99, 111, 100, 101]) r85 ∧ fleet_Fleet_apply_j1 a0 r12 (a0.2, ((mget a0.1 r12).getD (0, 0, 0, 0, 0, false, false, 0, 0, [], 0, 0)).1, ((mget a0.1 r12).getD (0, 0, 0, 0, 0, false, false, 0, 0, [], 0, 0)).2.1, ((mget a0.1 r12).getD (0, 0, 0, 0, 0, false, false, 0, 0, [], 0, 0)).2.2.1, ((mget a0.1 r12).getD (0, 0, 0, 0, 0, false, false, 0, 0, [], 0, 0)).2.2.2.1, ((mget a0.1 r12).getD (0, 0, 0, 0, 0, false, false, 0, 0, [], 0, 0)).t4.1, ((mget a0.1 r12).getD (0, 0, 0, 0, 0, false, false, 0, 0, [], 0, 0)).t4.2.1, ((mget a0.1 r12).getD (0, 0, 0, 0, 0, false, false, 0, 0, [], 0, 0)).t4.2.2.1, ((mget a0.1 r12).getD (0, 0, 0, 0, 0, false, false, 0, 0, [], 0, 0)).t4.2.2.2.1, ((mget a0.1 r12).getD (0, 0, 0, 0, 0, false, false, 0, 0, [], 0, 0)).t4.t4.1, ((mget a0.1 r12).getD (0, 0, 0, 0, 0, false, false, 0, 0, [], 0, 0)).t4.t4.2.1, (i64.wrap ((((mget a0.1 r12).getD (0, 0, 0, 0, 0, false, false, 0, 0, [], 0, 0)).t4.t4.2.2.1) + r80)), r85) r) else (fleet_Fleet_apply_j1 a0 r12 (a0.2, ((mget a0.1 r12).getD (0, 0, 0, 0, 0, false, false, 0, 0, [], 0, 0)).1, ((mget a0.1 r12).getD (0, 0, 0, 0, 0, false, false, 0, 0, [], 0, 0)).2.1, ((mget a0.1 r12).getD (0, 0, 0, 0, 0, false, false, 0, 0, [], 0, 0)).2.2.1, ((mget a0.1 r12).getD (0, 0, 0, 0, 0, false, false, 0, 0, [], 0, 0)).2.2.2.1, ((mget a0.1 r12).getD (0, 0, 0, 0, 0, false, false, 0, 0, [], 0, 0)).t4.1, ((mget a0.1 r12).getD (0, 0, 0, 0, 0, false, false, 0, 0, [], 0, 0)).t4.2.1, ((mget a0.1 r12).getD (0, 0, 0, 0, 0, false, false, 0, 0, [], 0, 0)).t4.2.2.1, ((mget a0.1 r12).getD (0, 0, 0, 0, 0, false, false, 0, 0, [], 0, 0)).t4.2.2.2.1, ((mget a0.1 r12).getD (0, 0, 0, 0, 0, false, false, 0, 0, [], 0, 0)).t4.t4.1, ((mget a0.1 r12).getD (0, 0, 0, 0, 0, false, false, 0, 0, [], 0, 0)).t4.t4.2.1, ((mget a0.1 r12).getD (0, 0, 0, 0, 0, false, false, 0, 0, [], 0, 0)).t4.t4.2.2.1, ((mget a0.1 r12).getD (0, 0, 0, 0, 0, false, false, 0, 0, [], 0, 0)).t4.t4.2.2.2) r)))))
def fleet_Fleet_Apply_j1  (s9 : K7) (r : K23) : Prop :=
  r = (s9.1, s9.2)
def fleet_Fleet_Apply_j3 (s16 : K9) (s23 : K7) (o16 : K5) : Prop :=
  o16 = .inl (s23.1, (i64.wrap (s16.2.1 + 1)), s23.2.1, s23.2.2)
def fleet_Fleet_Apply_l2 (a1 : List (TyM)) (s16 : K9) (o16 : K5) : Prop :=
  if (decide (s16.2.1 < (a1.length : Int))) = true then (∃ q30 : TyM, idx a1 s16.2.1 q30 ∧ ∃ r40 : Int, msg_Check q30 r40 ∧ if (!(decide (r40 = 0))) = true then (fleet_Fleet_Apply_j3 s16 (s16.1, s16.2.2.1, s16.2.2.2) o16) else (∃ r44 : (List (Int × (Int × Int × Int × Int × Int × Bool × Bool × Int × Int × List (Int × Int) × Int × Int)) × List ((Int × Int) × List Int)), fleet_Fleet_apply s16.2.2 q30 r44 ∧ fleet_Fleet_Apply_j3 s16 ((i64.wrap (s16.1 + 1)), r44.1, r44.2) o16)) else (o16 = .inr (s16.1, s16.2.2.1, s16.2.2.2))
def fleet_Fleet_Apply (a0 : K0) (a1 : List (TyM)) (r : K23) : Prop :=
  ∃ e16 : Int × (List (Int × (Int × Int × Int × Int × Int × Bool × Bool × Int × Int × List (Int × Int) × Int × Int))) × (List ((Int × Int) × List Int)), Loops (fleet_Fleet_Apply_l2 a1) (0, 0, a0.1, a0.2) e16 ∧ (fleet_Fleet_Apply_j1 e16 r)
def ref30_Cells_j1  (s6 : Unit) (r : List Int) : Prop :=
  r = []
def ref30_Cells_j3 (a0 : K1) (s7 : Int) (s8 : Bool) (o7 : Sum Int (Sum Unit (List Int))) : Prop :=
  if s8 = true then (∃ q9 : Int × Int × List Int, idx a0.2 s7 q9 ∧ o7 = .inr (.inr q9.2.2)) else (o7 = .inl (i64.wrap (s7 + 1)))
def ref30_Cells_l2 (a0 : K1) (a1 : Int) (a2 : Int) (s7 : Int) (o7 : Sum Int (Sum Unit (List Int))) : Prop :=
  if (decide (s7 < (a0.2.length : Int))) = true then (∃ q16 : Int × Int × List Int, idx a0.2 s7 q16 ∧ if (decide (q16.1 = a1)) = true then (∃ q23 : Int × Int × List Int, idx a0.2 s7 q23 ∧ ref30_Cells_j3 a0 s7 (decide (q23.2.1 = a2)) o7) else (ref30_Cells_j3 a0 s7 false o7)) else (o7 = .inr (.inl ()))
def ref30_Cells (a0 : K1) (a1 : Int) (a2 : Int) (r : List Int) : Prop :=
  ∃ e7 : (Sum Unit (List Int)), Loops (ref30_Cells_l2 a0 a1 a2) 0 e7 ∧ Aft (fun p30 => ref30_Cells_j1 p30 r) (fun p31 => r = p31) e7
def ref30_Release (a0 : K1) (a1 : Int) (a2 : Int) (r : K42) : Prop :=
  ∃ r7 : List Int, ref30_Cells a0 a1 a2 r7 ∧ ∃ r13 : (List (TyR) × List (Int × Int × List Int)), ref30_set a0 (a1, a2, []) r13 ∧ r = (r13, (decide (0 < (r7.length : Int))))
def fleet_Fleet_Release (a0 : K0) (a1 : Int) (a2 : Int) (r : Bool × (List (Int × (Int × Int × Int × Int × Int × Bool × Bool × Int × Int × List (Int × Int) × Int × Int)) × List ((Int × Int) × List Int))) : Prop :=
  if (false || (decide ((((mget a0.2 (a1, a2)).getD []).length : Int) = 0))) = true then (r = (false, a0)) else (r = (true, (a0.1, (mdel a0.2 (a1, a2)))))
def fleet_Fleet_Copy (a0 : K0) (r : K0) : Prop := r = a0
def ref30_Robots_j1  (s6 : List Int) (r : List Int) : Prop :=
  r = s6
def ref30_Robots_j3 (s16 : K34) (s20 : List Int) (o16 : K22) : Prop :=
  o16 = .inl (s20, (i64.wrap (s16.2 + 1)))
def ref30_Robots_j5 (s16 : K34) (q24 : TyR) (s33 : Int) (s34 : Bool) (o16 : K22) : Prop :=
  if s34 = true then (0 ≤ s33 ∧ s33 ≤ (s16.1.length : Int) ∧ (([] : List Int).length + ((s16.1.drop (0 : Int).toNat).take ((s33 : Int) - 0).toNat).length) * 8 ≤ 140737488355328 ∧ ([] : List Int).length + ((s16.1.drop (0 : Int).toNat).take ((s33 : Int) - 0).toNat).length ≤ 4611686018427387904 ∧ ((([] : List Int) ++ ((s16.1.drop (0 : Int).toNat).take ((s33 : Int) - 0).toNat)).length + [(q24.2.1.getD 0 0)].length) * 8 ≤ 140737488355328 ∧ (([] : List Int) ++ ((s16.1.drop (0 : Int).toNat).take ((s33 : Int) - 0).toNat)).length + [(q24.2.1.getD 0 0)].length ≤ 4611686018427387904 ∧ 0 ≤ s33 ∧ s33 ≤ (s16.1.length : Int) ∧ (s16.1.length : Int) ≤ (s16.1.length : Int) ∧ (((([] : List Int) ++ ((s16.1.drop (0 : Int).toNat).take ((s33 : Int) - 0).toNat)) ++ [(q24.2.1.getD 0 0)]).length + ((s16.1.drop s33.toNat).take (((s16.1.length : Int) : Int) - s33).toNat).length) * 8 ≤ 140737488355328 ∧ ((([] : List Int) ++ ((s16.1.drop (0 : Int).toNat).take ((s33 : Int) - 0).toNat)) ++ [(q24.2.1.getD 0 0)]).length + ((s16.1.drop s33.toNat).take (((s16.1.length : Int) : Int) - s33).toNat).length ≤ 4611686018427387904 ∧ ref30_Robots_j3 s16 (((([] : List Int) ++ ((s16.1.drop (0 : Int).toNat).take ((s33 : Int) - 0).toNat)) ++ [(q24.2.1.getD 0 0)]) ++ ((s16.1.drop s33.toNat).take (((s16.1.length : Int) : Int) - s33).toNat)) o16) else (ref30_Robots_j3 s16 s16.1 o16)
def ref30_Robots_j4 (s16 : K34) (q24 : TyR) (s33 : Int) (o16 : K22) : Prop :=
  if (decide (s33 = (s16.1.length : Int))) = true then (ref30_Robots_j5 s16 q24 s33 true o16) else (∃ q86 : Int, idx s16.1 s33 q86 ∧ ref30_Robots_j5 s16 q24 s33 (!(decide (q86 = (q24.2.1.getD 0 0)))) o16)
def ref30_Robots_j7 (s93 : Int) (s94 : Bool) (o93 : Sum Int Int) : Prop :=
  if s94 = true then (o93 = .inl (i64.wrap (s93 + 1))) else (o93 = .inr s93)
def ref30_Robots_l6 (s16 : K34) (q24 : TyR) (s93 : Int) (o93 : Sum Int Int) : Prop :=
  if (decide (s93 < (s16.1.length : Int))) = true then (∃ q95 : Int, idx s16.1 s93 q95 ∧ ref30_Robots_j7 s93 (decide (q95 < (q24.2.1.getD 0 0))) o93) else (ref30_Robots_j7 s93 false o93)
def ref30_Robots_l2 (a0 : K1) (s16 : K34) (o16 : K22) : Prop :=
  if (decide (s16.2 < (a0.1.length : Int))) = true then (∃ q24 : TyR, idx a0.1 s16.2 q24 ∧ ∃ e93 : Int, Loops (ref30_Robots_l6 s16 q24) 0 e93 ∧ (ref30_Robots_j4 s16 q24 e93 o16)) else (o16 = .inr s16.1)
def ref30_Robots (a0 : K1) (r : List Int) : Prop :=
  ∃ e16 : List Int, Loops (ref30_Robots_l2 a0) ([], 0) e16 ∧ (ref30_Robots_j1 e16 r)
def fleet_Fleet_Robots_1_l1 (S : Type) (Y : Int → S → Bool × S → Prop) (c0 : K0) (s18 : S × Int) (o18 : Sum (S × Int) (S × Unit)) : Prop :=
  if (decide (s18.2 < ((skeys c0.1).length : Int))) = true then (∃ q21 : Int, idx (skeys c0.1) s18.2 q21 ∧ ∃ y28 : Bool, ∃ u29 : S, Y q21 s18.1 (y28, u29) ∧ if (!y28) = true then (o18 = .inr (u29, ())) else (o18 = .inl (u29, (i64.wrap (s18.2 + 1))))) else (o18 = .inr (s18.1, ()))
def fleet_Fleet_Robots_1 (c0 : K0) (S : Type) (Y : Int → S → Bool × S → Prop) (s : S) (r : S × Unit) : Prop :=
  (∀ p ∈ c0.1, IntOk .i64 p.1) ∧ c0.1.length * 8 ≤ 140737488355328 ∧ ∃ e18 : S × Unit, Loops (fleet_Fleet_Robots_1_l1 S Y c0) (s, 0) e18 ∧ (r = e18)
def fleet_Fleet_Robots (a0 : K0) (r : (((List (Int × (Int × Int × Int × Int × Int × Bool × Bool × Int × Int × List (Int × Int) × Int × Int)) × List ((Int × Int) × List Int)) → (S : Type) → (Int → S → Bool × S → Prop) → S → S × Unit → Prop))) : Prop :=
  r = (fleet_Fleet_Robots_1)
def fleet_Fleet_Robot (a0 : K0) (a1 : Int) (r : K36) : Prop :=
  ∃ r13 : (List (Int × Int)), slices_Clone_msg_Point_msg_Point (((mget a0.1 a1).getD (0, 0, 0, 0, 0, false, false, 0, 0, [], 0, 0)).t4.t4.2.1) r13 ∧ r = ((((mget a0.1 a1).getD (0, 0, 0, 0, 0, false, false, 0, 0, [], 0, 0)).1, ((mget a0.1 a1).getD (0, 0, 0, 0, 0, false, false, 0, 0, [], 0, 0)).2.1, ((mget a0.1 a1).getD (0, 0, 0, 0, 0, false, false, 0, 0, [], 0, 0)).2.2.1, ((mget a0.1 a1).getD (0, 0, 0, 0, 0, false, false, 0, 0, [], 0, 0)).2.2.2.1, ((mget a0.1 a1).getD (0, 0, 0, 0, 0, false, false, 0, 0, [], 0, 0)).t4.1, ((mget a0.1 a1).getD (0, 0, 0, 0, 0, false, false, 0, 0, [], 0, 0)).t4.2.1, ((mget a0.1 a1).getD (0, 0, 0, 0, 0, false, false, 0, 0, [], 0, 0)).t4.2.2.1, ((mget a0.1 a1).getD (0, 0, 0, 0, 0, false, false, 0, 0, [], 0, 0)).t4.2.2.2.1, ((mget a0.1 a1).getD (0, 0, 0, 0, 0, false, false, 0, 0, [], 0, 0)).t4.t4.1, r13, ((mget a0.1 a1).getD (0, 0, 0, 0, 0, false, false, 0, 0, [], 0, 0)).t4.t4.2.2.1, ((mget a0.1 a1).getD (0, 0, 0, 0, 0, false, false, 0, 0, [], 0, 0)).t4.t4.2.2.2), (mget a0.1 a1).isSome)
def ref30_Robot_j1  (s8 : K6) (r : K16) : Prop :=
  r = s8
def ref30_Robot_j3 (s11 : K24) (s14 : K6) (o11 : K14) : Prop :=
  o11 = .inl ((i64.wrap (s11.1 + 1)), s14.1, s14.2.1, s14.2.2.1, s14.2.2.2.1, s14.t4.1, s14.t4.2.1, s14.t4.2.2.1, s14.t4.2.2.2.1, s14.t4.t4.1, s14.t4.t4.2.1, s14.t4.t4.2.2.1, s14.t4.t4.2.2.2)
def ref30_Robot_l2 (a0 : K1) (a1 : Int) (s11 : K24) (o11 : K14) : Prop :=
  if (decide (s11.1 < (a0.1.length : Int))) = true then (∃ q17 : TyR, idx a0.1 s11.1 q17 ∧ if (!(decide ((q17.2.1.getD 0 0) = a1))) = true then (ref30_Robot_j3 s11 (s11.2.1, s11.2.2.1, s11.2.2.2.1, s11.t4.1, s11.t4.2.1, s11.t4.2.2.1, s11.t4.2.2.2.1, s11.t4.t4.1, s11.t4.t4.2.1, s11.t4.t4.2.2.1, s11.t4.t4.2.2.2.1, s11.t4.t4.t4) o11) else (if (decide (q17.1 = 1)) = true then (ref30_Robot_j3 s11 (s11.2.1, s11.2.2.1, s11.2.2.2.1, s11.t4.1, s11.t4.2.1, s11.t4.2.2.1, false, 0, 0, q17.2.2.1, s11.t4.t4.2.2.2.1, s11.t4.t4.t4) o11) else (if (decide (q17.1 = 2)) = true then (ref30_Robot_j3 s11 (s11.2.1, s11.2.2.1, s11.2.2.2.1, s11.t4.1, s11.t4.2.1, s11.t4.2.2.1, true, (q17.2.1.getD 1 0), (q17.2.1.getD 2 0), [], s11.t4.t4.2.2.2.1, s11.t4.t4.t4) o11) else (if (decide (q17.1 = 4)) = true then (ref30_Robot_j3 s11 ((q17.2.1.getD 1 0), (q17.2.1.getD 2 0), (q17.2.1.getD 3 0), (q17.2.1.getD 4 0), (q17.2.1.getD 5 0), true, s11.t4.2.2.2.1, s11.t4.t4.1, s11.t4.t4.2.1, s11.t4.t4.2.2.1, s11.t4.t4.2.2.2.1, s11.t4.t4.t4) o11) else (if (decide (q17.1 = 5)) = true then (ref30_Robot_j3 s11 (s11.2.1, s11.2.2.1, s11.2.2.2.1, s11.t4.1, s11.t4.2.1, s11.t4.2.2.1, s11.t4.2.2.2.1, s11.t4.t4.1, s11.t4.t4.2.1, s11.t4.t4.2.2.1, (i64.wrap (s11.t4.t4.2.2.2.1 + (q17.2.1.getD 4 0))), (q17.2.1.getD 1 0)) o11) else (ref30_Robot_j3 s11 (s11.2.1, s11.2.2.1, s11.2.2.2.1, s11.t4.1, s11.t4.2.1, s11.t4.2.2.1, s11.t4.2.2.2.1, s11.t4.t4.1, s11.t4.t4.2.1, s11.t4.t4.2.2.1, s11.t4.t4.2.2.2.1, s11.t4.t4.t4) o11)))))) else (o11 = .inr (s11.2.1, s11.2.2.1, s11.2.2.2.1, s11.t4.1, s11.t4.2.1, s11.t4.2.2.1, s11.t4.2.2.2.1, s11.t4.t4.1, s11.t4.t4.2.1, s11.t4.t4.2.2.1, s11.t4.t4.2.2.2.1, s11.t4.t4.t4))
def ref30_Robot (a0 : K1) (a1 : Int) (r : K16) : Prop :=
  ∃ e11 : Int × Int × Int × Int × Int × Bool × Bool × Int × Int × List (List Int) × Int × Int, Loops (ref30_Robot_l2 a0 a1) (0, 0, 0, 0, 0, 0, false, false, 0, 0, [], 0, 0) e11 ∧ (ref30_Robot_j1 e11 r)
def law30_robot_j2  (s8 : Bool) (r : Bool) : Prop :=
  r = s8
def law30_robot_j1 (a0 : K10) (a1 : K6) (s7 : Unit) (r : Bool) : Prop :=
  if (decide (a0.1 = a1.1)) = true then (if (decide (a0.2.1 = a1.2.1)) = true then (if (decide (a0.2.2.1 = a1.2.2.1)) = true then (if (decide (a0.2.2.2.1 = a1.2.2.2.1)) = true then (if (decide (a0.t4.1 = a1.t4.1)) = true then (if (decide (a0.t4.2.1 = a1.t4.2.1)) = true then (if (decide (a0.t4.2.2.1 = a1.t4.2.2.1)) = true then (if (decide (a0.t4.2.2.2.1 = a1.t4.2.2.2.1)) = true then (if (decide (a0.t4.t4.1 = a1.t4.t4.1)) = true then (if (decide (a0.t4.t4.2.2.1 = a1.t4.t4.2.2.1)) = true then (law30_robot_j2 (decide (a0.t4.t4.2.2.2 = a1.t4.t4.2.2.2)) r) else (law30_robot_j2 false r)) else (law30_robot_j2 false r)) else (law30_robot_j2 false r)) else (law30_robot_j2 false r)) else (law30_robot_j2 false r)) else (law30_robot_j2 false r)) else (law30_robot_j2 false r)) else (law30_robot_j2 false r)) else (law30_robot_j2 false r)) else (law30_robot_j2 false r)
def law30_robot_l3 (a0 : K10) (a1 : K6) (s9 : Int) (o9 : K41) : Prop :=
  if (decide (s9 < (a0.t4.t4.2.1.length : Int))) = true then (∃ q10 : Int × Int, idx a0.t4.t4.2.1 s9 q10 ∧ ∃ q15 : List Int, idx a1.t4.t4.2.1 s9 q15 ∧ ∃ q21 : Int × Int, ((!(decide (q10.1 = (q15.getD 0 0)))) = false → idx a0.t4.t4.2.1 s9 q21) ∧ ∃ q26 : List Int, ((!(decide (q10.1 = (q15.getD 0 0)))) = false → idx a1.t4.t4.2.1 s9 q26) ∧ if ((!(decide (q10.1 = (q15.getD 0 0)))) || (!(decide (q21.2 = (q26.getD 1 0))))) = true then (o9 = .inr (.inr false)) else (o9 = .inl (i64.wrap (s9 + 1)))) else (o9 = .inr (.inl ()))
def law30_robot (a0 : K10) (a1 : K6) (r : Bool) : Prop :=
  if (!(decide ((a0.t4.t4.2.1.length : Int) = (a1.t4.t4.2.1.length : Int)))) = true then (r = false) else (∃ e9 : (Sum Unit Bool), Loops (law30_robot_l3 a0 a1) 0 e9 ∧ Aft (fun p32 => law30_robot_j1 a0 a1 p32 r) (fun p33 => r = p33) e9)
def ref30_has_j1  (s3 : Unit) (r : Bool) : Prop :=
  r = false
def ref30_has_l2 (a0 : List Int) (a1 : Int) (s4 : Int) (o4 : K41) : Prop :=
  if (decide (s4 < (a0.length : Int))) = true then (∃ q5 : Int, idx a0 s4 q5 ∧ if (decide (q5 = a1)) = true then (o4 = .inr (.inr true)) else (o4 = .inl (i64.wrap (s4 + 1)))) else (o4 = .inr (.inl ()))
def ref30_has (a0 : List Int) (a1 : Int) (r : Bool) : Prop :=
  ∃ e4 : (Sum Unit Bool), Loops (ref30_has_l2 a0 a1) 0 e4 ∧ Aft (fun p10 => ref30_has_j1 p10 r) (fun p11 => r = p11) e4
def ref30_Owners_j1  (s12 : List Int) (r : List Int) : Prop :=
  r = s12
def ref30_Owners_j3 (s22 : K34) (s26 : List Int) (o22 : K22) : Prop :=
  o22 = .inl (s26, (i64.wrap (s22.2 + 1)))
def ref30_Owners_l2 (a0 : K1) (a1 : Int) (a2 : Int) (r6 : List Int) (s22 : K34) (o22 : K22) : Prop :=
  if (decide (s22.2 < (r6.length : Int))) = true then (∃ q30 : Int, idx r6 s22.2 q30 ∧ ∃ r35 : List Int, ref30_Cells a0 q30 a1 r35 ∧ ∃ r41 : Bool, ref30_has r35 a2 r41 ∧ if r41 = true then (∃ q46 : Int, idx r6 s22.2 q46 ∧ (s22.1.length + [q46].length) * 8 ≤ 140737488355328 ∧ s22.1.length + [q46].length ≤ 4611686018427387904 ∧ ref30_Owners_j3 s22 (s22.1 ++ [q46]) o22) else (ref30_Owners_j3 s22 s22.1 o22)) else (o22 = .inr s22.1)
def ref30_Owners (a0 : K1) (a1 : Int) (a2 : Int) (r : List Int) : Prop :=
  ∃ r6 : List Int, ref30_Robots a0 r6 ∧ ∃ e22 : List Int, Loops (ref30_Owners_l2 a0 a1 a2 r6) ([], 0) e22 ∧ (ref30_Owners_j1 e22 r)
def ref30_Contested_j1  (s6 : K29) (r : K29) : Prop :=
  r = s6
def ref30_Contested_j3 (s16 : K35) (s20 : K29) (o16 : K30) : Prop :=
  o16 = .inl (s20, (i64.wrap (s16.2 + 1)))
def ref30_Contested_j5 (s24 : K35) (s35 : K29) (o24 : K30) : Prop :=
  o24 = .inl (s35, (i64.wrap (s24.2 + 1)))
def ref30_Contested_j6 (s24 : K35) (q39 : K53) (q55 : Int) (s68 : Int) (o24 : K30) : Prop :=
  ∃ q70 : List Int, ((decide (s68 = (s24.1.length : Int))) = false → idx s24.1 s68 q70) ∧ if ((decide (s68 = (s24.1.length : Int))) || (!(eqN 2 0 q70 [q39.2.1, q55]))) = true then (0 ≤ s68 ∧ s68 ≤ (s24.1.length : Int) ∧ (([] : List (List Int)).length + ((s24.1.drop (0 : Int).toNat).take ((s68 : Int) - 0).toNat).length) * 16 ≤ 140737488355328 ∧ ([] : List (List Int)).length + ((s24.1.drop (0 : Int).toNat).take ((s68 : Int) - 0).toNat).length ≤ 4611686018427387904 ∧ ((([] : List (List Int)) ++ ((s24.1.drop (0 : Int).toNat).take ((s68 : Int) - 0).toNat)).length + [[q39.2.1, q55]].length) * 16 ≤ 140737488355328 ∧ (([] : List (List Int)) ++ ((s24.1.drop (0 : Int).toNat).take ((s68 : Int) - 0).toNat)).length + [[q39.2.1, q55]].length ≤ 4611686018427387904 ∧ 0 ≤ s68 ∧ s68 ≤ (s24.1.length : Int) ∧ (s24.1.length : Int) ≤ (s24.1.length : Int) ∧ (((([] : List (List Int)) ++ ((s24.1.drop (0 : Int).toNat).take ((s68 : Int) - 0).toNat)) ++ [[q39.2.1, q55]]).length + ((s24.1.drop s68.toNat).take (((s24.1.length : Int) : Int) - s68).toNat).length) * 16 ≤ 140737488355328 ∧ ((([] : List (List Int)) ++ ((s24.1.drop (0 : Int).toNat).take ((s68 : Int) - 0).toNat)) ++ [[q39.2.1, q55]]).length + ((s24.1.drop s68.toNat).take (((s24.1.length : Int) : Int) - s68).toNat).length ≤ 4611686018427387904 ∧ ref30_Contested_j5 s24 (((([] : List (List Int)) ++ ((s24.1.drop (0 : Int).toNat).take ((s68 : Int) - 0).toNat)) ++ [[q39.2.1, q55]]) ++ ((s24.1.drop s68.toNat).take (((s24.1.length : Int) : Int) - s68).toNat)) o24) else (ref30_Contested_j5 s24 s24.1 o24)
def ref30_Contested_l7 (s24 : K35) (q39 : K53) (q55 : Int) (s129 : Int) (o129 : Sum Int Int) : Prop :=
  ∃ q131 : List Int, ((decide (s129 < (s24.1.length : Int))) = true → idx s24.1 s129 q131) ∧ ∃ q139 : List Int, (((decide (s129 < (s24.1.length : Int))) = true) ∧ (decide ((q131.getD 0 0) < q39.2.1)) = false → idx s24.1 s129 q139) ∧ ∃ q147 : List Int, ((((decide (s129 < (s24.1.length : Int))) = true) ∧ (decide ((q131.getD 0 0) < q39.2.1)) = false) ∧ (decide ((q139.getD 0 0) = q39.2.1)) = true → idx s24.1 s129 q147) ∧ if ((decide (s129 < (s24.1.length : Int))) && ((decide ((q131.getD 0 0) < q39.2.1)) || ((decide ((q139.getD 0 0) = q39.2.1)) && (decide ((q147.getD 1 0) < q55))))) = true then (o129 = .inl (i64.wrap (s129 + 1))) else (o129 = .inr s129)
def ref30_Contested_l4 (a0 : K1) (s16 : K35) (s24 : K35) (o24 : K30) : Prop :=
  ∃ q28 : Int × Int × List Int, idx a0.2 s16.2 q28 ∧ if (decide (s24.2 < (q28.2.2.length : Int))) = true then (∃ q39 : Int × Int × List Int, idx a0.2 s16.2 q39 ∧ ∃ q47 : Int × Int × List Int, idx a0.2 s16.2 q47 ∧ ∃ q55 : Int, idx q47.2.2 s24.2 q55 ∧ ∃ r62 : List Int, ref30_Owners a0 q39.2.1 q55 r62 ∧ if (decide ((r62.length : Int) < 2)) = true then (ref30_Contested_j5 s24 s24.1 o24) else (∃ e129 : Int, Loops (ref30_Contested_l7 s24 q39 q55) 0 e129 ∧ (ref30_Contested_j6 s24 q39 q55 e129 o24))) else (o24 = .inr s24.1)
def ref30_Contested_l2 (a0 : K1) (s16 : K35) (o16 : K30) : Prop :=
  if (decide (s16.2 < (a0.2.length : Int))) = true then (∃ e24 : List (List Int), Loops (ref30_Contested_l4 a0 s16) (s16.1, 0) e24 ∧ (ref30_Contested_j3 s16 e24 o16)) else (o16 = .inr s16.1)
def ref30_Contested (a0 : K1) (r : K29) : Prop :=
  ∃ e16 : List (List Int), Loops (ref30_Contested_l2 a0) ([], 0) e16 ∧ (ref30_Contested_j1 e16 r)
def fleet_Fleet_Contested_j2  (s14 : K40) (r : K40) : Prop :=
  s14.length < 4611686018427387904 ∧ r = (sortP s14)
def fleet_Fleet_Contested_l3  (cc33 : Option ((Int × Int) × Int)) (s33 : K44) (o33 : Sum ((List (Int × Int)) × (List ((Int × Int) × Int))) (List (Int × Int))) : Prop :=
  (cc33 = none → o33 = .inr s33.1) ∧ (∀ p39 : (Int × Int) × Int, cc33 = some p39 → if (decide (1 < p39.2)) = true then ((s33.1.length + [p39.1].length) * 16 ≤ 140737488355328 ∧ s33.1.length + [p39.1].length ≤ 4611686018427387904 ∧ o33 = .inl ((s33.1 ++ [p39.1]), (mdel s33.2 p39.1))) else (o33 = .inl (s33.1, (mdel s33.2 p39.1))))
def fleet_Fleet_Contested_j1  (s10 : (List ((Int × Int) × Int))) (r : K40) : Prop :=
  LoopsD (fun (s_ : K44) (c_ : Option ((Int × Int) × Int)) => mopt s_.2 c_) (fleet_Fleet_Contested_l3) (fun (e33 : K40) => (fleet_Fleet_Contested_j2 e33 r)) ([], s10)
def fleet_Fleet_Contested_l5 (s61 : K28) (p67 : (Int × Int) × List Int) (s77 : (List ((Int × Int) × Int)) × Int) (o77 : Sum ((List ((Int × Int) × Int)) × Int) ((List ((Int × Int) × Int)) × (List ((Int × Int) × List Int)))) : Prop :=
  if (decide (s77.2 < (p67.2.length : Int))) = true then (∃ q81 : Int, idx p67.2 s77.2 q81 ∧ o77 = .inl ((mput s77.1 (p67.1.2, q81) (i64.wrap ((mget s77.1 (p67.1.2, q81)).getD 0 + 1))), (i64.wrap (s77.2 + 1)))) else (o77 = .inr (s77.1, (mdel s61.2 p67.1)))
def fleet_Fleet_Contested_l4  (cc61 : K37) (s61 : K28) (o61 : Sum ((List ((Int × Int) × Int)) × (List ((Int × Int) × List Int))) (List ((Int × Int) × Int))) : Prop :=
  (cc61 = none → o61 = .inr s61.1) ∧ (∀ p67 : (Int × Int) × List Int, cc61 = some p67 → ∃ e77 : (List ((Int × Int) × Int)) × (List ((Int × Int) × List Int)), Loops (fleet_Fleet_Contested_l5 s61 p67) (s61.1, 0) e77 ∧ (o61 = .inl e77))
def fleet_Fleet_Contested (a0 : K0) (r : K40) : Prop :=
  LoopsD (fun (s_ : K28) (c_ : K37) => mopt s_.2 c_) (fleet_Fleet_Contested_l4) (fun (e61 : (List ((Int × Int) × Int))) => (fleet_Fleet_Contested_j1 e61 r)) (([] : List ((Int × Int) × Int)), a0.2)
def strconv_Itoa (a0 : Int) (r : ByteArray) : Prop := IntOk .i64 a0 ∧ r = bstr (decI a0)
def say_Number (a0 : Int) (r : ByteArray) : Prop :=
  ∃ r1 : ByteArray, strconv_Itoa a0 r1 ∧ r = r1
def fleet_line_j1  (s3 : ByteArray) (r : ByteArray) : Prop :=
  r = s3
def fleet_line_l2 (a1 : List Int) (s4 : ByteArray × Int) (o4 : Sum (ByteArray × Int) ByteArray) : Prop :=
  if (decide (s4.2 < (a1.length : Int))) = true then (∃ q5 : Int, idx a1 s4.2 q5 ∧ ∃ r10 : ByteArray, say_Number q5 r10 ∧ (bstr [32]).size + r10.size < 4611686018427387904 ∧ s4.1.size + ((bstr [32]) ++ r10).size < 4611686018427387904 ∧ o4 = .inl ((s4.1 ++ ((bstr [32]) ++ r10)), (i64.wrap (s4.2 + 1)))) else (o4 = .inr s4.1)
def fleet_line (a0 : ByteArray) (a1 : List Int) (r : ByteArray) : Prop :=
  ∃ e4 : ByteArray, Loops (fleet_line_l2 a1) (a0, 0) e4 ∧ (fleet_line_j1 e4 r)
def fleet_Fleet_zones_j1  (s7 : List Int) (r : List Int) : Prop :=
  s7.length < 4611686018427387904 ∧ r = (s7.mergeSort fun x y => decide (x ≤ y))
def fleet_Fleet_zones_l2 (a1 : Int) (cc26 : K37) (s26 : K46) (o26 : Sum (List Int × (List ((Int × Int) × List Int))) (List Int)) : Prop :=
  (cc26 = none → o26 = .inr s26.1) ∧ (∀ p32 : (Int × Int) × List Int, cc26 = some p32 → if (decide (p32.1.1 = a1)) = true then ((s26.1.length + [p32.1.2].length) * 8 ≤ 140737488355328 ∧ s26.1.length + [p32.1.2].length ≤ 4611686018427387904 ∧ o26 = .inl ((s26.1 ++ [p32.1.2]), (mdel s26.2 p32.1))) else (o26 = .inl (s26.1, (mdel s26.2 p32.1))))
def fleet_Fleet_zones (a0 : K0) (a1 : Int) (r : List Int) : Prop :=
  LoopsD (fun (s_ : K46) (c_ : K37) => mopt s_.2 c_) (fleet_Fleet_zones_l2 a1) (fun (e26 : List Int) => (fleet_Fleet_zones_j1 e26 r)) ([], a0.2)
def fleet_Fleet_Cells (a0 : K0) (a1 : Int) (a2 : Int) (r : List Int) : Prop :=
  ∃ r9 : List Int, slices_Clone_int_int ((mget a0.2 (a1, a2)).getD []) r9 ∧ r = r9
def fleet_Fleet_Lines_l4 (a0 : K0) (x24 : Int) (r86 : List Int) (s92 : Int × List ByteArray) (o92 : Sum (Int × List ByteArray) (List ByteArray)) : Prop :=
  if (decide (s92.1 < (r86.length : Int))) = true then (∃ q96 : Int, idx r86 s92.1 q96 ∧ ∃ r107 : List Int, fleet_Fleet_Cells a0 x24 q96 r107 ∧ ([x24, q96].length + r107.length) * 8 ≤ 140737488355328 ∧ [x24, q96].length + r107.length ≤ 4611686018427387904 ∧ ∃ r125 : ByteArray, fleet_line (bstr [103, 114, 97, 110, 116]) ([x24, q96] ++ r107) r125 ∧ (s92.2.length + [r125].length) * 16 ≤ 140737488355328 ∧ s92.2.length + [r125].length ≤ 4611686018427387904 ∧ o92 = .inl ((i64.wrap (s92.1 + 1)), (s92.2 ++ [r125]))) else (o92 = .inr s92.2)
def fleet_Fleet_Lines_j3 (a0 : K0) (x24 : Int) (s24 : K20) (s45 : ByteArray) (o24 : K54) : Prop :=
  ∃ r53 : ByteArray, fleet_line (bstr [32, 112, 97, 116, 104]) [((((mget a0.1 x24).getD (0, 0, 0, 0, 0, false, false, 0, 0, [], 0, 0)).t4.t4.2.1).length : Int)] r53 ∧ s45.size + r53.size < 4611686018427387904 ∧ ∃ r65 : ByteArray, fleet_line (bstr [32, 102, 97, 117, 108, 116, 115]) [((mget a0.1 x24).getD (0, 0, 0, 0, 0, false, false, 0, 0, [], 0, 0)).t4.t4.2.2.1, ((mget a0.1 x24).getD (0, 0, 0, 0, 0, false, false, 0, 0, [], 0, 0)).t4.t4.2.2.2] r65 ∧ (s45 ++ r53).size + r65.size < 4611686018427387904 ∧ (s24.length + [((s45 ++ r53) ++ r65)].length) * 16 ≤ 140737488355328 ∧ s24.length + [((s45 ++ r53) ++ r65)].length ≤ 4611686018427387904 ∧ ∃ r86 : List Int, fleet_Fleet_zones a0 x24 r86 ∧ ∃ e92 : List ByteArray, Loops (fleet_Fleet_Lines_l4 a0 x24 r86) (0, (s24 ++ [((s45 ++ r53) ++ r65)])) e92 ∧ (o24 = .inl e92)
def fleet_Fleet_Lines_j2 (a0 : K0) (x24 : Int) (s24 : K20) (s44 : ByteArray) (o24 : K54) : Prop :=
  if (((mget a0.1 x24).getD (0, 0, 0, 0, 0, false, false, 0, 0, [], 0, 0)).t4.2.2.1) = true then (∃ r153 : ByteArray, fleet_line (bstr [32, 104, 101, 108, 100]) [((mget a0.1 x24).getD (0, 0, 0, 0, 0, false, false, 0, 0, [], 0, 0)).t4.2.2.2.1, ((mget a0.1 x24).getD (0, 0, 0, 0, 0, false, false, 0, 0, [], 0, 0)).t4.t4.1] r153 ∧ s44.size + r153.size < 4611686018427387904 ∧ fleet_Fleet_Lines_j3 a0 x24 s24 (s44 ++ r153) o24) else (fleet_Fleet_Lines_j3 a0 x24 s24 s44 o24)
def fleet_Fleet_Lines_l1 (a0 : K0) (x24 : Int) (s24 : K20) (o24 : K54) : Prop :=
  ∃ r40 : ByteArray, fleet_line (bstr [114, 111, 98, 111, 116]) [x24] r40 ∧ if (((mget a0.1 x24).getD (0, 0, 0, 0, 0, false, false, 0, 0, [], 0, 0)).t4.2.1) = true then (∃ r165 : ByteArray, fleet_line (bstr [32, 97, 116]) [((mget a0.1 x24).getD (0, 0, 0, 0, 0, false, false, 0, 0, [], 0, 0)).1, ((mget a0.1 x24).getD (0, 0, 0, 0, 0, false, false, 0, 0, [], 0, 0)).2.1, ((mget a0.1 x24).getD (0, 0, 0, 0, 0, false, false, 0, 0, [], 0, 0)).2.2.1, ((mget a0.1 x24).getD (0, 0, 0, 0, 0, false, false, 0, 0, [], 0, 0)).2.2.2.1, ((mget a0.1 x24).getD (0, 0, 0, 0, 0, false, false, 0, 0, [], 0, 0)).t4.1] r165 ∧ r40.size + r165.size < 4611686018427387904 ∧ fleet_Fleet_Lines_j2 a0 x24 s24 (r40 ++ r165) o24) else (fleet_Fleet_Lines_j2 a0 x24 s24 r40 o24)
def fleet_Fleet_Lines_j5  (s183 : K20) (r : K20) : Prop :=
  r = s183
def fleet_Fleet_Lines_l6 (r193 : K40) (s199 : Int × List ByteArray) (o199 : Sum (Int × List ByteArray) (List ByteArray)) : Prop :=
  if (decide (s199.1 < (r193.length : Int))) = true then (∃ q203 : Int × Int, idx r193 s199.1 q203 ∧ ∃ r216 : ByteArray, fleet_line (bstr [99, 111, 110, 116, 101, 115, 116, 101, 100]) [q203.1, q203.2] r216 ∧ (s199.2.length + [r216].length) * 16 ≤ 140737488355328 ∧ s199.2.length + [r216].length ≤ 4611686018427387904 ∧ o199 = .inl ((i64.wrap (s199.1 + 1)), (s199.2 ++ [r216]))) else (o199 = .inr s199.2)
def fleet_Fleet_Lines (a0 : K0) (r : K20) : Prop :=
  ∃ r9 : (((List (Int × (Int × Int × Int × Int × Int × Bool × Bool × Int × Int × List (Int × Int) × Int × Int)) × List ((Int × Int) × List Int)) → (S : Type) → (Int → S → Bool × S → Prop) → S → S × Unit → Prop)), fleet_Fleet_Robots a0 r9 ∧ ∃ (t24 : K54) (w24 : Unit), r9 a0 (Sum (List ByteArray) Unit) (Yof (fleet_Fleet_Lines_l1 a0)) (.inl []) (t24, w24) ∧ Aft (fun p177 => ∃ r193 : (List (Int × Int)), fleet_Fleet_Contested a0 r193 ∧ ∃ e199 : List ByteArray, Loops (fleet_Fleet_Lines_l6 r193) (0, p177) e199 ∧ (fleet_Fleet_Lines_j5 e199 r)) (fun _ => True) t24
def ref07_Digits_j1  (s1 : K48) (r : ByteArray) : Prop :=
  (bstr [45]).size + s1.2.size < 4611686018427387904 ∧ r = ((bstr [45]) ++ s1.2)
def ref07_Digits_l2  (s3 : K48) (o3 : Sum (Int × ByteArray) (Int × ByteArray)) : Prop :=
  if (decide (s3.1 < 0)) = true then ((bstr [(u8.wrap (i64.wrap (48 - (s3.1.tmod 10))))]).size + s3.2.size < 4611686018427387904 ∧ o3 = .inl ((i64.wrap (s3.1.tdiv 10)), ((bstr [(u8.wrap (i64.wrap (48 - (s3.1.tmod 10))))]) ++ s3.2))) else (o3 = .inr (s3.1, s3.2))
def ref07_Digits_j3  (s13 : K48) (r : ByteArray) : Prop :=
  (bstr [(u8.wrap (i64.wrap (48 + s13.1)))]).size + s13.2.size < 4611686018427387904 ∧ r = ((bstr [(u8.wrap (i64.wrap (48 + s13.1)))]) ++ s13.2)
def ref07_Digits_l4  (s22 : K48) (o22 : Sum (Int × ByteArray) (Int × ByteArray)) : Prop :=
  if (decide (10 ≤ s22.1)) = true then ((bstr [(u8.wrap (i64.wrap (48 + (s22.1.tmod 10))))]).size + s22.2.size < 4611686018427387904 ∧ o22 = .inl ((i64.wrap (s22.1.tdiv 10)), ((bstr [(u8.wrap (i64.wrap (48 + (s22.1.tmod 10))))]) ++ s22.2))) else (o22 = .inr (s22.1, s22.2))
def ref07_Digits (a0 : Int) (r : ByteArray) : Prop :=
  if (decide (a0 < 0)) = true then (∃ e3 : Int × ByteArray, Loops (ref07_Digits_l2) (a0, (bstr [])) e3 ∧ (ref07_Digits_j1 e3 r)) else (∃ e22 : Int × ByteArray, Loops (ref07_Digits_l4) (a0, (bstr [])) e22 ∧ (ref07_Digits_j3 e22 r))
def ref30_line_j1  (s3 : ByteArray) (r : ByteArray) : Prop :=
  r = s3
def ref30_line_l2 (a1 : List Int) (s4 : ByteArray × Int) (o4 : Sum (ByteArray × Int) ByteArray) : Prop :=
  if (decide (s4.2 < (a1.length : Int))) = true then (s4.1.size + (bstr [32]).size < 4611686018427387904 ∧ ∃ q6 : Int, idx a1 s4.2 q6 ∧ ∃ r11 : ByteArray, ref07_Digits q6 r11 ∧ (s4.1 ++ (bstr [32])).size + r11.size < 4611686018427387904 ∧ o4 = .inl (((s4.1 ++ (bstr [32])) ++ r11), (i64.wrap (s4.2 + 1)))) else (o4 = .inr s4.1)
def ref30_line (a0 : ByteArray) (a1 : List Int) (r : ByteArray) : Prop :=
  ∃ e4 : ByteArray, Loops (ref30_line_l2 a1) (a0, 0) e4 ∧ (ref30_line_j1 e4 r)
def ref30_zones_j1  (s6 : List Int) (r : List Int) : Prop :=
  r = s6
def ref30_zones_j3 (s16 : K34) (s20 : List Int) (o16 : K22) : Prop :=
  o16 = .inl (s20, (i64.wrap (s16.2 + 1)))
def ref30_zones_j4 (a0 : K1) (s16 : K34) (s31 : Int) (o16 : K22) : Prop :=
  0 ≤ s31 ∧ s31 ≤ (s16.1.length : Int) ∧ (([] : List Int).length + ((s16.1.drop (0 : Int).toNat).take ((s31 : Int) - 0).toNat).length) * 8 ≤ 140737488355328 ∧ ([] : List Int).length + ((s16.1.drop (0 : Int).toNat).take ((s31 : Int) - 0).toNat).length ≤ 4611686018427387904 ∧ ∃ q54 : Int × Int × List Int, idx a0.2 s16.2 q54 ∧ ((([] : List Int) ++ ((s16.1.drop (0 : Int).toNat).take ((s31 : Int) - 0).toNat)).length + [q54.2.1].length) * 8 ≤ 140737488355328 ∧ (([] : List Int) ++ ((s16.1.drop (0 : Int).toNat).take ((s31 : Int) - 0).toNat)).length + [q54.2.1].length ≤ 4611686018427387904 ∧ 0 ≤ s31 ∧ s31 ≤ (s16.1.length : Int) ∧ (s16.1.length : Int) ≤ (s16.1.length : Int) ∧ (((([] : List Int) ++ ((s16.1.drop (0 : Int).toNat).take ((s31 : Int) - 0).toNat)) ++ [q54.2.1]).length + ((s16.1.drop s31.toNat).take (((s16.1.length : Int) : Int) - s31).toNat).length) * 8 ≤ 140737488355328 ∧ ((([] : List Int) ++ ((s16.1.drop (0 : Int).toNat).take ((s31 : Int) - 0).toNat)) ++ [q54.2.1]).length + ((s16.1.drop s31.toNat).take (((s16.1.length : Int) : Int) - s31).toNat).length ≤ 4611686018427387904 ∧ ref30_zones_j3 s16 (((([] : List Int) ++ ((s16.1.drop (0 : Int).toNat).take ((s31 : Int) - 0).toNat)) ++ [q54.2.1]) ++ ((s16.1.drop s31.toNat).take (((s16.1.length : Int) : Int) - s31).toNat)) o16
def ref30_zones_l5 (a0 : K1) (s16 : K34) (s91 : Int) (o91 : Sum Int Int) : Prop :=
  ∃ q93 : Int, ((decide (s91 < (s16.1.length : Int))) = true → idx s16.1 s91 q93) ∧ ∃ q100 : Int × Int × List Int, ((decide (s91 < (s16.1.length : Int))) = true → idx a0.2 s16.2 q100) ∧ if ((decide (s91 < (s16.1.length : Int))) && (decide (q93 < q100.2.1))) = true then (o91 = .inl (i64.wrap (s91 + 1))) else (o91 = .inr s91)
def ref30_zones_l2 (a0 : K1) (a1 : Int) (s16 : K34) (o16 : K22) : Prop :=
  if (decide (s16.2 < (a0.2.length : Int))) = true then (∃ q24 : Int × Int × List Int, idx a0.2 s16.2 q24 ∧ if (!(decide (q24.1 = a1))) = true then (ref30_zones_j3 s16 s16.1 o16) else (∃ e91 : Int, Loops (ref30_zones_l5 a0 s16) 0 e91 ∧ (ref30_zones_j4 a0 s16 e91 o16))) else (o16 = .inr s16.1)
def ref30_zones (a0 : K1) (a1 : Int) (r : List Int) : Prop :=
  ∃ e16 : List Int, Loops (ref30_zones_l2 a0 a1) ([], 0) e16 ∧ (ref30_zones_j1 e16 r)
def ref30_Lines_j2  (s22 : K20) (r : K20) : Prop :=
  r = s22
def ref30_Lines_l3 (r16 : K29) (s32 : K33) (o32 : K25) : Prop :=
  if (decide (s32.2 < (r16.length : Int))) = true then (∃ q36 : List Int, idx r16 s32.2 q36 ∧ ∃ q41 : List Int, idx r16 s32.2 q41 ∧ ∃ r53 : ByteArray, ref30_line (bstr [99, 111, 110, 116, 101, 115, 116, 101, 100]) [(q36.getD 0 0), (q41.getD 1 0)] r53 ∧ (s32.1.length + [r53].length) * 16 ≤ 140737488355328 ∧ s32.1.length + [r53].length ≤ 4611686018427387904 ∧ o32 = .inl ((s32.1 ++ [r53]), (i64.wrap (s32.2 + 1)))) else (o32 = .inr s32.1)
def ref30_Lines_j1 (a0 : K1) (s12 : K20) (r : K20) : Prop :=
  ∃ r16 : List (List Int), ref30_Contested a0 r16 ∧ ∃ e32 : List ByteArray, Loops (ref30_Lines_l3 r16) (s12, 0) e32 ∧ (ref30_Lines_j2 e32 r)
def ref30_Lines_j5 (s74 : K33) (s78 : K20) (o74 : K25) : Prop :=
  o74 = .inl (s78, (i64.wrap (s74.2 + 1)))
def ref30_Lines_l8 (a0 : K1) (r6 : List Int) (s74 : K33) (r158 : List Int) (s165 : K33) (o165 : K25) : Prop :=
  if (decide (s165.2 < (r158.length : Int))) = true then (∃ q169 : Int, idx r6 s74.2 q169 ∧ ∃ q174 : Int, idx r158 s165.2 q174 ∧ ∃ r186 : ByteArray, ref30_line (bstr [103, 114, 97, 110, 116]) [q169, q174] r186 ∧ ∃ q190 : Int, idx r6 s74.2 q190 ∧ ∃ q195 : Int, idx r158 s165.2 q195 ∧ ∃ r200 : List Int, ref30_Cells a0 q190 q195 r200 ∧ ∃ r206 : ByteArray, ref30_line r186 r200 r206 ∧ (s165.1.length + [r206].length) * 16 ≤ 140737488355328 ∧ s165.1.length + [r206].length ≤ 4611686018427387904 ∧ o165 = .inl ((s165.1 ++ [r206]), (i64.wrap (s165.2 + 1)))) else (o165 = .inr s165.1)
def ref30_Lines_j7 (a0 : K1) (r6 : List Int) (s74 : K33) (r87 : K16) (s112 : ByteArray) (o74 : K25) : Prop :=
  ∃ r120 : ByteArray, ref30_line (bstr [32, 112, 97, 116, 104]) [(r87.t4.t4.2.1.length : Int)] r120 ∧ s112.size + r120.size < 4611686018427387904 ∧ ∃ r132 : ByteArray, ref30_line (bstr [32, 102, 97, 117, 108, 116, 115]) [r87.t4.t4.2.2.1, r87.t4.t4.2.2.2] r132 ∧ (s112 ++ r120).size + r132.size < 4611686018427387904 ∧ (s74.1.length + [((s112 ++ r120) ++ r132)].length) * 16 ≤ 140737488355328 ∧ s74.1.length + [((s112 ++ r120) ++ r132)].length ≤ 4611686018427387904 ∧ ∃ q153 : Int, idx r6 s74.2 q153 ∧ ∃ r158 : List Int, ref30_zones a0 q153 r158 ∧ ∃ e165 : List ByteArray, Loops (ref30_Lines_l8 a0 r6 s74 r158) ((s74.1 ++ [((s112 ++ r120) ++ r132)]), 0) e165 ∧ (ref30_Lines_j5 s74 e165 o74)
def ref30_Lines_j6 (a0 : K1) (r6 : List Int) (s74 : K33) (r87 : K16) (s111 : ByteArray) (o74 : K25) : Prop :=
  if r87.t4.2.2.1 = true then (∃ r234 : ByteArray, ref30_line (bstr [32, 104, 101, 108, 100]) [r87.t4.2.2.2.1, r87.t4.t4.1] r234 ∧ s111.size + r234.size < 4611686018427387904 ∧ ref30_Lines_j7 a0 r6 s74 r87 (s111 ++ r234) o74) else (ref30_Lines_j7 a0 r6 s74 r87 s111 o74)
def ref30_Lines_l4 (a0 : K1) (r6 : List Int) (s74 : K33) (o74 : K25) : Prop :=
  if (decide (s74.2 < (r6.length : Int))) = true then (∃ q82 : Int, idx r6 s74.2 q82 ∧ ∃ r87 : (Int × Int × Int × Int × Int × Bool × Bool × Int × Int × List (List Int) × Int × Int), ref30_Robot a0 q82 r87 ∧ ∃ q95 : Int, idx r6 s74.2 q95 ∧ ∃ r107 : ByteArray, ref30_line (bstr [114, 111, 98, 111, 116]) [q95] r107 ∧ if r87.t4.2.1 = true then (∃ r246 : ByteArray, ref30_line (bstr [32, 97, 116]) [r87.1, r87.2.1, r87.2.2.1, r87.2.2.2.1, r87.t4.1] r246 ∧ r107.size + r246.size < 4611686018427387904 ∧ ref30_Lines_j6 a0 r6 s74 r87 (r107 ++ r246) o74) else (ref30_Lines_j6 a0 r6 s74 r87 r107 o74)) else (o74 = .inr s74.1)
def ref30_Lines (a0 : K1) (r : K20) : Prop :=
  ∃ r6 : List Int, ref30_Robots a0 r6 ∧ ∃ e74 : List ByteArray, Loops (ref30_Lines_l4 a0 r6) ([], 0) e74 ∧ (ref30_Lines_j1 a0 e74 r)
def law25_Lines_j1  (s5 : Unit) (r : Bool) : Prop :=
  r = true
def law25_Lines_l2 (a0 : K20) (a1 : K20) (s6 : Int) (o6 : K41) : Prop :=
  if (decide (s6 < (a0.length : Int))) = true then (∃ q7 : ByteArray, idx a0 s6 q7 ∧ ∃ q12 : ByteArray, idx a1 s6 q12 ∧ if (!(decide (q7 = q12))) = true then (o6 = .inr (.inr false)) else (o6 = .inl (i64.wrap (s6 + 1)))) else (o6 = .inr (.inl ()))
def law25_Lines (a0 : K20) (a1 : K20) (r : Bool) : Prop :=
  if (!(decide ((a0.length : Int) = (a1.length : Int)))) = true then (r = false) else (∃ e6 : (Sum Unit Bool), Loops (law25_Lines_l2 a0 a1) 0 e6 ∧ Aft (fun p18 => law25_Lines_j1 p18 r) (fun p19 => r = p19) e6)
def slices_Index_int_int_j1  (s3 : Unit) (r : Int) : Prop :=
  r = (-1)
def slices_Index_int_int_l2 (a0 : List Int) (a1 : Int) (s4 : Int) (o4 : K17) : Prop :=
  if (decide (s4 < (a0.length : Int))) = true then (∃ q5 : Int, idx a0 s4 q5 ∧ if (decide (a1 = q5)) = true then (o4 = .inr (.inr s4)) else (o4 = .inl (i64.wrap (s4 + 1)))) else (o4 = .inr (.inl ()))
def slices_Index_int_int (a0 : List Int) (a1 : Int) (r : Int) : Prop :=
  ∃ e4 : (Sum Unit Int), Loops (slices_Index_int_int_l2 a0 a1) 0 e4 ∧ Aft (fun p10 => slices_Index_int_int_j1 p10 r) (fun p11 => r = p11) e4
def slices_Contains_int_int (a0 : List Int) (a1 : Int) (r : Bool) : Prop :=
  ∃ r3 : Int, slices_Index_int_int a0 a1 r3 ∧ r = (decide (0 ≤ r3))
def fleet_Fleet_Owners_l1 (a0 : K0) (a1 : Int × Int) (x25 : Int) (s25 : List Int) (o25 : Sum (List Int) Unit) : Prop :=
  ∃ r31 : Bool, slices_Contains_int_int ((mget a0.2 (x25, a1.1)).getD []) a1.2 r31 ∧ if r31 = true then ((s25.length + [x25].length) * 8 ≤ 140737488355328 ∧ s25.length + [x25].length ≤ 4611686018427387904 ∧ o25 = .inl (s25 ++ [x25])) else (o25 = .inl s25)
def fleet_Fleet_Owners (a0 : K0) (a1 : Int × Int) (r : List Int) : Prop :=
  ∃ r10 : (((List (Int × (Int × Int × Int × Int × Int × Bool × Bool × Int × Int × List (Int × Int) × Int × Int)) × List ((Int × Int) × List Int)) → (S : Type) → (Int → S → Bool × S → Prop) → S → S × Unit → Prop)), fleet_Fleet_Robots a0 r10 ∧ ∃ (t25 : Sum (List Int) Unit) (w25 : Unit), r10 a0 (Sum (List Int) Unit) (Yof (fleet_Fleet_Owners_l1 a0 a1)) (.inl []) (t25, w25) ∧ Aft (fun p51 => r = p51) (fun _ => True) t25
def ref01_Ints_j1  (s5 : Unit) (r : Bool) : Prop :=
  r = true
def ref01_Ints_l2 (a0 : List Int) (a1 : List Int) (s6 : Int) (o6 : K41) : Prop :=
  if (decide (s6 < (a0.length : Int))) = true then (∃ q7 : Int, idx a0 s6 q7 ∧ ∃ q12 : Int, idx a1 s6 q12 ∧ if (!(decide (q7 = q12))) = true then (o6 = .inr (.inr false)) else (o6 = .inl (i64.wrap (s6 + 1)))) else (o6 = .inr (.inl ()))
def ref01_Ints (a0 : List Int) (a1 : List Int) (r : Bool) : Prop :=
  if (!(decide ((a0.length : Int) = (a1.length : Int)))) = true then (r = false) else (∃ e6 : (Sum Unit Bool), Loops (ref01_Ints_l2 a0 a1) 0 e6 ∧ Aft (fun p18 => ref01_Ints_j1 p18 r) (fun p19 => r = p19) e6)
def law30_Alike_l1 (a0 : K0) (a1 : K1) (r13 : List Int) (x37 : Int) (s37 : Int × Bool) (o37 : Sum (Int × Bool) Unit) : Prop :=
  ∃ r38 : (Int × Int × Int × Int × Int × Bool × Bool × Int × Int × List (Int × Int) × Int × Int) × Bool, fleet_Fleet_Robot a0 x37 r38 ∧ ∃ q47 : Int, ((s37.2 && (decide (s37.1 < (r13.length : Int)))) = true → idx r13 s37.1 q47) ∧ ∃ r54 : (Int × Int × Int × Int × Int × Bool × Bool × Int × Int × List (List Int) × Int × Int), ((((s37.2 && (decide (s37.1 < (r13.length : Int)))) && (decide (x37 = q47))) && r38.2) = true → ref30_Robot a1 x37 r54) ∧ ∃ r60 : Bool, ((((s37.2 && (decide (s37.1 < (r13.length : Int)))) && (decide (x37 = q47))) && r38.2) = true → law30_robot r38.1 r54 r60) ∧ o37 = .inl ((i64.wrap (s37.1 + 1)), ((((s37.2 && (decide (s37.1 < (r13.length : Int)))) && (decide (x37 = q47))) && r38.2) && r60))
def law30_Alike_j2  (s107 : Unit) (r : Bool) : Prop :=
  r = true
def law30_Alike_l3 (a0 : K0) (a1 : K1) (r75 : K29) (r81 : K40) (s108 : Int) (o108 : K41) : Prop :=
  if (decide (s108 < (r75.length : Int))) = true then (∃ q109 : Int × Int, idx r81 s108 q109 ∧ ∃ q114 : List Int, idx r75 s108 q114 ∧ ∃ q120 : Int × Int, ((!(decide (q109.1 = (q114.getD 0 0)))) = false → idx r81 s108 q120) ∧ ∃ q125 : List Int, ((!(decide (q109.1 = (q114.getD 0 0)))) = false → idx r75 s108 q125) ∧ ∃ q131 : Int × Int, (((!(decide (q109.1 = (q114.getD 0 0)))) || (!(decide (q120.2 = (q125.getD 1 0))))) = false → idx r81 s108 q131) ∧ ∃ r136 : List Int, (((!(decide (q109.1 = (q114.getD 0 0)))) || (!(decide (q120.2 = (q125.getD 1 0))))) = false → fleet_Fleet_Owners a0 q131 r136) ∧ ∃ q142 : List Int, (((!(decide (q109.1 = (q114.getD 0 0)))) || (!(decide (q120.2 = (q125.getD 1 0))))) = false → idx r75 s108 q142) ∧ ∃ q147 : List Int, (((!(decide (q109.1 = (q114.getD 0 0)))) || (!(decide (q120.2 = (q125.getD 1 0))))) = false → idx r75 s108 q147) ∧ ∃ r152 : List Int, (((!(decide (q109.1 = (q114.getD 0 0)))) || (!(decide (q120.2 = (q125.getD 1 0))))) = false → ref30_Owners a1 (q142.getD 0 0) (q147.getD 1 0) r152) ∧ ∃ r158 : Bool, (((!(decide (q109.1 = (q114.getD 0 0)))) || (!(decide (q120.2 = (q125.getD 1 0))))) = false → ref01_Ints r136 r152 r158) ∧ if (((!(decide (q109.1 = (q114.getD 0 0)))) || (!(decide (q120.2 = (q125.getD 1 0))))) || (!r158)) = true then (o108 = .inr (.inr false)) else (o108 = .inl (i64.wrap (s108 + 1)))) else (o108 = .inr (.inl ()))
def law30_Alike (a0 : K0) (a1 : K1) (r : Bool) : Prop :=
  ∃ r13 : List Int, ref30_Robots a1 r13 ∧ ∃ r22 : (((List (Int × (Int × Int × Int × Int × Int × Bool × Bool × Int × Int × List (Int × Int) × Int × Int)) × List ((Int × Int) × List Int)) → (S : Type) → (Int → S → Bool × S → Prop) → S → S × Unit → Prop)), fleet_Fleet_Robots a0 r22 ∧ ∃ (t37 : Sum (Int × Bool) Unit) (w37 : Unit), r22 a0 (Sum (Int × Bool) Unit) (Yof (law30_Alike_l1 a0 a1 r13)) (.inl (0, true)) (t37, w37) ∧ Aft (fun p72 => ∃ r75 : List (List Int), ref30_Contested a1 r75 ∧ ∃ r81 : (List (Int × Int)), fleet_Fleet_Contested a0 r81 ∧ ∃ r90 : List ByteArray, ((((!p72.2) || (!(decide (p72.1 = (r13.length : Int))))) || (!(decide ((r75.length : Int) = (r81.length : Int))))) = false → fleet_Fleet_Lines a0 r90) ∧ ∃ r96 : List ByteArray, ((((!p72.2) || (!(decide (p72.1 = (r13.length : Int))))) || (!(decide ((r75.length : Int) = (r81.length : Int))))) = false → ref30_Lines a1 r96) ∧ ∃ r102 : Bool, ((((!p72.2) || (!(decide (p72.1 = (r13.length : Int))))) || (!(decide ((r75.length : Int) = (r81.length : Int))))) = false → law25_Lines r90 r96 r102) ∧ if ((((!p72.2) || (!(decide (p72.1 = (r13.length : Int))))) || (!(decide ((r75.length : Int) = (r81.length : Int))))) || (!r102)) = true then (r = false) else (∃ e108 : (Sum Unit Bool), Loops (law30_Alike_l3 a0 a1 r75 r81) 0 e108 ∧ Aft (fun p163 => law30_Alike_j2 p163 r) (fun p164 => r = p164) e108)) (fun _ => True) t37
def fleet_same_j1  (s11 : Bool) (r : Bool) : Prop :=
  r = s11
def fleet_same (a0 : K10) (a1 : K10) (r : Bool) : Prop :=
  ∃ r7 : Bool, slices_Equal_msg_Point_msg_Point a0.t4.t4.2.1 a1.t4.t4.2.1 r7 ∧ if (!r7) = true then (r = false) else (if (decide (a0.1 = a1.1)) = true then (if (decide (a0.2.1 = a1.2.1)) = true then (if (decide (a0.2.2.1 = a1.2.2.1)) = true then (if (decide (a0.2.2.2.1 = a1.2.2.2.1)) = true then (if (decide (a0.t4.1 = a1.t4.1)) = true then (if (decide (a0.t4.2.1 = a1.t4.2.1)) = true then (if (decide (a0.t4.2.2.1 = a1.t4.2.2.1)) = true then (if (decide (a0.t4.2.2.2.1 = a1.t4.2.2.2.1)) = true then (if (decide (a0.t4.t4.1 = a1.t4.t4.1)) = true then (if (decide (a0.t4.t4.2.2.1 = a1.t4.t4.2.2.1)) = true then (fleet_same_j1 (decide (a0.t4.t4.2.2.2 = a1.t4.t4.2.2.2)) r) else (fleet_same_j1 false r)) else (fleet_same_j1 false r)) else (fleet_same_j1 false r)) else (fleet_same_j1 false r)) else (fleet_same_j1 false r)) else (fleet_same_j1 false r)) else (fleet_same_j1 false r)) else (fleet_same_j1 false r)) else (fleet_same_j1 false r)) else (fleet_same_j1 false r))
def maps_EqualFunc_map_int_fleet_Robot_map_int_fleet_Robot_int_fleet_Robot_fleet_Robot__fleet_same_j1  (s3 : Unit) (r : Bool) : Prop :=
  r = true
def maps_EqualFunc_map_int_fleet_Robot_map_int_fleet_Robot_int_fleet_Robot_fleet_Robot__fleet_same_j3 (s7 : K11) (p10 : Int × (Int × Int × Int × Int × Int × Bool × Bool × Int × Int × List (Int × Int) × Int × Int)) (s29 : Bool) (o7 : K26) : Prop :=
  if s29 = true then (o7 = .inr (.inr false)) else (o7 = .inl (mdel s7 p10.1))
def maps_EqualFunc_map_int_fleet_Robot_map_int_fleet_Robot_int_fleet_Robot_fleet_Robot__fleet_same_l2 (a1 : K19) (cc7 : K32) (s7 : K11) (o7 : K26) : Prop :=
  (cc7 = none → o7 = .inr (.inl ())) ∧ (∀ p10 : Int × (Int × Int × Int × Int × Int × Bool × Bool × Int × Int × List (Int × Int) × Int × Int), cc7 = some p10 → if (!(mget a1 p10.1).isSome) = true then (maps_EqualFunc_map_int_fleet_Robot_map_int_fleet_Robot_int_fleet_Robot_fleet_Robot__fleet_same_j3 s7 p10 true o7) else (∃ r30 : Bool, fleet_same p10.2 (((mget a1 p10.1).getD (0, 0, 0, 0, 0, false, false, 0, 0, [], 0, 0)).1, ((mget a1 p10.1).getD (0, 0, 0, 0, 0, false, false, 0, 0, [], 0, 0)).2.1, ((mget a1 p10.1).getD (0, 0, 0, 0, 0, false, false, 0, 0, [], 0, 0)).2.2.1, ((mget a1 p10.1).getD (0, 0, 0, 0, 0, false, false, 0, 0, [], 0, 0)).2.2.2.1, ((mget a1 p10.1).getD (0, 0, 0, 0, 0, false, false, 0, 0, [], 0, 0)).t4.1, ((mget a1 p10.1).getD (0, 0, 0, 0, 0, false, false, 0, 0, [], 0, 0)).t4.2.1, ((mget a1 p10.1).getD (0, 0, 0, 0, 0, false, false, 0, 0, [], 0, 0)).t4.2.2.1, ((mget a1 p10.1).getD (0, 0, 0, 0, 0, false, false, 0, 0, [], 0, 0)).t4.2.2.2.1, ((mget a1 p10.1).getD (0, 0, 0, 0, 0, false, false, 0, 0, [], 0, 0)).t4.t4.1, ((mget a1 p10.1).getD (0, 0, 0, 0, 0, false, false, 0, 0, [], 0, 0)).t4.t4.2.1, ((mget a1 p10.1).getD (0, 0, 0, 0, 0, false, false, 0, 0, [], 0, 0)).t4.t4.2.2.1, ((mget a1 p10.1).getD (0, 0, 0, 0, 0, false, false, 0, 0, [], 0, 0)).t4.t4.2.2.2) r30 ∧ maps_EqualFunc_map_int_fleet_Robot_map_int_fleet_Robot_int_fleet_Robot_fleet_Robot__fleet_same_j3 s7 p10 (!r30) o7))
def maps_EqualFunc_map_int_fleet_Robot_map_int_fleet_Robot_int_fleet_Robot_fleet_Robot__fleet_same (a0 : K19) (a1 : K19) (r : Bool) : Prop :=
  if (!(decide ((a0.length : Int) = (a1.length : Int)))) = true then (r = false) else (LoopsD (fun (s_ : K11) (c_ : K32) => mopt s_ c_) (maps_EqualFunc_map_int_fleet_Robot_map_int_fleet_Robot_int_fleet_Robot_fleet_Robot__fleet_same_l2 a1) (fun (e7 : (Sum Unit Bool)) => Aft (fun p34 => maps_EqualFunc_map_int_fleet_Robot_map_int_fleet_Robot_int_fleet_Robot_fleet_Robot__fleet_same_j1 p34 r) (fun p35 => r = p35) e7) a0)
def maps_EqualFunc_map_fleet_lot_int_map_fleet_lot_int_fleet_lot_int_int__slices_Equal_int_int_j1  (s3 : Unit) (r : Bool) : Prop :=
  r = true
def maps_EqualFunc_map_fleet_lot_int_map_fleet_lot_int_fleet_lot_int_int__slices_Equal_int_int_j3 (s7 : K47) (p10 : (Int × Int) × List Int) (s22 : Bool) (o7 : Sum (List ((Int × Int) × List Int)) (Sum Unit Bool)) : Prop :=
  if s22 = true then (o7 = .inr (.inr false)) else (o7 = .inl (mdel s7 p10.1))
def maps_EqualFunc_map_fleet_lot_int_map_fleet_lot_int_fleet_lot_int_int__slices_Equal_int_int_l2 (a1 : List ((Int × Int) × List Int)) (cc7 : K37) (s7 : K47) (o7 : Sum (List ((Int × Int) × List Int)) (Sum Unit Bool)) : Prop :=
  (cc7 = none → o7 = .inr (.inl ())) ∧ (∀ p10 : (Int × Int) × List Int, cc7 = some p10 → if (!(mget a1 p10.1).isSome) = true then (maps_EqualFunc_map_fleet_lot_int_map_fleet_lot_int_fleet_lot_int_int__slices_Equal_int_int_j3 s7 p10 true o7) else (∃ r23 : Bool, slices_Equal_int_int p10.2 ((mget a1 p10.1).getD []) r23 ∧ maps_EqualFunc_map_fleet_lot_int_map_fleet_lot_int_fleet_lot_int_int__slices_Equal_int_int_j3 s7 p10 (!r23) o7))
def maps_EqualFunc_map_fleet_lot_int_map_fleet_lot_int_fleet_lot_int_int__slices_Equal_int_int (a0 : List ((Int × Int) × List Int)) (a1 : List ((Int × Int) × List Int)) (r : Bool) : Prop :=
  if (!(decide ((a0.length : Int) = (a1.length : Int)))) = true then (r = false) else (LoopsD (fun (s_ : K47) (c_ : K37) => mopt s_ c_) (maps_EqualFunc_map_fleet_lot_int_map_fleet_lot_int_fleet_lot_int_int__slices_Equal_int_int_l2 a1) (fun (e7 : (Sum Unit Bool)) => Aft (fun p27 => maps_EqualFunc_map_fleet_lot_int_map_fleet_lot_int_fleet_lot_int_int__slices_Equal_int_int_j1 p27 r) (fun p28 => r = p28) e7) a0)
def fleet_Same (a0 : K0) (a1 : K0) (r : Bool) : Prop :=
  ∃ r13 : Bool, maps_EqualFunc_map_int_fleet_Robot_map_int_fleet_Robot_int_fleet_Robot_fleet_Robot__fleet_same a0.1 a1.1 r13 ∧ ∃ r18 : Bool, (r13 = true → maps_EqualFunc_map_fleet_lot_int_map_fleet_lot_int_fleet_lot_int_int__slices_Equal_int_int a0.2 a1.2 r18) ∧ r = (r13 && r18)
def law30_known_j1  (s51 : Bool) (r : Bool) : Prop :=
  r = s51
def law30_known  (r : Bool) : Prop :=
  ∃ r1 : (List (Int × (Int × Int × Int × Int × Int × Bool × Bool × Int × Int × List (Int × Int) × Int × Int)) × List ((Int × Int) × List Int)), fleet_New r1 ∧ ∃ r35 : Int × (List (Int × (Int × Int × Int × Int × Int × Bool × Bool × Int × Int × List (Int × Int) × Int × Int)) × List ((Int × Int) × List Int)), fleet_Fleet_Apply r1 [(3, [1, 5, 1, 0, 0, 0], [], [1, 2], (bstr []), (bstr [])), (3, [2, 5, 1, 0, 0, 0], [], [2, 3], (bstr []), (bstr []))] r35 ∧ if (!(decide (r35.1 = 2))) = true then (r = false) else (∃ r45 : (List (Int × Int)), fleet_Fleet_Contested r35.2 r45 ∧ if (decide ((r45.length : Int) = 1)) = true then (∃ q52 : Int × Int, idx r45 0 q52 ∧ law30_known_j1 ((decide (q52.1 = 5)) && ((decide (q52.2 = 2)) && true)) r) else (law30_known_j1 false r))
def law30_FleetPlays_j1  (s15 : Unit) (r : Bool) : Prop :=
  ∃ r16 : Bool, law30_known r16 ∧ r = r16
def law30_FleetPlays_j5 (s20 : K2) (q33 : K49) (s52 : K8) (r64 : K36) (s77 : Bool) (o20 : K3) : Prop :=
  ∃ r79 : Bool, (false = false → law30_Alike s52.1 s52.2 r79) ∧ ∃ r85 : (Int × Int × Int × Int × Int × Bool × Bool × Int × Int × List (List Int) × Int × Int), (((false || (!r79)) || (!(decide (r64.2 = s77)))) = false → ref30_Robot s52.2 q33.2.1 r85) ∧ ∃ r91 : Bool, (((false || (!r79)) || (!(decide (r64.2 = s77)))) = false → law30_robot r64.1 r85 r91) ∧ ∃ r96 : List Int, ((((false || (!r79)) || (!(decide (r64.2 = s77)))) || (!r91)) = false → fleet_Fleet_Cells s52.1 q33.2.1 q33.2.2.1 r96) ∧ ∃ r102 : List Int, ((((false || (!r79)) || (!(decide (r64.2 = s77)))) || (!r91)) = false → ref30_Cells s52.2 q33.2.1 q33.2.2.1 r102) ∧ ∃ r108 : Bool, ((((false || (!r79)) || (!(decide (r64.2 = s77)))) || (!r91)) = false → ref01_Ints r96 r102 r108) ∧ ∃ r113 : List Int, (((((false || (!r79)) || (!(decide (r64.2 = s77)))) || (!r91)) || (!r108)) = false → fleet_Fleet_Owners s52.1 (q33.2.2.1, q33.2.2.2.1) r113) ∧ ∃ r119 : List Int, (((((false || (!r79)) || (!(decide (r64.2 = s77)))) || (!r91)) || (!r108)) = false → ref30_Owners s52.2 q33.2.2.1 q33.2.2.2.1 r119) ∧ ∃ r125 : Bool, (((((false || (!r79)) || (!(decide (r64.2 = s77)))) || (!r91)) || (!r108)) = false → ref01_Ints r113 r119 r125) ∧ if (((((false || (!r79)) || (!(decide (r64.2 = s77)))) || (!r91)) || (!r108)) || (!r125)) = true then (o20 = .inr (.inr false)) else (o20 = .inl (s52.1, (i64.wrap (s20.2.1 + 1)), s52.2.1, s52.2.2))
def law30_FleetPlays_l6 (q33 : K49) (r71 : List Int) (s130 : Bool × Int) (o130 : Sum (Bool × Int) Bool) : Prop :=
  if (decide (s130.2 < (r71.length : Int))) = true then (∃ q132 : Int, (s130.1 = false → idx r71 s130.2 q132) ∧ o130 = .inl ((s130.1 || (decide (q132 = q33.2.1))), (i64.wrap (s130.2 + 1)))) else (o130 = .inr s130.1)
def law30_FleetPlays_j4 (s20 : K2) (q33 : K49) (s52 : K8) (o20 : K3) : Prop :=
  ∃ r64 : (Int × Int × Int × Int × Int × Bool × Bool × Int × Int × List (Int × Int) × Int × Int) × Bool, fleet_Fleet_Robot s52.1 q33.2.1 r64 ∧ ∃ r71 : List Int, ref30_Robots s52.2 r71 ∧ ∃ e130 : Bool, Loops (law30_FleetPlays_l6 q33 r71) (false, 0) e130 ∧ (law30_FleetPlays_j5 s20 q33 s52 r64 e130 o20)
def law30_FleetPlays_j7 (s20 : K2) (q33 : K49) (r43 : (TyM)) (r199 : K0) (s210 : Bool) (o20 : K3) : Prop :=
  if s210 = true then (o20 = .inr (.inr false)) else (∃ r218 : Int × (List (Int × (Int × Int × Int × Int × Int × Bool × Bool × Int × Int × List (Int × Int) × Int × Int)) × List ((Int × Int) × List Int)), fleet_Fleet_Apply s20.1 [r43] r218 ∧ ∃ r228 : Bool × (List (Int × (Int × Int × Int × Int × Int × Bool × Bool × Int × Int × List (Int × Int) × Int × Int)) × List ((Int × Int) × List Int)), fleet_Fleet_Release r218.2 q33.2.1 q33.2.2.1 r228 ∧ law30_FleetPlays_j4 s20 q33 (r199, s20.2.2.1, s20.2.2.2) o20)
def law30_FleetPlays_j3 (a0 : K51) (s20 : K2) (s32 : Bool) (o20 : K3) : Prop :=
  if s32 = true then (∃ q33 : Int × Int × Int × Int × (TyM), idx a0 s20.2.1 q33 ∧ ∃ r43 : (TyM), law17_Cut q33.t4 r43 ∧ if (decide (q33.1 = 0)) = true then (∃ r139 : (TyR), law17_Of r43 r139 ∧ ∃ r147 : (List (TyR) × List (Int × Int × List Int)) × Bool, ref30_Apply s20.2.2 r139 r147 ∧ ∃ r170 : Int × (List (Int × (Int × Int × Int × Int × Int × Bool × Bool × Int × Int × List (Int × Int) × Int × Int)) × List ((Int × Int) × List Int)), fleet_Fleet_Apply s20.1 [r43] r170 ∧ if (!(decide ((decide (r170.1 = 1)) = r147.2))) = true then (o20 = .inr (.inr false)) else (law30_FleetPlays_j4 s20 q33 (r170.2, r147.1.1, r147.1.2) o20)) else (if (decide (q33.1 = 1)) = true then (∃ r180 : (List (TyR) × List (Int × Int × List Int)) × Bool, ref30_Release s20.2.2 q33.2.1 q33.2.2.1 r180 ∧ ∃ r189 : Bool × (List (Int × (Int × Int × Int × Int × Int × Bool × Bool × Int × Int × List (Int × Int) × Int × Int)) × List ((Int × Int) × List Int)), fleet_Fleet_Release s20.1 q33.2.1 q33.2.2.1 r189 ∧ if (!(decide (r189.1 = r180.2))) = true then (o20 = .inr (.inr false)) else (law30_FleetPlays_j4 s20 q33 (r189.2, r180.1.1, r180.1.2) o20)) else (if (decide (q33.1 = 2)) = true then (∃ r199 : List (Int × (Int × Int × Int × Int × Int × Bool × Bool × Int × Int × List (Int × Int) × Int × Int)) × List ((Int × Int) × List Int), fleet_Fleet_Copy s20.1 r199 ∧ ∃ r238 : Bool, law30_Alike r199 s20.2.2 r238 ∧ if (!r238) = true then (law30_FleetPlays_j7 s20 q33 r43 r199 true o20) else (∃ r242 : Bool, fleet_Same r199 s20.1 r242 ∧ law30_FleetPlays_j7 s20 q33 r43 r199 (!r242) o20)) else (law30_FleetPlays_j4 s20 q33 (s20.1, s20.2.2.1, s20.2.2.2) o20)))) else (o20 = .inr (.inl ()))
def law30_FleetPlays_l2 (a0 : K51) (s20 : K2) (o20 : K3) : Prop :=
  if (decide (s20.2.1 < (a0.length : Int))) = true then (law30_FleetPlays_j3 a0 s20 (decide (s20.2.1 < 20)) o20) else (law30_FleetPlays_j3 a0 s20 false o20)
def law30_FleetPlays (a0 : K51) (r : Bool) : Prop :=
  ∃ r3 : (List (Int × (Int × Int × Int × Int × Int × Bool × Bool × Int × Int × List (Int × Int) × Int × Int)) × List ((Int × Int) × List Int)), fleet_New r3 ∧ ∃ e20 : (Sum Unit Bool), Loops (law30_FleetPlays_l2 a0) (r3, 0, [], []) e20 ∧ Aft (fun p246 => law30_FleetPlays_j1 p246 r) (fun p247 => r = p247) e20
end Go.Rel
