import Derived.Test.YtemehkcopcjekaaGreatDoorEngP
/-! The engine, part Q: plain functions that the library's contracts name. -/
namespace Go.Eng
def pu64 (a : Int) : List Int → Int × Int
 | [] => (0, a)
 | c :: r => if 48 ≤ c ∧ c ≤ 57 then (if 1844674407370955162 ≤ a then (2, 0) else if 18446744073709551615 < a * 10 + (c - 48) then (2, 0) else pu64 (a * 10 + (c - 48)) r) else (1, 0)
def pi64 : List Int → Int × Bool
 | [] => (0, true)
 | c :: r =>
  let b := if c = 43 ∨ c = 45 then r else c :: r
  let u := if b = [] then (1, 0) else pu64 0 b
  let sat := if c = 45 then (-9223372036854775808, true) else (9223372036854775807, true)
  if u.1 = 1 then (0, true) else if u.1 = 2 then sat else if c ≠ 45 ∧ 9223372036854775808 ≤ u.2 then sat else if c = 45 ∧ 9223372036854775808 < u.2 then sat else (if c = 45 then -u.2 else u.2, false)
section
variable {K V : Type} [DecidableEq K]
end
end Go.Eng
