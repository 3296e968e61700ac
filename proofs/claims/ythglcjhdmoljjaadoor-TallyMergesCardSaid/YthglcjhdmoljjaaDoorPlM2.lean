import Derived.Test.YthglcjhdmoljjaaDoorURel
import Derived.Test.YthglcjhdmoljjaaDoorPlM1
/-! Plain laws: bytes in digits of 16, read and written. -/
namespace Go.Rel
open Go Go.Eng Go.Pl
def hv (c : Int) : Option Int := if 48 ≤ c ∧ c ≤ 57 then some (c - 48) else if 97 ≤ c ∧ c ≤ 102 then some (c - 87) else none
end Go.Rel
/-! Plain laws: the number of digits. -/
namespace Go.Rel
open Go Go.Eng Go.Pl
def AllDig (d : List Int) : Prop := ∀ x ∈ d, 48 ≤ x ∧ x < 58
instance (d : List Int) : Decidable (AllDig d) := inferInstanceAs (Decidable (∀ x ∈ d, 48 ≤ x ∧ x < 58))
end Go.Rel
/-! Plain laws: a number is read; the words of a text. -/
namespace Go.Rel
open Go Go.Eng Go.Pl
/-! ### The document's -/
/-! ### Words -/
end Go.Rel
/-! Plain laws: texts cut at a byte, and joined. -/
namespace Go.Rel
open Go Go.Eng Go.Pl
end Go.Rel
/-! Plain laws: what arrives on a bad line, and its lines. -/
namespace Go.Rel
open Go Go.Eng Go.Pl
abbrev It := Int × Int × Int × Int × List Int
/-! ### Lines -/
structure ItOk (it : It) : Prop where
  k : IntOk .i64 it.1
  r : IntOk .i64 it.2.1
  a : IntOk .i64 it.2.2.1
  n : IntOk .i64 it.2.2.2.1
  o : Oct it.2.2.2.2
  l : it.2.2.2.2.length ≤ 1000
/-! ### A line is parsed -/
end Go.Rel
/-! Plain laws: the item of a line. -/
namespace Go.Rel
open Go Go.Eng Go.Pl
section
variable {P : List ByteArray} {w : List Int} {n kd a b c a' b' c' need : Int}
end
section
variable {w0 : List Int} {ws : List (List Int)} (hs : ∀ w ∈ w0 :: ws, w.length < 1000000 ∧ Oct w)
include hs
end
end Go.Rel
/-! Plain laws: an item's line, to and fro. -/
namespace Go.Rel
open Go Go.Eng Go.Pl
end Go.Rel
/-! Plain laws: what items let arrive. -/
namespace Go.Rel
open Go Go.Eng Go.Pl
structure RowsOk (sent : List (List Int)) : Prop where
  n : sent.length ≤ 100
  l : ∀ r ∈ sent, r.length ≤ 2000
/-! ### One by one -/
end Go.Rel
/-! Plain laws: the line of any item, the item of any text. -/
namespace Go.Rel
open Go Go.Eng Go.Pl
end Go.Rel
/-! Plain law: what any items let arrive. -/
namespace Go.Rel
open Go Go.Eng Go.Pl
end Go.Rel
/-! Plain laws: sums over bytes. -/
namespace Go.Rel
open Go Go.Eng Go.Pl

def polyB : BitVec 32 := 3988292384#32
def st1 (w : BitVec 32) : BitVec 32 := (w >>> 1) ^^^ (polyB &&& -(w &&& 1#32))
def itS : Nat → BitVec 32 → BitVec 32
  | 0, w => w
  | k + 1, w => st1 (itS k w)
def IsTab (t : List Int) : Prop := ∀ k i, k < 4 → i < 256 → t.getD (k * 256 + i) 0 = B (itS (8 * (k + 1)) (BitVec.ofNat 32 i))
def Byt (l : List Int) : Prop := ∀ x ∈ l, 0 ≤ x ∧ x < 256
theorem Byt.drop {l : List Int} (h : Byt l) (n : Nat) : Byt (l.drop n) := fun x hx => h x (List.mem_of_mem_drop hx)
theorem Byt.take {l : List Int} (h : Byt l) (n : Nat) : Byt (l.take n) := fun x hx => h x (List.mem_of_mem_take hx)
section
variable {t : List Int} (ht : IsTab t)
include ht
end

end Go.Rel
/-! Plain laws: stuffing. -/
namespace Go.Rel
open Go Go.Eng Go.Pl
end Go.Rel
