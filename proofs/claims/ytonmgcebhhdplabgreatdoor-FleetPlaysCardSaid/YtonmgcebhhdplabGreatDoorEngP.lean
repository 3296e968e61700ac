import GoSem.Core.Lib
/-! The engine's words for plain relations: no machine, no memory. -/
namespace Go.Eng
inductive Loops {S E : Type} (step : S → Sum S E → Prop) : S → E → Prop
 | done {s : S} {e : E} (h : step s (.inr e)) : Loops step s e
 | next {s s' : S} {e : E} (h : step s (.inl s')) (h' : Loops step s' e) : Loops step s e

def Yof {X S E : Type} (B : X → S → Sum S E → Prop) (x : X) (t : Sum S E) (r : Bool × Sum S E) : Prop :=
 ∃ s o, t = .inl s ∧ B x s o ∧ ((∃ s', o = .inl s' ∧ r = (true, .inl s')) ∨ (∃ e, o = .inr e ∧ r = (false, .inr e)))

def idx {α : Type} (xs : List α) (i : Int) (x : α) : Prop := 0 ≤ i ∧ xs[i.toNat]? = some x
theorem idx.lt {α : Type} {xs : List α} {i : Int} {x : α} (h : idx xs i x) : i < xs.length := by
 have := (List.getElem?_eq_some_iff.1 h.2).1
 have := h.1
 omega

theorem ne_t {e : Bool} (h : e = false) : ¬ e = true := by rw [h]; decide

def Aft {A R : Type} (f : A → Prop) (g : R → Prop) : Sum A R → Prop
 | .inl a => f a
 | .inr r => g r

def IntOk (k : IntKind) (n : Int) : Prop := k.min ≤ n ∧ n ≤ k.max
def ListOk {α : Type} (ok : α → Prop) (xs : List α) : Prop := (∀ x ∈ xs, ok x) ∧ xs.length ≤ 9223372036854775807
def StrOk (s : ByteArray) : Prop := s.size ≤ 9223372036854775807
def bstr (ns : List Int) : ByteArray := ns.foldl (fun r n => r.push (UInt8.ofNat n.toNat)) ByteArray.empty
def bints (s : ByteArray) : List Int := s.data.toList.map fun b => (b.toNat : Int)
def putN {α : Type} (n : Nat) (z : α) (xs : List α) (q : Nat) (v : α) : List α := (List.range n).map fun j => if j = q then v else xs.getD j z
def eqN {α : Type} [DecidableEq α] (n : Nat) (z : α) (xs ys : List α) : Bool := (List.range n).all fun j => decide (xs.getD j z = ys.getD j z)
def At {α : Type} (xs : List α) (i : Nat) (x : α) : Prop := xs[i]? = some x
def iand (k : IntKind) (a b : Int) : Int := k.wrap (BitVec.ofInt k.bits a &&& BitVec.ofInt k.bits b).toNat
def ior (k : IntKind) (a b : Int) : Int := k.wrap (BitVec.ofInt k.bits a ||| BitVec.ofInt k.bits b).toNat
def ixor (k : IntKind) (a b : Int) : Int := k.wrap (BitVec.ofInt k.bits a ^^^ BitVec.ofInt k.bits b).toNat
def ishl (k : IntKind) (a b : Int) : Int := k.wrap (a * 2 ^ min b.toNat k.bits)
def ishr (k : IntKind) (a b : Int) : Int := a.fdiv (2 ^ min b.toNat k.bits)
def icompl (k : IntKind) (a : Int) : Int := ixor k (if k.signed then -1 else k.max) a
def decF : Nat → Nat → List Int
 | 0, u => [48 + (u : Int)]
 | f + 1, u => if u < 10 then [48 + (u : Int)] else decF f (u / 10) ++ [48 + ((u % 10 : Nat) : Int)]
def decL (u : Nat) : List Int := decF u u
def decI (n : Int) : List Int := if n < 0 then 45 :: decL n.natAbs else decL n.toNat
end Go.Eng
namespace Go
/-! Short words for values that are often told. -/
abbrev Value.I (n : Int) : Value := .int .i64 n
abbrev Value.N0 : Value := .slice none 0 0
abbrev Value.E0 : Value := .string (Eng.bstr [])
abbrev Value.Pb (b : Nat) : Value := .pointer (some ⟨b, 0, none⟩)
abbrev Eng.lM {A B : Type} (x : Int × List Int × A × B × ByteArray × ByteArray) (v w : Value) : List Value := [.I x.1, .I (x.2.1.getD 0 0), .I (x.2.1.getD 1 0), .I (x.2.1.getD 2 0), .I (x.2.1.getD 3 0), .I (x.2.1.getD 4 0), .I (x.2.1.getD 5 0), v, w, .string x.2.2.2.2.1, .string x.2.2.2.2.2]
abbrev Eng.lA (x : ByteArray × Int × Int × Int × Int × Int × Int) : List Value := [.string x.1, .I x.2.1, .I x.2.2.1, .I x.2.2.2.1, .I x.2.2.2.2.1, .I x.2.2.2.2.2.1, .I x.2.2.2.2.2.2]
abbrev Eng.lY : List Value := [.I 0, .I 0, .I 0, .I 0, .I 0, .I 0, .I 0, .N0, .N0, .E0, .E0]
end Go
abbrev Prod.t4 {A B C D E : Type} (p : A × B × C × D × E) : E := p.2.2.2.2
