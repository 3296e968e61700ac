import Derived.Test.YtonmgcebhhdplabGreatDoorEngP
/-! The engine, part Q: plain functions that the library's contracts name. -/
namespace Go.Eng
section
variable {K V : Type} [DecidableEq K]
def mput : List (K × V) → K → V → List (K × V)
 | [], a, q => [(a, q)]
 | p :: m, a, q => if a = p.1 then (a, q) :: m else p :: mput m a q
def mget : List (K × V) → K → Option V
 | [], _ => none
 | p :: m, a => if a = p.1 then some p.2 else mget m a
end
inductive LoopsD {C S E : Type} (opts : S → C → Prop) (step : C → S → Sum S E → Prop) (Q : E → Prop) : S → Prop
 | mk {s : S} (o : C → Sum S E) (h1 : ∀ c, opts s c → step c s (o c)) (h2 : ∀ c e, opts s c → o c = .inr e → Q e) (h3 : ∀ c s', opts s c → o c = .inl s' → LoopsD opts step Q s') : LoopsD opts step Q s
def mopt {A : Type} (l : List A) : Option A → Prop
 | none => l = []
 | some p => p ∈ l
def mdel {K V : Type} [DecidableEq K] (m : List (K × V)) (a : K) : List (K × V) := m.filter fun p => decide (p.1 ≠ a)
def leP (x y : Int × Int) : Bool := decide (x.1 < y.1 ∨ (x.1 = y.1 ∧ x.2 ≤ y.2))
def sortP (l : List (Int × Int)) : List (Int × Int) := l.mergeSort leP
def skeys {V : Type} (m : List (Int × V)) : List Int := (m.map (·.1)).mergeSort fun x y => decide (x ≤ y)
end Go.Eng
