import Derived.Test.YtonmgcebhhdplaaGreatEngP
/-! The engine, part Q: plain functions that the library's contracts name. -/
namespace Go.Eng
section
variable {K V : Type} [DecidableEq K]
def mput : List (K × V) → K → V → List (K × V)
  | [], a, q => [(a, q)]
  | p :: m, a, q => if a = p.1 then (a, q) :: m else p :: mput m a q
def mget : List (K × V) → K → Option V
  | [], _ => none
  | p :: m, a => if a = p.1 then some p.2 else mget m a
end
inductive LoopsD {C S E : Type} (opts : S → C → Prop) (step : C → S → Sum S E → Prop) (Q : E → Prop) : S → Prop
  | mk {s : S} (o : C → Sum S E) (h1 : ∀ c, opts s c → step c s (o c)) (h2 : ∀ c e, opts s c → o c = .inr e → Q e) (h3 : ∀ c s', opts s c → o c = .inl s' → LoopsD opts step Q s') : LoopsD opts step Q s
end Go.Eng
