import Derived.Test.YtemehkcopcjekaaGreatDoorEngI
import Derived.ChangeArms
import Derived.DataReads
import Derived.OpenShut
import Derived.Test.YtemehkcopcjekaaGreatDoorEngJ
/-! The engine, part R: what came in, as plain data. -/
namespace Go.Eng
open Go

section
variable {H : Type} {enc : TypeId × Value → H} {P : Program} {w : World} {t : TypeId}
theorem wf_ok {k : IntKind} {n : Int} (h : (Lit.int k n).wf = true) : IntOk k n := by
 simp only [Lit.wf, Bool.and_eq_true, decide_eq_true_eq] at h
 exact h
end
end Go.Eng
