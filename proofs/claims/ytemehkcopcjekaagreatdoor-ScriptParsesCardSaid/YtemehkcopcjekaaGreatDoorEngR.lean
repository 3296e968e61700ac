import Derived.Test.YtemehkcopcjekaaGreatDoorEngI
import Derived.ChangeArms
import Derived.DataReads
import Derived.OpenShut
import Derived.Test.YtemehkcopcjekaaGreatDoorEngJ
/-! The engine, part R: what came in, as plain data. -/
namespace Go.Eng
open Go

section
variable {H : Type} {enc : TypeId × Value → H} {P : Program} {w : World} {t : TypeId}
end
end Go.Eng
