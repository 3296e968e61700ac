import Derived.Test.YthglcjhdmoljjaaDoorEngP
/-! The engine, part Q: plain functions that the library's contracts name. -/
namespace Go.Eng
section
variable {K V : Type} [DecidableEq K]
end
end Go.Eng
