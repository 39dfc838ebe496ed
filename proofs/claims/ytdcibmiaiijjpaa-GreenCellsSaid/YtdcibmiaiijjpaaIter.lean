/- -/
import Derived.Test.YtdcibmiaiijjpaaOwn
import Derived.Laws.RangeAny
namespace Sg
open Go Go.RowKit
set_option linter.unusedVariables false
set_option linter.unusedSimpArgs false
section
variable {P : Program} {σ : Nat → Value} {w : World} {t t' ty e : TypeId} {x y z : Operand} {A : List Nat} {E : List Ent} {n0 : Nat}
end
end Sg
