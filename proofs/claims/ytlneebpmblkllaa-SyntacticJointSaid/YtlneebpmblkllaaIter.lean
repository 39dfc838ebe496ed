/- -/
import Derived.Test.YtlneebpmblkllaaOwn
import Derived.Laws.RangeAny
namespace Sg
open Go Go.RowKit
set_option linter.unusedVariables false
set_option linter.unusedSimpArgs false
section
variable {P : Program} {σ : Nat → Value} {w : World} {t t' ty e : TypeId} {x y z : Operand} {A : List Nat} {E : List Ent} {n0 : Nat}
theorem lenApp {a b : List UInt8} (h : a.length + b.length ≤ 9223372036854775807) : (a ++ b).length ≤ mx := by rw [List.length_append]; exact h
end
end Sg
