/- The tail of a row of one's own: read, cleared; the head handed on. -/
import Derived.Test.YtdcibmiaiijjpaaTree
import Derived.Lib.SliceRun
namespace Sg
open Go Go.RowKit
set_option linter.unusedVariables false
set_option linter.unusedSimpArgs false
section
variable {P : Program} {σ : Nat → Value} {w : World} {t t' ty e : TypeId} {x y z : Operand} {A : List Nat} {E : List Ent} {n0 : Nat}
/-- Cells turned one after the other. -/
def sets (cur : Array Value) (o : Nat) : List Value → Array Value
  | [] => cur
  | v :: r => sets (cur.setIfInBounds o v) (o + 1) r
end
end Sg
