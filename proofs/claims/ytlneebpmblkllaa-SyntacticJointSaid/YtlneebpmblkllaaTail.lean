/- -/
import Derived.Test.YtlneebpmblkllaaTree
import Derived.Lib.SliceRun
namespace Sg
open Go Go.RowKit
set_option linter.unusedVariables false
set_option linter.unusedSimpArgs false
section
variable {P : Program} {σ : Nat → Value} {w : World} {t t' ty e : TypeId} {x y z : Operand} {A : List Nat} {E : List Ent} {n0 : Nat}
theorem ISl.nilD {α : Type} {r : Rp α} {B : List Nat} {p : Option Addr} {c : Nat} {xs : List α} (h : ISl r B w p c xs) (hp : p.isNone = true) : xs = [] := by
 cases p with
 | some a => simp at hp
 | none => exact List.eq_nil_of_length_eq_zero (by have := h.cap; have := h.nil rfl; omega)
end
end Sg
