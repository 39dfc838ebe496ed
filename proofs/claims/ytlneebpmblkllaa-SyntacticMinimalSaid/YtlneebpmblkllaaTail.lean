/- -/
import Derived.Test.YtlneebpmblkllaaTree
import Derived.Lib.SliceRun
namespace Sg
open Go Go.RowKit
set_option linter.unusedVariables false
set_option linter.unusedSimpArgs false
section
variable {P : Program} {σ : Nat → Value} {w : World} {t t' ty e : TypeId} {x y z : Operand} {A : List Nat} {E : List Ent} {n0 : Nat}
def sets (cur : Array Value) (o : Nat) : List Value → Array Value
  | [] => cur
  | v :: r => sets (cur.setIfInBounds o v) (o + 1) r
theorem ISl.nilD {α : Type} {r : Rp α} {B : List Nat} {p : Option Addr} {c : Nat} {xs : List α} (h : ISl r B w p c xs) (hp : p.isNone = true) : xs = [] := by
  cases p with
  | some a => simp at hp
  | none => exact List.eq_nil_of_length_eq_zero (by have := h.cap; have := h.nil rfl; omega)
theorem Els.nilD {α : Type} {r : Rp α} {Av : List Nat} {p : Option Addr} {n c : Nat} {vs : List Value} {xs : List α} (hE : Els r Av w vs xs) (hO : Owns n0 w E A) (j : Nat) (hj : E[j]? = some (.row e r.sz p n c vs)) (hp : p.isNone = true) : xs = [] := by
  have hh := hO.at_ _ (List.mem_of_getElem? hj)
  have hn := hE.n_eq hh
  rcases hh.2 with ⟨hv, h2⟩ | ⟨g, cap, cur, hv, _⟩
  · exact List.eq_nil_of_length_eq_zero (by omega)
  · cases hv; simp at hp
end
end Sg
