/- -/
import Derived.Test.YtdcibmiaiijjpaaAgg
import Derived.Test.YtdcibmiaiijjpaaTree
import Derived.Test.YtdcibmiaiijjpaaPStr
import Derived.Laws.Runes
import Derived.Laws.DeepStrings4
import Derived.Laws.StructEq
import Derived.Laws.BytesArg
namespace Sg
open Go Go.RowKit
set_option linter.unusedVariables false
set_option linter.unusedSimpArgs false
theorem J6N : ∀ a b : Str, Op.bytesLess a b = slt a b
  | _, [] => by simp [Op.bytesLess, slt]
  | [], _ :: _ => by simp [Op.bytesLess, slt]
  | a :: x, b :: y => by
    rw [Op.bytesLess, slt, J6N x y, Bool.beq_eq_decide_eq]
section
variable {P : Program} {σ : Nat → Value} {t t' ty e : TypeId} {x y z : Operand}
theorem J6e {a b : Str} (hx : ev σ x = .string (gstr a)) (hy : ev σ y = .string (gstr b)) (w : World) : OpV P (.binOp .lss t x y t') ty σ w (.bool (slt a b)) w := .inl (by
 simp [execOp, opr, hx, hy, eqGuard_lss, binOp_string_lss, J6N])
section
variable {w : World} {A : List Nat} {E : List Ent} {n0 : Nat}
end
end
section
variable {P : Program} {w : World} {A : List Nat} {E : List Ent} {n0 : Nat} {t e : TypeId}
end
section
variable {P : Program} {σ : Nat → Value} {w : World} {t ty : TypeId} {x : Operand} {A : List Nat}
variable {α : Type} [Inhabited α] {sz : Nat} {enc : α → List Value} {ok : α → Prop} {ps : 0 < sz} {ln : ∀ x, (enc x).length = sz} {on : ∀ x, ∀ v ∈ enc x, v.oneCell' = true}
theorem ISl.spot {p : Option Addr} {c : Nat} {xs : List α} (hs : ISl (Rp.flat sz enc ok ps ln on) A w p c xs) {i : Int} (h0 : 0 ≤ i) (h1 : i < xs.length) : ∃ a, padd p (i.toNat * sz) = some a ∧ a.spot = none := by
 obtain ⟨a, ha, hsp, _, _, _⟩ := hs.elem h0 h1
 exact ⟨a, ha, hsp⟩
end
end Sg
