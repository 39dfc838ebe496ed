/- -/
import Derived.Test.YtdcibmiaiijjpaaDraw
namespace Sg
open Go
set_option linter.unusedVariables false
set_option linter.unusedSimpArgs false
structure LM (n : Nat) (listed : Array Bool) (M : Nat) : Prop where
 sz : listed.size = n
 eq : ∀ j, listed.getD j false = M.testBit j
theorem LM.start (n : Nat) : LM n (Array.replicate n false) 0 := by
 refine ⟨by simp, fun j => ?_⟩
 rw [Nat.zero_testBit]
 by_cases hj : j < n <;> simp [Array.getD_eq_getD_getElem?, Array.getElem?_replicate, hj]
section
variable {L : List Oper} {Ns : List Nat} {listed : Array Bool} {M i : Nat}
end
end Sg
