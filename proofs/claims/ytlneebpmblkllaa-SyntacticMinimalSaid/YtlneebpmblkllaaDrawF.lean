/- -/
import Derived.Test.YtlneebpmblkllaaDraw
namespace Sg
open Go
set_option linter.unusedVariables false
set_option linter.unusedSimpArgs false
theorem lor_bit (m i k : Nat) : (Nat.lor m (Nat.shiftLeft 1 i)).testBit k = (m.testBit k || decide (k = i)) := by
  show (m ||| (1 <<< i)).testBit k = _
  rw [Nat.testBit_or, Nat.one_shiftLeft, Nat.testBit_two_pow]
  congr 1
  simp [eq_comm]
structure LM (n : Nat) (listed : Array Bool) (M : Nat) : Prop where
  sz : listed.size = n
  eq : ∀ j, listed.getD j false = M.testBit j
theorem LM.start (n : Nat) : LM n (Array.replicate n false) 0 := by
  refine ⟨by simp, fun j => ?_⟩
  rw [Nat.zero_testBit]
  by_cases hj : j < n <;> simp [Array.getD_eq_getD_getElem?, Array.getElem?_replicate, hj]
theorem LM.next {n : Nat} {listed : Array Bool} {M i : Nat} (h : LM n listed M) (hi : i < n) : LM n (listed.setIfInBounds i true) (Nat.lor M (Nat.shiftLeft 1 i)) := by
  refine ⟨by simpa using h.sz, fun j => ?_⟩
  rw [lor_bit, ← h.eq j]
  have hs := h.sz
  by_cases hji : j = i
  · subst hji
    simp [Array.getD_eq_getD_getElem?, Array.getElem?_setIfInBounds, hs, hi]
  · simp [Array.getD_eq_getD_getElem?, Array.getElem?_setIfInBounds, hji, Ne.symm hji]
section
variable {L : List Oper} {Ns : List Nat} {listed : Array Bool} {M i : Nat}
end
end Sg
