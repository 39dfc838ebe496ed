/- -/
import Derived.Test.YtlneebpmblkllaaEvK
namespace Sg
open Go
set_option linter.unusedVariables false
def slices_Clone_int_ev (n : Nat) (s : List Int) : Option (List Int) := if s.length ≤ 1099511627776 then some s else none
theorem slices_Clone_int_sn {n : Nat} {s : List Int} {K : List Int → Prop} : Sn K (slices_Clone_int_ev n s) (slices_Clone_int s K) := by
  intro r hr hk
  unfold slices_Clone_int_ev at hr
  split at hr
  · rename_i hl
    cases hr
    unfold slices_Clone_int
    intro z hz
    split
    · rename_i hh; rw [hz hh] at hk; exact hk
    · exact ⟨by simpa using hl, by simpa using hk⟩
  · cases hr
end Sg
