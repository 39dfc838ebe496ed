/- Facts on the types of this translation. -/
import Derived.Test.YtjegjjdfgefkoaaTreeB
import Derived.Test.YtjegjjdfgefkoaaMap
import Derived.Test.YtjegjjdfgefkoaaAgg
import Derived.Test.YtjegjjdfgefkoaaDrawA
import Derived.Test.YtjegjjdfgefkoaaStr
import Derived.Test.YtjegjjdfgefkoaaRows
import Derived.Test.YtjegjjdfgefkoaaFns
namespace Sg
open Go Go.RowKit Go.Proofs
set_option linter.unusedVariables false
set_option linter.unusedSimpArgs false
set_option maxRecDepth 100000
set_option maxHeartbeats 4000000
theorem mixed : Try.prog.follows .mixedOrders = true := by kernel_rfl
def rpRule : Rp Rule := Rp.flat 2 (fun a => [.string (gstr a.Left), .string (gstr a.Right)]) (fun a => a.Left.length ≤ mx ∧ a.Right.length ≤ mx) (by decide) (fun _ => rfl) (fun x v hv => by
  simp only [List.mem_cons, List.not_mem_nil, or_false] at hv
  rcases hv with rfl | rfl <;> rfl)
theorem ti3 : ti Try.prog 3 = some (some (.int .i64 0), 1, 8) := by kernel_rfl
theorem ti4 : ti Try.prog 4 = some (some (.bool false), 1, 1) := by kernel_rfl
theorem ti5 : ti Try.prog 5 = some (some (.int .u8 0), 1, 1) := by kernel_rfl
theorem ti9 : ti Try.prog 9 = some (some (.string (gstr [])), 1, 16) := by kernel_rfl
theorem ti22 : ti Try.prog 22 = some (some (.slice none 0 0), 1, 24) := by kernel_rfl
theorem ti26 : ti Try.prog 26 = some (some (.slice none 0 0), 1, 24) := by kernel_rfl
theorem ti27 : ti Try.prog 27 = some (some (.slice none 0 0), 1, 24) := by kernel_rfl
theorem ti29 : ti Try.prog 29 = some (some (.agg #[.int .i64 0, .bool false, .slice none 0 0, .slice none 0 0, .slice none 0 0, .slice none 0 0, .slice none 0 0, .slice none 0 0, .int .i64 0]), 9, 168) := by kernel_rfl
theorem ti39 : ti Try.prog 39 = some (some (.agg #[.string (gstr []), .string (gstr [])]), 2, 32) := by kernel_rfl
theorem ti69 : ti Try.prog 69 = some (some (.map none), 1, 8) := by kernel_rfl
theorem ti70 : ti Try.prog 70 = some (some (.slice none 0 0), 1, 24) := by kernel_rfl
theorem ti72 : ti Try.prog 72 = some (some (.agg #[.int .i64 0, .bool false, .slice none 0 0, .slice none 0 0, .slice none 0 0, .slice none 0 0, .slice none 0 0, .slice none 0 0, .int .i64 0, .map none, .slice none 0 0, .slice none 0 0, .slice none 0 0]), 13, 248) := by kernel_rfl
theorem eqh39 : Try.prog.stoodInHeld 39 = false := by kernel_rfl
theorem eqg39 : Try.prog.eqGuardType Try.prog.depth 39 = false := by kernel_rfl
end Sg
