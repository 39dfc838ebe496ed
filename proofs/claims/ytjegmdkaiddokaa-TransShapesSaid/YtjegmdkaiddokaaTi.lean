/- Facts on the types of this translation. -/
import Derived.Test.YtjegmdkaiddokaaTreeB
import Derived.Test.YtjegmdkaiddokaaMap
import Derived.Test.YtjegmdkaiddokaaRows
import Derived.Test.YtjegmdkaiddokaaFns
namespace Sg
open Go Go.RowKit Go.Proofs
set_option linter.unusedVariables false
set_option maxRecDepth 100000
set_option maxHeartbeats 4000000
theorem mixed : Try.prog.follows .mixedOrders = true := by kernel_rfl
theorem ti3 : ti Try.prog 3 = some (some (.int .i64 0), 1, 8) := by kernel_rfl
theorem ti4 : ti Try.prog 4 = some (some (.bool false), 1, 1) := by kernel_rfl
theorem ti5 : ti Try.prog 5 = some (some (.int .u8 0), 1, 1) := by kernel_rfl
theorem ti9 : ti Try.prog 9 = some (some (.string (gstr [])), 1, 16) := by kernel_rfl
theorem ti22 : ti Try.prog 22 = some (some (.slice none 0 0), 1, 24) := by kernel_rfl
theorem ti35 : ti Try.prog 35 = some (some (.slice none 0 0), 1, 24) := by kernel_rfl
theorem ti40 : ti Try.prog 40 = some (some (.slice none 0 0), 1, 24) := by kernel_rfl
theorem ti42 : ti Try.prog 42 = some (some (.agg #[.int .i64 0, .int .i64 0, .slice none 0 0, .slice none 0 0]), 4, 64) := by kernel_rfl
theorem ti59 : ti Try.prog 59 = some (some (.int .u64 0), 1, 8) := by kernel_rfl
theorem ti67 : ti Try.prog 67 = some (some (.map none), 1, 8) := by kernel_rfl
end Sg
