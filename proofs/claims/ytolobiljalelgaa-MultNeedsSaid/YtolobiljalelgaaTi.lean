/- Facts on the types of this translation. -/
import Derived.Test.YtolobiljalelgaaTreeB
import Derived.Test.YtolobiljalelgaaRows
import Derived.Test.YtolobiljalelgaaFns
namespace Sg
open Go Go.RowKit Go.Proofs
set_option linter.unusedVariables false
set_option maxRecDepth 100000
set_option maxHeartbeats 4000000
theorem mixed : Try.prog.follows .mixedOrders = true := by kernel_rfl
theorem ti3 : ti Try.prog 3 = some (some (.int .i64 0), 1, 8) := by kernel_rfl
theorem ti4 : ti Try.prog 4 = some (some (.bool false), 1, 1) := by kernel_rfl
theorem ti22 : ti Try.prog 22 = some (some (.slice none 0 0), 1, 24) := by kernel_rfl
theorem ti23 : ti Try.prog 23 = some (some (.slice none 0 0), 1, 24) := by kernel_rfl
theorem ti54 : ti Try.prog 54 = some (some (.slice none 0 0), 1, 24) := by kernel_rfl
theorem ti60 : ti Try.prog 60 = some (some (.nilFunc), 1, 8) := by kernel_rfl
theorem ti67 : ti Try.prog 67 = some (some (.agg #[.slice none 0 0, .slice none 0 0, .slice none 0 0, .slice none 0 0]), 4, 96) := by kernel_rfl
end Sg
