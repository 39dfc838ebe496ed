/- Facts on the types of this translation. -/
import Derived.Test.YthobeabghciknaaTreeB
import Derived.Test.YthobeabghciknaaMap
import Derived.Test.YthobeabghciknaaArr
import Derived.Test.YthobeabghciknaaAgg
import Derived.Test.YthobeabghciknaaRec
import Derived.Test.YthobeabghciknaaDrawR
import Derived.Test.YthobeabghciknaaRows
import Derived.Test.YthobeabghciknaaFns
namespace Sg
open Go Go.RowKit Go.Proofs
set_option linter.unusedVariables false
set_option linter.unusedSimpArgs false
set_option maxRecDepth 100000
set_option maxHeartbeats 4000000
theorem mixed : Try.prog.follows .mixedOrders = true := by kernel_rfl
theorem ti3 : ti Try.prog 3 = some (some (.int .i64 0), 1, 8) := by kernel_rfl
theorem ti4 : ti Try.prog 4 = some (some (.bool false), 1, 1) := by kernel_rfl
theorem ti22 : ti Try.prog 22 = some (some (.slice none 0 0), 1, 24) := by kernel_rfl
theorem ti25 : ti Try.prog 25 = some (some (.slice none 0 0), 1, 24) := by kernel_rfl
theorem ti26 : ti Try.prog 26 = some (some (.slice none 0 0), 1, 24) := by kernel_rfl
theorem ti28 : ti Try.prog 28 = some (some (.agg #[.slice none 0 0, .slice none 0 0, .slice none 0 0, .slice none 0 0, .slice none 0 0]), 5, 120) := by kernel_rfl
theorem ti38 : ti Try.prog 38 = some (some (.slice none 0 0), 1, 24) := by kernel_rfl
theorem ti44 : ti Try.prog 44 = some (some (.slice none 0 0), 1, 24) := by kernel_rfl
theorem ti46 : ti Try.prog 46 = some (some (.agg #[.slice none 0 0, .slice none 0 0, .slice none 0 0, .slice none 0 0]), 4, 96) := by kernel_rfl
theorem ti56 : ti Try.prog 56 = some (some (.slice none 0 0), 1, 24) := by kernel_rfl
theorem ti62 : ti Try.prog 62 = some (some (.slice none 0 0), 1, 24) := by kernel_rfl
theorem ti63 : ti Try.prog 63 = some (some (.nilFunc), 1, 8) := by kernel_rfl
theorem ti68 : ti Try.prog 68 = some (some (.nilFunc), 1, 8) := by kernel_rfl
theorem ti80 : ti Try.prog 80 = some (some (.slice none 0 0), 1, 24) := by kernel_rfl
theorem ti81 : ti Try.prog 81 = some (some (.agg #[.int .i64 0, .int .i64 0]), 2, 16) := by kernel_rfl
theorem ti84 : ti Try.prog 84 = some (some (.int .u64 0), 1, 8) := by kernel_rfl
theorem ti85 : ti Try.prog 85 = some (some (.int .u64 0), 1, 8) := by kernel_rfl
theorem ti86 : ti Try.prog 86 = some (some (.map none), 1, 8) := by kernel_rfl
theorem ti92 : ti Try.prog 92 = some (some (.map none), 1, 8) := by kernel_rfl
end Sg
