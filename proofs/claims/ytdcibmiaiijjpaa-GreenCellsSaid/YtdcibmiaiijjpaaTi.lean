/- -/
import Derived.Test.YtdcibmiaiijjpaaTreeB
import Derived.Test.YtdcibmiaiijjpaaMap
import Derived.Test.YtdcibmiaiijjpaaArr
import Derived.Test.YtdcibmiaiijjpaaAgg
import Derived.Test.YtdcibmiaiijjpaaRec
import Derived.Test.YtdcibmiaiijjpaaDrawR
import Derived.Test.YtdcibmiaiijjpaaT3
import Derived.Test.YtdcibmiaiijjpaaDrawT
import Derived.Test.YtdcibmiaiijjpaaRows
import Derived.Test.YtdcibmiaiijjpaaFns
namespace Sg
open Go Go.RowKit Go.Proofs
set_option linter.unusedVariables false
set_option linter.unusedSimpArgs false
set_option maxRecDepth 100000
set_option maxHeartbeats 4000000
theorem mixed : Try.prog.follows .mixedOrders = true := by kernel_rfl
theorem ti3 : ti Try.prog 3 = some (some (.int .i64 0), 1, 8) := by kernel_rfl
theorem ti4 : ti Try.prog 4 = some (some (.bool false), 1, 1) := by kernel_rfl
theorem ti22 : ti Try.prog 22 = some (some (.slice none 0 0), 1, 24) := by kernel_rfl
theorem ti26 : ti Try.prog 26 = some (some (.slice none 0 0), 1, 24) := by kernel_rfl
theorem ti27 : ti Try.prog 27 = some (some (.slice none 0 0), 1, 24) := by kernel_rfl
theorem ti29 : ti Try.prog 29 = some (some (.agg #[.slice none 0 0, .slice none 0 0, .slice none 0 0, .slice none 0 0, .slice none 0 0]), 5, 120) := by kernel_rfl
theorem ti33 : ti Try.prog 33 = some (some (.slice none 0 0), 1, 24) := by kernel_rfl
theorem ti35 : ti Try.prog 35 = some (some (.agg #[.slice none 0 0, .slice none 0 0, .slice none 0 0, .slice none 0 0]), 4, 96) := by kernel_rfl
theorem ti42 : ti Try.prog 42 = some (some (.slice none 0 0), 1, 24) := by kernel_rfl
theorem ti49 : ti Try.prog 49 = some (some (.slice none 0 0), 1, 24) := by kernel_rfl
theorem ti56 : ti Try.prog 56 = some (some (.slice none 0 0), 1, 24) := by kernel_rfl
theorem ti68 : ti Try.prog 68 = some (some (.nilFunc), 1, 8) := by kernel_rfl
theorem ti72 : ti Try.prog 72 = some (some (.slice none 0 0), 1, 24) := by kernel_rfl
theorem ti73 : ti Try.prog 73 = some (some (.agg #[.int .i64 0, .int .i64 0]), 2, 16) := by kernel_rfl
theorem ti77 : ti Try.prog 77 = some (some (.int .u64 0), 1, 8) := by kernel_rfl
theorem ti78 : ti Try.prog 78 = some (some (.int .u64 0), 1, 8) := by kernel_rfl
theorem ti84 : ti Try.prog 84 = some (some (.map none), 1, 8) := by kernel_rfl
theorem ti95 : ti Try.prog 95 = some (some (.map none), 1, 8) := by kernel_rfl
end Sg
