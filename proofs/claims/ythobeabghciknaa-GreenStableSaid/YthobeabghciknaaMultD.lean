/- Tables: the sanity check; the laws on validity and powers. Plain laws. -/
import Derived.Test.YthobeabghciknaaMultC
namespace Sg
open Go
set_option linter.unusedVariables false
set_option linter.unusedSimpArgs false

theorem c2_va : vaC [[0, 1], [1, 0]] = 0 := by decide
theorem c2_vt : VT [[0, 1], [1, 0]] = true := by decide
end Sg
