/- Which strings are words. -/
import Derived.Test.YthobeabghciknaaFns
import Derived.Test.YthobeabghciknaaGen
namespace Sg
open Go
set_option linter.unusedVariables false
set_option linter.unusedSimpArgs false
end Sg
