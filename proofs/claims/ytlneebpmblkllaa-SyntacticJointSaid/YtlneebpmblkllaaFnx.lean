/- -/
import Derived.Test.YtlneebpmblkllaaFns
import Derived.Test.YtlneebpmblkllaaPMap
namespace Sg
open Go
set_option linter.unusedVariables false
end Sg
