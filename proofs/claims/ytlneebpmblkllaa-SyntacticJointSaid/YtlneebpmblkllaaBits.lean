/- -/
import Derived.Test.YtlneebpmblkllaaPure
namespace Sg
open Go
set_option linter.unusedVariables false
set_option linter.unusedSimpArgs false
end Sg
