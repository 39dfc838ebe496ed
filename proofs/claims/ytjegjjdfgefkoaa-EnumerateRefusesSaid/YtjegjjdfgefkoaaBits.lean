/- Machine words in plain numbers: shifts, masks. -/
import Derived.Test.YtjegjjdfgefkoaaPure
namespace Sg
open Go
set_option linter.unusedVariables false
set_option linter.unusedSimpArgs false

end Sg
