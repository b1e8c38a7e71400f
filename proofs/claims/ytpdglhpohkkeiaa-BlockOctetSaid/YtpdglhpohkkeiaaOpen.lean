/- What the laws' arguments open into: written by rows.py. -/
import Derived.Test.YtpdglhpohkkeiaaBase
import Derived.Test.YtpdglhpohkkeiaaXOpen
set_option linter.unusedVariables false
set_option linter.unusedSimpArgs false
namespace Go.Proofs.Ytpdglhpohkkeiaa
open Go Go.Xw

end Go.Proofs.Ytpdglhpohkkeiaa
