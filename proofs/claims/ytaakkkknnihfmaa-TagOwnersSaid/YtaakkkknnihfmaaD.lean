/- walks, printed by wip/gen -/
import Derived.Test.YtaakkkknnihfmaaE
namespace Go.Proofs.Ytaakkkknnihfmaa
open Go.RowKit
set_option linter.unusedVariables false
set_option linter.unusedSimpArgs false


end Go.Proofs.Ytaakkkknnihfmaa
