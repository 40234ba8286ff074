/- Plain laws of the mirrors: cells. No program in sight. -/
import Derived.Test.YtioalgofaiideaaPl7
namespace Go.Proofs.Ytioalgofaiideaa
open Go.RowKit
set_option linter.unusedVariables false
end Go.Proofs.Ytioalgofaiideaa
