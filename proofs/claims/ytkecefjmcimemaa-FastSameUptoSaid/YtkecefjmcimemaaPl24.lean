import Derived.Test.YtkecefjmcimemaaPl15
/- Plain laws: what is right is told so. No program in sight. -/
namespace Go.Proofs.Ytkecefjmcimemaa
open Go.RowKit
set_option linter.unusedVariables false
end Go.Proofs.Ytkecefjmcimemaa
