import Derived.Test.YtahmeibkdhbngaaPl15
/- Plain laws: what is right is told so. No program in sight. -/
namespace Go.Proofs.Ytahmeibkdhbngaa
open Go.RowKit
set_option linter.unusedVariables false
end Go.Proofs.Ytahmeibkdhbngaa
