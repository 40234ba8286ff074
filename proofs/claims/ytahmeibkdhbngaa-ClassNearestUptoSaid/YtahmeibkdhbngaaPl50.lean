import Derived.Test.YtahmeibkdhbngaaPl15
/- Classes: Make and Install, plainly. No program in sight. -/
namespace Go.Proofs.Ytahmeibkdhbngaa
open Go.RowKit
set_option linter.unusedVariables false
end Go.Proofs.Ytahmeibkdhbngaa
