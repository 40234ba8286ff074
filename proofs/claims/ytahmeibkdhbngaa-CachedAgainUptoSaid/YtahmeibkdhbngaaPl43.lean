import Derived.Test.YtahmeibkdhbngaaPl42
/- The reference's cells and tallies, over the sites of a run. No program in sight. -/
namespace Go.Proofs.Ytahmeibkdhbngaa
open Go.RowKit
set_option linter.unusedVariables false
end Go.Proofs.Ytahmeibkdhbngaa
