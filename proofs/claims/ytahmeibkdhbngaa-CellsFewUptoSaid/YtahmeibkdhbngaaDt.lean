/- More plain data, and what it reads as. Printed by mir.py. -/
import Derived.Test.YtahmeibkdhbngaaDg
namespace Go.Proofs.Ytahmeibkdhbngaa
open Go.RowKit
set_option linter.unusedVariables false

end Go.Proofs.Ytahmeibkdhbngaa
