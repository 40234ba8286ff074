/- What is known of data that was read: that it is well formed, and of what bulk. Printed by law.py. -/
import Derived.Test.YtibjcppjfkamhaaGreatDoorFr
import Derived.Test.YtibjcppjfkamhaaGreatDoorDt
namespace Go.Proofs.YtibjcppjfkamhaaGreatDoor
open Go.ChangeShapes Go.WideShapes Go.ChangeAt Go.RowKit Go.Deep
set_option linter.unusedVariables false

end Go.Proofs.YtibjcppjfkamhaaGreatDoor
