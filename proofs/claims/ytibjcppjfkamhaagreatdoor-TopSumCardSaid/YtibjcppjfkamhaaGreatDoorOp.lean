/- How arguments that read as data read as plain data. Printed by law.py. -/
import Derived.Test.YtibjcppjfkamhaaGreatDoorOk
import Derived.Test.YtibjcppjfkamhaaGreatDoorProg
import Derived.Test.YtibjcppjfkamhaaGreatDoorYlaw
namespace Go.Proofs.YtibjcppjfkamhaaGreatDoor
open Go.ChangeShapes Go.WideShapes Go.ChangeAt Go.RowKit Go.Deep
set_option linter.unusedVariables false

end Go.Proofs.YtibjcppjfkamhaaGreatDoor
