/- What is known of data that was read: that it is well formed, and of what bulk. Printed by law.py. -/
import Derived.Test.YtahmeibkdhbngaaFr
import Derived.Test.YtahmeibkdhbngaaDt
namespace Go.Proofs.Ytahmeibkdhbngaa
open Go.ChangeShapes Go.WideShapes Go.ChangeAt Go.RowKit Go.Deep
set_option linter.unusedVariables false
def bO3 (a:St):Prop:=okI a.cls∧okS a.name∧okI a.pos
def bB7 (a:St):Nat:=bkI a.cls+bkS a.name+bkI a.pos+1
end Go.Proofs.Ytahmeibkdhbngaa
