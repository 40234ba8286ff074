/- More plain data, and what it reads as. Printed by mir.py. -/
import Derived.Test.YtahmeibkdhbngaaDg
namespace Go.Proofs.Ytahmeibkdhbngaa
open Go.RowKit
set_option linter.unusedVariables false

structure J9 where
  err:Int
  at_:Int
  deriving DecidableEq,Inhabited

def bK4 (x:J9):List AV:=[.int x.err,.int x.at_]

end Go.Proofs.Ytahmeibkdhbngaa
