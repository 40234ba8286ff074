/- More plain data, and what it reads as. Printed by mir.py. -/
import Derived.Test.YtahmeibkdhbngaaDg
namespace Go.Proofs.Ytahmeibkdhbngaa
open Go.RowKit
set_option linter.unusedVariables false

structure K3 where
  err:Int
  at_:Int
  deriving DecidableEq,Inhabited

def bM7 (x:K3):List AV:=[.int x.err,.int x.at_]

end Go.Proofs.Ytahmeibkdhbngaa
