/- More plain data, and what it reads as. Printed by mir.py. -/
import Derived.Test.YtibjcppjfkamhaaDoorDg
namespace Go.Proofs.YtibjcppjfkamhaaDoor
open Go.RowKit
set_option linter.unusedVariables false

def eIk (k:IntKind) (n:Int):List AV:=[.ik k n]
structure J6 where
  err:Int
  at_:Int
  deriving DecidableEq,Inhabited

def bV9 (x:J6):List AV:=[.int x.err,.int x.at_]

structure l8 where
  s:ByteArray
  ok_:Bool
  deriving DecidableEq,Inhabited

def I1 (x:l8):List AV:=[.str x.s,.bool x.ok_]

structure G6 where
  f0:Int
  f1:Int
  deriving DecidableEq,Inhabited

def aF9 (x:G6):List AV:=[.int x.f0,.int x.f1]

end Go.Proofs.YtibjcppjfkamhaaDoor
