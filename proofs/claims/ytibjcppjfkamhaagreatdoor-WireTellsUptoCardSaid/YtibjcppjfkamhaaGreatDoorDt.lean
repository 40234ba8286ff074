/- More plain data, and what it reads as. Printed by mir.py. -/
import Derived.Test.YtibjcppjfkamhaaGreatDoorDg
namespace Go.Proofs.YtibjcppjfkamhaaGreatDoor
open Go.RowKit
set_option linter.unusedVariables false

def eIk (k:IntKind) (n:Int):List AV:=[.ik k n]
structure D8 where
  err:Int
  at_:Int
  deriving DecidableEq,Inhabited

def bH0 (x:D8):List AV:=[.int x.err,.int x.at_]

structure p8 where
  s:ByteArray
  ok_:Bool
  deriving DecidableEq,Inhabited

def K5 (x:p8):List AV:=[.str x.s,.bool x.ok_]

structure H9 where
  l:(List ByteArray)
  ok_:Bool
  deriving DecidableEq,Inhabited

def aI2 (x:H9):List AV:=[.sl 1 (List.map aT3 x.l),.bool x.ok_]

structure J3 where
  f0:Int
  f1:Int
  deriving DecidableEq,Inhabited

def aM8 (x:J3):List AV:=[.int x.f0,.int x.f1]

end Go.Proofs.YtibjcppjfkamhaaGreatDoor
