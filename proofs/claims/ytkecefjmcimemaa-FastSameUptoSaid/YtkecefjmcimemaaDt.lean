/- More plain data, and what it reads as. Printed by mir.py. -/
import Derived.Test.YtkecefjmcimemaaDg
namespace Go.Proofs.Ytkecefjmcimemaa
open Go.RowKit
set_option linter.unusedVariables false

structure O6 where
  self_:V
  name:ByteArray
  args:(List V)
  deriving DecidableEq,Inhabited

def bH6 (x:O6):List AV:=[.int x.self_.k,.int x.self_.n,.str x.name,.sl 2 (List.map eV x.args)]

structure aL3 where
  value:V
  err:Int
  sends:Int
  deriving DecidableEq,Inhabited

def bE9 (x:aL3):List AV:=[.int x.value.k,.int x.value.n,.int x.err,.int x.sends]

structure O9 where
  err:Int
  at_:Int
  deriving DecidableEq,Inhabited

def cQ1 (x:O9):List AV:=[.int x.err,.int x.at_]

structure TR where
  w:Wd
  fuel:Int
  sends:Int
  turns:Int
  deep:Int
  err:Int
  sites:(List St)
  of:(List Int)
  deriving DecidableEq,Inhabited

def eTR (x:TR):List AV:=[.sl 4 (List.map K7 x.w.classes),.sl 2 (List.map H8 x.w.heap),.int x.w.epoch,.int x.fuel,.int x.sends,.int x.turns,.int x.deep,.int x.err,.sl 3 (List.map eSt x.sites),.sl 1 (List.map C8 x.of)]

structure F4 where
  w:Wd
  m:Me
  out:(List Ins)
  temps:Int
  at_:(List Int)
  fix:(List Int)
  deriving DecidableEq,Inhabited

structure l6 where
  class_:Int
  method:Int
  fast:Bool
  code:(List Ins)
  self_:V
  args:(List V)
  temps:(List V)
  stack:(List V)
  at_:Int
  deriving DecidableEq,Inhabited

def y7 (x:l6):List AV:=[.int x.class_,.int x.method,.bool x.fast,.sl 5 (List.map J2 x.code),.int x.self_.k,.int x.self_.n,.sl 2 (List.map eV x.args),.sl 2 (List.map eV x.temps),.sl 2 (List.map eV x.stack),.int x.at_]

structure l9 where
  w:Wd
  fuel:Int
  sends:Int
  turns:Int
  frames:(List l6)
  back:V
  err:Int
  deriving DecidableEq,Inhabited

end Go.Proofs.Ytkecefjmcimemaa
