/- More plain data, and what it reads as. Printed by mir.py. -/
import Derived.Test.YtahmeibkdhbngaaDg
namespace Go.Proofs.Ytahmeibkdhbngaa
open Go.RowKit
set_option linter.unusedVariables false

structure O4 where
  self_:V
  name:ByteArray
  args:(List V)
  deriving DecidableEq,Inhabited

def bF3 (x:O4):List AV:=[.int x.self_.k,.int x.self_.n,.str x.name,.sl 2 (List.map eV x.args)]

structure aK0 where
  value:V
  err:Int
  sends:Int
  deriving DecidableEq,Inhabited

def bQ4 (x:aK0):List AV:=[.int x.value.k,.int x.value.n,.int x.err,.int x.sends]

structure q9 where
  world:Wd
  ran:aK0
  cells:(List Ce)
  tallies:(List Tl)
  hits:Int
  not:Int
  deriving DecidableEq,Inhabited

def O7 (x:q9):List AV:=[.sl 4 (List.map O8 x.world.classes),.sl 2 (List.map L6 x.world.heap),.int x.world.epoch,.int x.ran.value.k,.int x.ran.value.n,.int x.ran.err,.int x.ran.sends,.sl 6 (List.map eCe x.cells),.sl 4 (List.map eTl x.tallies),.int x.hits,.int x.not]

structure M0 where
  err:Int
  at_:Int
  deriving DecidableEq,Inhabited

def cI1 (x:M0):List AV:=[.int x.err,.int x.at_]

structure l6 where
  class_:Int
  method:Int
  fast:Bool
  code:(List Ins)
  self_:V
  args:(List V)
  temps:(List V)
  stack:(List V)
  at_:Int
  deriving DecidableEq,Inhabited

def u7 (x:l6):List AV:=[.int x.class_,.int x.method,.bool x.fast,.sl 5 (List.map aO2 x.code),.int x.self_.k,.int x.self_.n,.sl 2 (List.map eV x.args),.sl 2 (List.map eV x.temps),.sl 2 (List.map eV x.stack),.int x.at_]

structure l7 where
  w:Wd
  fuel:Int
  sends:Int
  turns:Int
  frames:(List l6)
  back:V
  err:Int
  deriving DecidableEq,Inhabited

end Go.Proofs.Ytahmeibkdhbngaa
