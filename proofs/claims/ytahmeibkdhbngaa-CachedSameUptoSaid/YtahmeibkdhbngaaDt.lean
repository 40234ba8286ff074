/- More plain data, and what it reads as. Printed by mir.py. -/
import Derived.Test.YtahmeibkdhbngaaDg
namespace Go.Proofs.Ytahmeibkdhbngaa
open Go.RowKit
set_option linter.unusedVariables false

structure K7 where
  self_:V
  name:ByteArray
  args:(List V)
  deriving DecidableEq,Inhabited

def aX3 (x:K7):List AV:=[.int x.self_.k,.int x.self_.n,.str x.name,.sl 2 (List.map eV x.args)]

structure aF1 where
  value:V
  err:Int
  sends:Int
  deriving DecidableEq,Inhabited

def bM8 (x:aF1):List AV:=[.int x.value.k,.int x.value.n,.int x.err,.int x.sends]

structure u7 where
  world:Wd
  ran:aF1
  cells:(List Ce)
  tallies:(List Tl)
  hits:Int
  not:Int
  deriving DecidableEq,Inhabited

def Q6 (x:u7):List AV:=[.sl 4 (List.map J4 x.world.classes),.sl 2 (List.map H6 x.world.heap),.int x.world.epoch,.int x.ran.value.k,.int x.ran.value.n,.int x.ran.err,.int x.ran.sends,.sl 6 (List.map eCe x.cells),.sl 4 (List.map eTl x.tallies),.int x.hits,.int x.not]

structure O5 where
  err:Int
  at_:Int
  deriving DecidableEq,Inhabited

def cP3 (x:O5):List AV:=[.int x.err,.int x.at_]

structure TR where
  w:Wd
  fuel:Int
  sends:Int
  turns:Int
  deep:Int
  err:Int
  sites:(List St)
  of:(List Int)
  deriving DecidableEq,Inhabited

def eTR (x:TR):List AV:=[.sl 4 (List.map J4 x.w.classes),.sl 2 (List.map H6 x.w.heap),.int x.w.epoch,.int x.fuel,.int x.sends,.int x.turns,.int x.deep,.int x.err,.sl 3 (List.map Z7 x.sites),.sl 1 (List.map K6 x.of)]

structure l6 where
  class_:Int
  method:Int
  fast:Bool
  code:(List Ins)
  self_:V
  args:(List V)
  temps:(List V)
  stack:(List V)
  at_:Int
  deriving DecidableEq,Inhabited

def w9 (x:l6):List AV:=[.int x.class_,.int x.method,.bool x.fast,.sl 5 (List.map aK6 x.code),.int x.self_.k,.int x.self_.n,.sl 2 (List.map eV x.args),.sl 2 (List.map eV x.temps),.sl 2 (List.map eV x.stack),.int x.at_]

structure l9 where
  w:Wd
  fuel:Int
  sends:Int
  turns:Int
  frames:(List l6)
  back:V
  err:Int
  deriving DecidableEq,Inhabited

end Go.Proofs.Ytahmeibkdhbngaa
