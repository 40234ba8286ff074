/- More plain data, and what it reads as. Printed by mir.py. -/
import Derived.Test.YtibjcppjfkamhaaGreatDoorDg
namespace Go.Proofs.YtibjcppjfkamhaaGreatDoor
open Go.RowKit
set_option linter.unusedVariables false

def eIk (k:IntKind) (n:Int):List AV:=[.ik k n]
structure M6 where
  self_:V
  name:ByteArray
  args:(List V)
  deriving DecidableEq,Inhabited

def bA1 (x:M6):List AV:=[.int x.self_.k,.int x.self_.n,.str x.name,.sl 2 (List.map eV x.args)]

structure J7 where
  kind:Int
  name:ByteArray
  class_:Int
  slots:Int
  method:Me
  call:M6
  deriving DecidableEq,Inhabited

def aR0 (x:J7):List AV:=[.int x.kind,.str x.name,.int x.class_,.int x.slots,.str x.method.name,.int x.method.args,.int x.method.temps,.int x.method.prim,.sl 5 (List.map I6 x.method.code),.int x.call.self_.k,.int x.call.self_.n,.str x.call.name,.sl 2 (List.map eV x.call.args)]

structure y8 where
  world:Wd
  cells:(List Ce)
  tallies:(List Tl)
  saved:(List Int)
  deriving DecidableEq,Inhabited

def V8 (x:y8):List AV:=[.sl 4 (List.map F4 x.world.classes),.sl 2 (List.map D8 x.world.heap),.int x.world.epoch,.sl 6 (List.map eCe x.cells),.sl 4 (List.map eTl x.tallies),.sl 1 (List.map (eIk .u8) x.saved)]

structure N7 where
  err:Int
  n:Int
  value:V
  deriving DecidableEq,Inhabited

def aM9 (x:N7):List AV:=[.int x.err,.int x.n,.int x.value.k,.int x.value.n]

structure aD7 where
  err:Int
  at_:Int
  deriving DecidableEq,Inhabited

def cH8 (x:aD7):List AV:=[.int x.err,.int x.at_]

structure I1 where
  s:ByteArray
  ok_:Bool
  deriving DecidableEq,Inhabited

def U2 (x:I1):List AV:=[.str x.s,.bool x.ok_]

structure aJ6 where
  value:V
  err:Int
  sends:Int
  deriving DecidableEq,Inhabited

def bI0 (x:aJ6):List AV:=[.int x.value.k,.int x.value.n,.int x.err,.int x.sends]

structure I5 where
  world:Wd
  ran:aJ6
  cells:(List Ce)
  tallies:(List Tl)
  hits:Int
  not:Int
  deriving DecidableEq,Inhabited

def W9 (x:I5):List AV:=[.sl 4 (List.map F4 x.world.classes),.sl 2 (List.map D8 x.world.heap),.int x.world.epoch,.int x.ran.value.k,.int x.ran.value.n,.int x.ran.err,.int x.ran.sends,.sl 6 (List.map eCe x.cells),.sl 4 (List.map eTl x.tallies),.int x.hits,.int x.not]

structure aC2 where
  f0:Int
  f1:Int
  deriving DecidableEq,Inhabited

def aY1 (x:aC2):List AV:=[.int x.f0,.int x.f1]

structure p8 where
  class_:Int
  method:Int
  fast:Bool
  code:(List Ins)
  self_:V
  args:(List V)
  temps:(List V)
  stack:(List V)
  at_:Int
  deriving DecidableEq,Inhabited

def l9 (x:p8):List AV:=[.int x.class_,.int x.method,.bool x.fast,.sl 5 (List.map I6 x.code),.int x.self_.k,.int x.self_.n,.sl 2 (List.map eV x.args),.sl 2 (List.map eV x.temps),.sl 2 (List.map eV x.stack),.int x.at_]

structure l7 where
  w:Wd
  fuel:Int
  sends:Int
  turns:Int
  frames:(List p8)
  back:V
  err:Int
  deriving DecidableEq,Inhabited

structure G6 where
  w:Wd
  m:Me
  out:(List Ins)
  temps:Int
  at_:(List Int)
  fix:(List Int)
  deriving DecidableEq,Inhabited

end Go.Proofs.YtibjcppjfkamhaaGreatDoor
