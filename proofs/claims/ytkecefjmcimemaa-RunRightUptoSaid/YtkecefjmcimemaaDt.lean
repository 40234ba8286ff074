/- More plain data, and what it reads as. Printed by mir.py. -/
import Derived.Test.YtkecefjmcimemaaDg
namespace Go.Proofs.Ytkecefjmcimemaa
open Go.RowKit
set_option linter.unusedVariables false

def eBool (b:Bool):List AV:=[.bool b]
def eIk (k:IntKind) (n:Int):List AV:=[.ik k n]
def eSl {α:Type} (sz:Nat) (e:α→List AV) (l:List α):List AV:=[.sl sz (l.map e)]

structure TX7 where
  x:Int
  y:Int
  signed:Bool
  code:Int
  deriving DecidableEq,Inhabited

def eTX7 (x:TX7):List AV:=[.int x.x,.int x.y,.bool x.signed,.ik .u8 x.code]

structure TBoundsError where
  x:Int
  y:Int
  signed:Bool
  code:Int
  deriving DecidableEq,Inhabited

def eTBoundsError (x:TBoundsError):List AV:=[.int x.x,.int x.y,.bool x.signed,.ik .u8 x.code]

structure TX13 where
  msg:ByteArray
  addr:Int
  deriving DecidableEq,Inhabited

def eTX13 (x:TX13):List AV:=[.str x.msg,.ik .u64 x.addr]

structure TErrorAddressString where
  msg:ByteArray
  addr:Int
  deriving DecidableEq,Inhabited

def eTErrorAddressString (x:TErrorAddressString):List AV:=[.str x.msg,.ik .u64 x.addr]

structure TX24 where
  classes:(List Cl)
  heap:(List Ob)
  epoch:Int
  deriving DecidableEq,Inhabited

def eTX24 (x:TX24):List AV:=[.sl 4 (List.map eCl x.classes),.sl 2 (List.map eOb x.heap),.int x.epoch]

structure TX26 where
  kind:Int
  n:Int
  deriving DecidableEq,Inhabited

def eTX26 (x:TX26):List AV:=[.int x.kind,.int x.n]

structure TX29 where
  self_:V
  name:ByteArray
  args:(List V)
  deriving DecidableEq,Inhabited

def eTX29 (x:TX29):List AV:=[.int x.self_.k,.int x.self_.n,.str x.name,.sl 2 (List.map eV x.args)]

structure TCall where
  self_:V
  name:ByteArray
  args:(List V)
  deriving DecidableEq,Inhabited

def eTCall (x:TCall):List AV:=[.int x.self_.k,.int x.self_.n,.str x.name,.sl 2 (List.map eV x.args)]

structure TX33 where
  value:V
  err:Int
  sends:Int
  deriving DecidableEq,Inhabited

def eTX33 (x:TX33):List AV:=[.int x.value.k,.int x.value.n,.int x.err,.int x.sends]

structure TRan where
  value:V
  err:Int
  sends:Int
  deriving DecidableEq,Inhabited

def eTRan (x:TRan):List AV:=[.int x.value.k,.int x.value.n,.int x.err,.int x.sends]

structure TX50 where
  name:ByteArray
  super:Int
  slots:Int
  methods:(List Me)
  deriving DecidableEq,Inhabited

def eTX50 (x:TX50):List AV:=[.str x.name,.int x.super,.int x.slots,.sl 5 (List.map eMe x.methods)]

structure TX53 where
  name:ByteArray
  args:Int
  temps:Int
  prim:Int
  code:(List Ins)
  deriving DecidableEq,Inhabited

def eTX53 (x:TX53):List AV:=[.str x.name,.int x.args,.int x.temps,.int x.prim,.sl 5 (List.map eIns x.code)]

structure TX55 where
  class_:Int
  name:ByteArray
  at_:Int
  deriving DecidableEq,Inhabited

def eTX55 (x:TX55):List AV:=[.int x.class_,.str x.name,.int x.at_]

structure TX59 where
  op:Int
  a:Int
  b:Int
  c:Int
  name:ByteArray
  deriving DecidableEq,Inhabited

def eTX59 (x:TX59):List AV:=[.int x.op,.int x.a,.int x.b,.int x.c,.str x.name]

structure TX62 where
  class_:Int
  name:ByteArray
  epoch:Int
  temps:Int
  code:(List Ins)
  deriving DecidableEq,Inhabited

def eTX62 (x:TX62):List AV:=[.int x.class_,.str x.name,.int x.epoch,.int x.temps,.sl 5 (List.map eIns x.code)]

structure TX73 where
  world:Wd
  ran:TRan
  cells:(List Ce)
  tallies:(List Tl)
  hits:Int
  not:Int
  deriving DecidableEq,Inhabited

def eTX73 (x:TX73):List AV:=[.sl 4 (List.map eCl x.world.classes),.sl 2 (List.map eOb x.world.heap),.int x.world.epoch,.int x.ran.value.k,.int x.ran.value.n,.int x.ran.err,.int x.ran.sends,.sl 6 (List.map eCe x.cells),.sl 4 (List.map eTl x.tallies),.int x.hits,.int x.not]

structure TCached where
  world:Wd
  ran:TRan
  cells:(List Ce)
  tallies:(List Tl)
  hits:Int
  not:Int
  deriving DecidableEq,Inhabited

def eTCached (x:TCached):List AV:=[.sl 4 (List.map eCl x.world.classes),.sl 2 (List.map eOb x.world.heap),.int x.world.epoch,.int x.ran.value.k,.int x.ran.value.n,.int x.ran.err,.int x.ran.sends,.sl 6 (List.map eCe x.cells),.sl 4 (List.map eTl x.tallies),.int x.hits,.int x.not]

structure TX82 where
  site:St
  epoch:Int
  many:Bool
  lines:(List Ln)
  deriving DecidableEq,Inhabited

def eTX82 (x:TX82):List AV:=[.int x.site.cls,.str x.site.name,.int x.site.pos,.int x.epoch,.bool x.many,.sl 2 (List.map eLn x.lines)]

structure TX93 where
  err:Int
  at_:Int
  deriving DecidableEq,Inhabited

def eTX93 (x:TX93):List AV:=[.int x.err,.int x.at_]

structure TFault where
  err:Int
  at_:Int
  deriving DecidableEq,Inhabited

def eTFault (x:TFault):List AV:=[.int x.err,.int x.at_]

structure TX96 where
  class_:Int
  slots:(List V)
  deriving DecidableEq,Inhabited

def eTX96 (x:TX96):List AV:=[.int x.class_,.sl 2 (List.map eV x.slots)]

structure TX98 where
  w:Wd
  fuel:Int
  sends:Int
  turns:Int
  deep:Int
  err:Int
  sites:(List St)
  of:(List Int)
  deriving DecidableEq,Inhabited

def eTX98 (x:TX98):List AV:=[.sl 4 (List.map eCl x.w.classes),.sl 2 (List.map eOb x.w.heap),.int x.w.epoch,.int x.fuel,.int x.sends,.int x.turns,.int x.deep,.int x.err,.sl 3 (List.map eSt x.sites),.sl 1 (List.map eInt x.of)]

structure TR where
  w:Wd
  fuel:Int
  sends:Int
  turns:Int
  deep:Int
  err:Int
  sites:(List St)
  of:(List Int)
  deriving DecidableEq,Inhabited

def eTR (x:TR):List AV:=[.sl 4 (List.map eCl x.w.classes),.sl 2 (List.map eOb x.w.heap),.int x.w.epoch,.int x.fuel,.int x.sends,.int x.turns,.int x.deep,.int x.err,.sl 3 (List.map eSt x.sites),.sl 1 (List.map eInt x.of)]

structure TWriter where
  w:Wd
  m:Me
  out:(List Ins)
  temps:Int
  at_:(List Int)
  fix:(List Int)
  deriving DecidableEq,Inhabited

def eTWriter (x:TWriter):List AV:=[.fp (eWd x.w),.fp (eMe x.m),.sl 5 (List.map eIns x.out),.int x.temps,.sl 1 (List.map eInt x.at_),.sl 1 (List.map eInt x.fix)]

structure TFrame where
  class_:Int
  method:Int
  fast:Bool
  code:(List Ins)
  self_:V
  args:(List V)
  temps:(List V)
  stack:(List V)
  at_:Int
  deriving DecidableEq,Inhabited

def eTFrame (x:TFrame):List AV:=[.int x.class_,.int x.method,.bool x.fast,.sl 5 (List.map eIns x.code),.int x.self_.k,.int x.self_.n,.sl 2 (List.map eV x.args),.sl 2 (List.map eV x.temps),.sl 2 (List.map eV x.stack),.int x.at_]

structure TMachine where
  w:Wd
  fuel:Int
  sends:Int
  turns:Int
  frames:(List TFrame)
  back:V
  err:Int
  deriving DecidableEq,Inhabited

structure TX126 where
  class_:Int
  found:Int
  deriving DecidableEq,Inhabited

def eTX126 (x:TX126):List AV:=[.int x.class_,.int x.found]

structure TX137 where
  site:St
  classes:(List Ln)
  deriving DecidableEq,Inhabited

def eTX137 (x:TX137):List AV:=[.int x.site.cls,.str x.site.name,.int x.site.pos,.sl 2 (List.map eLn x.classes)]

structure TX159 where
  class_:Int
  method:Int
  fast:Bool
  code:(List Ins)
  self_:V
  args:(List V)
  temps:(List V)
  stack:(List V)
  at_:Int
  deriving DecidableEq,Inhabited

def eTX159 (x:TX159):List AV:=[.int x.class_,.int x.method,.bool x.fast,.sl 5 (List.map eIns x.code),.int x.self_.k,.int x.self_.n,.sl 2 (List.map eV x.args),.sl 2 (List.map eV x.temps),.sl 2 (List.map eV x.stack),.int x.at_]

structure Arr0OptionTPanicNilError where
  deriving DecidableEq,Inhabited

def eArr0OptionTPanicNilError (x:Arr0OptionTPanicNilError):List AV:=[]

structure TPanicNilError where
  blank0:Arr0OptionTPanicNilError
  deriving DecidableEq,Inhabited

def eTPanicNilError (x:TPanicNilError):List AV:=[]

structure TX195 where
  blank0:Arr0OptionTPanicNilError
  deriving DecidableEq,Inhabited

def eTX195 (x:TX195):List AV:=[]

end Go.Proofs.Ytkecefjmcimemaa
