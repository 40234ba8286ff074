/- More plain data, and what it reads as. Printed by mir.py. -/
import Derived.Test.YtioalgofaiideaaIo
namespace Go.Proofs.Ytioalgofaiideaa
open Go.RowKit
set_option linter.unusedVariables false

def eBool (b : Bool) : List AV := [.bool b]
def eIk (k : IntKind) (n : Int) : List AV := [.ik k n]
def eSl {α : Type} (sz : Nat) (e : α → List AV) (l : List α) : List AV := [.sl sz (l.map e)]

structure TX7 where
  x : Int
  y : Int
  signed : Bool
  code : Int
  deriving DecidableEq, Inhabited

def eTX7 (x : TX7) : List AV := [.int x.x, .int x.y, .bool x.signed, .ik .u8 x.code]

structure TBoundsError where
  x : Int
  y : Int
  signed : Bool
  code : Int
  deriving DecidableEq, Inhabited

def eTBoundsError (x : TBoundsError) : List AV := [.int x.x, .int x.y, .bool x.signed, .ik .u8 x.code]

structure TX13 where
  msg : ByteArray
  addr : Int
  deriving DecidableEq, Inhabited

def eTX13 (x : TX13) : List AV := [.str x.msg, .ik .u64 x.addr]

structure TErrorAddressString where
  msg : ByteArray
  addr : Int
  deriving DecidableEq, Inhabited

def eTErrorAddressString (x : TErrorAddressString) : List AV := [.str x.msg, .ik .u64 x.addr]

structure TX23 where
  class_ : Int
  name : ByteArray
  at_ : Int
  deriving DecidableEq, Inhabited

def eTX23 (x : TX23) : List AV := [.int x.class_, .str x.name, .int x.at_]

structure TX26 where
  site : St
  classes : (List Ln)
  deriving DecidableEq, Inhabited

def eTX26 (x : TX26) : List AV := [.int x.site.cls, .str x.site.name, .int x.site.pos, .sl 2 (List.map eLn x.classes)]

structure TX28 where
  class_ : Int
  found : Int
  deriving DecidableEq, Inhabited

def eTX28 (x : TX28) : List AV := [.int x.class_, .int x.found]

structure TX44 where
  kind : Int
  n : Int
  deriving DecidableEq, Inhabited

def eTX44 (x : TX44) : List AV := [.int x.kind, .int x.n]

structure TX54 where
  classes : (List Cl)
  heap : (List Ob)
  epoch : Int
  deriving DecidableEq, Inhabited

def eTX54 (x : TX54) : List AV := [.sl 4 (List.map eCl x.classes), .sl 2 (List.map eOb x.heap), .int x.epoch]

structure TX59 where
  class_ : Int
  slots : (List V)
  deriving DecidableEq, Inhabited

def eTX59 (x : TX59) : List AV := [.int x.class_, .sl 2 (List.map eV x.slots)]

structure TX70 where
  name : ByteArray
  super : Int
  slots : Int
  methods : (List Me)
  deriving DecidableEq, Inhabited

def eTX70 (x : TX70) : List AV := [.str x.name, .int x.super, .int x.slots, .sl 5 (List.map eMe x.methods)]

structure TX73 where
  name : ByteArray
  args : Int
  temps : Int
  prim : Int
  code : (List Ins)
  deriving DecidableEq, Inhabited

def eTX73 (x : TX73) : List AV := [.str x.name, .int x.args, .int x.temps, .int x.prim, .sl 5 (List.map eIns x.code)]

structure TX80 where
  op : Int
  a : Int
  b : Int
  c : Int
  name : ByteArray
  deriving DecidableEq, Inhabited

def eTX80 (x : TX80) : List AV := [.int x.op, .int x.a, .int x.b, .int x.c, .str x.name]

structure TX84 where
  err : Int
  at_ : Int
  deriving DecidableEq, Inhabited

def eTX84 (x : TX84) : List AV := [.int x.err, .int x.at_]

structure TFault where
  err : Int
  at_ : Int
  deriving DecidableEq, Inhabited

def eTFault (x : TFault) : List AV := [.int x.err, .int x.at_]

structure Arr2Int where
  f0 : Int
  f1 : Int
  deriving DecidableEq, Inhabited

def eArr2Int (x : Arr2Int) : List AV := [.int x.f0, .int x.f1]

structure Arr0OptionTPanicNilError where
  deriving DecidableEq, Inhabited

def eArr0OptionTPanicNilError (x : Arr0OptionTPanicNilError) : List AV := []

structure TPanicNilError where
  blank0 : Arr0OptionTPanicNilError
  deriving DecidableEq, Inhabited

def eTPanicNilError (x : TPanicNilError) : List AV := []

structure TX130 where
  blank0 : Arr0OptionTPanicNilError
  deriving DecidableEq, Inhabited

def eTX130 (x : TX130) : List AV := []

end Go.Proofs.Ytioalgofaiideaa
