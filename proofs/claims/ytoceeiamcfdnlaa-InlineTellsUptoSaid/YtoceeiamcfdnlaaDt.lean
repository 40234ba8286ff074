/- More plain data, and what it reads as. Printed by mir.py. -/
import Derived.Test.YtoceeiamcfdnlaaIo
namespace Go.Proofs.Ytoceeiamcfdnlaa
open Go.RowKit
set_option linter.unusedVariables false

def eBool (b : Bool) : List AV := [.bool b]
def eIk (k : IntKind) (n : Int) : List AV := [.ik k n]
def eSl {α : Type} (sz : Nat) (e : α → List AV) (l : List α) : List AV := [.sl sz (l.map e)]

structure TX7 where
  x : Int
  y : Int
  signed : Bool
  code : Int
  deriving DecidableEq, Inhabited

def eTX7 (x : TX7) : List AV := [.int x.x, .int x.y, .bool x.signed, .ik .u8 x.code]

structure TBoundsError where
  x : Int
  y : Int
  signed : Bool
  code : Int
  deriving DecidableEq, Inhabited

def eTBoundsError (x : TBoundsError) : List AV := [.int x.x, .int x.y, .bool x.signed, .ik .u8 x.code]

structure TX13 where
  msg : ByteArray
  addr : Int
  deriving DecidableEq, Inhabited

def eTX13 (x : TX13) : List AV := [.str x.msg, .ik .u64 x.addr]

structure TErrorAddressString where
  msg : ByteArray
  addr : Int
  deriving DecidableEq, Inhabited

def eTErrorAddressString (x : TErrorAddressString) : List AV := [.str x.msg, .ik .u64 x.addr]

structure TX25 where
  classes : (List Cl)
  heap : (List Ob)
  epoch : Int
  deriving DecidableEq, Inhabited

def eTX25 (x : TX25) : List AV := [.sl 4 (List.map eCl x.classes), .sl 2 (List.map eOb x.heap), .int x.epoch]

structure TX27 where
  class_ : Int
  name : ByteArray
  at_ : Int
  deriving DecidableEq, Inhabited

def eTX27 (x : TX27) : List AV := [.int x.class_, .str x.name, .int x.at_]

structure TX48 where
  site : St
  epoch : Int
  many : Bool
  lines : (List Ln)
  deriving DecidableEq, Inhabited

def eTX48 (x : TX48) : List AV := [.int x.site.cls, .str x.site.name, .int x.site.pos, .int x.epoch, .bool x.many, .sl 2 (List.map eLn x.lines)]

structure TX52 where
  class_ : Int
  name : ByteArray
  epoch : Int
  temps : Int
  code : (List Ins)
  deriving DecidableEq, Inhabited

def eTX52 (x : TX52) : List AV := [.int x.class_, .str x.name, .int x.epoch, .int x.temps, .sl 5 (List.map eIns x.code)]

structure TX59 where
  name : ByteArray
  super : Int
  slots : Int
  methods : (List Me)
  deriving DecidableEq, Inhabited

def eTX59 (x : TX59) : List AV := [.str x.name, .int x.super, .int x.slots, .sl 5 (List.map eMe x.methods)]

structure TX61 where
  op : Int
  a : Int
  b : Int
  c : Int
  name : ByteArray
  deriving DecidableEq, Inhabited

def eTX61 (x : TX61) : List AV := [.int x.op, .int x.a, .int x.b, .int x.c, .str x.name]

structure TX63 where
  name : ByteArray
  args : Int
  temps : Int
  prim : Int
  code : (List Ins)
  deriving DecidableEq, Inhabited

def eTX63 (x : TX63) : List AV := [.str x.name, .int x.args, .int x.temps, .int x.prim, .sl 5 (List.map eIns x.code)]

structure TX85 where
  class_ : Int
  found : Int
  deriving DecidableEq, Inhabited

def eTX85 (x : TX85) : List AV := [.int x.class_, .int x.found]

structure TX94 where
  err : Int
  at_ : Int
  deriving DecidableEq, Inhabited

def eTX94 (x : TX94) : List AV := [.int x.err, .int x.at_]

structure TFault where
  err : Int
  at_ : Int
  deriving DecidableEq, Inhabited

def eTFault (x : TFault) : List AV := [.int x.err, .int x.at_]

structure TX98 where
  class_ : Int
  slots : (List V)
  deriving DecidableEq, Inhabited

def eTX98 (x : TX98) : List AV := [.int x.class_, .sl 2 (List.map eV x.slots)]

structure TX100 where
  kind : Int
  n : Int
  deriving DecidableEq, Inhabited

def eTX100 (x : TX100) : List AV := [.int x.kind, .int x.n]

structure TWriter where
  w : Wd
  m : Me
  out : (List Ins)
  temps : Int
  at_ : (List Int)
  fix : (List Int)
  deriving DecidableEq, Inhabited

def eTWriter (x : TWriter) : List AV := [.fp (eWd x.w), .fp (eMe x.m), .sl 5 (List.map eIns x.out), .int x.temps, .sl 1 (List.map eInt x.at_), .sl 1 (List.map eInt x.fix)]

structure TX114 where
  site : St
  classes : (List Ln)
  deriving DecidableEq, Inhabited

def eTX114 (x : TX114) : List AV := [.int x.site.cls, .str x.site.name, .int x.site.pos, .sl 2 (List.map eLn x.classes)]

structure Arr0OptionTPanicNilError where
  deriving DecidableEq, Inhabited

def eArr0OptionTPanicNilError (x : Arr0OptionTPanicNilError) : List AV := []

structure TPanicNilError where
  blank0 : Arr0OptionTPanicNilError
  deriving DecidableEq, Inhabited

def eTPanicNilError (x : TPanicNilError) : List AV := []

structure TX179 where
  blank0 : Arr0OptionTPanicNilError
  deriving DecidableEq, Inhabited

def eTX179 (x : TX179) : List AV := []

end Go.Proofs.Ytoceeiamcfdnlaa
