/- The plain data of package api, and what values of it read as. No program in sight. -/
import Derived.Test.YtibjcppjfkamhaaGreatDoorAg
namespace Go.Proofs.YtibjcppjfkamhaaGreatDoor
open Go.RowKit
structure V where
 k:Int
 n:Int
 deriving DecidableEq,Inhabited
structure Ln where
 cls:Int
 found:Int
 deriving DecidableEq,Inhabited
structure St where
 cls:Int
 name:ByteArray
 pos:Int
 deriving DecidableEq,Inhabited
structure Ins where
 op:Int
 a:Int
 b:Int
 c:Int
 name:ByteArray
 deriving DecidableEq,Inhabited
structure Me where
 name:ByteArray
 args:Int
 temps:Int
 prim:Int
 code:List Ins
 deriving DecidableEq,Inhabited
structure Cl where
 name:ByteArray
 super:Int
 slots:Int
 methods:List Me
 deriving DecidableEq,Inhabited
structure Ob where
 cls:Int
 slots:List V
 deriving DecidableEq,Inhabited
structure Wd where
 classes:List Cl
 heap:List Ob
 epoch:Int
 deriving DecidableEq,Inhabited
def F7 (n:Int):List AV:=[.int n]
def aT3 (s:ByteArray):List AV:=[.str s]
def eV (v:V):List AV:=[.int v.k,.int v.n]
def eLn (x:Ln):List AV:=[.int x.cls,.int x.found]
def eSt (s:St):List AV:=[.int s.cls,.str s.name,.int s.pos]
def aG9 (i:Ins):List AV:=[.int i.op,.int i.a,.int i.b,.int i.c,.str i.name]
def Z6 (m:Me):List AV:=[.str m.name,.int m.args,.int m.temps,.int m.prim,.sl 5 (m.code.map aG9)]
def eCl (c:Cl):List AV:=[.str c.name,.int c.super,.int c.slots,.sl 5 (c.methods.map Z6)]
def eOb (o:Ob):List AV:=[.int o.cls,.sl 2 (o.slots.map eV)]
def eWd (w:Wd):List AV:=[.sl 4 (w.classes.map eCl),.sl 2 (w.heap.map eOb),.int w.epoch]
end Go.Proofs.YtibjcppjfkamhaaGreatDoor
