/- The plain data of package api, and what values of it read as. No program in sight. -/
import Derived.Test.YtibjcppjfkamhaaGreatDoorAg
namespace Go.Proofs.YtibjcppjfkamhaaGreatDoor
open Go.RowKit
structure V where
 k:Int
 n:Int
 deriving DecidableEq,Inhabited
structure Ln where
 cls:Int
 found:Int
 deriving DecidableEq,Inhabited
structure St where
 cls:Int
 name:ByteArray
 pos:Int
 deriving DecidableEq,Inhabited
structure Tl where
 site:St
 classes:List Ln
 deriving DecidableEq,Inhabited
structure Ce where
 site:St
 epoch:Int
 many:Bool
 lines:List Ln
 deriving DecidableEq,Inhabited
structure Ins where
 op:Int
 a:Int
 b:Int
 c:Int
 name:ByteArray
 deriving DecidableEq,Inhabited
structure Me where
 name:ByteArray
 args:Int
 temps:Int
 prim:Int
 code:List Ins
 deriving DecidableEq,Inhabited
structure Cl where
 name:ByteArray
 super:Int
 slots:Int
 methods:List Me
 deriving DecidableEq,Inhabited
structure Ob where
 cls:Int
 slots:List V
 deriving DecidableEq,Inhabited
structure Wd where
 classes:List Cl
 heap:List Ob
 epoch:Int
 deriving DecidableEq,Inhabited
structure Fs where
 cls:Int
 name:ByteArray
 epoch:Int
 temps:Int
 code:List Ins
 deriving DecidableEq,Inhabited
def H9 (n:Int):List AV:=[.int n]
def cM1 (s:ByteArray):List AV:=[.str s]
def eV (v:V):List AV:=[.int v.k,.int v.n]
def U0 (x:Ln):List AV:=[.int x.cls,.int x.found]
def eSt (s:St):List AV:=[.int s.cls,.str s.name,.int s.pos]
def eTl (t:Tl):List AV:=[.int t.site.cls,.str t.site.name,.int t.site.pos,.sl 2 (t.classes.map U0)]
def eCe (t:Ce):List AV:=[.int t.site.cls,.str t.site.name,.int t.site.pos,.int t.epoch,.bool t.many,.sl 2 (t.lines.map U0)]
def I6 (i:Ins):List AV:=[.int i.op,.int i.a,.int i.b,.int i.c,.str i.name]
def J3 (m:Me):List AV:=[.str m.name,.int m.args,.int m.temps,.int m.prim,.sl 5 (m.code.map I6)]
def F4 (c:Cl):List AV:=[.str c.name,.int c.super,.int c.slots,.sl 5 (c.methods.map J3)]
def D8 (o:Ob):List AV:=[.int o.cls,.sl 2 (o.slots.map eV)]
def P6 (w:Wd):List AV:=[.sl 4 (w.classes.map F4),.sl 2 (w.heap.map D8),.int w.epoch]
def eFs (f:Fs):List AV:=[.int f.cls,.str f.name,.int f.epoch,.int f.temps,.sl 5 (f.code.map I6)]
theorem c22 {α:Type} {enc:α→List AV} {l:List α} {i:Nat} {cs:List AV} (h:(l.map enc)[i]?=some cs):∃a,l[i]?=some a∧cs=enc a:=by
 rw [List.getElem?_map,Option.map_eq_some_iff] at h
 obtain ⟨a,h1,h2⟩:=h
 exact ⟨a,h1,h2.symm⟩
end Go.Proofs.YtibjcppjfkamhaaGreatDoor
