/- Functions that mirror the program's. Printed by mir.py. -/
import Derived.Test.YtahmeibkdhbngaaHd
namespace Go.Proofs.Ytahmeibkdhbngaa
open Go.RowKit
set_option linter.unusedVariables false

def U2 (N:Nat) (a0:List Ln):Option (List Ln):=bif Nat.ble (a0.length*16) 140737488355328 then some a0 else none

def V3 (N:Nat):List Ce→Nat→(List Ce)→Option ((List Ce))
  |[],k2,v3=>some (v3)
  |x11::rest8,k2,v3=>((U2 N x11.lines).bind fun r14=>(bif Nat.ble ((v3.length+[(⟨x11.site,x11.epoch,x11.many,r14⟩:Ce)].length)*72) 140737488355328 then V3 N rest8 (k2+1) (v3++[(⟨x11.site,x11.epoch,x11.many,r14⟩:Ce)]) else none))

def aC0 (N:Nat) (a0:(List Ce)):Option (List Ce) :=
  ((V3 N a0 0 ([]:List Ce)).bind fun v5=>some v5)

def j6 (N:Nat) (g1:(Ce→Option Bool)):List Ce→Nat→Option (Ctl Int Unit)
  |[],k2=>some (.next ())
  |x8::rest5,k2=>((g1 x8).bind fun r11=>(bif r11 then some (.ret (k2:Int)) else j6 N g1 rest5 (k2+1)))

def y7 (N:Nat) (a0:(List Ce)) (g1:Ce→Option Bool):Option Int :=
  ((j6 N g1 a0 0).bind fun o=>match o with|.ret r=>some r|.next ()=>some (-1:Int))

def J7 (N:Nat) (a0:Ce) (b0:St):Option Bool :=
  some (aK5 (eSt a0.site) (eSt b0))

def O7 (N:Nat) (a0:(List Ce)) (a1:St):Option Int :=
  ((y7 N a0 (fun x0_=>J7 N x0_ a1)).bind fun r1=>some r1)

def l9 (N:Nat) (g1:(Ln→Option Bool)):List Ln→Nat→Option (Ctl Int Unit)
  |[],k2=>some (.next ())
  |x8::rest5,k2=>((g1 x8).bind fun r11=>(bif r11 then some (.ret (k2:Int)) else l9 N g1 rest5 (k2+1)))

def E8 (N:Nat) (a0:(List Ln)) (g1:Ln→Option Bool):Option Int :=
  ((l9 N g1 a0 0).bind fun o=>match o with|.ret r=>some r|.next ()=>some (-1:Int))

def D6 (N:Nat) (a0:(List Ln)) (g1:Ln→Option Bool):Option Bool :=
  ((E8 N a0 g1).bind fun r1=>some (decide ((0:Int)≤r1)))

def T9 (N:Nat) (a0:Ln) (b0:Int):Option Bool :=
  some (decide (a0.cls=b0))

/-- a cell, once something is put into it -/
def K8 (e:Int) (x:Ce):Ce:=if x.epoch=e then x else ⟨x.site,e,false,[]⟩
def E9 (c f:Int) (y:Ce):Ce:=if y.many=true∨0≤ixf (fun t:Ln=>decide (t.cls=c)) y.lines then y else if (3:Int)≤(y.lines.length:Int) then ⟨y.site,y.epoch,true,[]⟩ else ⟨y.site,y.epoch,y.many,y.lines++[⟨c,f⟩]⟩
def aA8 (e c f:Int) (x:Ce):Ce:=E9 c f (K8 e x)
def U6 (N:Nat) (a0:List Ce) (a1:St) (a2:Int) (a3:Int) (a4:Int):Option (List Ce) :=
  bif (Nat.ble ((a0.length+1)*72) 140737488355328 && a0.all fun t=>Nat.ble ((t.lines.length+1)*16) 140737488355328) then
    some ((ixd (fun t:Ce=>decide (t.site=a1)) ⟨a1,a2,false,[]⟩ a0).1.modify (ixd (fun t:Ce=>decide (t.site=a1)) ⟨a1,a2,false,[]⟩ a0).2 (aA8 a2 a3 a4)) else none

def M4 (N:Nat) (a3:Int):List Ln→Nat→Option (Ctl Int Unit)
  |[],k13=>some (.next ())
  |x19::rest16,k13=>(bif decide (x19.cls=a3) then some (.ret x19.found) else M4 N a3 rest16 (k13+1))

def O3 (N:Nat) (a0:(List Ce)) (a1:St) (a2:Int) (a3:Int):Option Int :=
  ((O7 N a0 a1).bind fun r1=>(((bif decide (r1 < (0:Int)) then some (true) else ((X8 a0 r1).bind fun x7=>some ((!decide (x7.epoch=a2))))):Option Bool).bind fun v3=>(bif v3 then some (-1:Int) else ((X8 a0 r1).bind fun x10=>((M4 N a3 x10.lines 0).bind fun o=>match o with|.ret r=>some r|.next ()=>some (-1:Int))))))

def l8 (N:Nat) (a0:(List Me)) (a1:ByteArray) (g2:(Me→ByteArray→Option Int)):Nat→Int→Int→Option (Int)
  |0,_,_=>none
  |n12+1,v3,v4=>(bif decide (v3 < v4) then (((bif decide (0≤(wr (v3+v4))) then (bif decide (P8 ((wr (v3+v4)) / 2)) then ((X8 a0 ((wr (v3+v4)) / 2)).bind fun x20=>((g2 x20 a1).bind fun r22=>(((bif decide (r22 < (0:Int)) then some (((wr (((wr (v3+v4)) / 2)+(1:Int))),v4)) else some ((v3,((wr (v3+v4)) / 2)))):Option (Int×Int)).bind fun (v24,v25)=>some ((v24,v25))))) else none) else none):Option (Int×Int)).bind fun (v14,v15)=>l8 N a0 a1 g2 n12 v14 v15) else some (v3))

def z8 (N:Nat) (a0:(List Me)) (a1:ByteArray) (g2:Me→ByteArray→Option Int):Option (Int×Bool) :=
  ((l8 N a0 a1 g2 N (0:Int) (a0.length:Int)).bind fun v7=>(((bif decide (v7 < (a0.length:Int)) then ((X8 a0 v7).bind fun x33=>((g2 x33 a1).bind fun r35=>some (decide (r35=(0:Int))))) else some (false)):Option Bool).bind fun v29=>some (v7,v29)))

def cmp_isNaN_string (N:Nat) (a0:ByteArray):Option Bool :=
  some (!decide (a0=a0))

def U9 (N:Nat) (a0:ByteArray) (a1:ByteArray):Option Int :=
  ((cmp_isNaN_string N a0).bind fun r1=>((cmp_isNaN_string N a1).bind fun r3=>(bif r1 then (bif r3 then some (0:Int) else some (-1:Int)) else (bif r3 then some (1:Int) else (bif (ltS a0 a1) then some (-1:Int) else (bif (!(ltS a0 a1 || decide (a0=a1))) then some (1:Int) else some (0:Int)))))))

def aB2 (N:Nat) (a0:Me) (a1:ByteArray):Option Int :=
  ((U9 N a0.name a1).bind fun r1=>some r1)

def S9 (N:Nat) (a0:Wd) (a2:ByteArray):Nat→Int→Int→Option (Ctl (Int×Int) Unit)
  |0,_,_=>none
  |n10+1,v2,v3=>(((bif decide ((0:Int)≤v2) then (bif decide (v2 < (a0.classes.length:Int)) then some (decide (v3≤(a0.classes.length:Int))) else some (false)) else some (false)):Option Bool).bind fun v11=>(bif v11 then ((X8 a0.classes v2).bind fun x19=>((z8 N x19.methods a2 (fun x0_ x1_=>aB2 N x0_ x1_)).bind fun r21=>(bif r21.2 then some (.ret (v2,r21.1)) else ((X8 a0.classes v2).bind fun x24=>S9 N a0 a2 n10 x24.super (wr (v3+(1:Int))))))) else some (.next ())))

def aC6 (N:Nat) (a0:Wd) (a1:Int) (a2:ByteArray):Option (Int×Int) :=
  ((S9 N a0 a2 N a1 (0:Int)).bind fun o=>match o with|.ret r=>some r|.next ()=>some ((-1:Int),(-1:Int)))

def aJ8 (N:Nat) (a0:(List Ce)) (a1:Wd) (a2:St) (a3:Int) (a4:ByteArray):Option ((List Ce)×Int×Int×Bool) :=
  ((O3 N a0 a2 a1.epoch a3).bind fun r1=>(((bif decide ((0:Int)≤r1) then some (decide (r1 < (a1.classes.length:Int))) else some (false)):Option Bool).bind fun v3=>(bif v3 then ((aC6 N a1 r1 a4).bind fun r9=>((aC0 N a0).bind fun r11=>some (r11,r9.1,r9.2,true))) else ((aC6 N a1 a3 a4).bind fun r13=>(bif decide (r13.2 < (0:Int)) then ((aC0 N a0).bind fun r16=>some (r16,r13.1,r13.2,false)) else ((U6 N a0 a2 a1.epoch a3 r13.1).bind fun r18=>some (r18,r13.1,r13.2,false)))))))

def Z4 (N:Nat):Option Bool :=
  ((U6 N [] (⟨(4:Int),(⟨#[109]⟩:ByteArray),(2:Int)⟩:St) (3:Int) (5:Int) (4:Int)).bind fun r1=>((aS5 N).bind fun r3=>((aJ8 N [] r3 (⟨(4:Int),(⟨#[109]⟩:ByteArray),(2:Int)⟩:St) (3:Int) (⟨#[43]⟩:ByteArray)).bind fun r5=>(((bif decide ((r1.length:Int)=(1:Int)) then ((O3 N r1 (⟨(4:Int),(⟨#[109]⟩:ByteArray),(2:Int)⟩:St) (3:Int) (5:Int)).bind fun r12=>(bif decide (r12=(4:Int)) then ((O3 N r1 (⟨(4:Int),(⟨#[109]⟩:ByteArray),(2:Int)⟩:St) (2:Int) (5:Int)).bind fun r15=>(bif decide (r15=(-1:Int)) then ((aC0 N r1).bind fun r18=>(bif decide ((r18.length:Int)=(1:Int)) then (bif decide ((r5.1.length:Int)=(1:Int)) then (bif decide (r5.2.1=(3:Int)) then (bif decide (r5.2.2.1=(1:Int)) then some ((!r5.2.2.2)) else some (false)) else some (false)) else some (false)) else some (false))) else some (false))) else some (false))) else some (false)):Option Bool).bind fun v7=>some v7))))

def aT2 (N:Nat) (a0:St) (a1:Int) (l:List Ce) (n:Int) (k:Int):Option Unit :=
  (O3 N l a0 a1 k).bind fun g=>bif (!decide (g=(bif decide (n≤3) then k else (-1)))) && decide (0≤k) then none else some ()
def I9 (N:Nat) (a0:St) (a1:Int) (l:List Ce) (n:Int):List (Int×Bool)→Option Unit
  |[]=>some ()
  |p::q=>(aT2 N a0 a1 l n p.1).bind fun _=>I9 N a0 a1 l n q
def I4 (N:Nat) (a0:St) (a1:Int):List Int→Nat→(List Ce)→(List (Int×Bool))→Option (Ctl Bool Unit)
  |[],k5,v6,v7=>some (.next ())
  |x15::rest12,k5,v6,v7=>((U6 N v6 a0 a1 x15 x15).bind fun r18=>(bif Nat.ble (v7.length+1) 140737488355328 then (((bif (!decide ((r18.length:Int)=(1:Int))) then some (true) else ((X8 r18 (0:Int)).bind fun x26=>some (decide ((3:Int) < (x26.lines.length:Int))))):Option Bool).bind fun v21=>(bif v21 then some (.ret false) else (I9 N a0 a1 r18 ((N7 x15 true v7).length:Int) (N7 x15 true v7)).bind fun _=>I4 N a0 a1 rest12 (k5+1) r18 (N7 x15 true v7))) else none))

def U3 (N:Nat) (a0:St) (a1:Int) (a2:(List Int)):Option Bool :=
  ((Z4 N).bind fun r1=>(bif (!r1) then some false else ((I4 N a0 a1 a2 0 ([]:List Ce) ([]:(List (Int×Bool)))).bind fun o=>match o with|.ret r=>some r|.next ()=>some true)))
end Go.Proofs.Ytahmeibkdhbngaa
