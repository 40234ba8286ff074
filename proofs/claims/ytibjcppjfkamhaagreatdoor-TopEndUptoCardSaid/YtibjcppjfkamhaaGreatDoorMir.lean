/- Functions that mirror the program's. Printed by mir.py. -/
import Derived.Test.YtibjcppjfkamhaaGreatDoorHd
namespace Go.Proofs.YtibjcppjfkamhaaGreatDoor
open Go.RowKit
set_option linter.unusedVariables false

def aY7 (N:Nat) (a0:Int):Option V :=
  some (⟨(3:Int),a0⟩:V)

def aU7 (N:Nat) (a0:Int) (a1:V) (a2:ByteArray) (a3:(List V)):Option aC3 :=
  some (⟨a0,ByteArray.empty,(0:Int),(0:Int),(⟨ByteArray.empty,(0:Int),(0:Int),(0:Int),[]⟩:Me),(⟨a1,a2,a3⟩:V7)⟩:aC3)

def bG3 (N:Nat):Option F7 :=
  ((bP4 N).bind fun r1=>some (⟨r1,[],[],[]⟩:F7))

def aI7 (N:Nat) (a0:List V):Option (List V):=bif Nat.ble (a0.length*16) 140737488355328 then some a0 else none

def aQ5 (N:Nat):List Ob→Nat→(List Ob)→Option ((List Ob))
  |[],k2,v3=>some (v3)
  |x11::rest8,k2,v3=>((aI7 N x11.slots).bind fun r14=>(bif Nat.ble ((v3.length+[(⟨x11.cls,r14⟩:Ob)].length)*32) 140737488355328 then aQ5 N rest8 (k2+1) (v3++[(⟨x11.cls,r14⟩:Ob)]) else none))

def aU1 (N:Nat) (a0:(List Ob)):Option (List Ob) :=
  ((aQ5 N a0 0 ([]:List Ob)).bind fun v5=>some v5)

def bB6 (N:Nat) (a0:List Ins):Option (List Ins):=bif Nat.ble (a0.length*48) 140737488355328 then some a0 else none

def aJ9 (N:Nat) (a0:Me):Option Me :=
  ((bB6 N a0.code).bind fun r1=>some (⟨a0.name,a0.args,a0.temps,a0.prim,r1⟩:Me))

def aQ0 (N:Nat):List Me→Nat→(List Me)→Option ((List Me))
  |[],k17,v18=>some (v18)
  |x26::rest23,k17,v18=>((aJ9 N x26).bind fun r29=>(bif Nat.ble ((v18.length+[r29].length)*64) 140737488355328 then aQ0 N rest23 (k17+1) (v18++[r29]) else none))

def aQ9 (N:Nat):List Cl→Nat→(List Cl)→Option ((List Cl))
  |[],k4,v5=>some (v5)
  |x13::rest10,k4,v5=>((aQ0 N x13.methods 0 ([]:List Me)).bind fun v20=>(bif Nat.ble ((v5.length+[(⟨x13.name,x13.super,x13.slots,v20⟩:Cl)].length)*56) 140737488355328 then aQ9 N rest10 (k4+1) (v5++[(⟨x13.name,x13.super,x13.slots,v20⟩:Cl)]) else none))

def aH7 (N:Nat) (a0:Wd):Option Wd :=
  ((aU1 N a0.heap).bind fun r1=>((aQ9 N a0.classes 0 ([]:List Cl)).bind fun v7=>some (⟨v7,r1,a0.epoch⟩:Wd)))

def aA9 (N:Nat) (a0:List Ln):Option (List Ln):=bif Nat.ble (a0.length*16) 140737488355328 then some a0 else none

def aP7 (N:Nat):List Ce→Nat→(List Ce)→Option ((List Ce))
  |[],k2,v3=>some (v3)
  |x11::rest8,k2,v3=>((aA9 N x11.lines).bind fun r14=>(bif Nat.ble ((v3.length+[(⟨x11.site,x11.epoch,x11.many,r14⟩:Ce)].length)*72) 140737488355328 then aP7 N rest8 (k2+1) (v3++[(⟨x11.site,x11.epoch,x11.many,r14⟩:Ce)]) else none))

def aU3 (N:Nat) (a0:(List Ce)):Option (List Ce) :=
  ((aP7 N a0 0 ([]:List Ce)).bind fun v5=>some v5)

def aP4 (N:Nat):List Tl→Nat→(List Tl)→Option ((List Tl))
  |[],k2,v3=>some (v3)
  |x11::rest8,k2,v3=>((aA9 N x11.classes).bind fun r14=>(bif Nat.ble ((v3.length+[(⟨x11.site,r14⟩:Tl)].length)*56) 140737488355328 then aP4 N rest8 (k2+1) (v3++[(⟨x11.site,r14⟩:Tl)]) else none))

def bD9 (N:Nat) (a0:(List Tl)):Option (List Tl) :=
  ((aP4 N a0 0 ([]:List Tl)).bind fun v5=>some v5)

def bC9 (N:Nat) (a0:List Int):Option (List Int):=bif Nat.ble (a0.length*1) 140737488355328 then some a0 else none

def bF5 (N:Nat) (a0:F7):Option F7 :=
  ((aH7 N a0.world).bind fun r1=>((aU3 N a0.cells).bind fun r3=>((bD9 N a0.tallies).bind fun r5=>((bC9 N a0.saved).bind fun r7=>some (⟨r1,r3,r5,r7⟩:F7)))))

def aN2 (N:Nat) (a0:ByteArray):Nat→Nat→Option (F3 Bool Unit)
  |0,k9=>some (.next ())
  |n14+1,k9=>((((byO a0 (k9:Int)).bind fun u21=>(bif decide ((u21.toNat:Int)≤(32:Int)) then some (true) else ((byO a0 (k9:Int)).bind fun u24=>some (decide ((126:Int) < (u24.toNat:Int)))))):Option Bool).bind fun v18=>(bif v18 then some (.ret false) else aN2 N a0 n14 (k9+1)))

def aK7 (N:Nat) (a0:ByteArray):Option Bool :=
  (((bif decide ((a0.size:Int) < (1:Int)) then some (true) else some (decide ((12:Int) < (a0.size:Int)))):Option Bool).bind fun v1=>(bif v1 then some false else ((aN2 N a0 (((a0.size:Int) - ((0:Nat):Int)).toNat) 0).bind fun o=>match o with|.ret r=>some r|.next ()=>some true)))

def K5 (N:Nat) (g1:(Cl→Option Bool)):List Cl→Nat→Option (F3 Int Unit)
  |[],k2=>some (.next ())
  |x8::rest5,k2=>((g1 x8).bind fun r11=>(bif r11 then some (.ret (k2:Int)) else K5 N g1 rest5 (k2+1)))

def U5 (N:Nat) (a0:(List Cl)) (g1:Cl→Option Bool):Option Int :=
  ((K5 N g1 a0 0).bind fun o=>match o with|.ret r=>some r|.next ()=>some (-1:Int))

def Q6 (N:Nat) (a0:(List Cl)) (g1:Cl→Option Bool):Option Bool :=
  ((U5 N a0 g1).bind fun r1=>some (decide ((0:Int)≤r1)))

def aU6 (N:Nat) (a0:Cl) (b0:ByteArray):Option Bool :=
  some (decide (a0.name=b0))

def aJ8 (N:Nat) (a0:Wd):Nat→Int→Int→Int→Option (Int)
  |0,_,_,_=>none
  |n13+1,v2,v3,v4=>(((bif decide ((0:Int)≤v2) then (bif decide (v2 < (a0.classes.length:Int)) then some (decide (v4≤(a0.classes.length:Int))) else some (false)) else some (false)):Option Bool).bind fun v14=>(bif v14 then ((F4 a0.classes v2).bind fun x22=>((F4 a0.classes v2).bind fun x24=>aJ8 N a0 n13 x24.super (wr (v3+x22.slots)) (wr (v4+(1:Int))))) else some (v3)))

def aC4 (N:Nat) (a0:Wd) (a1:Int):Option Int :=
  ((aJ8 N a0 N a1 (0:Int) (0:Int)).bind fun v8=>some v8)

def aK0 (N:Nat):List Me→Nat→(List Me)→Option ((List Me))
  |[],k17,v18=>some (v18)
  |x26::rest23,k17,v18=>((aJ9 N x26).bind fun r29=>(bif Nat.ble ((v18.length+[r29].length)*64) 140737488355328 then aK0 N rest23 (k17+1) (v18++[r29]) else none))

def aJ0 (N:Nat):List Cl→Nat→(List Cl)→Option ((List Cl))
  |[],k4,v5=>some (v5)
  |x13::rest10,k4,v5=>((aK0 N x13.methods 0 ([]:List Me)).bind fun v20=>(bif Nat.ble ((v5.length+[(⟨x13.name,x13.super,x13.slots,v20⟩:Cl)].length)*56) 140737488355328 then aJ0 N rest10 (k4+1) (v5++[(⟨x13.name,x13.super,x13.slots,v20⟩:Cl)]) else none))

def bF6 (N:Nat) (a0:Wd):Option Wd :=
  ((aU1 N a0.heap).bind fun r1=>((aJ0 N a0.classes 0 ([]:List Cl)).bind fun v7=>some (⟨v7,r1,a0.epoch⟩:Wd)))

def bK3 (N:Nat) (a0:Wd) (a1:ByteArray) (a2:Int) (a3:Int):Option (Wd×Int×Int) :=
  ((((aK7 N a1).bind fun r4=>(bif (!r4) then some (true) else ((Q6 N a0.classes (fun x0_=>aU6 N x0_ a1)).bind fun r7=>some (r7)))):Option Bool).bind fun v1=>(bif v1 then some ((⟨[],[],(0:Int)⟩:Wd),(0:Int),(7:Int)) else (((bif decide (a2 < (0:Int)) then some (true) else some (decide ((a0.classes.length:Int)≤a2))):Option Bool).bind fun v10=>(bif v10 then some ((⟨[],[],(0:Int)⟩:Wd),(0:Int),(6:Int)) else (((bif decide (a3 < (0:Int)) then some (true) else ((aC4 N a0 a2).bind fun r20=>(bif decide ((wr ((6:Int) - r20)) < a3) then some (true) else (bif (!decide (a2=(0:Int))) then some (decide (a2 < (4:Int))) else some (false))))):Option Bool).bind fun v16=>(bif v16 then some ((⟨[],[],(0:Int)⟩:Wd),(0:Int),(3:Int)) else (bif decide ((12:Int)≤(a0.classes.length:Int)) then some ((⟨[],[],(0:Int)⟩:Wd),(0:Int),(5:Int)) else ((bF6 N a0).bind fun r27=>(bif Nat.ble ((r27.classes.length+[(⟨a1,a2,a3,[]⟩:Cl)].length)*56) 140737488355328 then some ((⟨(r27.classes++[(⟨a1,a2,a3,[]⟩:Cl)]),r27.heap,r27.epoch⟩:Wd),(a0.classes.length:Int),(0:Int)) else none)))))))))

def aB9 (N:Nat) (a0:Int) (a1:Int):Option Bool :=
  (((bif decide ((0:Int)≤a0) then some (decide (a0 < a1)) else some (false)):Option Bool).bind fun v1=>some v1)

def a92 (N:Nat) (a0:Wd) (a1:Int) (a2:Me) (a3:Ins):Option Int :=
  (((((bif decide (a3.op=(1:Int)) then some (decide (a3.op=(1:Int))) else (((bif decide (a3.op=(6:Int)) then some (decide (a3.op=(6:Int))) else (((bif decide (a3.op=(7:Int)) then some (decide (a3.op=(7:Int))) else (((bif decide (a3.op=(8:Int)) then some (decide (a3.op=(8:Int))) else (((bif decide (a3.op=(9:Int)) then some (decide (a3.op=(9:Int))) else (((bif decide (a3.op=(10:Int)) then some (decide (a3.op=(10:Int))) else some (decide (a3.op=(17:Int)))):Option Bool).bind fun v25=>some (v25))):Option Bool).bind fun v21=>some (v21))):Option Bool).bind fun v17=>some (v17))):Option Bool).bind fun v13=>some (v13))):Option Bool).bind fun v9=>some (v9))):Option Bool).bind fun v5=>(((bif v5 then some (.next (decide (a3.a=(0:Int)),false)) else (((bif decide (a3.op=(2:Int)) then ((aB9 N a3.a a2.args).bind fun r39=>some (.next (r39,false))) else (((bif decide (a3.op=(3:Int)) then some (decide (a3.op=(3:Int))) else some (decide (a3.op=(11:Int)))):Option Bool).bind fun v41=>(((bif v41 then ((aB9 N a3.a a2.temps).bind fun r50=>some (.next (r50,false))) else (((bif decide (a3.op=(4:Int)) then some (decide (a3.op=(4:Int))) else some (decide (a3.op=(12:Int)))):Option Bool).bind fun v52=>(((bif v52 then ((aC4 N a0 a1).bind fun r61=>((aB9 N a3.a r61).bind fun r63=>some (.next (r63,false)))) else (((bif decide (a3.op=(5:Int)) then (((bif decide ((-1073741824:Int)≤a3.a) then some (decide (a3.a≤(1073741824:Int))) else some (false)):Option Bool).bind fun v70=>some (.next (v70,false))) else (((bif decide (a3.op=(13:Int)) then (((bif decide (a3.a=(0:Int)) then some (true) else (bif decide ((4:Int)≤a3.a) then some (decide (a3.a < (a0.classes.length:Int))) else some (false))):Option Bool).bind fun v79=>some (.next (v79,false))) else (((bif decide (a3.op=(14:Int)) then ((aB9 N a3.a (5:Int)).bind fun r90=>some (.next (r90,true))) else (((bif decide (a3.op=(15:Int)) then some (decide (a3.op=(15:Int))) else some (decide (a3.op=(16:Int)))):Option Bool).bind fun v92=>(bif v92 then ((aB9 N a3.a (a2.code.length:Int)).bind fun r98=>some (.next (r98,false))) else some (.ret (1:Int))))):Option (F3 Int (Bool×Bool))).bind fun o=>match o with|.ret r=>some (.ret r)|.next (v85,v86)=>some (.next (v85,v86)))):Option (F3 Int (Bool×Bool))).bind fun o=>match o with|.ret r=>some (.ret r)|.next (v74,v75)=>some (.next (v74,v75)))):Option (F3 Int (Bool×Bool))).bind fun o=>match o with|.ret r=>some (.ret r)|.next (v65,v66)=>some (.next (v65,v66)))):Option (F3 Int (Bool×Bool))).bind fun o=>match o with|.ret r=>some (.ret r)|.next (v56,v57)=>some (.next (v56,v57))))):Option (F3 Int (Bool×Bool))).bind fun o=>match o with|.ret r=>some (.ret r)|.next (v45,v46)=>some (.next (v45,v46))))):Option (F3 Int (Bool×Bool))).bind fun o=>match o with|.ret r=>some (.ret r)|.next (v34,v35)=>some (.next (v34,v35)))):Option (F3 Int (Bool×Bool))).bind fun o=>match o with|.ret r=>some (.ret r)|.next (v29,v30)=>some (.next (v29,v30)))):Option (F3 Int (Bool×Bool))).bind fun o=>match o with|.ret r=>some r|.next (v1,v2)=>(bif (!v1) then some (3:Int) else (((bif v2 then ((aK7 N a3.name).bind fun r105=>(bif (!r105) then some (true) else (bif (!v2) then (bif (!decide (a3.name=(⟨#[]⟩:ByteArray))) then some (true) else (bif (!decide (a3.b=(0:Int))) then some (true) else some ((!decide (a3.c=(0:Int)))))) else (bif (!decide (a3.b=(0:Int))) then some (true) else some ((!decide (a3.c=(0:Int)))))))) else (bif (!v2) then (bif (!decide (a3.name=(⟨#[]⟩:ByteArray))) then some (true) else (bif (!decide (a3.b=(0:Int))) then some (true) else some ((!decide (a3.c=(0:Int)))))) else (bif (!decide (a3.b=(0:Int))) then some (true) else some ((!decide (a3.c=(0:Int))))))):Option Bool).bind fun v101=>(bif v101 then some (2:Int) else some (0:Int)))))

def bF8 (N:Nat) (a0:Ins):Option (Int×Int) :=
  (((bif decide (a0.op=(9:Int)) then some (decide (a0.op=(9:Int))) else (((bif decide (a0.op=(11:Int)) then some (decide (a0.op=(11:Int))) else (((bif decide (a0.op=(12:Int)) then some (decide (a0.op=(12:Int))) else (((bif decide (a0.op=(16:Int)) then some (decide (a0.op=(16:Int))) else some (decide (a0.op=(17:Int)))):Option Bool).bind fun v13=>some (v13))):Option Bool).bind fun v9=>some (v9))):Option Bool).bind fun v5=>some (v5))):Option Bool).bind fun v1=>(bif v1 then some ((1:Int),(0:Int)) else (bif decide (a0.op=(10:Int)) then some ((1:Int),(2:Int)) else (bif decide (a0.op=(14:Int)) then some ((wr (a0.a+(1:Int))),(1:Int)) else (bif decide (a0.op=(15:Int)) then some ((0:Int),(0:Int)) else some ((0:Int),(1:Int)))))))

def aH3 (N:Nat):Nat→Nat→(List Int)→Option ((List Int))
  |0,k4,v5=>some (v5)
  |n12+1,k4,v5=>((F4 v5 (k4:Int)).bind fun x16=>aH3 N n12 (k4+1) (v5.set ((k4:Int).toNat) (-1:Int)))

def aI0 (N:Nat) (a0:Me):Nat→(List Int)→(List aA5)→Option (F3 ((List Int)×aA8) (List Int))
  |0,_,_=>none
  |n28+1,v19,v20=>(bif decide ((0:Int) < (v20.length:Int)) then ((((F4 v20 (0:Int)).bind fun x35=>((F4 v20 (0:Int)).bind fun x37=>(bif (decide (0≤(1:Int)) && decide ((1:Int)≤(v20.length:Int))) then (((bif decide (x35.f0 < (0:Int)) then some (true) else some (decide ((a0.code.length:Int)≤x35.f0))):Option Bool).bind fun v40=>(bif v40 then some (.ret (([]:List Int),(⟨(9:Int),(a0.code.length:Int)⟩:aA8))) else ((F4 v19 x35.f0).bind fun x47=>(bif decide ((0:Int)≤x47) then ((F4 v19 x35.f0).bind fun x50=>(bif (!decide (x50=x37.f1)) then some (.ret (([]:List Int),(⟨(8:Int),x35.f0⟩:aA8))) else some (.next (v19,(v20.drop (1:Int).toNat))))) else ((F4 v19 x35.f0).bind fun x53=>((F4 a0.code x35.f0).bind fun x55=>((bF8 N x55).bind fun r57=>(((bif decide (x37.f1 < r57.1) then some (true) else (bif decide (x55.op=(17:Int)) then some ((!decide (x37.f1=(1:Int)))) else some (false))):Option Bool).bind fun v59=>(bif v59 then some (.ret (([]:List Int),(⟨(8:Int),x35.f0⟩:aA8))) else (bif decide ((12:Int) < (wr (x37.f1+(wr (r57.2 - r57.1))))) then some (.ret (([]:List Int),(⟨(4:Int),x35.f0⟩:aA8))) else (((bif (!decide (x55.op=(15:Int))) then some ((!decide (x55.op=(17:Int)))) else some (false)):Option Bool).bind fun v66=>(((bif v66 then (bif Nat.ble (((v20.drop (1:Int).toNat).length+[(⟨(wr (x35.f0+(1:Int))),(wr (x37.f1+(wr (r57.2 - r57.1))))⟩:aA5)].length)*16) 140737488355328 then some (((v20.drop (1:Int).toNat)++[(⟨(wr (x35.f0+(1:Int))),(wr (x37.f1+(wr (r57.2 - r57.1))))⟩:aA5)])) else none) else some ((v20.drop (1:Int).toNat))):Option (List aA5)).bind fun v70=>(((bif decide (x55.op=(15:Int)) then some (true) else some (decide (x55.op=(16:Int)))):Option Bool).bind fun v75=>(((bif v75 then (bif Nat.ble ((v70.length+[(⟨x55.a,(wr (x37.f1+(wr (r57.2 - r57.1))))⟩:aA5)].length)*16) 140737488355328 then some ((v70++[(⟨x55.a,(wr (x37.f1+(wr (r57.2 - r57.1))))⟩:aA5)])) else none) else some (v70)):Option (List aA5)).bind fun v79=>some (.next ((v19.set x35.f0.toNat x37.f1),v79)))))))))))))))) else none))):Option (F3 ((List Int)×aA8) ((List Int)×(List aA5)))).bind fun o=>match o with|.ret r=>some (.ret r)|.next (v31,v32)=>aI0 N a0 n28 v31 v32) else some (.next v19))

def bD3 (N:Nat) (a0:Me):Option ((List Int)×aA8) :=
  (bif (decide (0≤(a0.code.length:Int)) && decide ((a0.code.length:Int)≤140737488355328) && decide ((a0.code.length:Int)*8≤140737488355328)) then ((aH3 N ((((List.replicate (a0.code.length:Int).toNat (0:Int)).length:Int) - ((0:Nat):Int)).toNat) 0 (List.replicate (a0.code.length:Int).toNat (0:Int))).bind fun v7=>((aI0 N a0 N v7 [(⟨(0:Int),(0:Int)⟩:aA5)]).bind fun o=>match o with|.ret r=>some r|.next v23=>some (v23,(⟨(0:Int),(0:Int)⟩:aA8)))) else none)

def aM1 (N:Nat) (a0:Wd) (a1:Int) (a2:Me):List Ins→Nat→Option (F3 aA8 Unit)
  |[],k26=>some (.next ())
  |x32::rest29,k26=>((a92 N a0 a1 a2 x32).bind fun r35=>(bif (!decide (r35=(0:Int))) then some (.ret (⟨r35,(k26:Int)⟩:aA8)) else aM1 N a0 a1 a2 rest29 (k26+1)))

def a15 (N:Nat) (a0:Wd) (a1:Int) (a2:Me):Option aA8 :=
  (((bif decide (a1 < (0:Int)) then some (true) else some (decide ((a0.classes.length:Int)≤a1))):Option Bool).bind fun v1=>(bif v1 then some (⟨(6:Int),(0:Int)⟩:aA8) else ((aK7 N a2.name).bind fun r7=>(bif (!r7) then some (⟨(7:Int),(0:Int)⟩:aA8) else (((bif decide (a2.args < (0:Int)) then some (true) else (bif decide ((4:Int) < a2.args) then some (true) else (bif decide (a2.temps < (0:Int)) then some (true) else some (decide ((6:Int) < a2.temps))))):Option Bool).bind fun v10=>(bif v10 then some (⟨(3:Int),(0:Int)⟩:aA8) else (bif (!decide (a2.prim=(0:Int))) then some (⟨(1:Int),(0:Int)⟩:aA8) else (((bif decide ((a2.code.length:Int) < (1:Int)) then some (true) else some (decide ((60:Int) < (a2.code.length:Int)))):Option Bool).bind fun v18=>(bif v18 then some (⟨(5:Int),(0:Int)⟩:aA8) else ((aM1 N a0 a1 a2 a2.code 0).bind fun o=>match o with|.ret r=>some r|.next ()=>((bD3 N a2).bind fun r38=>some r38.2)))))))))))

def G6 (N:Nat) (a0:(List Me)) (a1:ByteArray) (g2:(Me→ByteArray→Option Int)):Nat→Int→Int→Option (Int)
  |0,_,_=>none
  |n12+1,v3,v4=>(bif decide (v3 < v4) then (((bif decide (0≤(wr (v3+v4))) then (bif decide (InR ((wr (v3+v4)) / 2)) then ((F4 a0 ((wr (v3+v4)) / 2)).bind fun x20=>((g2 x20 a1).bind fun r22=>(((bif decide (r22 < (0:Int)) then some (((wr (((wr (v3+v4)) / 2)+(1:Int))),v4)) else some ((v3,((wr (v3+v4)) / 2)))):Option (Int×Int)).bind fun (v24,v25)=>some ((v24,v25))))) else none) else none):Option (Int×Int)).bind fun (v14,v15)=>G6 N a0 a1 g2 n12 v14 v15) else some (v3))

def J5 (N:Nat) (a0:(List Me)) (a1:ByteArray) (g2:Me→ByteArray→Option Int):Option (Int×Bool) :=
  ((G6 N a0 a1 g2 N (0:Int) (a0.length:Int)).bind fun v7=>(((bif decide (v7 < (a0.length:Int)) then ((F4 a0 v7).bind fun x33=>((g2 x33 a1).bind fun r35=>some (decide (r35=(0:Int))))) else some (false)):Option Bool).bind fun v29=>some (v7,v29)))

def cmp_isNaN_string (N:Nat) (a0:ByteArray):Option Bool :=
  some (!decide (a0=a0))

def aO9 (N:Nat) (a0:ByteArray) (a1:ByteArray):Option Int :=
  ((cmp_isNaN_string N a0).bind fun r1=>((cmp_isNaN_string N a1).bind fun r3=>(bif r1 then (bif r3 then some (0:Int) else some (-1:Int)) else (bif r3 then some (1:Int) else (bif (ltS a0 a1) then some (-1:Int) else (bif (!(ltS a0 a1 || decide (a0=a1))) then some (1:Int) else some (0:Int)))))))

def aN3 (N:Nat) (a0:Me) (a1:ByteArray):Option Int :=
  ((aO9 N a0.name a1).bind fun r1=>some r1)

def aK2 (N:Nat):List Me→Nat→(List Me)→Option ((List Me))
  |[],k17,v18=>some (v18)
  |x26::rest23,k17,v18=>((aJ9 N x26).bind fun r29=>(bif Nat.ble ((v18.length+[r29].length)*64) 140737488355328 then aK2 N rest23 (k17+1) (v18++[r29]) else none))

def aI8 (N:Nat):List Cl→Nat→(List Cl)→Option ((List Cl))
  |[],k4,v5=>some (v5)
  |x13::rest10,k4,v5=>((aK2 N x13.methods 0 ([]:List Me)).bind fun v20=>(bif Nat.ble ((v5.length+[(⟨x13.name,x13.super,x13.slots,v20⟩:Cl)].length)*56) 140737488355328 then aI8 N rest10 (k4+1) (v5++[(⟨x13.name,x13.super,x13.slots,v20⟩:Cl)]) else none))

def bF9 (N:Nat) (a0:Wd):Option Wd :=
  ((aU1 N a0.heap).bind fun r1=>((aI8 N a0.classes 0 ([]:List Cl)).bind fun v7=>some (⟨v7,r1,a0.epoch⟩:Wd)))

def a03 (N:Nat) (a0:Wd) (a1:Int) (a2:Me):Option (Wd×Int) :=
  (((bif decide (a1 < (0:Int)) then some (true) else some (decide ((a0.classes.length:Int)≤a1))):Option Bool).bind fun v1=>(bif v1 then some ((⟨[],[],(0:Int)⟩:Wd),(6:Int)) else ((F4 a0.classes a1).bind fun x7=>((J5 N x7.methods a2.name (fun x0_ x1_=>aN3 N x0_ x1_)).bind fun r9=>(((bif (!r9.2) then ((F4 a0.classes a1).bind fun x15=>some (decide ((8:Int)≤(x15.methods.length:Int)))) else some (false)):Option Bool).bind fun v11=>(bif v11 then some ((⟨[],[],(0:Int)⟩:Wd),(5:Int)) else ((bF9 N a0).bind fun r19=>((F4 r19.classes a1).bind fun x21=>(((bif (!r9.2) then ((aU0 N x21.methods r9.1 [(⟨ByteArray.empty,(0:Int),(0:Int),(0:Int),[]⟩:Me)]).bind fun r27=>some ((r19.classes.set a1.toNat (⟨x21.name,x21.super,x21.slots,r27⟩:Cl)))) else some (r19.classes)):Option (List Cl)).bind fun v23=>((v23[a1.toNat]?).bind fun x29=>((aJ9 N a2).bind fun r31=>((F4 x29.methods r9.1).bind fun x33=>some ((⟨(v23.set a1.toNat (⟨x29.name,x29.super,x29.slots,(x29.methods.set r9.1.toNat r31)⟩:Cl)),r19.heap,(wr (r19.epoch+(1:Int)))⟩:Wd),(0:Int))))))))))))))

def aX6 (N:Nat) (a0:F7) (a1:Int) (a2:Me):Option (N7×F7) :=
  ((a15 N a0.world a1 a2).bind fun r1=>(bif (!decide (r1.err=(0:Int))) then some ((⟨r1.err,r1.at_,(⟨(0:Int),(0:Int)⟩:V)⟩:N7),a0) else ((a03 N a0.world a1 a2).bind fun r4=>(((bif decide (r4.2=(0:Int)) then some ((⟨r4.1,a0.cells,a0.tallies,a0.saved⟩:F7)) else some (a0)):Option F7).bind fun v6=>some ((⟨r4.2,(0:Int),(⟨(0:Int),(0:Int)⟩:V)⟩:N7),v6)))))

def bE4 (N:Nat) (a0:(List Ob)) (a1:Int) (a2:Int):Option ((List Ob)×V×Int) :=
  (bif decide ((60:Int)≤(a0.length:Int)) then some (([]:List Ob),(⟨(0:Int),(0:Int)⟩:V),(15:Int)) else ((aU1 N a0).bind fun r3=>(bif (decide (0≤(max a2 (0:Int))) && decide ((max a2 (0:Int))≤140737488355328) && decide ((max a2 (0:Int))*16≤140737488355328)) then (bif Nat.ble ((r3.length+[(⟨a1,(List.replicate (max a2 (0:Int)).toNat (⟨(0:Int),(0:Int)⟩:V))⟩:Ob)].length)*32) 140737488355328 then some ((r3++[(⟨a1,(List.replicate (max a2 (0:Int)).toNat (⟨(0:Int),(0:Int)⟩:V))⟩:Ob)]),(⟨(4:Int),(a0.length:Int)⟩:V),(0:Int)) else none) else none)))

def bA4 (N:Nat) (a0:F7) (a1:Int):Option (N7×F7) :=
  (((bif (!decide (a1=(0:Int))) then (bif decide (a1 < (4:Int)) then some (true) else some (decide ((a0.world.classes.length:Int)≤a1))) else some (false)):Option Bool).bind fun v1=>(bif v1 then some ((⟨(6:Int),(0:Int),(⟨(0:Int),(0:Int)⟩:V)⟩:N7),a0) else ((aC4 N a0.world a1).bind fun r8=>((bE4 N a0.world.heap a1 r8).bind fun r10=>(bif (!decide (r10.2.2=(0:Int))) then some ((⟨r10.2.2,(0:Int),(⟨(0:Int),(0:Int)⟩:V)⟩:N7),a0) else some ((⟨(0:Int),r10.2.1.n,r10.2.1⟩:N7),(⟨(⟨a0.world.classes,r10.1,a0.world.epoch⟩:Wd),a0.cells,a0.tallies,a0.saved⟩:F7)))))))

def aX9 (N:Nat) (a0:V) (a1:Int):Option Int :=
  (((((bif decide (a0.k=(0:Int)) then some (decide (a0.k=(0:Int))) else (((bif decide (a0.k=(1:Int)) then some (decide (a0.k=(1:Int))) else some (decide (a0.k=(2:Int)))):Option Bool).bind fun v7=>some (v7))):Option Bool).bind fun v3=>(((bif v3 then (bif (!decide (a0.n=(0:Int))) then some (.ret (2:Int)) else some (.next ())) else (((bif decide (a0.k=(3:Int)) then (((bif decide (a0.n < (-1073741824:Int)) then some (true) else some (decide ((1073741824:Int) < a0.n))):Option Bool).bind fun v18=>(bif v18 then some (.ret (3:Int)) else some (.next ()))) else (bif decide (a0.k=(4:Int)) then (((bif decide (a0.n < (0:Int)) then some (true) else some (decide (a1≤a0.n))):Option Bool).bind fun v24=>(bif v24 then some (.ret (6:Int)) else some (.next ()))) else some (.ret (1:Int)))):Option (F3 Int Unit)).bind fun o=>match o with|.ret r=>some (.ret r)|.next ()=>some (.next ()))):Option (F3 Int Unit)).bind fun o=>match o with|.ret r=>some (.ret r)|.next ()=>some (.next ()))):Option (F3 Int Unit)).bind fun o=>match o with|.ret r=>some r|.next ()=>some (0:Int))

def aP0 (N:Nat) (a0:Wd) (a1:V7):List V→Nat→Option (F3 Int Unit)
  |[],k13=>some (.next ())
  |x19::rest16,k13=>((F4 ([a1.self_]++a1.args) (k13:Int)).bind fun x22=>((aX9 N x22 (a0.heap.length:Int)).bind fun r25=>(bif (!decide (r25=(0:Int))) then some (.ret r25) else aP0 N a0 a1 rest16 (k13+1))))

def bF0 (N:Nat) (a0:Wd) (a1:V7) (a2:Int):Option Int :=
  ((aK7 N a1.name).bind fun r1=>(bif (!r1) then some (7:Int) else (bif decide ((4:Int) < (a1.args.length:Int)) then some (5:Int) else (((bif decide (a2 < (0:Int)) then some (true) else some (decide ((400:Int) < a2))):Option Bool).bind fun v6=>(bif v6 then some (3:Int) else (bif Nat.ble (([a1.self_].length+a1.args.length)*16) 140737488355328 then ((aP0 N a0 a1 ([a1.self_]++a1.args) 0).bind fun o=>match o with|.ret r=>some r|.next ()=>some (0:Int)) else none))))))

def aI1 (N:Nat) (a0:(List Ob)) (a1:V):Option Int :=
  (bif decide (a1.k=(0:Int)) then some (1:Int) else (((bif decide (a1.k=(1:Int)) then some (decide (a1.k=(1:Int))) else some (decide (a1.k=(2:Int)))):Option Bool).bind fun v2=>(bif v2 then some (2:Int) else (bif decide (a1.k=(3:Int)) then some (3:Int) else (((bif decide (a1.k=(4:Int)) then (bif decide ((0:Int)≤a1.n) then some (decide (a1.n < (a0.length:Int))) else some (false)) else some (false)):Option Bool).bind fun v8=>(bif v8 then ((F4 a0 a1.n).bind fun x15=>some x15.cls) else some (0:Int)))))))

def aM3 (N:Nat) (a0:Wd) (a2:ByteArray):Nat→Int→Int→Option (F3 (Int×Int) Unit)
  |0,_,_=>none
  |n10+1,v2,v3=>(((bif decide ((0:Int)≤v2) then (bif decide (v2 < (a0.classes.length:Int)) then some (decide (v3≤(a0.classes.length:Int))) else some (false)) else some (false)):Option Bool).bind fun v11=>(bif v11 then ((F4 a0.classes v2).bind fun x19=>((J5 N x19.methods a2 (fun x0_ x1_=>aN3 N x0_ x1_)).bind fun r21=>(bif r21.2 then some (.ret (v2,r21.1)) else ((F4 a0.classes v2).bind fun x24=>aM3 N a0 a2 n10 x24.super (wr (v3+(1:Int))))))) else some (.next ())))

def aB3 (N:Nat) (a0:Wd) (a1:Int) (a2:ByteArray):Option (Int×Int) :=
  ((aM3 N a0 a2 N a1 (0:Int)).bind fun o=>match o with|.ret r=>some r|.next ()=>some ((-1:Int),(-1:Int)))

def H6 (N:Nat) (a0:l7) (a1:Int):Option l7 :=
  (((bif decide (a0.err=(0:Int)) then some (a1) else some (a0.err)):Option Int).bind fun v1=>some (⟨(⟨a0.w.classes,a0.w.heap,a0.w.epoch⟩:Wd),a0.fuel,a0.sends,a0.turns,a0.frames,a0.back,v1⟩:l7))

def O6 (N:Nat) (a0:l7) (a1:Bool):Option (Bool×l7) :=
  (((((bif decide (a0.fuel≤a0.sends) then ((H6 N (⟨(⟨a0.w.classes,a0.w.heap,a0.w.epoch⟩:Wd),a0.fuel,a0.sends,a0.turns,a0.frames,a0.back,a0.err⟩:l7) (13:Int)).bind fun r18=>some (.next (r18.fuel,r18.sends,r18.turns,r18.back.k,r18.back.n,r18.err))) else (((bif a1 then some (decide ((20:Int)≤(a0.frames.length:Int))) else some (false)):Option Bool).bind fun v20=>(bif v20 then ((H6 N (⟨(⟨a0.w.classes,a0.w.heap,a0.w.epoch⟩:Wd),a0.fuel,a0.sends,a0.turns,a0.frames,a0.back,a0.err⟩:l7) (14:Int)).bind fun r26=>some (.next (r26.fuel,r26.sends,r26.turns,r26.back.k,r26.back.n,r26.err))) else some (.ret (true,(⟨(⟨a0.w.classes,a0.w.heap,a0.w.epoch⟩:Wd),a0.fuel,(wr (a0.sends+(1:Int))),a0.turns,a0.frames,a0.back,a0.err⟩:l7)))))):Option (F3 (Bool×l7) (Int×Int×Int×Int×Int×Int))).bind fun o=>match o with|.ret r=>some (.ret r)|.next (v9,v10,v11,v12,v13,v14)=>some (.next (v9,v10,v11,v12,v13,v14))):Option (F3 (Bool×l7) (Int×Int×Int×Int×Int×Int))).bind fun o=>match o with|.ret r=>some r|.next (v1,v2,v3,v4,v5,v6)=>some (false,(⟨(⟨a0.w.classes,a0.w.heap,a0.w.epoch⟩:Wd),v1,v2,v3,a0.frames,(⟨v4,v5⟩:V),v6⟩:l7)))

def aP2 (N:Nat) (a0:Int):Option V :=
  some (⟨(3:Int),(a0.tmod (1073741825:Int))⟩:V)

def aV9 (N:Nat) (a0:Bool):Option V :=
  (bif a0 then some (⟨(2:Int),(0:Int)⟩:V) else some (⟨(1:Int),(0:Int)⟩:V))

def bL0 (N:Nat) (a0:Int) (a1:V) (a2:V):Option (V×Int) :=
  (((bif (!decide (a1.k=(3:Int))) then some (true) else some ((!decide (a2.k=(3:Int))))):Option Bool).bind fun v1=>(bif v1 then some ((⟨(0:Int),(0:Int)⟩:V),(12:Int)) else (bif decide (a0=(1:Int)) then ((aP2 N (wr (a1.n+a2.n))).bind fun r7=>some (r7,(0:Int))) else (bif decide (a0=(2:Int)) then ((aP2 N (wr (a1.n - a2.n))).bind fun r10=>some (r10,(0:Int))) else (bif decide (a0=(3:Int)) then ((aP2 N (wr (a1.n*a2.n))).bind fun r13=>some (r13,(0:Int))) else (bif decide (a0=(4:Int)) then ((aV9 N (decide (a1.n < a2.n))).bind fun r16=>some (r16,(0:Int))) else (bif decide (a0=(5:Int)) then ((aV9 N (decide (a1.n=a2.n))).bind fun r19=>some (r19,(0:Int))) else some ((⟨(0:Int),(0:Int)⟩:V),(1:Int)))))))))

def U2 (N:Nat) (a0:l7) (a1:V):Option l7 :=
  (bif decide ((a0.frames.length:Int)=(0:Int)) then some (⟨(⟨a0.w.classes,a0.w.heap,a0.w.epoch⟩:Wd),a0.fuel,a0.sends,a0.turns,a0.frames,a1,a0.err⟩:l7) else ((F4 a0.frames (wr ((a0.frames.length:Int) - (1:Int)))).bind fun x4=>(bif Nat.ble ((x4.stack.length+[a1].length)*16) 140737488355328 then some (⟨(⟨a0.w.classes,a0.w.heap,a0.w.epoch⟩:Wd),a0.fuel,a0.sends,a0.turns,(a0.frames.set ((wr ((a0.frames.length:Int) - (1:Int))).toNat) (⟨x4.class_,x4.method,x4.fast,x4.code,x4.self_,x4.args,x4.temps,(x4.stack++[a1]),x4.at_⟩:p8)),a0.back,a0.err⟩:l7) else none)))

def O5 (N:Nat) (a0:l7) (gq:Int→Int→Option (Fs×Bool)) (a1:Int) (a2:Int) (a3:V) (a4:(List V)):Option l7 :=
  ((F4 a0.w.classes a1).bind fun x1=>((F4 x1.methods a2).bind fun x3=>(bif (!decide (x3.args=(a4.length:Int))) then ((H6 N (⟨(⟨a0.w.classes,a0.w.heap,a0.w.epoch⟩:Wd),a0.fuel,a0.sends,a0.turns,a0.frames,a0.back,a0.err⟩:l7) (8:Int)).bind fun r7=>some (⟨(⟨a0.w.classes,a0.w.heap,a0.w.epoch⟩:Wd),r7.fuel,r7.sends,r7.turns,a0.frames,r7.back,r7.err⟩:l7)) else (bif (!decide (x3.prim=(0:Int))) then ((O6 N (⟨(⟨a0.w.classes,a0.w.heap,a0.w.epoch⟩:Wd),a0.fuel,a0.sends,a0.turns,a0.frames,a0.back,a0.err⟩:l7) false).bind fun r10=>(bif (!r10.1) then some (⟨(⟨a0.w.classes,a0.w.heap,a0.w.epoch⟩:Wd),r10.2.fuel,r10.2.sends,r10.2.turns,a0.frames,r10.2.back,r10.2.err⟩:l7) else ((F4 a4 (0:Int)).bind fun x13=>((bL0 N x3.prim a3 x13).bind fun r15=>(bif (!decide (r15.2=(0:Int))) then ((H6 N (⟨(⟨a0.w.classes,a0.w.heap,a0.w.epoch⟩:Wd),r10.2.fuel,r10.2.sends,r10.2.turns,a0.frames,r10.2.back,r10.2.err⟩:l7) r15.2).bind fun r18=>some (⟨(⟨a0.w.classes,a0.w.heap,a0.w.epoch⟩:Wd),r18.fuel,r18.sends,r18.turns,a0.frames,r18.back,r18.err⟩:l7)) else ((U2 N (⟨(⟨a0.w.classes,a0.w.heap,a0.w.epoch⟩:Wd),r10.2.fuel,r10.2.sends,r10.2.turns,a0.frames,r10.2.back,r10.2.err⟩:l7) r15.1).bind fun r20=>some (⟨(⟨a0.w.classes,a0.w.heap,a0.w.epoch⟩:Wd),r20.fuel,r20.sends,r20.turns,r20.frames,r20.back,r20.err⟩:l7))))))) else ((O6 N (⟨(⟨a0.w.classes,a0.w.heap,a0.w.epoch⟩:Wd),a0.fuel,a0.sends,a0.turns,a0.frames,a0.back,a0.err⟩:l7) true).bind fun r22=>(bif (!r22.1) then some (⟨(⟨a0.w.classes,a0.w.heap,a0.w.epoch⟩:Wd),r22.2.fuel,r22.2.sends,r22.2.turns,a0.frames,r22.2.back,r22.2.err⟩:l7) else ((aI7 N a4).bind fun r25=>(bif (decide (0≤x3.temps) && decide (x3.temps≤140737488355328) && decide (x3.temps*16≤140737488355328)) then ((gq a1 a2).bind fun r28=>(((bif r28.2 then (bif (decide (0≤r28.1.temps) && decide (r28.1.temps≤140737488355328) && decide (r28.1.temps*16≤140737488355328)) then some ((true,r28.1.code,(List.replicate r28.1.temps.toNat (⟨(0:Int),(0:Int)⟩:V)))) else none) else some ((false,x3.code,(List.replicate x3.temps.toNat (⟨(0:Int),(0:Int)⟩:V))))):Option (Bool×(List Ins)×(List V))).bind fun (v30,v31,v32)=>(bif Nat.ble ((a0.frames.length+[(⟨a1,a2,v30,v31,a3,r25,v32,[],(0:Int)⟩:p8)].length)*144) 140737488355328 then some (⟨(⟨a0.w.classes,a0.w.heap,a0.w.epoch⟩:Wd),r22.2.fuel,r22.2.sends,r22.2.turns,(a0.frames++[(⟨a1,a2,v30,v31,a3,r25,v32,[],(0:Int)⟩:p8)]),r22.2.back,r22.2.err⟩:l7) else none))) else none))))))))

def aF9 (N:Nat) (a0:l7) (gl:St→Int→ByteArray→Option (Int×Int)) (gq:Int→Int→Option (Fs×Bool)) (a1:Nat) (a2:Ins) (a3:Int):Option l7 :=
  ((a0.frames[a1]?).bind fun x1=>(bif (decide (0≤(wr ((x1.stack.length:Int) - a2.a))) && decide ((wr ((x1.stack.length:Int) - a2.a))≤(x1.stack.length:Int))) then ((aI7 N (x1.stack.drop ((wr ((x1.stack.length:Int) - a2.a)).toNat))).bind fun r5=>((F4 x1.stack (wr ((wr ((x1.stack.length:Int) - a2.a)) - (1:Int)))).bind fun x7=>((F4 a0.w.classes x1.class_).bind fun x9=>((F4 x9.methods x1.method).bind fun x11=>(((bif x1.fast then some (a2.c) else some (a3)):Option Int).bind fun v13=>((aI1 N a0.w.heap x7).bind fun r17=>((gl (⟨x1.class_,x11.name,v13⟩:St) r17 a2.name).bind fun r19=>(bif decide (r19.2 < (0:Int)) then ((H6 N (⟨(⟨a0.w.classes,a0.w.heap,a0.w.epoch⟩:Wd),a0.fuel,a0.sends,a0.turns,a0.frames,a0.back,a0.err⟩:l7) (10:Int)).bind fun r22=>some (⟨(⟨a0.w.classes,a0.w.heap,a0.w.epoch⟩:Wd),r22.fuel,r22.sends,r22.turns,a0.frames,r22.back,r22.err⟩:l7)) else (bif (decide (0≤(wr ((wr ((x1.stack.length:Int) - a2.a)) - (1:Int)))) && decide ((wr ((wr ((x1.stack.length:Int) - a2.a)) - (1:Int)))≤(x1.stack.length:Int))) then ((O5 N (⟨(⟨a0.w.classes,a0.w.heap,a0.w.epoch⟩:Wd),a0.fuel,a0.sends,a0.turns,(a0.frames.set a1 (⟨x1.class_,x1.method,x1.fast,x1.code,x1.self_,x1.args,x1.temps,(x1.stack.take (wr ((wr ((x1.stack.length:Int) - a2.a)) - (1:Int))).toNat),x1.at_⟩:p8)),a0.back,a0.err⟩:l7) gq r19.1 r19.2 x7 r5).bind fun r25=>some (⟨(⟨a0.w.classes,a0.w.heap,a0.w.epoch⟩:Wd),r25.fuel,r25.sends,r25.turns,r25.frames,r25.back,r25.err⟩:l7)) else none))))))))) else none))

def P9 (N:Nat) (a0:l7) (a1:Nat) (a2:Int):Option l7 :=
  ((a0.frames[a1]?).bind fun x1=>(((bif decide (a2 < x1.at_) then (((bif decide ((300:Int) < (wr (a0.turns+(1:Int)))) then ((H6 N (⟨(⟨a0.w.classes,a0.w.heap,a0.w.epoch⟩:Wd),a0.fuel,a0.sends,(wr (a0.turns+(1:Int))),a0.frames,a0.back,a0.err⟩:l7) (16:Int)).bind fun r21=>some ((r21.fuel,r21.sends,r21.turns,r21.back.k,r21.back.n,r21.err))) else some ((a0.fuel,a0.sends,(wr (a0.turns+(1:Int))),a0.back.k,a0.back.n,a0.err))):Option (Int×Int×Int×Int×Int×Int)).bind fun (v12,v13,v14,v15,v16,v17)=>some ((v12,v13,v14,v15,v16,v17))) else some ((a0.fuel,a0.sends,a0.turns,a0.back.k,a0.back.n,a0.err))):Option (Int×Int×Int×Int×Int×Int)).bind fun (v3,v4,v5,v6,v7,v8)=>some (⟨(⟨a0.w.classes,a0.w.heap,a0.w.epoch⟩:Wd),v3,v4,v5,(a0.frames.set a1 (⟨x1.class_,x1.method,x1.fast,x1.code,x1.self_,x1.args,x1.temps,x1.stack,a2⟩:p8)),(⟨v6,v7⟩:V),v8⟩:l7)))

def W9 (N:Nat) (fr:(List p8)) (a0:Nat):Option (V×(List p8)) :=
  ((fr[a0]?).bind fun x1=>((F4 x1.stack (wr ((x1.stack.length:Int) - (1:Int)))).bind fun x4=>(bif (decide (0≤(wr ((x1.stack.length:Int) - (1:Int)))) && decide ((wr ((x1.stack.length:Int) - (1:Int)))≤(x1.stack.length:Int))) then some (x4,(fr.set a0 (⟨x1.class_,x1.method,x1.fast,x1.code,x1.self_,x1.args,x1.temps,(x1.stack.take (wr ((x1.stack.length:Int) - (1:Int))).toNat),x1.at_⟩:p8))) else none)))

def U8 (N:Nat) (a0:l7) (a1:Nat) (a2:Ins):Option l7 :=
  ((a0.frames[a1]?).bind fun x1=>((F4 x1.stack (wr ((wr ((x1.stack.length:Int) - (1:Int))) - a2.b))).bind fun x4=>((aI1 N a0.w.heap x4).bind fun r6=>(bif decide (r6=a2.a) then some (⟨(⟨a0.w.classes,a0.w.heap,a0.w.epoch⟩:Wd),a0.fuel,a0.sends,a0.turns,a0.frames,a0.back,a0.err⟩:l7) else ((F4 a0.w.classes x1.class_).bind fun x9=>((F4 x9.methods x1.method).bind fun x11=>(bif (decide (0≤x11.temps) && decide (x11.temps≤(x1.temps.length:Int))) then some (⟨(⟨a0.w.classes,a0.w.heap,a0.w.epoch⟩:Wd),a0.fuel,a0.sends,a0.turns,((((a0.frames.set a1 (⟨x1.class_,x1.method,false,x1.code,x1.self_,x1.args,x1.temps,x1.stack,x1.at_⟩:p8)).set a1 (⟨x1.class_,x1.method,false,x11.code,x1.self_,x1.args,x1.temps,x1.stack,x1.at_⟩:p8)).set a1 (⟨x1.class_,x1.method,false,x11.code,x1.self_,x1.args,x1.temps,x1.stack,a2.c⟩:p8)).set a1 (⟨x1.class_,x1.method,false,x11.code,x1.self_,x1.args,(x1.temps.take x11.temps.toNat),x1.stack,a2.c⟩:p8)),a0.back,a0.err⟩:l7) else none)))))))

def P5 (N:Nat) (a0:V) (fr:(List p8)) (b0:Nat):Option (List p8) :=
  ((fr[b0]?).bind fun x1=>(bif Nat.ble ((x1.stack.length+[a0].length)*16) 140737488355328 then some (fr.set b0 (⟨x1.class_,x1.method,x1.fast,x1.code,x1.self_,x1.args,x1.temps,(x1.stack++[a0]),x1.at_⟩:p8)) else none))

def aE3 (N:Nat) (a0:V) (fr:(List p8)) (b0:Nat):Option (List p8) :=
  ((fr[b0]?).bind fun x1=>(bif Nat.ble ((x1.stack.length+[a0].length)*16) 140737488355328 then some (fr.set b0 (⟨x1.class_,x1.method,x1.fast,x1.code,x1.self_,x1.args,x1.temps,(x1.stack++[a0]),x1.at_⟩:p8)) else none))

def a19 (N:Nat) (a0:(List Ob)) (a1:V) (a2:Int):Option V :=
  (((bif (!decide (a1.k=(4:Int))) then some (true) else (bif decide (a1.n < (0:Int)) then some (true) else (bif decide ((a0.length:Int)≤a1.n) then some (true) else (bif decide (a2 < (0:Int)) then some (true) else ((F4 a0 a1.n).bind fun x9=>some (decide ((x9.slots.length:Int)≤a2))))))):Option Bool).bind fun v1=>(bif v1 then some (⟨(0:Int),(0:Int)⟩:V) else ((F4 a0 a1.n).bind fun x13=>((F4 x13.slots a2).bind fun x15=>some x15))))

def aK9 (N:Nat) (a0:V) (sk:(List V)) (fr:(List p8)) (b0:Nat):Option (List V) :=
  ((fr[b0]?).bind fun x1=>(bif Nat.ble ((sk.length+[a0].length)*16) 140737488355328 then some (sk++[a0]) else none))

def aO5 (N:Nat) (fr:(List p8)) (a0:Nat):Option (V×(List p8)) :=
  ((fr[a0]?).bind fun x1=>((F4 x1.stack (wr ((x1.stack.length:Int) - (1:Int)))).bind fun x4=>(bif (decide (0≤(wr ((x1.stack.length:Int) - (1:Int)))) && decide ((wr ((x1.stack.length:Int) - (1:Int)))≤(x1.stack.length:Int))) then some (x4,(fr.set a0 (⟨x1.class_,x1.method,x1.fast,x1.code,x1.self_,x1.args,x1.temps,(x1.stack.take (wr ((x1.stack.length:Int) - (1:Int))).toNat),x1.at_⟩:p8))) else none)))

def Y8 (N:Nat) (a0:l7) (a1:V) (a2:Int) (a3:V):Option l7 :=
  ((((a0.w.heap[a1.n.toNat]?).elim (bif decide (a1.k=(4:Int)) then (bif decide (a1.n < (a0.w.heap.length:Int)) then none else some (false)) else some (false)) (fun x4=>(bif decide (a1.k=(4:Int)) then (bif decide (a1.n < (a0.w.heap.length:Int)) then ((F4 a0.w.heap a1.n).bind fun x12=>some (decide (a2 < (x4.slots.length:Int)))) else some (false)) else some (false)))):Option Bool).bind fun v1=>(((bif v1 then ((a0.w.heap[a1.n.toNat]?).elim none (fun x19=>((F4 a0.w.heap a1.n).bind fun x21=>((F4 x19.slots a2).bind fun x23=>some ((a0.w.heap.set a1.n.toNat (⟨x19.cls,(x19.slots.set a2.toNat a3)⟩:Ob))))))) else some (a0.w.heap)):Option (List Ob)).bind fun v15=>some (⟨(⟨a0.w.classes,v15,a0.w.epoch⟩:Wd),a0.fuel,a0.sends,a0.turns,a0.frames,a0.back,a0.err⟩:l7)))

def V9 (N:Nat) (a0:l7) (a1:Nat) (a2:Ins):Option l7 :=
  (((((bif decide (a2.op=(1:Int)) then ((a0.frames[a1]?).bind fun x22=>((P5 N x22.self_ a0.frames a1).bind fun r24=>some (.next (a0.w.heap,a0.fuel,a0.sends,a0.turns,r24,a0.back.k,a0.back.n,a0.err)))) else (((bif decide (a2.op=(2:Int)) then ((a0.frames[a1]?).bind fun x37=>((F4 x37.args a2.a).bind fun x39=>((P5 N x39 a0.frames a1).bind fun r41=>some (.next (a0.w.heap,a0.fuel,a0.sends,a0.turns,r41,a0.back.k,a0.back.n,a0.err))))) else (((bif decide (a2.op=(3:Int)) then ((a0.frames[a1]?).bind fun x54=>((F4 x54.temps a2.a).bind fun x56=>((aE3 N x56 a0.frames a1).bind fun r58=>((r58[a1]?).bind fun x60=>some (.next (a0.w.heap,a0.fuel,a0.sends,a0.turns,(r58.set a1 (⟨x60.class_,x60.method,x60.fast,x60.code,x60.self_,x60.args,x54.temps,x60.stack,x60.at_⟩:p8)),a0.back.k,a0.back.n,a0.err)))))) else (((bif decide (a2.op=(4:Int)) then ((a0.frames[a1]?).bind fun x73=>((a19 N a0.w.heap x73.self_ a2.a).bind fun r75=>((P5 N r75 a0.frames a1).bind fun r77=>some (.next (a0.w.heap,a0.fuel,a0.sends,a0.turns,r77,a0.back.k,a0.back.n,a0.err))))) else (((bif decide (a2.op=(5:Int)) then ((P5 N (⟨(3:Int),a2.a⟩:V) a0.frames a1).bind fun r90=>some (.next (a0.w.heap,a0.fuel,a0.sends,a0.turns,r90,a0.back.k,a0.back.n,a0.err))) else (((bif decide (a2.op=(6:Int)) then ((P5 N (⟨(0:Int),(0:Int)⟩:V) a0.frames a1).bind fun r103=>some (.next (a0.w.heap,a0.fuel,a0.sends,a0.turns,r103,a0.back.k,a0.back.n,a0.err))) else (((bif decide (a2.op=(7:Int)) then some (decide (a2.op=(7:Int))) else some (decide (a2.op=(8:Int)))):Option Bool).bind fun v105=>(((bif v105 then ((aV9 N (decide (a2.op=(8:Int)))).bind fun r120=>((P5 N r120 a0.frames a1).bind fun r122=>some (.next (a0.w.heap,a0.fuel,a0.sends,a0.turns,r122,a0.back.k,a0.back.n,a0.err)))) else (((bif decide (a2.op=(9:Int)) then ((W9 N a0.frames a1).bind fun r135=>some (.next (a0.w.heap,a0.fuel,a0.sends,a0.turns,r135.2,a0.back.k,a0.back.n,a0.err))) else (((bif decide (a2.op=(10:Int)) then ((a0.frames[a1]?).bind fun x148=>((F4 x148.stack (wr ((x148.stack.length:Int) - (1:Int)))).bind fun x151=>((aK9 N x151 x148.stack a0.frames a1).bind fun r153=>some (.next (a0.w.heap,a0.fuel,a0.sends,a0.turns,(a0.frames.set a1 (⟨x148.class_,x148.method,x148.fast,x148.code,x148.self_,x148.args,x148.temps,r153,x148.at_⟩:p8)),a0.back.k,a0.back.n,a0.err))))) else (((bif decide (a2.op=(11:Int)) then ((a0.frames[a1]?).bind fun x166=>((aO5 N a0.frames a1).bind fun r168=>((r168.2[a1]?).bind fun x170=>((F4 x166.temps a2.a).bind fun x172=>some (.next (a0.w.heap,a0.fuel,a0.sends,a0.turns,(r168.2.set a1 (⟨x170.class_,x170.method,x170.fast,x170.code,x170.self_,x170.args,(x166.temps.set a2.a.toNat r168.1),x170.stack,x170.at_⟩:p8)),a0.back.k,a0.back.n,a0.err)))))) else (((bif decide (a2.op=(12:Int)) then ((a0.frames[a1]?).bind fun x185=>((W9 N a0.frames a1).bind fun r187=>((r187.2[a1]?).bind fun x189=>((Y8 N (⟨(⟨a0.w.classes,a0.w.heap,a0.w.epoch⟩:Wd),a0.fuel,a0.sends,a0.turns,r187.2,a0.back,a0.err⟩:l7) x185.self_ a2.a r187.1).bind fun r191=>some (.next (r191.w.heap,r191.fuel,r191.sends,r191.turns,r187.2,r191.back.k,r191.back.n,r191.err)))))) else (((bif decide (a2.op=(19:Int)) then ((a0.frames[a1]?).bind fun x204=>((F4 x204.temps a2.a).bind fun x206=>((a19 N a0.w.heap x206 a2.b).bind fun r208=>((aE3 N r208 a0.frames a1).bind fun r210=>((r210[a1]?).bind fun x212=>some (.next (a0.w.heap,a0.fuel,a0.sends,a0.turns,(r210.set a1 (⟨x212.class_,x212.method,x212.fast,x212.code,x212.self_,x212.args,x204.temps,x212.stack,x212.at_⟩:p8)),a0.back.k,a0.back.n,a0.err))))))) else (((bif decide (a2.op=(20:Int)) then ((a0.frames[a1]?).bind fun x225=>((F4 x225.temps a2.a).bind fun x227=>((aO5 N a0.frames a1).bind fun r229=>((r229.2[a1]?).bind fun x231=>((Y8 N (⟨(⟨a0.w.classes,a0.w.heap,a0.w.epoch⟩:Wd),a0.fuel,a0.sends,a0.turns,r229.2,a0.back,a0.err⟩:l7) x227 a2.b r229.1).bind fun r233=>some (.next (r233.w.heap,r233.fuel,r233.sends,r233.turns,(r229.2.set a1 (⟨x231.class_,x231.method,x231.fast,x231.code,x231.self_,x231.args,x225.temps,x231.stack,x231.at_⟩:p8)),r233.back.k,r233.back.n,r233.err))))))) else (((bif decide (a2.op=(13:Int)) then ((aC4 N (⟨a0.w.classes,a0.w.heap,a0.w.epoch⟩:Wd) a2.a).bind fun r240=>((bE4 N a0.w.heap a2.a r240).bind fun r242=>(bif (!decide (r242.2.2=(0:Int))) then ((H6 N (⟨(⟨a0.w.classes,a0.w.heap,a0.w.epoch⟩:Wd),a0.fuel,a0.sends,a0.turns,a0.frames,a0.back,a0.err⟩:l7) r242.2.2).bind fun r245=>some (.ret (⟨(⟨a0.w.classes,a0.w.heap,a0.w.epoch⟩:Wd),r245.fuel,r245.sends,r245.turns,a0.frames,r245.back,r245.err⟩:l7))) else ((P5 N r242.2.1 a0.frames a1).bind fun r247=>some (.next (r242.1,r247)))))) else some (.next (a0.w.heap,a0.frames))):Option (F3 l7 ((List Ob)×(List p8)))).bind fun o=>match o with|.ret r=>some (.ret r)|.next (v235,v236)=>some (.next (v235,a0.fuel,a0.sends,a0.turns,v236,a0.back.k,a0.back.n,a0.err)))):Option (F3 l7 ((List Ob)×Int×Int×Int×(List p8)×Int×Int×Int))).bind fun o=>match o with|.ret r=>some (.ret r)|.next (v214,v215,v216,v217,v218,v219,v220,v221)=>some (.next (v214,v215,v216,v217,v218,v219,v220,v221)))):Option (F3 l7 ((List Ob)×Int×Int×Int×(List p8)×Int×Int×Int))).bind fun o=>match o with|.ret r=>some (.ret r)|.next (v193,v194,v195,v196,v197,v198,v199,v200)=>some (.next (v193,v194,v195,v196,v197,v198,v199,v200)))):Option (F3 l7 ((List Ob)×Int×Int×Int×(List p8)×Int×Int×Int))).bind fun o=>match o with|.ret r=>some (.ret r)|.next (v174,v175,v176,v177,v178,v179,v180,v181)=>some (.next (v174,v175,v176,v177,v178,v179,v180,v181)))):Option (F3 l7 ((List Ob)×Int×Int×Int×(List p8)×Int×Int×Int))).bind fun o=>match o with|.ret r=>some (.ret r)|.next (v155,v156,v157,v158,v159,v160,v161,v162)=>some (.next (v155,v156,v157,v158,v159,v160,v161,v162)))):Option (F3 l7 ((List Ob)×Int×Int×Int×(List p8)×Int×Int×Int))).bind fun o=>match o with|.ret r=>some (.ret r)|.next (v137,v138,v139,v140,v141,v142,v143,v144)=>some (.next (v137,v138,v139,v140,v141,v142,v143,v144)))):Option (F3 l7 ((List Ob)×Int×Int×Int×(List p8)×Int×Int×Int))).bind fun o=>match o with|.ret r=>some (.ret r)|.next (v124,v125,v126,v127,v128,v129,v130,v131)=>some (.next (v124,v125,v126,v127,v128,v129,v130,v131)))):Option (F3 l7 ((List Ob)×Int×Int×Int×(List p8)×Int×Int×Int))).bind fun o=>match o with|.ret r=>some (.ret r)|.next (v109,v110,v111,v112,v113,v114,v115,v116)=>some (.next (v109,v110,v111,v112,v113,v114,v115,v116))))):Option (F3 l7 ((List Ob)×Int×Int×Int×(List p8)×Int×Int×Int))).bind fun o=>match o with|.ret r=>some (.ret r)|.next (v92,v93,v94,v95,v96,v97,v98,v99)=>some (.next (v92,v93,v94,v95,v96,v97,v98,v99)))):Option (F3 l7 ((List Ob)×Int×Int×Int×(List p8)×Int×Int×Int))).bind fun o=>match o with|.ret r=>some (.ret r)|.next (v79,v80,v81,v82,v83,v84,v85,v86)=>some (.next (v79,v80,v81,v82,v83,v84,v85,v86)))):Option (F3 l7 ((List Ob)×Int×Int×Int×(List p8)×Int×Int×Int))).bind fun o=>match o with|.ret r=>some (.ret r)|.next (v62,v63,v64,v65,v66,v67,v68,v69)=>some (.next (v62,v63,v64,v65,v66,v67,v68,v69)))):Option (F3 l7 ((List Ob)×Int×Int×Int×(List p8)×Int×Int×Int))).bind fun o=>match o with|.ret r=>some (.ret r)|.next (v43,v44,v45,v46,v47,v48,v49,v50)=>some (.next (v43,v44,v45,v46,v47,v48,v49,v50)))):Option (F3 l7 ((List Ob)×Int×Int×Int×(List p8)×Int×Int×Int))).bind fun o=>match o with|.ret r=>some (.ret r)|.next (v26,v27,v28,v29,v30,v31,v32,v33)=>some (.next (v26,v27,v28,v29,v30,v31,v32,v33)))):Option (F3 l7 ((List Ob)×Int×Int×Int×(List p8)×Int×Int×Int))).bind fun o=>match o with|.ret r=>some (.ret r)|.next (v11,v12,v13,v14,v15,v16,v17,v18)=>some (.next (v11,v12,v13,v14,v15,v16,v17,v18))):Option (F3 l7 ((List Ob)×Int×Int×Int×(List p8)×Int×Int×Int))).bind fun o=>match o with|.ret r=>some r|.next (v1,v2,v3,v4,v5,v6,v7,v8)=>some (⟨(⟨a0.w.classes,v1,a0.w.epoch⟩:Wd),v2,v3,v4,v5,(⟨v6,v7⟩:V),v8⟩:l7))

def aG0 (N:Nat) (a0:l7) (gl:St→Int→ByteArray→Option (Int×Int)) (gq:Int→Int→Option (Fs×Bool)):Option l7 :=
  ((F4 a0.frames (wr ((a0.frames.length:Int) - (1:Int)))).bind fun x2=>((F4 x2.code x2.at_).bind fun x4=>(((((bif decide (x4.op=(14:Int)) then ((aF9 N (⟨(⟨a0.w.classes,a0.w.heap,a0.w.epoch⟩:Wd),a0.fuel,a0.sends,a0.turns,(a0.frames.set ((wr ((a0.frames.length:Int) - (1:Int))).toNat) (⟨x2.class_,x2.method,x2.fast,x2.code,x2.self_,x2.args,x2.temps,x2.stack,(wr (x2.at_+(1:Int)))⟩:p8)),a0.back,a0.err⟩:l7) gl gq ((wr ((a0.frames.length:Int) - (1:Int))).toNat) x4 x2.at_).bind fun r31=>some ((a0.w.classes,a0.w.heap,a0.w.epoch,r31.fuel,r31.sends,r31.turns,r31.frames,r31.back.k,r31.back.n,r31.err))) else (((bif decide (x4.op=(15:Int)) then ((P9 N (⟨(⟨a0.w.classes,a0.w.heap,a0.w.epoch⟩:Wd),a0.fuel,a0.sends,a0.turns,(a0.frames.set ((wr ((a0.frames.length:Int) - (1:Int))).toNat) (⟨x2.class_,x2.method,x2.fast,x2.code,x2.self_,x2.args,x2.temps,x2.stack,(wr (x2.at_+(1:Int)))⟩:p8)),a0.back,a0.err⟩:l7) ((wr ((a0.frames.length:Int) - (1:Int))).toNat) x4.a).bind fun r46=>some ((a0.w.classes,a0.w.heap,a0.w.epoch,r46.fuel,r46.sends,r46.turns,r46.frames,r46.back.k,r46.back.n,r46.err))) else (((bif decide (x4.op=(16:Int)) then ((W9 N (a0.frames.set ((wr ((a0.frames.length:Int) - (1:Int))).toNat) (⟨x2.class_,x2.method,x2.fast,x2.code,x2.self_,x2.args,x2.temps,x2.stack,(wr (x2.at_+(1:Int)))⟩:p8)) ((wr ((a0.frames.length:Int) - (1:Int))).toNat)).bind fun r61=>(((((bif decide (r61.1.k=(1:Int)) then ((P9 N (⟨(⟨a0.w.classes,a0.w.heap,a0.w.epoch⟩:Wd),a0.fuel,a0.sends,a0.turns,r61.2,a0.back,a0.err⟩:l7) ((wr ((a0.frames.length:Int) - (1:Int))).toNat) x4.a).bind fun r82=>some ((r82.fuel,r82.sends,r82.turns,r82.frames,r82.back.k,r82.back.n,r82.err))) else (((bif decide (r61.1.k=(2:Int)) then some ((a0.fuel,a0.sends,a0.turns,a0.back.k,a0.back.n,a0.err)) else ((H6 N (⟨(⟨a0.w.classes,a0.w.heap,a0.w.epoch⟩:Wd),a0.fuel,a0.sends,a0.turns,r61.2,a0.back,a0.err⟩:l7) (11:Int)).bind fun r93=>some ((r93.fuel,r93.sends,r93.turns,r93.back.k,r93.back.n,r93.err)))):Option (Int×Int×Int×Int×Int×Int)).bind fun (v84,v85,v86,v87,v88,v89)=>some ((v84,v85,v86,r61.2,v87,v88,v89)))):Option (Int×Int×Int×(List p8)×Int×Int×Int)).bind fun (v72,v73,v74,v75,v76,v77,v78)=>some ((v72,v73,v74,v75,v76,v77,v78))):Option (Int×Int×Int×(List p8)×Int×Int×Int)).bind fun (v63,v64,v65,v66,v67,v68,v69)=>some ((a0.w.classes,a0.w.heap,a0.w.epoch,v63,v64,v65,v66,v67,v68,v69)))) else (((bif decide (x4.op=(17:Int)) then ((W9 N (a0.frames.set ((wr ((a0.frames.length:Int) - (1:Int))).toNat) (⟨x2.class_,x2.method,x2.fast,x2.code,x2.self_,x2.args,x2.temps,x2.stack,(wr (x2.at_+(1:Int)))⟩:p8)) ((wr ((a0.frames.length:Int) - (1:Int))).toNat)).bind fun r108=>(bif (decide (0≤(wr ((r108.2.length:Int) - (1:Int)))) && decide ((wr ((r108.2.length:Int) - (1:Int)))≤(r108.2.length:Int))) then ((U2 N (⟨(⟨a0.w.classes,a0.w.heap,a0.w.epoch⟩:Wd),a0.fuel,a0.sends,a0.turns,(r108.2.take (wr ((r108.2.length:Int) - (1:Int))).toNat),a0.back,a0.err⟩:l7) r108.1).bind fun r112=>some ((a0.w.classes,a0.w.heap,a0.w.epoch,r112.fuel,r112.sends,r112.turns,r112.frames,r112.back.k,r112.back.n,r112.err))) else none)) else (((bif decide (x4.op=(18:Int)) then ((U8 N (⟨(⟨a0.w.classes,a0.w.heap,a0.w.epoch⟩:Wd),a0.fuel,a0.sends,a0.turns,(a0.frames.set ((wr ((a0.frames.length:Int) - (1:Int))).toNat) (⟨x2.class_,x2.method,x2.fast,x2.code,x2.self_,x2.args,x2.temps,x2.stack,(wr (x2.at_+(1:Int)))⟩:p8)),a0.back,a0.err⟩:l7) ((wr ((a0.frames.length:Int) - (1:Int))).toNat) x4).bind fun r127=>some ((a0.w.classes,a0.w.heap,a0.w.epoch,r127.fuel,r127.sends,r127.turns,r127.frames,r127.back.k,r127.back.n,r127.err))) else (((bif decide (x4.op=(21:Int)) then ((O6 N (⟨(⟨a0.w.classes,a0.w.heap,a0.w.epoch⟩:Wd),a0.fuel,a0.sends,a0.turns,(a0.frames.set ((wr ((a0.frames.length:Int) - (1:Int))).toNat) (⟨x2.class_,x2.method,x2.fast,x2.code,x2.self_,x2.args,x2.temps,x2.stack,(wr (x2.at_+(1:Int)))⟩:p8)),a0.back,a0.err⟩:l7) true).bind fun r142=>some ((a0.w.classes,a0.w.heap,a0.w.epoch,r142.2.fuel,r142.2.sends,r142.2.turns,(a0.frames.set ((wr ((a0.frames.length:Int) - (1:Int))).toNat) (⟨x2.class_,x2.method,x2.fast,x2.code,x2.self_,x2.args,x2.temps,x2.stack,(wr (x2.at_+(1:Int)))⟩:p8)),r142.2.back.k,r142.2.back.n,r142.2.err))) else ((V9 N (⟨(⟨a0.w.classes,a0.w.heap,a0.w.epoch⟩:Wd),a0.fuel,a0.sends,a0.turns,(a0.frames.set ((wr ((a0.frames.length:Int) - (1:Int))).toNat) (⟨x2.class_,x2.method,x2.fast,x2.code,x2.self_,x2.args,x2.temps,x2.stack,(wr (x2.at_+(1:Int)))⟩:p8)),a0.back,a0.err⟩:l7) ((wr ((a0.frames.length:Int) - (1:Int))).toNat) x4).bind fun r144=>some ((r144.w.classes,r144.w.heap,r144.w.epoch,r144.fuel,r144.sends,r144.turns,r144.frames,r144.back.k,r144.back.n,r144.err)))):Option ((List Cl)×(List Ob)×Int×Int×Int×Int×(List p8)×Int×Int×Int)).bind fun (v129,v130,v131,v132,v133,v134,v135,v136,v137,v138)=>some ((v129,v130,v131,v132,v133,v134,v135,v136,v137,v138)))):Option ((List Cl)×(List Ob)×Int×Int×Int×Int×(List p8)×Int×Int×Int)).bind fun (v114,v115,v116,v117,v118,v119,v120,v121,v122,v123)=>some ((v114,v115,v116,v117,v118,v119,v120,v121,v122,v123)))):Option ((List Cl)×(List Ob)×Int×Int×Int×Int×(List p8)×Int×Int×Int)).bind fun (v95,v96,v97,v98,v99,v100,v101,v102,v103,v104)=>some ((v95,v96,v97,v98,v99,v100,v101,v102,v103,v104)))):Option ((List Cl)×(List Ob)×Int×Int×Int×Int×(List p8)×Int×Int×Int)).bind fun (v48,v49,v50,v51,v52,v53,v54,v55,v56,v57)=>some ((v48,v49,v50,v51,v52,v53,v54,v55,v56,v57)))):Option ((List Cl)×(List Ob)×Int×Int×Int×Int×(List p8)×Int×Int×Int)).bind fun (v33,v34,v35,v36,v37,v38,v39,v40,v41,v42)=>some ((v33,v34,v35,v36,v37,v38,v39,v40,v41,v42)))):Option ((List Cl)×(List Ob)×Int×Int×Int×Int×(List p8)×Int×Int×Int)).bind fun (v18,v19,v20,v21,v22,v23,v24,v25,v26,v27)=>some ((v18,v19,v20,v21,v22,v23,v24,v25,v26,v27))):Option ((List Cl)×(List Ob)×Int×Int×Int×Int×(List p8)×Int×Int×Int)).bind fun (v6,v7,v8,v9,v10,v11,v12,v13,v14,v15)=>some (⟨(⟨v6,v7,v8⟩:Wd),v9,v10,v11,v12,(⟨v13,v14⟩:V),v15⟩:l7))))

def aE7 (N:Nat) (g3:(St→Int→ByteArray→Option (Int×Int))) (g4:(Int→Int→Option (Fs×Bool))):Nat→(List Cl)→(List Ob)→Int→Int→Int→Int→(List p8)→Int→Int→Int→Option (((List Cl)×(List Ob)×Int×Int×Int×Int×(List p8)×Int×Int×Int))
  |0,_,_,_,_,_,_,_,_,_,_=>none
  |n61+1,v27,v28,v29,v30,v31,v32,v33,v34,v35,v36=>(((bif decide (v36=(0:Int)) then some (decide ((0:Int) < (v33.length:Int))) else some (false)):Option Bool).bind fun v62=>(bif v62 then ((aG0 N (⟨(⟨v27,v28,v29⟩:Wd),v30,v31,v32,v33,(⟨v34,v35⟩:V),v36⟩:l7) g3 g4).bind fun r68=>aE7 N g3 g4 n61 r68.w.classes r68.w.heap r68.w.epoch r68.fuel r68.sends r68.turns r68.frames r68.back.k r68.back.n r68.err) else some ((v27,v28,v29,v30,v31,v32,v33,v34,v35,v36))))

def aW7 (N:Nat) (a0:Wd) (a1:V7) (a2:Int) (g3:St→Int→ByteArray→Option (Int×Int)) (g4:Int→Int→Option (Fs×Bool)):Option (Wd×aG7) :=
  ((bF0 N a0 a1 a2).bind fun r1=>(bif (!decide (r1=(0:Int))) then ((aH7 N a0).bind fun r4=>some (r4,(⟨(⟨(0:Int),(0:Int)⟩:V),r1,(0:Int)⟩:aG7))) else ((aH7 N a0).bind fun r6=>((aI1 N r6.heap a1.self_).bind fun r8=>((aB3 N (⟨r6.classes,r6.heap,r6.epoch⟩:Wd) r8 a1.name).bind fun r10=>(((bif decide (r10.2 < (0:Int)) then ((H6 N (⟨(⟨r6.classes,r6.heap,r6.epoch⟩:Wd),a2,(0:Int),(0:Int),([]:List p8),(⟨(0:Int),(0:Int)⟩:V),(0:Int)⟩:l7) (10:Int)).bind fun r22=>some ((r22.fuel,r22.sends,r22.turns,([]:List p8),r22.back.k,r22.back.n,r22.err))) else ((O5 N (⟨(⟨r6.classes,r6.heap,r6.epoch⟩:Wd),a2,(0:Int),(0:Int),([]:List p8),(⟨(0:Int),(0:Int)⟩:V),(0:Int)⟩:l7) g4 r10.1 r10.2 a1.self_ a1.args).bind fun r24=>some ((r24.fuel,r24.sends,r24.turns,r24.frames,r24.back.k,r24.back.n,r24.err)))):Option (Int×Int×Int×(List p8)×Int×Int×Int)).bind fun (v12,v13,v14,v15,v16,v17,v18)=>((aE7 N g3 g4 N r6.classes r6.heap r6.epoch v12 v13 v14 v15 v16 v17 v18).bind fun (v47,v48,v49,v50,v51,v52,v53,v54,v55,v56)=>(bif (!decide (v56=(0:Int))) then ((aH7 N a0).bind fun r71=>some (r71,(⟨(⟨(0:Int),(0:Int)⟩:V),v56,v51⟩:aG7))) else some ((⟨v47,v48,v49⟩:Wd),(⟨(⟨v54,v55⟩:V),(0:Int),v51⟩:aG7))))))))))

def aY0 (N:Nat) (a0:St) (a1:Int) (a2:ByteArray) (b0:Wd):Option (Int×Int) :=
  ((aB3 N b0 a1 a2).bind fun r1=>some (r1.1,r1.2))

def aW8 (N:Nat) (a0:Int) (a1:Int):Option (Fs×Bool) :=
  some ((⟨(0:Int),ByteArray.empty,(0:Int),(0:Int),[]⟩:Fs),false)

def bO0 (N:Nat) (a0:Wd) (a1:V7) (a2:Int):Option (Wd×aG7) :=
  ((aW7 N a0 a1 a2 (fun x0_ x1_ x2_=>aY0 N x0_ x1_ x2_ a0) (fun x0_ x1_=>aW8 N x0_ x1_)).bind fun r1=>some (r1.1,r1.2))

def aR1 (N:Nat) (a0:l7) (gl:St→Int→ByteArray→H7→Option (Int×Int×H7)) (gq:Int→Int→Option (Fs×Bool)) (sb:H7) (a1:Nat) (a2:Ins) (a3:Int):Option (H7×l7) :=
  ((a0.frames[a1]?).bind fun x1=>(bif (decide (0≤(wr ((x1.stack.length:Int) - a2.a))) && decide ((wr ((x1.stack.length:Int) - a2.a))≤(x1.stack.length:Int))) then ((aI7 N (x1.stack.drop ((wr ((x1.stack.length:Int) - a2.a)).toNat))).bind fun r5=>((F4 x1.stack (wr ((wr ((x1.stack.length:Int) - a2.a)) - (1:Int)))).bind fun x7=>((F4 a0.w.classes x1.class_).bind fun x9=>((F4 x9.methods x1.method).bind fun x11=>(((bif x1.fast then some (a2.c) else some (a3)):Option Int).bind fun v13=>((aI1 N a0.w.heap x7).bind fun r17=>((gl (⟨x1.class_,x11.name,v13⟩:St) r17 a2.name sb).bind fun r19=>(bif decide (r19.2.1 < (0:Int)) then ((H6 N (⟨(⟨a0.w.classes,a0.w.heap,a0.w.epoch⟩:Wd),a0.fuel,a0.sends,a0.turns,a0.frames,a0.back,a0.err⟩:l7) (10:Int)).bind fun r22=>some (r19.2.2,(⟨(⟨a0.w.classes,a0.w.heap,a0.w.epoch⟩:Wd),r22.fuel,r22.sends,r22.turns,a0.frames,r22.back,r22.err⟩:l7))) else (bif (decide (0≤(wr ((wr ((x1.stack.length:Int) - a2.a)) - (1:Int)))) && decide ((wr ((wr ((x1.stack.length:Int) - a2.a)) - (1:Int)))≤(x1.stack.length:Int))) then ((O5 N (⟨(⟨a0.w.classes,a0.w.heap,a0.w.epoch⟩:Wd),a0.fuel,a0.sends,a0.turns,(a0.frames.set a1 (⟨x1.class_,x1.method,x1.fast,x1.code,x1.self_,x1.args,x1.temps,(x1.stack.take (wr ((wr ((x1.stack.length:Int) - a2.a)) - (1:Int))).toNat),x1.at_⟩:p8)),a0.back,a0.err⟩:l7) gq r19.1 r19.2.1 x7 r5).bind fun r25=>some (r19.2.2,(⟨(⟨a0.w.classes,a0.w.heap,a0.w.epoch⟩:Wd),r25.fuel,r25.sends,r25.turns,r25.frames,r25.back,r25.err⟩:l7))) else none))))))))) else none))

def aR4 (N:Nat) (a0:l7) (gl:St→Int→ByteArray→H7→Option (Int×Int×H7)) (gq:Int→Int→Option (Fs×Bool)) (sb:H7):Option (H7×l7) :=
  ((F4 a0.frames (wr ((a0.frames.length:Int) - (1:Int)))).bind fun x2=>((F4 x2.code x2.at_).bind fun x4=>(((((bif decide (x4.op=(14:Int)) then ((aR1 N (⟨(⟨a0.w.classes,a0.w.heap,a0.w.epoch⟩:Wd),a0.fuel,a0.sends,a0.turns,(a0.frames.set ((wr ((a0.frames.length:Int) - (1:Int))).toNat) (⟨x2.class_,x2.method,x2.fast,x2.code,x2.self_,x2.args,x2.temps,x2.stack,(wr (x2.at_+(1:Int)))⟩:p8)),a0.back,a0.err⟩:l7) gl gq sb ((wr ((a0.frames.length:Int) - (1:Int))).toNat) x4 x2.at_).bind fun r33=>some ((a0.w.classes,a0.w.heap,a0.w.epoch,r33.1,r33.2.fuel,r33.2.sends,r33.2.turns,r33.2.frames,r33.2.back.k,r33.2.back.n,r33.2.err))) else (((bif decide (x4.op=(15:Int)) then ((P9 N (⟨(⟨a0.w.classes,a0.w.heap,a0.w.epoch⟩:Wd),a0.fuel,a0.sends,a0.turns,(a0.frames.set ((wr ((a0.frames.length:Int) - (1:Int))).toNat) (⟨x2.class_,x2.method,x2.fast,x2.code,x2.self_,x2.args,x2.temps,x2.stack,(wr (x2.at_+(1:Int)))⟩:p8)),a0.back,a0.err⟩:l7) ((wr ((a0.frames.length:Int) - (1:Int))).toNat) x4.a).bind fun r48=>some ((a0.w.classes,a0.w.heap,a0.w.epoch,r48.fuel,r48.sends,r48.turns,r48.frames,r48.back.k,r48.back.n,r48.err))) else (((bif decide (x4.op=(16:Int)) then ((W9 N (a0.frames.set ((wr ((a0.frames.length:Int) - (1:Int))).toNat) (⟨x2.class_,x2.method,x2.fast,x2.code,x2.self_,x2.args,x2.temps,x2.stack,(wr (x2.at_+(1:Int)))⟩:p8)) ((wr ((a0.frames.length:Int) - (1:Int))).toNat)).bind fun r63=>(((((bif decide (r63.1.k=(1:Int)) then ((P9 N (⟨(⟨a0.w.classes,a0.w.heap,a0.w.epoch⟩:Wd),a0.fuel,a0.sends,a0.turns,r63.2,a0.back,a0.err⟩:l7) ((wr ((a0.frames.length:Int) - (1:Int))).toNat) x4.a).bind fun r84=>some ((r84.fuel,r84.sends,r84.turns,r84.frames,r84.back.k,r84.back.n,r84.err))) else (((bif decide (r63.1.k=(2:Int)) then some ((a0.fuel,a0.sends,a0.turns,a0.back.k,a0.back.n,a0.err)) else ((H6 N (⟨(⟨a0.w.classes,a0.w.heap,a0.w.epoch⟩:Wd),a0.fuel,a0.sends,a0.turns,r63.2,a0.back,a0.err⟩:l7) (11:Int)).bind fun r95=>some ((r95.fuel,r95.sends,r95.turns,r95.back.k,r95.back.n,r95.err)))):Option (Int×Int×Int×Int×Int×Int)).bind fun (v86,v87,v88,v89,v90,v91)=>some ((v86,v87,v88,r63.2,v89,v90,v91)))):Option (Int×Int×Int×(List p8)×Int×Int×Int)).bind fun (v74,v75,v76,v77,v78,v79,v80)=>some ((v74,v75,v76,v77,v78,v79,v80))):Option (Int×Int×Int×(List p8)×Int×Int×Int)).bind fun (v65,v66,v67,v68,v69,v70,v71)=>some ((a0.w.classes,a0.w.heap,a0.w.epoch,v65,v66,v67,v68,v69,v70,v71)))) else (((bif decide (x4.op=(17:Int)) then ((W9 N (a0.frames.set ((wr ((a0.frames.length:Int) - (1:Int))).toNat) (⟨x2.class_,x2.method,x2.fast,x2.code,x2.self_,x2.args,x2.temps,x2.stack,(wr (x2.at_+(1:Int)))⟩:p8)) ((wr ((a0.frames.length:Int) - (1:Int))).toNat)).bind fun r110=>(bif (decide (0≤(wr ((r110.2.length:Int) - (1:Int)))) && decide ((wr ((r110.2.length:Int) - (1:Int)))≤(r110.2.length:Int))) then ((U2 N (⟨(⟨a0.w.classes,a0.w.heap,a0.w.epoch⟩:Wd),a0.fuel,a0.sends,a0.turns,(r110.2.take (wr ((r110.2.length:Int) - (1:Int))).toNat),a0.back,a0.err⟩:l7) r110.1).bind fun r114=>some ((a0.w.classes,a0.w.heap,a0.w.epoch,r114.fuel,r114.sends,r114.turns,r114.frames,r114.back.k,r114.back.n,r114.err))) else none)) else (((bif decide (x4.op=(18:Int)) then ((U8 N (⟨(⟨a0.w.classes,a0.w.heap,a0.w.epoch⟩:Wd),a0.fuel,a0.sends,a0.turns,(a0.frames.set ((wr ((a0.frames.length:Int) - (1:Int))).toNat) (⟨x2.class_,x2.method,x2.fast,x2.code,x2.self_,x2.args,x2.temps,x2.stack,(wr (x2.at_+(1:Int)))⟩:p8)),a0.back,a0.err⟩:l7) ((wr ((a0.frames.length:Int) - (1:Int))).toNat) x4).bind fun r129=>some ((a0.w.classes,a0.w.heap,a0.w.epoch,r129.fuel,r129.sends,r129.turns,r129.frames,r129.back.k,r129.back.n,r129.err))) else (((bif decide (x4.op=(21:Int)) then ((O6 N (⟨(⟨a0.w.classes,a0.w.heap,a0.w.epoch⟩:Wd),a0.fuel,a0.sends,a0.turns,(a0.frames.set ((wr ((a0.frames.length:Int) - (1:Int))).toNat) (⟨x2.class_,x2.method,x2.fast,x2.code,x2.self_,x2.args,x2.temps,x2.stack,(wr (x2.at_+(1:Int)))⟩:p8)),a0.back,a0.err⟩:l7) true).bind fun r144=>some ((a0.w.classes,a0.w.heap,a0.w.epoch,r144.2.fuel,r144.2.sends,r144.2.turns,(a0.frames.set ((wr ((a0.frames.length:Int) - (1:Int))).toNat) (⟨x2.class_,x2.method,x2.fast,x2.code,x2.self_,x2.args,x2.temps,x2.stack,(wr (x2.at_+(1:Int)))⟩:p8)),r144.2.back.k,r144.2.back.n,r144.2.err))) else ((V9 N (⟨(⟨a0.w.classes,a0.w.heap,a0.w.epoch⟩:Wd),a0.fuel,a0.sends,a0.turns,(a0.frames.set ((wr ((a0.frames.length:Int) - (1:Int))).toNat) (⟨x2.class_,x2.method,x2.fast,x2.code,x2.self_,x2.args,x2.temps,x2.stack,(wr (x2.at_+(1:Int)))⟩:p8)),a0.back,a0.err⟩:l7) ((wr ((a0.frames.length:Int) - (1:Int))).toNat) x4).bind fun r146=>some ((r146.w.classes,r146.w.heap,r146.w.epoch,r146.fuel,r146.sends,r146.turns,r146.frames,r146.back.k,r146.back.n,r146.err)))):Option ((List Cl)×(List Ob)×Int×Int×Int×Int×(List p8)×Int×Int×Int)).bind fun (v131,v132,v133,v134,v135,v136,v137,v138,v139,v140)=>some ((v131,v132,v133,v134,v135,v136,v137,v138,v139,v140)))):Option ((List Cl)×(List Ob)×Int×Int×Int×Int×(List p8)×Int×Int×Int)).bind fun (v116,v117,v118,v119,v120,v121,v122,v123,v124,v125)=>some ((v116,v117,v118,v119,v120,v121,v122,v123,v124,v125)))):Option ((List Cl)×(List Ob)×Int×Int×Int×Int×(List p8)×Int×Int×Int)).bind fun (v97,v98,v99,v100,v101,v102,v103,v104,v105,v106)=>some ((v97,v98,v99,v100,v101,v102,v103,v104,v105,v106)))):Option ((List Cl)×(List Ob)×Int×Int×Int×Int×(List p8)×Int×Int×Int)).bind fun (v50,v51,v52,v53,v54,v55,v56,v57,v58,v59)=>some ((v50,v51,v52,v53,v54,v55,v56,v57,v58,v59)))):Option ((List Cl)×(List Ob)×Int×Int×Int×Int×(List p8)×Int×Int×Int)).bind fun (v35,v36,v37,v38,v39,v40,v41,v42,v43,v44)=>some ((v35,v36,v37,sb,v38,v39,v40,v41,v42,v43,v44)))):Option ((List Cl)×(List Ob)×Int×H7×Int×Int×Int×(List p8)×Int×Int×Int)).bind fun (v19,v20,v21,v22,v23,v24,v25,v26,v27,v28,v29)=>some ((v19,v20,v21,v22,v23,v24,v25,v26,v27,v28,v29))):Option ((List Cl)×(List Ob)×Int×H7×Int×Int×Int×(List p8)×Int×Int×Int)).bind fun (v6,v7,v8,v9,v10,v11,v12,v13,v14,v15,v16)=>some (v9,(⟨(⟨v6,v7,v8⟩:Wd),v10,v11,v12,v13,(⟨v14,v15⟩:V),v16⟩:l7)))))

def aL6 (N:Nat) (g3:(St→Int→ByteArray→H7→Option (Int×Int×H7))) (g4:(Int→Int→Option (Fs×Bool))):Nat→H7→(List Cl)→(List Ob)→Int→Int→Int→Int→(List p8)→Int→Int→Int→Option ((H7×(List Cl)×(List Ob)×Int×Int×Int×Int×(List p8)×Int×Int×Int))
  |0,_,_,_,_,_,_,_,_,_,_,_=>none
  |n64+1,v27,v28,v29,v30,v31,v32,v33,v34,v35,v36,v37=>(((bif decide (v37=(0:Int)) then some (decide ((0:Int) < (v34.length:Int))) else some (false)):Option Bool).bind fun v65=>(bif v65 then ((aR4 N (⟨(⟨v28,v29,v30⟩:Wd),v31,v32,v33,v34,(⟨v35,v36⟩:V),v37⟩:l7) g3 g4 v27).bind fun r71=>aL6 N g3 g4 n64 r71.1 r71.2.w.classes r71.2.w.heap r71.2.w.epoch r71.2.fuel r71.2.sends r71.2.turns r71.2.frames r71.2.back.k r71.2.back.n r71.2.err) else some ((v27,v28,v29,v30,v31,v32,v33,v34,v35,v36,v37))))

def bL5 (N:Nat) (a0:Wd) (a1:V7) (a2:Int) (g3:St→Int→ByteArray→H7→Option (Int×Int×H7)) (sb:H7) (g4:Int→Int→Option (Fs×Bool)):Option (Wd×aG7×H7) :=
  ((bF0 N a0 a1 a2).bind fun r1=>(bif (!decide (r1=(0:Int))) then ((aH7 N a0).bind fun r4=>some (r4,(⟨(⟨(0:Int),(0:Int)⟩:V),r1,(0:Int)⟩:aG7),sb)) else ((aH7 N a0).bind fun r6=>((aI1 N r6.heap a1.self_).bind fun r8=>((aB3 N (⟨r6.classes,r6.heap,r6.epoch⟩:Wd) r8 a1.name).bind fun r10=>(((bif decide (r10.2 < (0:Int)) then ((H6 N (⟨(⟨r6.classes,r6.heap,r6.epoch⟩:Wd),a2,(0:Int),(0:Int),([]:List p8),(⟨(0:Int),(0:Int)⟩:V),(0:Int)⟩:l7) (10:Int)).bind fun r22=>some ((r22.fuel,r22.sends,r22.turns,([]:List p8),r22.back.k,r22.back.n,r22.err))) else ((O5 N (⟨(⟨r6.classes,r6.heap,r6.epoch⟩:Wd),a2,(0:Int),(0:Int),([]:List p8),(⟨(0:Int),(0:Int)⟩:V),(0:Int)⟩:l7) g4 r10.1 r10.2 a1.self_ a1.args).bind fun r24=>some ((r24.fuel,r24.sends,r24.turns,r24.frames,r24.back.k,r24.back.n,r24.err)))):Option (Int×Int×Int×(List p8)×Int×Int×Int)).bind fun (v12,v13,v14,v15,v16,v17,v18)=>((aL6 N g3 g4 N sb r6.classes r6.heap r6.epoch v12 v13 v14 v15 v16 v17 v18).bind fun (v49,v50,v51,v52,v53,v54,v55,v56,v57,v58,v59)=>(bif (!decide (v59=(0:Int))) then ((aH7 N a0).bind fun r74=>some (r74,(⟨(⟨(0:Int),(0:Int)⟩:V),v59,v54⟩:aG7),v49)) else some ((⟨v50,v51,v52⟩:Wd),(⟨(⟨v57,v58⟩:V),(0:Int),v54⟩:aG7),v49)))))))))

def G8 (N:Nat) (g1:(Ce→Option Bool)):List Ce→Nat→Option (F3 Int Unit)
  |[],k2=>some (.next ())
  |x8::rest5,k2=>((g1 x8).bind fun r11=>(bif r11 then some (.ret (k2:Int)) else G8 N g1 rest5 (k2+1)))

def O8 (N:Nat) (a0:(List Ce)) (g1:Ce→Option Bool):Option Int :=
  ((G8 N g1 a0 0).bind fun o=>match o with|.ret r=>some r|.next ()=>some (-1:Int))

def aH1 (N:Nat) (a0:Ce) (b0:St):Option Bool :=
  some (aU8 (eSt a0.site) (eSt b0))

def aS8 (N:Nat) (a0:(List Ce)) (a1:St):Option Int :=
  ((O8 N a0 (fun x0_=>aH1 N x0_ a1)).bind fun r1=>some r1)

def aQ4 (N:Nat) (a3:Int):List Ln→Nat→Option (F3 Int Unit)
  |[],k13=>some (.next ())
  |x19::rest16,k13=>(bif decide (x19.cls=a3) then some (.ret x19.found) else aQ4 N a3 rest16 (k13+1))

def bO4 (N:Nat) (a0:(List Ce)) (a1:St) (a2:Int) (a3:Int):Option Int :=
  ((aS8 N a0 a1).bind fun r1=>(((bif decide (r1 < (0:Int)) then some (true) else ((F4 a0 r1).bind fun x7=>some ((!decide (x7.epoch=a2))))):Option Bool).bind fun v3=>(bif v3 then some (-1:Int) else ((F4 a0 r1).bind fun x10=>((aQ4 N a3 x10.lines 0).bind fun o=>match o with|.ret r=>some r|.next ()=>some (-1:Int))))))

def D8 (N:Nat) (g1:(Ln→Option Bool)):List Ln→Nat→Option (F3 Int Unit)
  |[],k2=>some (.next ())
  |x8::rest5,k2=>((g1 x8).bind fun r11=>(bif r11 then some (.ret (k2:Int)) else D8 N g1 rest5 (k2+1)))

def J6 (N:Nat) (a0:(List Ln)) (g1:Ln→Option Bool):Option Int :=
  ((D8 N g1 a0 0).bind fun o=>match o with|.ret r=>some r|.next ()=>some (-1:Int))

def M9 (N:Nat) (a0:(List Ln)) (g1:Ln→Option Bool):Option Bool :=
  ((J6 N a0 g1).bind fun r1=>some (decide ((0:Int)≤r1)))

def aN4 (N:Nat) (a0:Ln) (b0:Int):Option Bool :=
  some (decide (a0.cls=b0))

/-- a cell, once something is put into it -/
def aJ6 (e:Int) (x:Ce):Ce:=if x.epoch=e then x else ⟨x.site,e,false,[]⟩
def Q8 (c f:Int) (y:Ce):Ce:=if y.many=true∨0≤ixf (fun t:Ln=>decide (t.cls=c)) y.lines then y else if (3:Int)≤(y.lines.length:Int) then ⟨y.site,y.epoch,true,[]⟩ else ⟨y.site,y.epoch,y.many,y.lines++[⟨c,f⟩]⟩
def cN8 (e c f:Int) (x:Ce):Ce:=Q8 c f (aJ6 e x)
def bP0 (N:Nat) (a0:List Ce) (a1:St) (a2:Int) (a3:Int) (a4:Int):Option (List Ce) :=
  bif (Nat.ble ((a0.length+1)*72) 140737488355328 && a0.all fun t=>Nat.ble ((t.lines.length+1)*16) 140737488355328) then
    some ((ixd (fun t:Ce=>decide (t.site=a1)) ⟨a1,a2,false,[]⟩ a0).1.modify (ixd (fun t:Ce=>decide (t.site=a1)) ⟨a1,a2,false,[]⟩ a0).2 (cN8 a2 a3 a4)) else none

def bJ1 (N:Nat) (a0:(List Ce)) (a1:Wd) (a2:St) (a3:Int) (a4:ByteArray):Option ((List Ce)×Int×Int×Bool) :=
  ((bO4 N a0 a2 a1.epoch a3).bind fun r1=>(((bif decide ((0:Int)≤r1) then some (decide (r1 < (a1.classes.length:Int))) else some (false)):Option Bool).bind fun v3=>(bif v3 then ((aB3 N a1 r1 a4).bind fun r9=>((aU3 N a0).bind fun r11=>some (r11,r9.1,r9.2,true))) else ((aB3 N a1 a3 a4).bind fun r13=>(bif decide (r13.2 < (0:Int)) then ((aU3 N a0).bind fun r16=>some (r16,r13.1,r13.2,false)) else ((bP0 N a0 a2 a1.epoch a3 r13.1).bind fun r18=>some (r18,r13.1,r13.2,false)))))))

def F9 (N:Nat) (g1:(Tl→Option Bool)):List Tl→Nat→Option (F3 Int Unit)
  |[],k2=>some (.next ())
  |x8::rest5,k2=>((g1 x8).bind fun r11=>(bif r11 then some (.ret (k2:Int)) else F9 N g1 rest5 (k2+1)))

def O4 (N:Nat) (a0:(List Tl)) (g1:Tl→Option Bool):Option Int :=
  ((F9 N g1 a0 0).bind fun o=>match o with|.ret r=>some r|.next ()=>some (-1:Int))

def aN5 (N:Nat) (a0:Tl) (b0:St):Option Bool :=
  some (aU8 (eSt a0.site) (eSt b0))

def aN7 (N:Nat) (a0:Ln) (b0:Int):Option Bool :=
  some (decide (a0.cls=b0))

def a01 (c:Int) (l:List Ln):List Ln:=let q:=ixd (fun x=>decide (x.cls=c)) ⟨c,0⟩ l; q.1.modify q.2 fun x=>⟨x.cls,wr (x.found+1)⟩
def cL3 (s:St) (c:Int) (l:List Tl):List Tl:=let q:=ixd (fun t=>decide (t.site=s)) ⟨s,[]⟩ l; q.1.modify q.2 fun t=>⟨t.site,a01 c t.classes⟩
def bO1 (N:Nat) (a0:List Tl) (a1:St) (a2:Int):Option (List Tl) :=
  bif (Nat.ble ((a0.length+1)*56) 140737488355328 && a0.all fun t=>Nat.ble ((t.classes.length+1)*16) 140737488355328) then some (cL3 a1 a2 a0) else none

def aV4 (N:Nat) (a0:St) (a1:Int) (a2:ByteArray) (b0:H7) (b1:Wd):Option (Int×Int×H7) :=
  ((bJ1 N b0.cells b1 a0 a1 a2).bind fun r1=>((bO1 N b0.tallies a0 a1).bind fun r3=>(((bif r1.2.2.2 then some (((wr (b0.hits+(1:Int))),b0.not)) else some ((b0.hits,(wr (b0.not+(1:Int)))))):Option (Int×Int)).bind fun (v5,v6)=>some (r1.2.1,r1.2.2.1,(⟨b0.world,b0.ran,r1.1,r3,v5,v6⟩:H7)))))

def bL1 (N:Nat) (a0:Wd) (a1:V7) (a2:Int) (a3:(List Ce)) (a4:(List Tl)):Option H7 :=
  ((aU3 N a3).bind fun r1=>((bD9 N a4).bind fun r3=>((bL5 N a0 a1 a2 (fun x0_ x1_ x2_ s_=>aV4 N x0_ x1_ x2_ s_ a0) (⟨(⟨([]:List Cl),([]:List Ob),(0:Int)⟩:Wd),(⟨(⟨(0:Int),(0:Int)⟩:V),(0:Int),(0:Int)⟩:aG7),r1,r3,(0:Int),(0:Int)⟩:H7) (fun x0_ x1_=>aW8 N x0_ x1_)).bind fun r5=>some (⟨r5.1,r5.2.1,r5.2.2.cells,r5.2.2.tallies,r5.2.2.hits,r5.2.2.not⟩:H7))))

def aL7 (N:Nat):List Ln→Nat→Int→Int→Option ((Int×Int))
  |[],k23,v24,v25=>some ((v24,v25))
  |x35::rest32,k23,v24,v25=>(((((bif decide (v25 < x35.found) then some (true) else (bif decide (x35.found=v25) then (bif decide ((0:Int) < v25) then some (decide (x35.cls < v24)) else some (false)) else some (false))):Option Bool).bind fun v42=>(((bif v42 then some ((x35.cls,x35.found)) else some ((v24,v25))):Option (Int×Int)).bind fun (v48,v49)=>some ((v48,v49)))):Option (Int×Int)).bind fun (v38,v39)=>aL7 N rest32 (k23+1) v38 v39)

def aM0 (N:Nat) (a1:St):List Tl→Nat→Int→Int→Option ((Int×Int))
  |[],k2,v3,v4=>some ((v3,v4))
  |x14::rest11,k2,v3,v4=>(((bif (!(aU8 (eSt x14.site) (eSt a1))) then some ((v3,v4)) else ((aL7 N x14.classes 0 v3 v4).bind fun (v28,v29)=>some ((v28,v29)))):Option (Int×Int)).bind fun (v17,v18)=>aM0 N a1 rest11 (k2+1) v17 v18)

def bL2 (N:Nat) (a0:(List Tl)) (a1:St):Option (Int×Int) :=
  ((aM0 N a1 a0 0 (-1:Int) (0:Int)).bind fun (v7,v8)=>some (v7,v8))

def aR2 (N:Nat):List Ln→Nat→Int→Option (Int)
  |[],k19,v20=>some (v20)
  |x28::rest25,k19,v20=>aR2 N rest25 (k19+1) (wr (v20+x28.found))

def aP3 (N:Nat) (a1:St):List Tl→Nat→Int→Option (Int)
  |[],k2,v3=>some (v3)
  |x11::rest8,k2,v3=>(((bif (!(aU8 (eSt x11.site) (eSt a1))) then some (v3) else ((aR2 N x11.classes 0 v3).bind fun v22=>some (v22))):Option Int).bind fun v14=>aP3 N a1 rest8 (k2+1) v14)

def bP9 (N:Nat) (a0:(List Tl)) (a1:St):Option Int :=
  ((aP3 N a1 a0 0 (0:Int)).bind fun v5=>some v5)

def L8 (N:Nat) (g1:(Ins→Option Bool)):List Ins→Nat→Option (F3 Int Unit)
  |[],k2=>some (.next ())
  |x8::rest5,k2=>((g1 x8).bind fun r11=>(bif r11 then some (.ret (k2:Int)) else L8 N g1 rest5 (k2+1)))

def V8 (N:Nat) (a0:(List Ins)) (g1:Ins→Option Bool):Option Int :=
  ((L8 N g1 a0 0).bind fun o=>match o with|.ret r=>some r|.next ()=>some (-1:Int))

def U6 (N:Nat) (a0:(List Ins)) (g1:Ins→Option Bool):Option Bool :=
  ((V8 N a0 g1).bind fun r1=>some (decide ((0:Int)≤r1)))

def aT3 (N:Nat) (a0:Ins):Option Bool :=
  (((bif decide (a0.op=(14:Int)) then some (true) else some (decide (a0.op=(13:Int)))):Option Bool).bind fun v1=>some v1)

def aY2 (N:Nat) (a0:Me):Option Bool :=
  (((bif decide (a0.prim=(0:Int)) then ((U6 N a0.code (fun x0_=>aT3 N x0_)).bind fun r5=>some ((!r5))) else some (false)):Option Bool).bind fun v1=>some v1)

def bG5 (N:Nat) (a0:Wd) (a1:(List Tl)) (a2:St) (a3:ByteArray) (a4:Int):Option Int :=
  ((bL2 N a1 a2).bind fun r1=>((bP9 N a1 a2).bind fun r3=>(((bif decide (r1.1 < (0:Int)) then some (true) else (bif decide (r3 < (2:Int)) then some (true) else some (decide ((wr ((2:Int)*r1.2))≤r3)))):Option Bool).bind fun v5=>(bif v5 then some (-1:Int) else ((aB3 N a0 r1.1 a3).bind fun r11=>(((bif decide (r11.2 < (0:Int)) then some (true) else ((F4 a0.classes r11.1).bind fun x17=>((F4 x17.methods r11.2).bind fun x19=>((aY2 N x19).bind fun r21=>(bif (!r21) then some (true) else ((F4 a0.classes r11.1).bind fun x24=>((F4 x24.methods r11.2).bind fun x26=>some ((!decide (x26.args=a4)))))))))):Option Bool).bind fun v13=>(bif v13 then some (-1:Int) else some r1.1)))))))

def aH2 (N:Nat) (a0:Wd) (a1:(List Tl)) (a2:Int) (x14:Me):List Ins→Nat→(List Int)→Option ((List Int))
  |[],k17,v18=>some (v18)
  |x26::rest23,k17,v18=>(((bif decide (x26.op=(14:Int)) then ((bG5 N a0 a1 (⟨a2,x14.name,(k17:Int)⟩:St) x26.name x26.a).bind fun r33=>some (r33)) else some ((-1:Int))):Option Int).bind fun v29=>(bif Nat.ble ((v18.length+[v29].length)*8) 140737488355328 then aH2 N a0 a1 a2 x14 rest23 (k17+1) (v18++[v29]) else none))

def bA6 (N:Nat) (a0:Wd) (a1:(List Tl)) (a2:Int) (a3:Int):Option (List Int) :=
  (((bif decide (a2 < (0:Int)) then some (true) else (bif decide ((a0.classes.length:Int)≤a2) then some (true) else (bif decide (a3 < (0:Int)) then some (true) else ((F4 a0.classes a2).bind fun x8=>some (decide ((x8.methods.length:Int)≤a3)))))):Option Bool).bind fun v1=>(bif v1 then some ([]:List Int) else ((F4 a0.classes a2).bind fun x12=>((F4 x12.methods a3).bind fun x14=>((aH2 N a0 a1 a2 x14 x14.code 0 ([]:List Int)).bind fun v20=>some v20)))))

def aL2 (N:Nat) (a0:F6) (a1:Int) (a2:ByteArray):Option ((Option Me)×F6) :=
  ((aB3 N a0.w a1 a2).bind fun r1=>(bif decide (r1.2 < (0:Int)) then some (none,(⟨a0.w,a0.m,a0.out,a0.temps,a0.at_,a0.fix⟩:F6)) else ((F4 a0.w.classes r1.1).bind fun x4=>((F4 x4.methods r1.2).bind fun x6=>some ((some x6),(⟨a0.w,a0.m,a0.out,a0.temps,a0.at_,a0.fix⟩:F6))))))

def bG4 (N:Nat) (a0:Me):Option Int :=
  some (wr ((wr ((wr ((3:Int)+a0.args))+(wr ((2:Int)*a0.temps))))+(a0.code.length:Int)))

def I8 (N:Nat) (a0:F6) (a1:Int) (a2:Int) (a3:Int) (a4:Int):Option F6 :=
  (bif Nat.ble ((a0.out.length+[(⟨a1,a2,a3,a4,ByteArray.empty⟩:Ins)].length)*48) 140737488355328 then some (⟨a0.w,a0.m,(a0.out++[(⟨a1,a2,a3,a4,ByteArray.empty⟩:Ins)]),a0.temps,a0.at_,a0.fix⟩:F6) else none)

def aA2 (N:Nat) (a0:F6):Nat→Wd→Me→(List Ins)→Int→(List Int)→(List Int)→Int→Option ((Wd×Me×(List Ins)×Int×(List Int)×(List Int)))
  |0,_,_,_,_,_,_,_=>none
  |n30+1,v6,v7,v8,v9,v10,v11,v12=>(bif decide ((0:Int)≤v12) then ((I8 N (⟨v6,v7,v8,v9,v10,v11⟩:F6) (11:Int) (wr (a0.temps+v12)) (0:Int) (0:Int)).bind fun r32=>aA2 N a0 n30 r32.w r32.m r32.out r32.temps r32.at_ r32.fix (wr (v12 - (1:Int)))) else some ((v6,v7,v8,v9,v10,v11)))

def aA3 (N:Nat) (a0:F6) (a4:Me):Nat→Nat→Wd→Me→(List Ins)→Int→(List Int)→(List Int)→Option ((Wd×Me×(List Ins)×Int×(List Int)×(List Int)))
  |0,k34,v35,v36,v37,v38,v39,v40=>some ((v35,v36,v37,v38,v39,v40))
  |n57+1,k34,v35,v36,v37,v38,v39,v40=>((I8 N (⟨v35,v36,v37,v38,v39,v40⟩:F6) (6:Int) (0:Int) (0:Int) (0:Int)).bind fun r61=>((I8 N (⟨r61.w,r61.m,r61.out,r61.temps,r61.at_,r61.fix⟩:F6) (11:Int) (wr ((wr ((wr (a0.temps+(1:Int)))+a4.args))+(k34:Int))) (0:Int) (0:Int)).bind fun r63=>aA3 N a0 a4 n57 (k34+1) r63.w r63.m r63.out r63.temps r63.at_ r63.fix))

def Z8 (N:Nat) (a0:F6) (a4:Me) (v49:(List Ins)):List Ins→Nat→Wd→Me→(List Ins)→Int→(List Int)→(List Int)→Option ((Wd×Me×(List Ins)×Int×(List Int)×(List Int)))
  |[],k67,v68,v69,v70,v71,v72,v73=>some ((v68,v69,v70,v71,v72,v73))
  |x91::rest88,k67,v68,v69,v70,v71,v72,v73=>(((((((bif decide (x91.op=(1:Int)) then ((I8 N (⟨v68,v69,v70,v71,v72,v73⟩:F6) (3:Int) a0.temps (0:Int) (0:Int)).bind fun r119=>some ((r119.w,r119.m,r119.out,r119.temps,r119.at_,r119.fix))) else (((bif decide (x91.op=(2:Int)) then ((I8 N (⟨v68,v69,v70,v71,v72,v73⟩:F6) (3:Int) (wr ((wr (a0.temps+(1:Int)))+x91.a)) (0:Int) (0:Int)).bind fun r130=>some ((r130.w,r130.m,r130.out,r130.temps,r130.at_,r130.fix))) else (((bif decide (x91.op=(3:Int)) then some (decide (x91.op=(3:Int))) else some (decide (x91.op=(11:Int)))):Option Bool).bind fun v132=>(((bif v132 then ((I8 N (⟨v68,v69,v70,v71,v72,v73⟩:F6) x91.op (wr ((wr ((wr (a0.temps+(1:Int)))+a4.args))+x91.a)) (0:Int) (0:Int)).bind fun r145=>some ((r145.w,r145.m,r145.out,r145.temps,r145.at_,r145.fix))) else (((bif decide (x91.op=(4:Int)) then ((I8 N (⟨v68,v69,v70,v71,v72,v73⟩:F6) (19:Int) a0.temps x91.a (0:Int)).bind fun r156=>some ((r156.w,r156.m,r156.out,r156.temps,r156.at_,r156.fix))) else (((bif decide (x91.op=(12:Int)) then ((I8 N (⟨v68,v69,v70,v71,v72,v73⟩:F6) (20:Int) a0.temps x91.a (0:Int)).bind fun r167=>some ((r167.w,r167.m,r167.out,r167.temps,r167.at_,r167.fix))) else (((bif decide (x91.op=(15:Int)) then some (decide (x91.op=(15:Int))) else some (decide (x91.op=(16:Int)))):Option Bool).bind fun v169=>(((bif v169 then ((I8 N (⟨v68,v69,v70,v71,v72,v73⟩:F6) x91.op (wr ((v49.length:Int)+x91.a)) (0:Int) (0:Int)).bind fun r182=>some ((r182.w,r182.m,r182.out,r182.temps,r182.at_,r182.fix))) else (((bif decide (x91.op=(17:Int)) then ((I8 N (⟨v68,v69,v70,v71,v72,v73⟩:F6) (15:Int) (wr ((v49.length:Int)+(a4.code.length:Int))) (0:Int) (0:Int)).bind fun r194=>some ((r194.w,r194.m,r194.out,r194.temps,r194.at_,r194.fix))) else ((I8 N (⟨v68,v69,v70,v71,v72,v73⟩:F6) x91.op x91.a (0:Int) (0:Int)).bind fun r196=>some ((r196.w,r196.m,r196.out,r196.temps,r196.at_,r196.fix)))):Option (Wd×Me×(List Ins)×Int×(List Int)×(List Int))).bind fun (v184,v185,v186,v187,v188,v189)=>some ((v184,v185,v186,v187,v188,v189)))):Option (Wd×Me×(List Ins)×Int×(List Int)×(List Int))).bind fun (v173,v174,v175,v176,v177,v178)=>some ((v173,v174,v175,v176,v177,v178))))):Option (Wd×Me×(List Ins)×Int×(List Int)×(List Int))).bind fun (v158,v159,v160,v161,v162,v163)=>some ((v158,v159,v160,v161,v162,v163)))):Option (Wd×Me×(List Ins)×Int×(List Int)×(List Int))).bind fun (v147,v148,v149,v150,v151,v152)=>some ((v147,v148,v149,v150,v151,v152)))):Option (Wd×Me×(List Ins)×Int×(List Int)×(List Int))).bind fun (v136,v137,v138,v139,v140,v141)=>some ((v136,v137,v138,v139,v140,v141))))):Option (Wd×Me×(List Ins)×Int×(List Int)×(List Int))).bind fun (v121,v122,v123,v124,v125,v126)=>some ((v121,v122,v123,v124,v125,v126)))):Option (Wd×Me×(List Ins)×Int×(List Int)×(List Int))).bind fun (v110,v111,v112,v113,v114,v115)=>some ((v110,v111,v112,v113,v114,v115))):Option (Wd×Me×(List Ins)×Int×(List Int)×(List Int))).bind fun (v102,v103,v104,v105,v106,v107)=>some ((v102,v103,v104,v105,v106,v107))):Option (Wd×Me×(List Ins)×Int×(List Int)×(List Int))).bind fun (v94,v95,v96,v97,v98,v99)=>Z8 N a0 a4 v49 rest88 (k67+1) v94 v95 v96 v97 v98 v99)

def aP8 (N:Nat) (a0:F6) (a1:Int) (a2:Int) (a3:Ins) (a4:Me):Option F6 :=
  ((I8 N (⟨a0.w,a0.m,a0.out,(wr (a0.temps+(wr ((wr ((1:Int)+a4.args))+a4.temps)))),a0.at_,a0.fix⟩:F6) (18:Int) a1 a3.a a2).bind fun r1=>((I8 N (⟨r1.w,r1.m,r1.out,r1.temps,r1.at_,r1.fix⟩:F6) (21:Int) (0:Int) (0:Int) (0:Int)).bind fun r3=>((aA2 N a0 N r3.w r3.m r3.out r3.temps r3.at_ r3.fix a4.args).bind fun (v20,v21,v22,v23,v24,v25)=>((aA3 N a0 a4 ((a4.temps - ((0:Nat):Int)).toNat) 0 v20 v21 v22 v23 v24 v25).bind fun (v47,v48,v49,v50,v51,v52)=>((Z8 N a0 a4 v49 a4.code 0 v47 v48 v49 v50 v51 v52).bind fun (v80,v81,v82,v83,v84,v85)=>some (⟨v80,v81,v82,v83,v84,v85⟩:F6))))))

def aF0 (N:Nat) (a3:(List Int)) (x14:Me):List Ins→Nat→Wd→Me→(List Ins)→Int→(List Int)→(List Int)→Bool→Option ((Wd×Me×(List Ins)×Int×(List Int)×(List Int)×Bool))
  |[],k17,v18,v19,v20,v21,v22,v23,v24=>some ((v18,v19,v20,v21,v22,v23,v24))
  |x44::rest41,k17,v18,v19,v20,v21,v22,v23,v24=>(((bif Nat.ble ((v22.length+[(v20.length:Int)].length)*8) 140737488355328 then (((bif decide (x44.op=(14:Int)) then (bif decide ((k17:Int) < (a3.length:Int)) then ((F4 a3 (k17:Int)).bind fun x64=>some (decide ((0:Int)≤x64))) else some (false)) else some (false)):Option Bool).bind fun v58=>(bif v58 then ((F4 a3 (k17:Int)).bind fun x67=>((aL2 N (⟨v18,v19,v20,v21,(v22++[(v20.length:Int)]),v23⟩:F6) x67 x44.name).bind fun r69=>match r69 with|(none,w71)=>(((bif decide (x44.op=(15:Int)) then some (true) else some (decide (x44.op=(16:Int)))):Option Bool).bind fun v73=>(((bif v73 then (bif Nat.ble ((w71.fix.length+[(w71.out.length:Int)].length)*8) 140737488355328 then some ((w71.fix++[(w71.out.length:Int)])) else none) else some (w71.fix)):Option (List Int)).bind fun v77=>(((bif decide (x44.op=(14:Int)) then some ((⟨x44.op,x44.a,x44.b,(k17:Int),x44.name⟩:Ins)) else some (x44)):Option Ins).bind fun v83=>(bif Nat.ble ((w71.out.length+[v83].length)*48) 140737488355328 then some ((w71.w,w71.m,(w71.out++[v83]),w71.temps,w71.at_,v77,v24)) else none))))|(some x72,w71)=>((((aY2 N x72).bind fun r91=>(bif r91 then (bif decide (x72.args=x44.a) then ((bG4 N x72).bind fun r96=>(bif decide ((wr ((wr ((wr ((w71.out.length:Int)+r96))+(x14.code.length:Int))) - (k17:Int)))≤(240:Int)) then some (decide ((wr ((wr ((wr (w71.temps+(1:Int)))+x72.args))+x72.temps))≤(40:Int))) else some (false))) else some (false)) else some (false))):Option Bool).bind fun v88=>(bif v88 then ((F4 a3 (k17:Int)).bind fun x101=>((aP8 N (⟨w71.w,w71.m,w71.out,w71.temps,w71.at_,w71.fix⟩:F6) x101 (k17:Int) x44 x72).bind fun r103=>some ((r103.w,r103.m,r103.out,r103.temps,r103.at_,r103.fix,true)))) else (((bif decide (x44.op=(15:Int)) then some (true) else some (decide (x44.op=(16:Int)))):Option Bool).bind fun v105=>(((bif v105 then (bif Nat.ble ((w71.fix.length+[(w71.out.length:Int)].length)*8) 140737488355328 then some ((w71.fix++[(w71.out.length:Int)])) else none) else some (w71.fix)):Option (List Int)).bind fun v109=>(((bif decide (x44.op=(14:Int)) then some ((⟨x44.op,x44.a,x44.b,(k17:Int),x44.name⟩:Ins)) else some (x44)):Option Ins).bind fun v115=>(bif Nat.ble ((w71.out.length+[v115].length)*48) 140737488355328 then some ((w71.w,w71.m,(w71.out++[v115]),w71.temps,w71.at_,v109,v24)) else none)))))))) else (((bif decide (x44.op=(15:Int)) then some (true) else some (decide (x44.op=(16:Int)))):Option Bool).bind fun v120=>(((bif v120 then (bif Nat.ble ((v23.length+[(v20.length:Int)].length)*8) 140737488355328 then some ((v23++[(v20.length:Int)])) else none) else some (v23)):Option (List Int)).bind fun v124=>(((bif decide (x44.op=(14:Int)) then some ((⟨x44.op,x44.a,x44.b,(k17:Int),x44.name⟩:Ins)) else some (x44)):Option Ins).bind fun v130=>(bif Nat.ble ((v20.length+[v130].length)*48) 140737488355328 then some ((v18,v19,(v20++[v130]),v21,(v22++[(v20.length:Int)]),v124,v24)) else none)))))) else none):Option (Wd×Me×(List Ins)×Int×(List Int)×(List Int)×Bool)).bind fun (v47,v48,v49,v50,v51,v52,v53)=>aF0 N a3 x14 rest41 (k17+1) v47 v48 v49 v50 v51 v52 v53)

def aE9 (N:Nat) (v36:(List Int)) (v37:(List Int)):List Int→Nat→(List Ins)→Option ((List Ins))
  |[],k137,v138=>some (v138)
  |x146::rest143,k137,v138=>((F4 v37 (k137:Int)).bind fun x149=>((F4 v138 x149).bind fun x151=>((F4 v36 x151.a).bind fun x153=>((F4 v138 x149).bind fun x155=>aE9 N v36 v37 rest143 (k137+1) (v138.set x149.toNat (⟨x155.op,x153,x155.b,x155.c,x155.name⟩:Ins))))))

def a00 (N:Nat) (a0:Wd) (a1:Int) (a2:Int) (a3:(List Int)):Option (Fs×Bool) :=
  (((bif decide (a1 < (0:Int)) then some (true) else (bif decide ((a0.classes.length:Int)≤a1) then some (true) else (bif decide (a2 < (0:Int)) then some (true) else ((F4 a0.classes a1).bind fun x8=>some (decide ((x8.methods.length:Int)≤a2)))))):Option Bool).bind fun v1=>(bif v1 then some ((⟨(0:Int),ByteArray.empty,(0:Int),(0:Int),[]⟩:Fs),false) else ((F4 a0.classes a1).bind fun x12=>((F4 x12.methods a2).bind fun x14=>((aF0 N a3 x14 x14.code 0 a0 x14 ([]:List Ins) x14.temps ([]:List Int) ([]:List Int) false).bind fun (v32,v33,v34,v35,v36,v37,v38)=>(bif (!v38) then some ((⟨(0:Int),ByteArray.empty,(0:Int),(0:Int),[]⟩:Fs),false) else ((aE9 N v36 v37 v37 0 v34).bind fun v140=>some ((⟨a1,x14.name,a0.epoch,v35,v140⟩:Fs),true))))))))

def aT1 (N:Nat) (a0:Wd) (a1:(List Tl)) (k2:Nat):List Me→Nat→(List Fs)→Option ((List Fs))
  |[],k15,v16=>some (v16)
  |x24::rest21,k15,v16=>((((bA6 N a0 a1 (k2:Int) (k15:Int)).bind fun r30=>((a00 N a0 (k2:Int) (k15:Int) r30).bind fun r32=>(((bif r32.2 then (bif Nat.ble ((v16.length+[r32.1].length)*64) 140737488355328 then some ((v16++[r32.1])) else none) else some (v16)):Option (List Fs)).bind fun v34=>some (v34)))):Option (List Fs)).bind fun v27=>aT1 N a0 a1 k2 rest21 (k15+1) v27)

def aT2 (N:Nat) (a0:Wd) (a1:(List Tl)):List Cl→Nat→(List Fs)→Option ((List Fs))
  |[],k2,v3=>some (v3)
  |x11::rest8,k2,v3=>((aT1 N a0 a1 k2 x11.methods 0 v3).bind fun v18=>aT2 N a0 a1 rest8 (k2+1) v18)

def bS8 (N:Nat) (a0:Wd) (a1:(List Tl)):Option (List Fs) :=
  ((aT2 N a0 a1 a0.classes 0 ([]:List Fs)).bind fun v5=>some v5)

def a07 (N:Nat) (a0:St) (a1:Int) (a2:ByteArray) (b0:Wd):Option (Int×Int) :=
  ((aB3 N b0 a1 a2).bind fun r1=>some (r1.1,r1.2))

def aM2 (N:Nat) (a0:Int) (a1:Int) (b1:Wd):List Fs→Nat→Option (F3 (Fs×Bool) Unit)
  |[],k2=>some (.next ())
  |x8::rest5,k2=>(((bif decide (x8.cls=a0) then ((F4 b1.classes a0).bind fun x15=>((F4 x15.methods a1).bind fun x17=>(bif decide (x8.name=x17.name) then some (decide (x8.epoch=b1.epoch)) else some (false)))) else some (false)):Option Bool).bind fun v11=>(bif v11 then some (.ret (x8,true)) else aM2 N a0 a1 b1 rest5 (k2+1)))

def a14 (N:Nat) (a0:Int) (a1:Int) (b0:(List Fs)) (b1:Wd):Option (Fs×Bool) :=
  ((aM2 N a0 a1 b1 b0 0).bind fun o=>match o with|.ret r=>some r|.next ()=>some ((⟨(0:Int),ByteArray.empty,(0:Int),(0:Int),[]⟩:Fs),false))

def bS5 (N:Nat) (a0:Wd) (a1:V7) (a2:Int) (a3:(List Fs)):Option (Wd×aG7) :=
  ((aW7 N a0 a1 a2 (fun x0_ x1_ x2_=>a07 N x0_ x1_ x2_ a0) (fun x0_ x1_=>a14 N x0_ x1_ a3 a0)).bind fun r1=>some (r1.1,r1.2))

def bA8 (N:Nat) (a0:F7) (a1:Int) (a2:V7):Option (N7×F7) :=
  (((((bif decide (a1=(4:Int)) then ((bO0 N a0.world a2 (400:Int)).bind fun r18=>some ((r18.1.classes,r18.1.heap,r18.1.epoch,a0.cells,a0.tallies,r18.2))) else (((bif decide (a1=(5:Int)) then ((bL1 N a0.world a2 (400:Int) a0.cells a0.tallies).bind fun r29=>some ((r29.world.classes,r29.world.heap,r29.world.epoch,r29.cells,r29.tallies,r29.ran))) else ((bS8 N a0.world a0.tallies).bind fun r31=>((bS5 N a0.world a2 (400:Int) r31).bind fun r33=>some ((r33.1.classes,r33.1.heap,r33.1.epoch,a0.cells,a0.tallies,r33.2))))):Option ((List Cl)×(List Ob)×Int×(List Ce)×(List Tl)×aG7)).bind fun (v20,v21,v22,v23,v24,v25)=>some ((v20,v21,v22,v23,v24,v25)))):Option ((List Cl)×(List Ob)×Int×(List Ce)×(List Tl)×aG7)).bind fun (v9,v10,v11,v12,v13,v14)=>some ((v9,v10,v11,v12,v13,v14))):Option ((List Cl)×(List Ob)×Int×(List Ce)×(List Tl)×aG7)).bind fun (v1,v2,v3,v4,v5,v6)=>some ((⟨v6.err,v6.sends,v6.value⟩:N7),(⟨(⟨v1,v2,v3⟩:Wd),v4,v5,a0.saved⟩:F7)))

def aC6 (N:Nat) (a0:(List Int)) (a1:ByteArray):Option (Int×Bool×(List Int)) :=
  (bif Nat.ble (a0.length+a1.size) 140737488355328 then some ((a1.size:Int),true,(a0++aF6 a1)) else none)

def aE1 (N:Nat) (a0:(List Int)) (a1:Int):Option (Bool×(List Int)) :=
  (bif Nat.ble ((a0.length+[a1].length)*1) 140737488355328 then some (true,(a0++[a1])) else none)

def aC0 (N:Nat) (a0:(List Int)) (a1:ByteArray):Option (List Int) :=
  ((aC6 N a0 a1).bind fun r1=>((aE1 N r1.2.2 (32:Int)).bind fun r3=>some r3.2))

def aB7 (N:Nat):List Int→Nat→(List Int)→Option ((List Int))
  |[],k2,v3=>some (v3)
  |x11::rest8,k2,v3=>((strconv_Itoa N x11).bind fun r14=>((aC0 N v3 r14).bind fun r16=>aB7 N rest8 (k2+1) r16))

def U1 (N:Nat) (a0:(List Int)) (a1:(List Int)):Option (List Int) :=
  ((aB7 N a1 0 a0).bind fun v5=>some v5)

def Z7 (N:Nat):List Ins→Nat→(List Int)→Option ((List Int))
  |[],k7,v8=>some (v8)
  |x16::rest13,k7,v8=>((((U1 N v8 [x16.op,x16.a]).bind fun r22=>(((bif decide (x16.op=(14:Int)) then ((aC0 N r22 x16.name).bind fun r28=>some (r28)) else some (r22)):Option (List Int)).bind fun v24=>some (v24))):Option (List Int)).bind fun v19=>Z7 N rest13 (k7+1) v19)

def aP6 (N:Nat) (a0:(List Int)) (a1:Me):Option (List Int) :=
  ((aC0 N a0 a1.name).bind fun r1=>((U1 N r1 [a1.args,a1.temps,a1.prim,(a1.code.length:Int)]).bind fun r4=>((Z7 N a1.code 0 r4).bind fun v10=>some v10)))

def aM5 (N:Nat):List Me→Nat→(List Int)→Option ((List Int))
  |[],k23,v24=>some (v24)
  |x32::rest29,k23,v24=>((aP6 N v24 x32).bind fun r35=>aM5 N rest29 (k23+1) r35)

def aM8 (N:Nat):List Cl→Nat→(List Int)→Option ((List Int))
  |[],k5,v6=>some (v6)
  |x14::rest11,k5,v6=>((aC0 N v6 x14.name).bind fun r17=>((U1 N r17 [x14.super,x14.slots,(x14.methods.length:Int)]).bind fun r20=>((aM5 N x14.methods 0 r20).bind fun v26=>aM8 N rest11 (k5+1) v26)))

def aM9 (N:Nat):List V→Nat→(List Int)→Option ((List Int))
  |[],k57,v58=>some (v58)
  |x66::rest63,k57,v58=>((U1 N v58 [x66.k,x66.n]).bind fun r69=>aM9 N rest63 (k57+1) r69)

def aM6 (N:Nat):List Ob→Nat→(List Int)→Option ((List Int))
  |[],k41,v42=>some (v42)
  |x50::rest47,k41,v42=>((U1 N v42 [x50.cls,(x50.slots.length:Int)]).bind fun r54=>((aM9 N x50.slots 0 r54).bind fun v60=>aM6 N rest47 (k41+1) v60))

def bJ7 (N:Nat) (a0:Wd):Option (List Int) :=
  ((U1 N ([]:List Int) [a0.epoch,(a0.classes.length:Int)]).bind fun r2=>((aM8 N a0.classes 0 r2).bind fun v8=>((U1 N v8 [(a0.heap.length:Int)]).bind fun r38=>((aM6 N a0.heap 0 r38).bind fun v44=>(bif !(v44.isEmpty) then some (aF6 (strOfNums v44)) else none)))))

def aC2 (N:Nat) (a0:H5):Option (ByteArray×H5) :=
  ((strings_Cut N a0.s (⟨#[32]⟩:ByteArray)).bind fun r1=>(((bif (!r1.2.2) then some (true) else some (decide (r1.1=(⟨#[]⟩:ByteArray)))):Option Bool).bind fun v3=>(bif v3 then some ((⟨#[]⟩:ByteArray),(⟨a0.s,false⟩:H5)) else some (r1.1,(⟨r1.2.1,a0.ok_⟩:H5)))))

def M0 (N:Nat) (a0:H5):Option (Int×H5) :=
  ((aC2 N a0).bind fun r1=>((strconv_Atoi N r1.1).bind fun r3=>(((bif (!r3.2) then some (true) else ((strconv_Itoa N r3.1).bind fun r9=>some ((!decide (r9=r1.1))))):Option Bool).bind fun v5=>(((bif v5 then some ((⟨r1.2.s,false⟩:H5)) else some (r1.2)):Option H5).bind fun v11=>some (r3.1,v11)))))

def Y4 (N:Nat) (a0:H5) (a1:Int):Option (Int×H5) :=
  ((M0 N a0).bind fun r1=>(((bif decide (r1.1 < (0:Int)) then some (true) else some (decide (a1 < r1.1))):Option Bool).bind fun v3=>(bif v3 then some ((0:Int),(⟨r1.2.s,false⟩:H5)) else some (r1.1,r1.2))))

def Z9 (N:Nat):Nat→Nat→H5→(List Ins)→Option ((H5×(List Ins)))
  |0,k11,v12,v13=>some ((v12,v13))
  |n22+1,k11,v12,v13=>((M0 N v12).bind fun r26=>((M0 N r26.2).bind fun r28=>(((bif decide (r26.1=(14:Int)) then ((aC2 N r28.2).bind fun r35=>some ((r35.2,r35.1))) else some ((r28.2,ByteArray.empty))):Option (H5×ByteArray)).bind fun (v30,v31)=>(bif Nat.ble ((v13.length+[(⟨r26.1,r28.1,(0:Int),(0:Int),v31⟩:Ins)].length)*48) 140737488355328 then Z9 N n22 (k11+1) v30 (v13++[(⟨r26.1,r28.1,(0:Int),(0:Int),v31⟩:Ins)]) else none))))

def aQ7 (N:Nat) (a0:H5):Option (Me×H5) :=
  ((aC2 N a0).bind fun r1=>((M0 N r1.2).bind fun r3=>((M0 N r3.2).bind fun r5=>((M0 N r5.2).bind fun r7=>((Y4 N r7.2 (60:Int)).bind fun r9=>((Z9 N ((r9.1 - ((0:Nat):Int)).toNat) 0 r9.2 ([]:List Ins)).bind fun (v16,v17)=>some ((⟨r1.1,r3.1,r5.1,r7.1,v17⟩:Me),v16)))))))

def aB2 (N:Nat):Nat→Nat→H5→(List Me)→Option ((H5×(List Me)))
  |0,k28,v29,v30=>some ((v29,v30))
  |n39+1,k28,v29,v30=>((aQ7 N v29).bind fun r43=>(bif Nat.ble ((v30.length+[r43.1].length)*64) 140737488355328 then aB2 N n39 (k28+1) r43.2 (v30++[r43.1]) else none))

def aB1 (N:Nat):Nat→Nat→H5→(List Cl)→Option ((H5×(List Cl)))
  |0,k5,v6,v7=>some ((v6,v7))
  |n16+1,k5,v6,v7=>((aC2 N v6).bind fun r20=>((M0 N r20.2).bind fun r22=>((M0 N r22.2).bind fun r24=>((Y4 N r24.2 (8:Int)).bind fun r26=>((aB2 N ((r26.1 - ((0:Nat):Int)).toNat) 0 r26.2 ([]:List Me)).bind fun (v33,v34)=>(bif Nat.ble ((v7.length+[(⟨r20.1,r22.1,r24.1,v34⟩:Cl)].length)*56) 140737488355328 then aB1 N n16 (k5+1) v33 (v7++[(⟨r20.1,r22.1,r24.1,v34⟩:Cl)]) else none))))))

def aB0 (N:Nat):Nat→Nat→H5→(List V)→Option ((H5×(List V)))
  |0,k68,v69,v70=>some ((v69,v70))
  |n79+1,k68,v69,v70=>((M0 N v69).bind fun r83=>((M0 N r83.2).bind fun r85=>(bif Nat.ble ((v70.length+[(⟨r83.1,r85.1⟩:V)].length)*16) 140737488355328 then aB0 N n79 (k68+1) r85.2 (v70++[(⟨r83.1,r85.1⟩:V)]) else none)))

def aA7 (N:Nat):Nat→Nat→H5→(List Ob)→Option ((H5×(List Ob)))
  |0,k49,v50,v51=>some ((v50,v51))
  |n60+1,k49,v50,v51=>((M0 N v50).bind fun r64=>((Y4 N r64.2 (6:Int)).bind fun r66=>((aB0 N ((r66.1 - ((0:Nat):Int)).toNat) 0 r66.2 ([]:List V)).bind fun (v73,v74)=>(bif Nat.ble ((v51.length+[(⟨r64.1,v74⟩:Ob)].length)*32) 140737488355328 then aA7 N n60 (k49+1) v73 (v51++[(⟨r64.1,v74⟩:Ob)]) else none))))

def aS6 (N:Nat) (a0:H5):Option (Wd×H5) :=
  ((M0 N a0).bind fun r1=>((Y4 N r1.2 (12:Int)).bind fun r3=>((aB1 N ((r3.1 - ((0:Nat):Int)).toNat) 0 r3.2 ([]:List Cl)).bind fun (v10,v11)=>((Y4 N v10 (60:Int)).bind fun r47=>((aA7 N ((r47.1 - ((0:Nat):Int)).toNat) 0 r47.2 ([]:List Ob)).bind fun (v54,v55)=>some ((⟨v11,v55,r1.1⟩:Wd),v54))))))

def bN0 (N:Nat) (a0:Wd) (a1:Me):Option Bool :=
  ((aB3 N a0 (3:Int) a1.name).bind fun r1=>(((bif decide ((0:Int)≤r1.2) then ((F4 a0.classes (3:Int)).bind fun x7=>((F4 x7.methods r1.2).bind fun x9=>(bif decide (a1.prim=x9.prim) then (bif decide (a1.args=(1:Int)) then (bif decide (a1.temps=(0:Int)) then some (decide ((a1.code.length:Int)=(0:Int))) else some (false)) else some (false)) else some (false)))) else some (false)):Option Bool).bind fun v3=>some v3))

def aQ8 (N:Nat) (a0:Wd):List V→Nat→Option (F3 Int Unit)
  |[],k26=>some (.next ())
  |x32::rest29,k26=>((aX9 N x32 (a0.heap.length:Int)).bind fun r36=>(bif (!decide (r36=(0:Int))) then some (.ret r36) else aQ8 N a0 rest29 (k26+1)))

def aQ6 (N:Nat) (a0:Wd):List Ob→Nat→Option (F3 Int Unit)
  |[],k2=>some (.next ())
  |x8::rest5,k2=>(((bif (!decide (x8.cls=(0:Int))) then (bif decide (x8.cls < (4:Int)) then some (true) else (bif decide ((a0.classes.length:Int)≤x8.cls) then some (true) else ((aC4 N a0 x8.cls).bind fun r19=>some ((!decide ((x8.slots.length:Int)=r19)))))) else ((aC4 N a0 x8.cls).bind fun r22=>some ((!decide ((x8.slots.length:Int)=r22))))):Option Bool).bind fun v11=>(bif v11 then some (.ret (8:Int)) else ((aQ8 N a0 x8.slots 0).bind fun o=>match o with|.ret r=>some (.ret r)|.next ()=>aQ6 N a0 rest5 (k2+1))))

def bN5 (N:Nat) (a0:Wd):Option Int :=
  ((aQ6 N a0 a0.heap 0).bind fun o=>match o with|.ret r=>some r|.next ()=>some (0:Int))

def aL5 (N:Nat) (r1:Wd):List Cl→Nat→(List (ByteArray×Bool))→Option (F3 Int Unit)
  |[],k19,v20=>some (.next ())
  |x27::rest24,k19,v20=>((((aK7 N x27.name).bind fun r33=>(bif (!r33) then some (true) else (bif (bY1 x27.name v20) then some (true) else (bif decide ((k19:Int) < (r1.classes.length:Int)) then ((F4 r1.classes (k19:Int)).bind fun x39=>some ((!decide (x27.name=x39.name)))) else some (false))))):Option Bool).bind fun v30=>(bif v30 then some (.ret (7:Int)) else (bif Nat.ble (v20.length+1) 140737488355328 then (((bif decide ((k19:Int) < (r1.classes.length:Int)) then ((F4 r1.classes (k19:Int)).bind fun x48=>(bif (!decide (x27.super=x48.super)) then some (true) else (bif (!decide (x27.slots=(0:Int))) then some (true) else (bif decide ((r1.classes.length:Int)≤(k19:Int)) then (bif decide (x27.super < (0:Int)) then some (true) else (bif decide ((k19:Int)≤x27.super) then some (true) else (bif (!decide (x27.super=(0:Int))) then (bif decide (x27.super < (4:Int)) then some (true) else (bif decide (x27.slots < (0:Int)) then some (true) else some (decide ((6:Int) < x27.slots)))) else (bif decide (x27.slots < (0:Int)) then some (true) else some (decide ((6:Int) < x27.slots)))))) else (bif decide (x27.slots < (0:Int)) then some (true) else some (decide ((6:Int) < x27.slots))))))) else (bif decide ((r1.classes.length:Int)≤(k19:Int)) then (bif decide (x27.super < (0:Int)) then some (true) else (bif decide ((k19:Int)≤x27.super) then some (true) else (bif (!decide (x27.super=(0:Int))) then (bif decide (x27.super < (4:Int)) then some (true) else (bif decide (x27.slots < (0:Int)) then some (true) else some (decide ((6:Int) < x27.slots)))) else (bif decide (x27.slots < (0:Int)) then some (true) else some (decide ((6:Int) < x27.slots)))))) else (bif decide (x27.slots < (0:Int)) then some (true) else some (decide ((6:Int) < x27.slots))))):Option Bool).bind fun v43=>(bif v43 then some (.ret (3:Int)) else aL5 N r1 rest24 (k19+1) (bC1 x27.name true v20))) else none)))

def aN1 (N:Nat) (a0:Wd) (r1:Wd) (k72:Nat) (x78:Cl):List Me→Nat→Option (F3 Int Unit)
  |[],k87=>some (.next ())
  |x93::rest90,k87=>(((((bif decide ((0:Int) < (k87:Int)) then ((F4 x78.methods (wr ((k87:Int) - (1:Int)))).bind fun x102=>some ((!ltS x102.name x93.name))) else some (false)):Option Bool).bind fun v98=>(bif v98 then some (.ret (7:Int)) else (((bif (!decide (x93.prim=(0:Int))) then (bif decide ((k72:Int)=(3:Int)) then ((bN0 N r1 x93).bind fun r110=>some (r110)) else some (false)) else some (false)):Option Bool).bind fun v105=>(bif v105 then some (.next ()) else ((a15 N a0 (k72:Int) x93).bind fun r113=>(bif (!decide (r113.err=(0:Int))) then some (.ret r113.err) else some (.next ()))))))):Option (F3 Int Unit)).bind fun o=>match o with|.ret r=>some (.ret r)|.next ()=>aN1 N a0 r1 k72 x78 rest90 (k87+1))

def aM7 (N:Nat) (a0:Wd) (r1:Wd):List Cl→Nat→Option (F3 Int Unit)
  |[],k72=>some (.next ())
  |x78::rest75,k72=>((aC4 N a0 (k72:Int)).bind fun r81=>(bif decide ((6:Int) < r81) then some (.ret (3:Int)) else (bif decide ((8:Int) < (x78.methods.length:Int)) then some (.ret (5:Int)) else ((aN1 N a0 r1 k72 x78 x78.methods 0).bind fun o=>match o with|.ret r=>some (.ret r)|.next ()=>aM7 N a0 r1 rest75 (k72+1)))))

def bK9 (N:Nat) (a0:Wd):Option Int :=
  ((bP4 N).bind fun r1=>(((bif decide ((a0.classes.length:Int) < (r1.classes.length:Int)) then some (true) else (bif decide ((12:Int) < (a0.classes.length:Int)) then some (true) else some (decide ((60:Int) < (a0.heap.length:Int))))):Option Bool).bind fun v3=>(bif v3 then some (5:Int) else (((bif decide (a0.epoch < (0:Int)) then some (true) else some (decide ((1073741824:Int) < a0.epoch))):Option Bool).bind fun v13=>(bif v13 then some (3:Int) else ((aL5 N r1 a0.classes 0 ([]:(List (ByteArray×Bool)))).bind fun o=>match o with|.ret r=>some r|.next ()=>((aM7 N a0 r1 a0.classes 0).bind fun o=>match o with|.ret r=>some r|.next ()=>((bN5 N a0).bind fun r116=>some r116))))))))

def bK8 (N:Nat) (a0:(List Int)):Option (Wd×Int) :=
  ((aS6 N (⟨(strOfNums a0),true⟩:H5)).bind fun r1=>(((bif (!r1.2.ok_) then some (true) else some ((!decide (r1.2.s=(⟨#[]⟩:ByteArray))))):Option Bool).bind fun v3=>(bif v3 then some ((⟨[],[],(0:Int)⟩:Wd),(2:Int)) else ((bK9 N r1.1).bind fun r8=>(bif (!decide (r8=(0:Int))) then some ((⟨[],[],(0:Int)⟩:Wd),r8) else some (r1.1,(0:Int)))))))

def bB8 (N:Nat) (a0:F7):Option (N7×F7) :=
  (bif decide ((a0.saved.length:Int)=(0:Int)) then some ((⟨(6:Int),(0:Int),(⟨(0:Int),(0:Int)⟩:V)⟩:N7),a0) else ((bK8 N a0.saved).bind fun r3=>(bif (!decide (r3.2=(0:Int))) then some ((⟨r3.2,(0:Int),(⟨(0:Int),(0:Int)⟩:V)⟩:N7),a0) else some ((⟨(0:Int),(0:Int),(⟨(0:Int),(0:Int)⟩:V)⟩:N7),(⟨(⟨r3.1.classes,r3.1.heap,(wr ((max r3.1.epoch a0.world.epoch)+(1:Int)))⟩:Wd),a0.cells,a0.tallies,a0.saved⟩:F7)))))

def bJ2 (N:Nat) (a0:F7) (a1:aC3):Option (F7×N7) :=
  ((bF5 N a0).bind fun r1=>(bif decide (a1.kind=(1:Int)) then ((bK3 N a0.world a1.name a1.class_ a1.slots).bind fun r4=>(bif (!decide (r4.2.2=(0:Int))) then some (r1,(⟨r4.2.2,(0:Int),(⟨(0:Int),(0:Int)⟩:V)⟩:N7)) else some ((⟨r4.1,r1.cells,r1.tallies,r1.saved⟩:F7),(⟨(0:Int),r4.2.1,(⟨(0:Int),(0:Int)⟩:V)⟩:N7)))) else (bif decide (a1.kind=(2:Int)) then ((aX6 N r1 a1.class_ a1.method).bind fun r8=>some (r8.2,r8.1)) else (bif decide (a1.kind=(3:Int)) then ((bA4 N r1 a1.class_).bind fun r11=>some (r11.2,r11.1)) else (((bif decide (a1.kind=(4:Int)) then some (decide (a1.kind=(4:Int))) else (((bif decide (a1.kind=(5:Int)) then some (decide (a1.kind=(5:Int))) else some (decide (a1.kind=(6:Int)))):Option Bool).bind fun v17=>some (v17))):Option Bool).bind fun v13=>(bif v13 then ((bA8 N r1 a1.kind a1.call).bind fun r22=>some (r22.2,r22.1)) else (bif decide (a1.kind=(7:Int)) then ((bJ7 N a0.world).bind fun r25=>some ((⟨r1.world,r1.cells,r1.tallies,r25⟩:F7),(⟨(0:Int),(r25.length:Int),(⟨(0:Int),(0:Int)⟩:V)⟩:N7))) else (bif decide (a1.kind=(8:Int)) then ((bB8 N r1).bind fun r29=>some (r29.2,r29.1)) else some (r1,(⟨(1:Int),(0:Int),(⟨(0:Int),(0:Int)⟩:V)⟩:N7))))))))))

def aH6 (N:Nat):List aC3→Nat→F7→(List N7)→Option ((F7×(List N7)))
  |[],k6,v7,v8=>some ((v7,v8))
  |x18::rest15,k6,v7,v8=>((bJ2 N v7 x18).bind fun r21=>(bif Nat.ble ((v8.length+[r21.2].length)*32) 140737488355328 then aH6 N rest15 (k6+1) r21.1 (v8++[r21.2]) else none))

def aV3 (N:Nat) (a0:(List aC3)):Option (F7×(List N7)×Int) :=
  (bif decide ((60:Int) < (a0.length:Int)) then some ((⟨(⟨[],[],(0:Int)⟩:Wd),[],[],[]⟩:F7),([]:List N7),(5:Int)) else ((bG3 N).bind fun r3=>((aH6 N a0 0 r3 ([]:List N7)).bind fun (v11,v12)=>some (v11,v12,(0:Int)))))

def aY1 (N:Nat):Option Bool :=
  ((aY7 N (1:Int)).bind fun r1=>((aY7 N (1:Int)).bind fun r3=>((aU7 N (4:Int) r1 (⟨#[43]⟩:ByteArray) [r3]).bind fun r5=>((aV3 N [r5]).bind fun r7=>(((bif decide (r7.2.2=(0:Int)) then (bif decide ((r7.2.1.length:Int)=(1:Int)) then ((F4 r7.2.1 (0:Int)).bind fun x15=>((aY7 N (2:Int)).bind fun r17=>some ((aU8 (eV x15.value) (eV r17))))) else some (false)) else some (false)):Option Bool).bind fun v9=>some v9)))))

def bA5 (N:Nat) (a0:Int) (a1:Int):Option Ins :=
  some (⟨a0,a1,(0:Int),(0:Int),ByteArray.empty⟩:Ins)

def aV8 (N:Nat) (a0:Int) (a1:ByteArray) (a2:Int) (a3:Int) (a4:(List Ins)):Option aC3 :=
  some (⟨(2:Int),ByteArray.empty,a0,(0:Int),(⟨a1,a2,a3,(0:Int),a4⟩:Me),(⟨(⟨(0:Int),(0:Int)⟩:V),ByteArray.empty,[]⟩:V7)⟩:aC3)

def bJ4 (N:Nat) (a0:ByteArray) (a1:Int):Option Ins :=
  some (⟨(14:Int),a1,(0:Int),(0:Int),a0⟩:Ins)

def bE0 (N:Nat) (a0:Int):Option V :=
  some (⟨(4:Int),a0⟩:V)

def aC8 (N:Nat) (a0:Int) (a1:Bool):Option Bool :=
  ((aY1 N).bind fun r1=>(bif (!r1) then some false else (((bif decide (a0 < (4:Int)) then some (true) else some (decide ((6:Int) < a0))):Option Bool).bind fun v4=>(bif v4 then some true else ((bA5 N (1:Int) (0:Int)).bind fun r9=>((bJ4 N (⟨#[100,101,101,112]⟩:ByteArray) (0:Int)).bind fun r11=>((bA5 N (17:Int) (0:Int)).bind fun r13=>((aV8 N (4:Int) (⟨#[100,101,101,112]⟩:ByteArray) (0:Int) (0:Int) [r9,r11,r13]).bind fun r15=>((bA5 N (15:Int) (0:Int)).bind fun r17=>((aV8 N (4:Int) (⟨#[116,117,114,110]⟩:ByteArray) (0:Int) (0:Int) [r17]).bind fun r19=>(((bif a1 then some (((⟨#[116,117,114,110]⟩:ByteArray),(16:Int))) else some (((⟨#[100,101,101,112]⟩:ByteArray),(14:Int)))):Option (ByteArray×Int)).bind fun (v21,v22)=>((bE0 N (0:Int)).bind fun r26=>((aU7 N a0 r26 v21 []).bind fun r28=>((bE0 N (0:Int)).bind fun r30=>((aU7 N a0 r30 v21 []).bind fun r32=>(bif Nat.ble (([(⟨(1:Int),(⟨#[65]⟩:ByteArray),(0:Int),(0:Int),(⟨ByteArray.empty,(0:Int),(0:Int),(0:Int),[]⟩:Me),(⟨(⟨(0:Int),(0:Int)⟩:V),ByteArray.empty,[]⟩:V7)⟩:aC3),r15,r19,(⟨(3:Int),ByteArray.empty,(4:Int),(0:Int),(⟨ByteArray.empty,(0:Int),(0:Int),(0:Int),[]⟩:Me),(⟨(⟨(0:Int),(0:Int)⟩:V),ByteArray.empty,[]⟩:V7)⟩:aC3)].length+[r28,r32].length)*160) 140737488355328 then ((aV3 N ([(⟨(1:Int),(⟨#[65]⟩:ByteArray),(0:Int),(0:Int),(⟨ByteArray.empty,(0:Int),(0:Int),(0:Int),[]⟩:Me),(⟨(⟨(0:Int),(0:Int)⟩:V),ByteArray.empty,[]⟩:V7)⟩:aC3),r15,r19,(⟨(3:Int),ByteArray.empty,(4:Int),(0:Int),(⟨ByteArray.empty,(0:Int),(0:Int),(0:Int),[]⟩:Me),(⟨(⟨(0:Int),(0:Int)⟩:V),ByteArray.empty,[]⟩:V7)⟩:aC3)]++[r28,r32])).bind fun r35=>(((bif decide (r35.2.2=(0:Int)) then (bif decide ((r35.2.1.length:Int)=(6:Int)) then ((F4 r35.2.1 (4:Int)).bind fun x43=>(bif decide (x43.err=v22) then ((F4 r35.2.1 (5:Int)).bind fun x46=>((F4 r35.2.1 (4:Int)).bind fun x48=>some ((aU8 (aI9 x46) (aI9 x48))))) else some (false))) else some (false)) else some (false)):Option Bool).bind fun v37=>some v37)) else none))))))))))))))))

theorem aR3 {N:Nat} {fr:List p8} {i:Nat} {r:V×List p8} (h:W9 N fr i=some r) {x x':p8} (hx:fr[i]?=some x) (hx':r.2[i]?=some x'):x'.self_=x.self_:=by
  unfold W9 at h
  obtain ⟨y,hy,h⟩:=j4 h
  rw [hx] at hy
  cases hy
  obtain ⟨v,hv,h⟩:=j4 h
  obtain ⟨hg,h⟩:=y9 h
  obtain rfl:=Option.some.inj h
  have hl:=(List.getElem?_eq_some_iff.1 hx).1
  simp only [List.getElem?_set_self hl,Option.some.injEq] at hx'
  rw [←hx']
end Go.Proofs.YtibjcppjfkamhaaGreatDoor
