/- Functions that mirror the program's. Printed by mir.py. -/
import Derived.Test.YtibjcppjfkamhaaGreatDoorHd
namespace Go.Proofs.YtibjcppjfkamhaaGreatDoor
open Go.RowKit
set_option linter.unusedVariables false

def M3 (N:Nat) (a0:Int):Option V :=
  some (⟨(3:Int),a0⟩:V)

def O5 (N:Nat) (a0:Int) (a1:V) (a2:ByteArray) (a3:(List V)):Option J7 :=
  some (⟨a0,ByteArray.empty,(0:Int),(0:Int),(⟨ByteArray.empty,(0:Int),(0:Int),(0:Int),[]⟩:Me),(⟨a1,a2,a3⟩:M6)⟩:J7)

def aX5 (N:Nat):Option y8 :=
  ((bR6 N).bind fun r1=>some (⟨r1,[],[],[]⟩:y8))

def aM5 (N:Nat) (a0:List V):Option (List V):=bif Nat.ble (a0.length*16) 140737488355328 then some a0 else none

def aT4 (N:Nat):List Ob→Nat→(List Ob)→Option ((List Ob))
  |[],k2,v3=>some (v3)
  |x11::rest8,k2,v3=>((aM5 N x11.slots).bind fun r14=>(bif Nat.ble ((v3.length+[(⟨x11.cls,r14⟩:Ob)].length)*32) 140737488355328 then aT4 N rest8 (k2+1) (v3++[(⟨x11.cls,r14⟩:Ob)]) else none))

def aZ0 (N:Nat) (a0:(List Ob)):Option (List Ob) :=
  ((aT4 N a0 0 ([]:List Ob)).bind fun v5=>some v5)

def bD7 (N:Nat) (a0:List Ins):Option (List Ins):=bif Nat.ble (a0.length*48) 140737488355328 then some a0 else none

def aN2 (N:Nat) (a0:Me):Option Me :=
  ((bD7 N a0.code).bind fun r1=>some (⟨a0.name,a0.args,a0.temps,a0.prim,r1⟩:Me))

def aV1 (N:Nat):List Me→Nat→(List Me)→Option ((List Me))
  |[],k17,v18=>some (v18)
  |x26::rest23,k17,v18=>((aN2 N x26).bind fun r29=>(bif Nat.ble ((v18.length+[r29].length)*64) 140737488355328 then aV1 N rest23 (k17+1) (v18++[r29]) else none))

def aT0 (N:Nat):List Cl→Nat→(List Cl)→Option ((List Cl))
  |[],k4,v5=>some (v5)
  |x13::rest10,k4,v5=>((aV1 N x13.methods 0 ([]:List Me)).bind fun v20=>(bif Nat.ble ((v5.length+[(⟨x13.name,x13.super,x13.slots,v20⟩:Cl)].length)*56) 140737488355328 then aT0 N rest10 (k4+1) (v5++[(⟨x13.name,x13.super,x13.slots,v20⟩:Cl)]) else none))

def aK8 (N:Nat) (a0:Wd):Option Wd :=
  ((aZ0 N a0.heap).bind fun r1=>((aT0 N a0.classes 0 ([]:List Cl)).bind fun v7=>some (⟨v7,r1,a0.epoch⟩:Wd)))

def aD2 (N:Nat) (a0:List Ln):Option (List Ln):=bif Nat.ble (a0.length*16) 140737488355328 then some a0 else none

def aU1 (N:Nat):List Ce→Nat→(List Ce)→Option ((List Ce))
  |[],k2,v3=>some (v3)
  |x11::rest8,k2,v3=>((aD2 N x11.lines).bind fun r14=>(bif Nat.ble ((v3.length+[(⟨x11.site,x11.epoch,x11.many,r14⟩:Ce)].length)*72) 140737488355328 then aU1 N rest8 (k2+1) (v3++[(⟨x11.site,x11.epoch,x11.many,r14⟩:Ce)]) else none))

def aZ2 (N:Nat) (a0:(List Ce)):Option (List Ce) :=
  ((aU1 N a0 0 ([]:List Ce)).bind fun v5=>some v5)

def aT6 (N:Nat):List Tl→Nat→(List Tl)→Option ((List Tl))
  |[],k2,v3=>some (v3)
  |x11::rest8,k2,v3=>((aD2 N x11.classes).bind fun r14=>(bif Nat.ble ((v3.length+[(⟨x11.site,r14⟩:Tl)].length)*56) 140737488355328 then aT6 N rest8 (k2+1) (v3++[(⟨x11.site,r14⟩:Tl)]) else none))

def bI4 (N:Nat) (a0:(List Tl)):Option (List Tl) :=
  ((aT6 N a0 0 ([]:List Tl)).bind fun v5=>some v5)

def bE3 (N:Nat) (a0:List Int):Option (List Int):=bif Nat.ble (a0.length*1) 140737488355328 then some a0 else none

def aH2 (N:Nat) (a0:y8):Option y8 :=
  ((aK8 N a0.world).bind fun r1=>((aZ2 N a0.cells).bind fun r3=>((bI4 N a0.tallies).bind fun r5=>((bE3 N a0.saved).bind fun r7=>some (⟨r1,r3,r5,r7⟩:y8)))))

def aP7 (N:Nat) (a0:ByteArray):Nat→Nat→Option (F9 Bool Unit)
  |0,k9=>some (.next ())
  |n14+1,k9=>((((byO a0 (k9:Int)).bind fun u21=>(bif decide ((u21.toNat:Int)≤(32:Int)) then some (true) else ((byO a0 (k9:Int)).bind fun u24=>some (decide ((126:Int) < (u24.toNat:Int)))))):Option Bool).bind fun v18=>(bif v18 then some (.ret false) else aP7 N a0 n14 (k9+1)))

def aG6 (N:Nat) (a0:ByteArray):Option Bool :=
  (((bif decide ((a0.size:Int) < (1:Int)) then some (true) else some (decide ((12:Int) < (a0.size:Int)))):Option Bool).bind fun v1=>(bif v1 then some false else ((aP7 N a0 (((a0.size:Int) - ((0:Nat):Int)).toNat) 0).bind fun o=>match o with|.ret r=>some r|.next ()=>some true)))

def M0 (N:Nat) (g1:(Cl→Option Bool)):List Cl→Nat→Option (F9 Int Unit)
  |[],k2=>some (.next ())
  |x8::rest5,k2=>((g1 x8).bind fun r11=>(bif r11 then some (.ret (k2:Int)) else M0 N g1 rest5 (k2+1)))

def Y6 (N:Nat) (a0:(List Cl)) (g1:Cl→Option Bool):Option Int :=
  ((M0 N g1 a0 0).bind fun o=>match o with|.ret r=>some r|.next ()=>some (-1:Int))

def V3 (N:Nat) (a0:(List Cl)) (g1:Cl→Option Bool):Option Bool :=
  ((Y6 N a0 g1).bind fun r1=>some (decide ((0:Int)≤r1)))

def aZ8 (N:Nat) (a0:Cl) (b0:ByteArray):Option Bool :=
  some (decide (a0.name=b0))

def aN5 (N:Nat) (a0:Wd):Nat→Int→Int→Int→Option (Int)
  |0,_,_,_=>none
  |n13+1,v2,v3,v4=>(((bif decide ((0:Int)≤v2) then (bif decide (v2 < (a0.classes.length:Int)) then some (decide (v4≤(a0.classes.length:Int))) else some (false)) else some (false)):Option Bool).bind fun v14=>(bif v14 then ((F3 a0.classes v2).bind fun x22=>((F3 a0.classes v2).bind fun x24=>aN5 N a0 n13 x24.super (wr (v3+x22.slots)) (wr (v4+(1:Int))))) else some (v3)))

def aE7 (N:Nat) (a0:Wd) (a1:Int):Option Int :=
  ((aN5 N a0 N a1 (0:Int) (0:Int)).bind fun v8=>some v8)

def aN6 (N:Nat):List Me→Nat→(List Me)→Option ((List Me))
  |[],k17,v18=>some (v18)
  |x26::rest23,k17,v18=>((aN2 N x26).bind fun r29=>(bif Nat.ble ((v18.length+[r29].length)*64) 140737488355328 then aN6 N rest23 (k17+1) (v18++[r29]) else none))

def aN8 (N:Nat):List Cl→Nat→(List Cl)→Option ((List Cl))
  |[],k4,v5=>some (v5)
  |x13::rest10,k4,v5=>((aN6 N x13.methods 0 ([]:List Me)).bind fun v20=>(bif Nat.ble ((v5.length+[(⟨x13.name,x13.super,x13.slots,v20⟩:Cl)].length)*56) 140737488355328 then aN8 N rest10 (k4+1) (v5++[(⟨x13.name,x13.super,x13.slots,v20⟩:Cl)]) else none))

def bJ0 (N:Nat) (a0:Wd):Option Wd :=
  ((aZ0 N a0.heap).bind fun r1=>((aN8 N a0.classes 0 ([]:List Cl)).bind fun v7=>some (⟨v7,r1,a0.epoch⟩:Wd)))

def bO8 (N:Nat) (a0:Wd) (a1:ByteArray) (a2:Int) (a3:Int):Option (Wd×Int×Int) :=
  ((((aG6 N a1).bind fun r4=>(bif (!r4) then some (true) else ((V3 N a0.classes (fun x0_=>aZ8 N x0_ a1)).bind fun r7=>some (r7)))):Option Bool).bind fun v1=>(bif v1 then some ((⟨[],[],(0:Int)⟩:Wd),(0:Int),(7:Int)) else (((bif decide (a2 < (0:Int)) then some (true) else some (decide ((a0.classes.length:Int)≤a2))):Option Bool).bind fun v10=>(bif v10 then some ((⟨[],[],(0:Int)⟩:Wd),(0:Int),(6:Int)) else (((bif decide (a3 < (0:Int)) then some (true) else ((aE7 N a0 a2).bind fun r20=>(bif decide ((wr ((6:Int) - r20)) < a3) then some (true) else (bif (!decide (a2=(0:Int))) then some (decide (a2 < (4:Int))) else some (false))))):Option Bool).bind fun v16=>(bif v16 then some ((⟨[],[],(0:Int)⟩:Wd),(0:Int),(3:Int)) else (bif decide ((12:Int)≤(a0.classes.length:Int)) then some ((⟨[],[],(0:Int)⟩:Wd),(0:Int),(5:Int)) else ((bJ0 N a0).bind fun r27=>(bif Nat.ble ((r27.classes.length+[(⟨a1,a2,a3,[]⟩:Cl)].length)*56) 140737488355328 then some ((⟨(r27.classes++[(⟨a1,a2,a3,[]⟩:Cl)]),r27.heap,r27.epoch⟩:Wd),(a0.classes.length:Int),(0:Int)) else none)))))))))

def aE3 (N:Nat) (a0:Int) (a1:Int):Option Bool :=
  (((bif decide ((0:Int)≤a0) then some (decide (a0 < a1)) else some (false)):Option Bool).bind fun v1=>some v1)

def aM7 (N:Nat) (a0:Wd) (a1:Int) (a2:Me) (a3:Ins):Option Int :=
  (((((bif decide (a3.op=(1:Int)) then some (decide (a3.op=(1:Int))) else (((bif decide (a3.op=(6:Int)) then some (decide (a3.op=(6:Int))) else (((bif decide (a3.op=(7:Int)) then some (decide (a3.op=(7:Int))) else (((bif decide (a3.op=(8:Int)) then some (decide (a3.op=(8:Int))) else (((bif decide (a3.op=(9:Int)) then some (decide (a3.op=(9:Int))) else (((bif decide (a3.op=(10:Int)) then some (decide (a3.op=(10:Int))) else some (decide (a3.op=(17:Int)))):Option Bool).bind fun v25=>some (v25))):Option Bool).bind fun v21=>some (v21))):Option Bool).bind fun v17=>some (v17))):Option Bool).bind fun v13=>some (v13))):Option Bool).bind fun v9=>some (v9))):Option Bool).bind fun v5=>(((bif v5 then some (.next (decide (a3.a=(0:Int)),false)) else (((bif decide (a3.op=(2:Int)) then ((aE3 N a3.a a2.args).bind fun r39=>some (.next (r39,false))) else (((bif decide (a3.op=(3:Int)) then some (decide (a3.op=(3:Int))) else some (decide (a3.op=(11:Int)))):Option Bool).bind fun v41=>(((bif v41 then ((aE3 N a3.a a2.temps).bind fun r50=>some (.next (r50,false))) else (((bif decide (a3.op=(4:Int)) then some (decide (a3.op=(4:Int))) else some (decide (a3.op=(12:Int)))):Option Bool).bind fun v52=>(((bif v52 then ((aE7 N a0 a1).bind fun r61=>((aE3 N a3.a r61).bind fun r63=>some (.next (r63,false)))) else (((bif decide (a3.op=(5:Int)) then (((bif decide ((-1073741824:Int)≤a3.a) then some (decide (a3.a≤(1073741824:Int))) else some (false)):Option Bool).bind fun v70=>some (.next (v70,false))) else (((bif decide (a3.op=(13:Int)) then (((bif decide (a3.a=(0:Int)) then some (true) else (bif decide ((4:Int)≤a3.a) then some (decide (a3.a < (a0.classes.length:Int))) else some (false))):Option Bool).bind fun v79=>some (.next (v79,false))) else (((bif decide (a3.op=(14:Int)) then ((aE3 N a3.a (5:Int)).bind fun r90=>some (.next (r90,true))) else (((bif decide (a3.op=(15:Int)) then some (decide (a3.op=(15:Int))) else some (decide (a3.op=(16:Int)))):Option Bool).bind fun v92=>(bif v92 then ((aE3 N a3.a (a2.code.length:Int)).bind fun r98=>some (.next (r98,false))) else some (.ret (1:Int))))):Option (F9 Int (Bool×Bool))).bind fun o=>match o with|.ret r=>some (.ret r)|.next (v85,v86)=>some (.next (v85,v86)))):Option (F9 Int (Bool×Bool))).bind fun o=>match o with|.ret r=>some (.ret r)|.next (v74,v75)=>some (.next (v74,v75)))):Option (F9 Int (Bool×Bool))).bind fun o=>match o with|.ret r=>some (.ret r)|.next (v65,v66)=>some (.next (v65,v66)))):Option (F9 Int (Bool×Bool))).bind fun o=>match o with|.ret r=>some (.ret r)|.next (v56,v57)=>some (.next (v56,v57))))):Option (F9 Int (Bool×Bool))).bind fun o=>match o with|.ret r=>some (.ret r)|.next (v45,v46)=>some (.next (v45,v46))))):Option (F9 Int (Bool×Bool))).bind fun o=>match o with|.ret r=>some (.ret r)|.next (v34,v35)=>some (.next (v34,v35)))):Option (F9 Int (Bool×Bool))).bind fun o=>match o with|.ret r=>some (.ret r)|.next (v29,v30)=>some (.next (v29,v30)))):Option (F9 Int (Bool×Bool))).bind fun o=>match o with|.ret r=>some r|.next (v1,v2)=>(bif (!v1) then some (3:Int) else (((bif v2 then ((aG6 N a3.name).bind fun r105=>(bif (!r105) then some (true) else (bif (!v2) then (bif (!decide (a3.name=(⟨#[]⟩:ByteArray))) then some (true) else (bif (!decide (a3.b=(0:Int))) then some (true) else some ((!decide (a3.c=(0:Int)))))) else (bif (!decide (a3.b=(0:Int))) then some (true) else some ((!decide (a3.c=(0:Int)))))))) else (bif (!v2) then (bif (!decide (a3.name=(⟨#[]⟩:ByteArray))) then some (true) else (bif (!decide (a3.b=(0:Int))) then some (true) else some ((!decide (a3.c=(0:Int)))))) else (bif (!decide (a3.b=(0:Int))) then some (true) else some ((!decide (a3.c=(0:Int))))))):Option Bool).bind fun v101=>(bif v101 then some (2:Int) else some (0:Int)))))

def bI6 (N:Nat) (a0:Ins):Option (Int×Int) :=
  (((bif decide (a0.op=(9:Int)) then some (decide (a0.op=(9:Int))) else (((bif decide (a0.op=(11:Int)) then some (decide (a0.op=(11:Int))) else (((bif decide (a0.op=(12:Int)) then some (decide (a0.op=(12:Int))) else (((bif decide (a0.op=(16:Int)) then some (decide (a0.op=(16:Int))) else some (decide (a0.op=(17:Int)))):Option Bool).bind fun v13=>some (v13))):Option Bool).bind fun v9=>some (v9))):Option Bool).bind fun v5=>some (v5))):Option Bool).bind fun v1=>(bif v1 then some ((1:Int),(0:Int)) else (bif decide (a0.op=(10:Int)) then some ((1:Int),(2:Int)) else (bif decide (a0.op=(14:Int)) then some ((wr (a0.a+(1:Int))),(1:Int)) else (bif decide (a0.op=(15:Int)) then some ((0:Int),(0:Int)) else some ((0:Int),(1:Int)))))))

def aK3 (N:Nat):Nat→Nat→(List Int)→Option ((List Int))
  |0,k4,v5=>some (v5)
  |n12+1,k4,v5=>((F3 v5 (k4:Int)).bind fun x16=>aK3 N n12 (k4+1) (v5.set ((k4:Int).toNat) (-1:Int)))

def aK6 (N:Nat) (a0:Me):Nat→(List Int)→(List aC2)→Option (F9 ((List Int)×aD7) (List Int))
  |0,_,_=>none
  |n28+1,v19,v20=>(bif decide ((0:Int) < (v20.length:Int)) then ((((F3 v20 (0:Int)).bind fun x35=>((F3 v20 (0:Int)).bind fun x37=>(bif (decide (0≤(1:Int)) && decide ((1:Int)≤(v20.length:Int))) then (((bif decide (x35.f0 < (0:Int)) then some (true) else some (decide ((a0.code.length:Int)≤x35.f0))):Option Bool).bind fun v40=>(bif v40 then some (.ret (([]:List Int),(⟨(9:Int),(a0.code.length:Int)⟩:aD7))) else ((F3 v19 x35.f0).bind fun x47=>(bif decide ((0:Int)≤x47) then ((F3 v19 x35.f0).bind fun x50=>(bif (!decide (x50=x37.f1)) then some (.ret (([]:List Int),(⟨(8:Int),x35.f0⟩:aD7))) else some (.next (v19,(v20.drop (1:Int).toNat))))) else ((F3 v19 x35.f0).bind fun x53=>((F3 a0.code x35.f0).bind fun x55=>((bI6 N x55).bind fun r57=>(((bif decide (x37.f1 < r57.1) then some (true) else (bif decide (x55.op=(17:Int)) then some ((!decide (x37.f1=(1:Int)))) else some (false))):Option Bool).bind fun v59=>(bif v59 then some (.ret (([]:List Int),(⟨(8:Int),x35.f0⟩:aD7))) else (bif decide ((12:Int) < (wr (x37.f1+(wr (r57.2 - r57.1))))) then some (.ret (([]:List Int),(⟨(4:Int),x35.f0⟩:aD7))) else (((bif (!decide (x55.op=(15:Int))) then some ((!decide (x55.op=(17:Int)))) else some (false)):Option Bool).bind fun v66=>(((bif v66 then (bif Nat.ble (((v20.drop (1:Int).toNat).length+[(⟨(wr (x35.f0+(1:Int))),(wr (x37.f1+(wr (r57.2 - r57.1))))⟩:aC2)].length)*16) 140737488355328 then some (((v20.drop (1:Int).toNat)++[(⟨(wr (x35.f0+(1:Int))),(wr (x37.f1+(wr (r57.2 - r57.1))))⟩:aC2)])) else none) else some ((v20.drop (1:Int).toNat))):Option (List aC2)).bind fun v70=>(((bif decide (x55.op=(15:Int)) then some (true) else some (decide (x55.op=(16:Int)))):Option Bool).bind fun v75=>(((bif v75 then (bif Nat.ble ((v70.length+[(⟨x55.a,(wr (x37.f1+(wr (r57.2 - r57.1))))⟩:aC2)].length)*16) 140737488355328 then some ((v70++[(⟨x55.a,(wr (x37.f1+(wr (r57.2 - r57.1))))⟩:aC2)])) else none) else some (v70)):Option (List aC2)).bind fun v79=>some (.next ((v19.set x35.f0.toNat x37.f1),v79)))))))))))))))) else none))):Option (F9 ((List Int)×aD7) ((List Int)×(List aC2)))).bind fun o=>match o with|.ret r=>some (.ret r)|.next (v31,v32)=>aK6 N a0 n28 v31 v32) else some (.next v19))

def a09 (N:Nat) (a0:Me):Option ((List Int)×aD7) :=
  (bif (decide (0≤(a0.code.length:Int)) && decide ((a0.code.length:Int)≤140737488355328) && decide ((a0.code.length:Int)*8≤140737488355328)) then ((aK3 N ((((List.replicate (a0.code.length:Int).toNat (0:Int)).length:Int) - ((0:Nat):Int)).toNat) 0 (List.replicate (a0.code.length:Int).toNat (0:Int))).bind fun v7=>((aK6 N a0 N v7 [(⟨(0:Int),(0:Int)⟩:aC2)]).bind fun o=>match o with|.ret r=>some r|.next v23=>some (v23,(⟨(0:Int),(0:Int)⟩:aD7)))) else none)

def aB5 (N:Nat) (a0:Wd) (a1:Int) (a2:Me):List Ins→Nat→Option (F9 aD7 Unit)
  |[],k26=>some (.next ())
  |x32::rest29,k26=>((aM7 N a0 a1 a2 x32).bind fun r35=>(bif (!decide (r35=(0:Int))) then some (.ret (⟨r35,(k26:Int)⟩:aD7)) else aB5 N a0 a1 a2 rest29 (k26+1)))

def aK2 (N:Nat) (a0:Wd) (a1:Int) (a2:Me):Option aD7 :=
  (((bif decide (a1 < (0:Int)) then some (true) else some (decide ((a0.classes.length:Int)≤a1))):Option Bool).bind fun v1=>(bif v1 then some (⟨(6:Int),(0:Int)⟩:aD7) else ((aG6 N a2.name).bind fun r7=>(bif (!r7) then some (⟨(7:Int),(0:Int)⟩:aD7) else (((bif decide (a2.args < (0:Int)) then some (true) else (bif decide ((4:Int) < a2.args) then some (true) else (bif decide (a2.temps < (0:Int)) then some (true) else some (decide ((6:Int) < a2.temps))))):Option Bool).bind fun v10=>(bif v10 then some (⟨(3:Int),(0:Int)⟩:aD7) else (bif (!decide (a2.prim=(0:Int))) then some (⟨(1:Int),(0:Int)⟩:aD7) else (((bif decide ((a2.code.length:Int) < (1:Int)) then some (true) else some (decide ((60:Int) < (a2.code.length:Int)))):Option Bool).bind fun v18=>(bif v18 then some (⟨(5:Int),(0:Int)⟩:aD7) else ((aB5 N a0 a1 a2 a2.code 0).bind fun o=>match o with|.ret r=>some r|.next ()=>((a09 N a2).bind fun r38=>some r38.2)))))))))))

def H5 (N:Nat) (a0:(List Me)) (a1:ByteArray) (g2:(Me→ByteArray→Option Int)):Nat→Int→Int→Option (Int)
  |0,_,_=>none
  |n12+1,v3,v4=>(bif decide (v3 < v4) then (((bif decide (0≤(wr (v3+v4))) then (bif decide (Z8 ((wr (v3+v4)) / 2)) then ((F3 a0 ((wr (v3+v4)) / 2)).bind fun x20=>((g2 x20 a1).bind fun r22=>(((bif decide (r22 < (0:Int)) then some (((wr (((wr (v3+v4)) / 2)+(1:Int))),v4)) else some ((v3,((wr (v3+v4)) / 2)))):Option (Int×Int)).bind fun (v24,v25)=>some ((v24,v25))))) else none) else none):Option (Int×Int)).bind fun (v14,v15)=>H5 N a0 a1 g2 n12 v14 v15) else some (v3))

def K8 (N:Nat) (a0:(List Me)) (a1:ByteArray) (g2:Me→ByteArray→Option Int):Option (Int×Bool) :=
  ((H5 N a0 a1 g2 N (0:Int) (a0.length:Int)).bind fun v7=>(((bif decide (v7 < (a0.length:Int)) then ((F3 a0 v7).bind fun x33=>((g2 x33 a1).bind fun r35=>some (decide (r35=(0:Int))))) else some (false)):Option Bool).bind fun v29=>some (v7,v29)))

def cmp_isNaN_string (N:Nat) (a0:ByteArray):Option Bool :=
  some (!decide (a0=a0))

def aT1 (N:Nat) (a0:ByteArray) (a1:ByteArray):Option Int :=
  ((cmp_isNaN_string N a0).bind fun r1=>((cmp_isNaN_string N a1).bind fun r3=>(bif r1 then (bif r3 then some (0:Int) else some (-1:Int)) else (bif r3 then some (1:Int) else (bif (ltS a0 a1) then some (-1:Int) else (bif (!(ltS a0 a1 || decide (a0=a1))) then some (1:Int) else some (0:Int)))))))

def aR4 (N:Nat) (a0:Me) (a1:ByteArray):Option Int :=
  ((aT1 N a0.name a1).bind fun r1=>some r1)

def aM6 (N:Nat):List Me→Nat→(List Me)→Option ((List Me))
  |[],k17,v18=>some (v18)
  |x26::rest23,k17,v18=>((aN2 N x26).bind fun r29=>(bif Nat.ble ((v18.length+[r29].length)*64) 140737488355328 then aM6 N rest23 (k17+1) (v18++[r29]) else none))

def aM3 (N:Nat):List Cl→Nat→(List Cl)→Option ((List Cl))
  |[],k4,v5=>some (v5)
  |x13::rest10,k4,v5=>((aM6 N x13.methods 0 ([]:List Me)).bind fun v20=>(bif Nat.ble ((v5.length+[(⟨x13.name,x13.super,x13.slots,v20⟩:Cl)].length)*56) 140737488355328 then aM3 N rest10 (k4+1) (v5++[(⟨x13.name,x13.super,x13.slots,v20⟩:Cl)]) else none))

def bJ8 (N:Nat) (a0:Wd):Option Wd :=
  ((aZ0 N a0.heap).bind fun r1=>((aM3 N a0.classes 0 ([]:List Cl)).bind fun v7=>some (⟨v7,r1,a0.epoch⟩:Wd)))

def bB3 (N:Nat) (a0:Wd) (a1:Int) (a2:Me):Option (Wd×Int) :=
  (((bif decide (a1 < (0:Int)) then some (true) else some (decide ((a0.classes.length:Int)≤a1))):Option Bool).bind fun v1=>(bif v1 then some ((⟨[],[],(0:Int)⟩:Wd),(6:Int)) else ((F3 a0.classes a1).bind fun x7=>((K8 N x7.methods a2.name (fun x0_ x1_=>aR4 N x0_ x1_)).bind fun r9=>(((bif (!r9.2) then ((F3 a0.classes a1).bind fun x15=>some (decide ((8:Int)≤(x15.methods.length:Int)))) else some (false)):Option Bool).bind fun v11=>(bif v11 then some ((⟨[],[],(0:Int)⟩:Wd),(5:Int)) else ((bJ8 N a0).bind fun r19=>((F3 r19.classes a1).bind fun x21=>(((bif (!r9.2) then ((aY6 N x21.methods r9.1 [(⟨ByteArray.empty,(0:Int),(0:Int),(0:Int),[]⟩:Me)]).bind fun r27=>some ((r19.classes.set a1.toNat (⟨x21.name,x21.super,x21.slots,r27⟩:Cl)))) else some (r19.classes)):Option (List Cl)).bind fun v23=>((v23[a1.toNat]?).bind fun x29=>((aN2 N a2).bind fun r31=>((F3 x29.methods r9.1).bind fun x33=>some ((⟨(v23.set a1.toNat (⟨x29.name,x29.super,x29.slots,(x29.methods.set r9.1.toNat r31)⟩:Cl)),r19.heap,(wr (r19.epoch+(1:Int)))⟩:Wd),(0:Int))))))))))))))

def aA2 (N:Nat) (a0:y8) (a1:Int) (a2:Me):Option (N7×y8) :=
  ((aK2 N a0.world a1 a2).bind fun r1=>(bif (!decide (r1.err=(0:Int))) then some ((⟨r1.err,r1.at_,(⟨(0:Int),(0:Int)⟩:V)⟩:N7),a0) else ((bB3 N a0.world a1 a2).bind fun r4=>(((bif decide (r4.2=(0:Int)) then some ((⟨r4.1,a0.cells,a0.tallies,a0.saved⟩:y8)) else some (a0)):Option y8).bind fun v6=>some ((⟨r4.2,(0:Int),(⟨(0:Int),(0:Int)⟩:V)⟩:N7),v6)))))

def bH6 (N:Nat) (a0:(List Ob)) (a1:Int) (a2:Int):Option ((List Ob)×V×Int) :=
  (bif decide ((60:Int)≤(a0.length:Int)) then some (([]:List Ob),(⟨(0:Int),(0:Int)⟩:V),(15:Int)) else ((aZ0 N a0).bind fun r3=>(bif (decide (0≤(max a2 (0:Int))) && decide ((max a2 (0:Int))≤140737488355328) && decide ((max a2 (0:Int))*16≤140737488355328)) then (bif Nat.ble ((r3.length+[(⟨a1,(List.replicate (max a2 (0:Int)).toNat (⟨(0:Int),(0:Int)⟩:V))⟩:Ob)].length)*32) 140737488355328 then some ((r3++[(⟨a1,(List.replicate (max a2 (0:Int)).toNat (⟨(0:Int),(0:Int)⟩:V))⟩:Ob)]),(⟨(4:Int),(a0.length:Int)⟩:V),(0:Int)) else none) else none)))

def bD4 (N:Nat) (a0:y8) (a1:Int):Option (N7×y8) :=
  (((bif (!decide (a1=(0:Int))) then (bif decide (a1 < (4:Int)) then some (true) else some (decide ((a0.world.classes.length:Int)≤a1))) else some (false)):Option Bool).bind fun v1=>(bif v1 then some ((⟨(6:Int),(0:Int),(⟨(0:Int),(0:Int)⟩:V)⟩:N7),a0) else ((aE7 N a0.world a1).bind fun r8=>((bH6 N a0.world.heap a1 r8).bind fun r10=>(bif (!decide (r10.2.2=(0:Int))) then some ((⟨r10.2.2,(0:Int),(⟨(0:Int),(0:Int)⟩:V)⟩:N7),a0) else some ((⟨(0:Int),r10.2.1.n,r10.2.1⟩:N7),(⟨(⟨a0.world.classes,r10.1,a0.world.epoch⟩:Wd),a0.cells,a0.tallies,a0.saved⟩:y8)))))))

def aL5 (N:Nat) (a0:V) (a1:Int):Option Int :=
  (((((bif decide (a0.k=(0:Int)) then some (decide (a0.k=(0:Int))) else (((bif decide (a0.k=(1:Int)) then some (decide (a0.k=(1:Int))) else some (decide (a0.k=(2:Int)))):Option Bool).bind fun v7=>some (v7))):Option Bool).bind fun v3=>(((bif v3 then (bif (!decide (a0.n=(0:Int))) then some (.ret (2:Int)) else some (.next ())) else (((bif decide (a0.k=(3:Int)) then (((bif decide (a0.n < (-1073741824:Int)) then some (true) else some (decide ((1073741824:Int) < a0.n))):Option Bool).bind fun v18=>(bif v18 then some (.ret (3:Int)) else some (.next ()))) else (bif decide (a0.k=(4:Int)) then (((bif decide (a0.n < (0:Int)) then some (true) else some (decide (a1≤a0.n))):Option Bool).bind fun v24=>(bif v24 then some (.ret (6:Int)) else some (.next ()))) else some (.ret (1:Int)))):Option (F9 Int Unit)).bind fun o=>match o with|.ret r=>some (.ret r)|.next ()=>some (.next ()))):Option (F9 Int Unit)).bind fun o=>match o with|.ret r=>some (.ret r)|.next ()=>some (.next ()))):Option (F9 Int Unit)).bind fun o=>match o with|.ret r=>some r|.next ()=>some (0:Int))

def aC8 (N:Nat) (a0:Wd) (a1:M6):List V→Nat→Option (F9 Int Unit)
  |[],k13=>some (.next ())
  |x19::rest16,k13=>((F3 ([a1.self_]++a1.args) (k13:Int)).bind fun x22=>((aL5 N x22 (a0.heap.length:Int)).bind fun r25=>(bif (!decide (r25=(0:Int))) then some (.ret r25) else aC8 N a0 a1 rest16 (k13+1))))

def aY9 (N:Nat) (a0:Wd) (a1:M6) (a2:Int):Option Int :=
  ((aG6 N a1.name).bind fun r1=>(bif (!r1) then some (7:Int) else (bif decide ((4:Int) < (a1.args.length:Int)) then some (5:Int) else (((bif decide (a2 < (0:Int)) then some (true) else some (decide ((400:Int) < a2))):Option Bool).bind fun v6=>(bif v6 then some (3:Int) else (bif Nat.ble (([a1.self_].length+a1.args.length)*16) 140737488355328 then ((aC8 N a0 a1 ([a1.self_]++a1.args) 0).bind fun o=>match o with|.ret r=>some r|.next ()=>some (0:Int)) else none))))))

def aL1 (N:Nat) (a0:(List Ob)) (a1:V):Option Int :=
  (bif decide (a1.k=(0:Int)) then some (1:Int) else (((bif decide (a1.k=(1:Int)) then some (decide (a1.k=(1:Int))) else some (decide (a1.k=(2:Int)))):Option Bool).bind fun v2=>(bif v2 then some (2:Int) else (bif decide (a1.k=(3:Int)) then some (3:Int) else (((bif decide (a1.k=(4:Int)) then (bif decide ((0:Int)≤a1.n) then some (decide (a1.n < (a0.length:Int))) else some (false)) else some (false)):Option Bool).bind fun v8=>(bif v8 then ((F3 a0 a1.n).bind fun x15=>some x15.cls) else some (0:Int)))))))

def aP9 (N:Nat) (a0:Wd) (a2:ByteArray):Nat→Int→Int→Option (F9 (Int×Int) Unit)
  |0,_,_=>none
  |n10+1,v2,v3=>(((bif decide ((0:Int)≤v2) then (bif decide (v2 < (a0.classes.length:Int)) then some (decide (v3≤(a0.classes.length:Int))) else some (false)) else some (false)):Option Bool).bind fun v11=>(bif v11 then ((F3 a0.classes v2).bind fun x19=>((K8 N x19.methods a2 (fun x0_ x1_=>aR4 N x0_ x1_)).bind fun r21=>(bif r21.2 then some (.ret (v2,r21.1)) else ((F3 a0.classes v2).bind fun x24=>aP9 N a0 a2 n10 x24.super (wr (v3+(1:Int))))))) else some (.next ())))

def aD1 (N:Nat) (a0:Wd) (a1:Int) (a2:ByteArray):Option (Int×Int) :=
  ((aP9 N a0 a2 N a1 (0:Int)).bind fun o=>match o with|.ret r=>some r|.next ()=>some ((-1:Int),(-1:Int)))

def I4 (N:Nat) (a0:l7) (a1:Int):Option l7 :=
  (((bif decide (a0.err=(0:Int)) then some (a1) else some (a0.err)):Option Int).bind fun v1=>some (⟨(⟨a0.w.classes,a0.w.heap,a0.w.epoch⟩:Wd),a0.fuel,a0.sends,a0.turns,a0.frames,a0.back,v1⟩:l7))

def T9 (N:Nat) (a0:l7) (a1:Bool):Option (Bool×l7) :=
  (((((bif decide (a0.fuel≤a0.sends) then ((I4 N (⟨(⟨a0.w.classes,a0.w.heap,a0.w.epoch⟩:Wd),a0.fuel,a0.sends,a0.turns,a0.frames,a0.back,a0.err⟩:l7) (13:Int)).bind fun r18=>some (.next (r18.fuel,r18.sends,r18.turns,r18.back.k,r18.back.n,r18.err))) else (((bif a1 then some (decide ((20:Int)≤(a0.frames.length:Int))) else some (false)):Option Bool).bind fun v20=>(bif v20 then ((I4 N (⟨(⟨a0.w.classes,a0.w.heap,a0.w.epoch⟩:Wd),a0.fuel,a0.sends,a0.turns,a0.frames,a0.back,a0.err⟩:l7) (14:Int)).bind fun r26=>some (.next (r26.fuel,r26.sends,r26.turns,r26.back.k,r26.back.n,r26.err))) else some (.ret (true,(⟨(⟨a0.w.classes,a0.w.heap,a0.w.epoch⟩:Wd),a0.fuel,(wr (a0.sends+(1:Int))),a0.turns,a0.frames,a0.back,a0.err⟩:l7)))))):Option (F9 (Bool×l7) (Int×Int×Int×Int×Int×Int))).bind fun o=>match o with|.ret r=>some (.ret r)|.next (v9,v10,v11,v12,v13,v14)=>some (.next (v9,v10,v11,v12,v13,v14))):Option (F9 (Bool×l7) (Int×Int×Int×Int×Int×Int))).bind fun o=>match o with|.ret r=>some r|.next (v1,v2,v3,v4,v5,v6)=>some (false,(⟨(⟨a0.w.classes,a0.w.heap,a0.w.epoch⟩:Wd),v1,v2,v3,a0.frames,(⟨v4,v5⟩:V),v6⟩:l7)))

def aU4 (N:Nat) (a0:Int):Option V :=
  some (⟨(3:Int),(a0.tmod (1073741825:Int))⟩:V)

def a03 (N:Nat) (a0:Bool):Option V :=
  (bif a0 then some (⟨(2:Int),(0:Int)⟩:V) else some (⟨(1:Int),(0:Int)⟩:V))

def bN7 (N:Nat) (a0:Int) (a1:V) (a2:V):Option (V×Int) :=
  (((bif (!decide (a1.k=(3:Int))) then some (true) else some ((!decide (a2.k=(3:Int))))):Option Bool).bind fun v1=>(bif v1 then some ((⟨(0:Int),(0:Int)⟩:V),(12:Int)) else (bif decide (a0=(1:Int)) then ((aU4 N (wr (a1.n+a2.n))).bind fun r7=>some (r7,(0:Int))) else (bif decide (a0=(2:Int)) then ((aU4 N (wr (a1.n - a2.n))).bind fun r10=>some (r10,(0:Int))) else (bif decide (a0=(3:Int)) then ((aU4 N (wr (a1.n*a2.n))).bind fun r13=>some (r13,(0:Int))) else (bif decide (a0=(4:Int)) then ((a03 N (decide (a1.n < a2.n))).bind fun r16=>some (r16,(0:Int))) else (bif decide (a0=(5:Int)) then ((a03 N (decide (a1.n=a2.n))).bind fun r19=>some (r19,(0:Int))) else some ((⟨(0:Int),(0:Int)⟩:V),(1:Int)))))))))

def Y1 (N:Nat) (a0:l7) (a1:V):Option l7 :=
  (bif decide ((a0.frames.length:Int)=(0:Int)) then some (⟨(⟨a0.w.classes,a0.w.heap,a0.w.epoch⟩:Wd),a0.fuel,a0.sends,a0.turns,a0.frames,a1,a0.err⟩:l7) else ((F3 a0.frames (wr ((a0.frames.length:Int) - (1:Int)))).bind fun x4=>(bif Nat.ble ((x4.stack.length+[a1].length)*16) 140737488355328 then some (⟨(⟨a0.w.classes,a0.w.heap,a0.w.epoch⟩:Wd),a0.fuel,a0.sends,a0.turns,(a0.frames.set ((wr ((a0.frames.length:Int) - (1:Int))).toNat) (⟨x4.class_,x4.method,x4.fast,x4.code,x4.self_,x4.args,x4.temps,(x4.stack++[a1]),x4.at_⟩:p8)),a0.back,a0.err⟩:l7) else none)))

def S9 (N:Nat) (a0:l7) (gq:Int→Int→Option (Fs×Bool)) (a1:Int) (a2:Int) (a3:V) (a4:(List V)):Option l7 :=
  ((F3 a0.w.classes a1).bind fun x1=>((F3 x1.methods a2).bind fun x3=>(bif (!decide (x3.args=(a4.length:Int))) then ((I4 N (⟨(⟨a0.w.classes,a0.w.heap,a0.w.epoch⟩:Wd),a0.fuel,a0.sends,a0.turns,a0.frames,a0.back,a0.err⟩:l7) (8:Int)).bind fun r7=>some (⟨(⟨a0.w.classes,a0.w.heap,a0.w.epoch⟩:Wd),r7.fuel,r7.sends,r7.turns,a0.frames,r7.back,r7.err⟩:l7)) else (bif (!decide (x3.prim=(0:Int))) then ((T9 N (⟨(⟨a0.w.classes,a0.w.heap,a0.w.epoch⟩:Wd),a0.fuel,a0.sends,a0.turns,a0.frames,a0.back,a0.err⟩:l7) false).bind fun r10=>(bif (!r10.1) then some (⟨(⟨a0.w.classes,a0.w.heap,a0.w.epoch⟩:Wd),r10.2.fuel,r10.2.sends,r10.2.turns,a0.frames,r10.2.back,r10.2.err⟩:l7) else ((F3 a4 (0:Int)).bind fun x13=>((bN7 N x3.prim a3 x13).bind fun r15=>(bif (!decide (r15.2=(0:Int))) then ((I4 N (⟨(⟨a0.w.classes,a0.w.heap,a0.w.epoch⟩:Wd),r10.2.fuel,r10.2.sends,r10.2.turns,a0.frames,r10.2.back,r10.2.err⟩:l7) r15.2).bind fun r18=>some (⟨(⟨a0.w.classes,a0.w.heap,a0.w.epoch⟩:Wd),r18.fuel,r18.sends,r18.turns,a0.frames,r18.back,r18.err⟩:l7)) else ((Y1 N (⟨(⟨a0.w.classes,a0.w.heap,a0.w.epoch⟩:Wd),r10.2.fuel,r10.2.sends,r10.2.turns,a0.frames,r10.2.back,r10.2.err⟩:l7) r15.1).bind fun r20=>some (⟨(⟨a0.w.classes,a0.w.heap,a0.w.epoch⟩:Wd),r20.fuel,r20.sends,r20.turns,r20.frames,r20.back,r20.err⟩:l7))))))) else ((T9 N (⟨(⟨a0.w.classes,a0.w.heap,a0.w.epoch⟩:Wd),a0.fuel,a0.sends,a0.turns,a0.frames,a0.back,a0.err⟩:l7) true).bind fun r22=>(bif (!r22.1) then some (⟨(⟨a0.w.classes,a0.w.heap,a0.w.epoch⟩:Wd),r22.2.fuel,r22.2.sends,r22.2.turns,a0.frames,r22.2.back,r22.2.err⟩:l7) else ((aM5 N a4).bind fun r25=>(bif (decide (0≤x3.temps) && decide (x3.temps≤140737488355328) && decide (x3.temps*16≤140737488355328)) then ((gq a1 a2).bind fun r28=>(((bif r28.2 then (bif (decide (0≤r28.1.temps) && decide (r28.1.temps≤140737488355328) && decide (r28.1.temps*16≤140737488355328)) then some ((true,r28.1.code,(List.replicate r28.1.temps.toNat (⟨(0:Int),(0:Int)⟩:V)))) else none) else some ((false,x3.code,(List.replicate x3.temps.toNat (⟨(0:Int),(0:Int)⟩:V))))):Option (Bool×(List Ins)×(List V))).bind fun (v30,v31,v32)=>(bif Nat.ble ((a0.frames.length+[(⟨a1,a2,v30,v31,a3,r25,v32,[],(0:Int)⟩:p8)].length)*144) 140737488355328 then some (⟨(⟨a0.w.classes,a0.w.heap,a0.w.epoch⟩:Wd),r22.2.fuel,r22.2.sends,r22.2.turns,(a0.frames++[(⟨a1,a2,v30,v31,a3,r25,v32,[],(0:Int)⟩:p8)]),r22.2.back,r22.2.err⟩:l7) else none))) else none))))))))

def aI9 (N:Nat) (a0:l7) (gl:St→Int→ByteArray→Option (Int×Int)) (gq:Int→Int→Option (Fs×Bool)) (a1:Nat) (a2:Ins) (a3:Int):Option l7 :=
  ((a0.frames[a1]?).bind fun x1=>(bif (decide (0≤(wr ((x1.stack.length:Int) - a2.a))) && decide ((wr ((x1.stack.length:Int) - a2.a))≤(x1.stack.length:Int))) then ((aM5 N (x1.stack.drop ((wr ((x1.stack.length:Int) - a2.a)).toNat))).bind fun r5=>((F3 x1.stack (wr ((wr ((x1.stack.length:Int) - a2.a)) - (1:Int)))).bind fun x7=>((F3 a0.w.classes x1.class_).bind fun x9=>((F3 x9.methods x1.method).bind fun x11=>(((bif x1.fast then some (a2.c) else some (a3)):Option Int).bind fun v13=>((aL1 N a0.w.heap x7).bind fun r17=>((gl (⟨x1.class_,x11.name,v13⟩:St) r17 a2.name).bind fun r19=>(bif decide (r19.2 < (0:Int)) then ((I4 N (⟨(⟨a0.w.classes,a0.w.heap,a0.w.epoch⟩:Wd),a0.fuel,a0.sends,a0.turns,a0.frames,a0.back,a0.err⟩:l7) (10:Int)).bind fun r22=>some (⟨(⟨a0.w.classes,a0.w.heap,a0.w.epoch⟩:Wd),r22.fuel,r22.sends,r22.turns,a0.frames,r22.back,r22.err⟩:l7)) else (bif (decide (0≤(wr ((wr ((x1.stack.length:Int) - a2.a)) - (1:Int)))) && decide ((wr ((wr ((x1.stack.length:Int) - a2.a)) - (1:Int)))≤(x1.stack.length:Int))) then ((S9 N (⟨(⟨a0.w.classes,a0.w.heap,a0.w.epoch⟩:Wd),a0.fuel,a0.sends,a0.turns,(a0.frames.set a1 (⟨x1.class_,x1.method,x1.fast,x1.code,x1.self_,x1.args,x1.temps,(x1.stack.take (wr ((wr ((x1.stack.length:Int) - a2.a)) - (1:Int))).toNat),x1.at_⟩:p8)),a0.back,a0.err⟩:l7) gq r19.1 r19.2 x7 r5).bind fun r25=>some (⟨(⟨a0.w.classes,a0.w.heap,a0.w.epoch⟩:Wd),r25.fuel,r25.sends,r25.turns,r25.frames,r25.back,r25.err⟩:l7)) else none))))))))) else none))

def U5 (N:Nat) (a0:l7) (a1:Nat) (a2:Int):Option l7 :=
  ((a0.frames[a1]?).bind fun x1=>(((bif decide (a2 < x1.at_) then (((bif decide ((300:Int) < (wr (a0.turns+(1:Int)))) then ((I4 N (⟨(⟨a0.w.classes,a0.w.heap,a0.w.epoch⟩:Wd),a0.fuel,a0.sends,(wr (a0.turns+(1:Int))),a0.frames,a0.back,a0.err⟩:l7) (16:Int)).bind fun r21=>some ((r21.fuel,r21.sends,r21.turns,r21.back.k,r21.back.n,r21.err))) else some ((a0.fuel,a0.sends,(wr (a0.turns+(1:Int))),a0.back.k,a0.back.n,a0.err))):Option (Int×Int×Int×Int×Int×Int)).bind fun (v12,v13,v14,v15,v16,v17)=>some ((v12,v13,v14,v15,v16,v17))) else some ((a0.fuel,a0.sends,a0.turns,a0.back.k,a0.back.n,a0.err))):Option (Int×Int×Int×Int×Int×Int)).bind fun (v3,v4,v5,v6,v7,v8)=>some (⟨(⟨a0.w.classes,a0.w.heap,a0.w.epoch⟩:Wd),v3,v4,v5,(a0.frames.set a1 (⟨x1.class_,x1.method,x1.fast,x1.code,x1.self_,x1.args,x1.temps,x1.stack,a2⟩:p8)),(⟨v6,v7⟩:V),v8⟩:l7)))

def aA0 (N:Nat) (fr:(List p8)) (a0:Nat):Option (V×(List p8)) :=
  ((fr[a0]?).bind fun x1=>((F3 x1.stack (wr ((x1.stack.length:Int) - (1:Int)))).bind fun x4=>(bif (decide (0≤(wr ((x1.stack.length:Int) - (1:Int)))) && decide ((wr ((x1.stack.length:Int) - (1:Int)))≤(x1.stack.length:Int))) then some (x4,(fr.set a0 (⟨x1.class_,x1.method,x1.fast,x1.code,x1.self_,x1.args,x1.temps,(x1.stack.take (wr ((x1.stack.length:Int) - (1:Int))).toNat),x1.at_⟩:p8))) else none)))

def Y8 (N:Nat) (a0:l7) (a1:Nat) (a2:Ins):Option l7 :=
  ((a0.frames[a1]?).bind fun x1=>((F3 x1.stack (wr ((wr ((x1.stack.length:Int) - (1:Int))) - a2.b))).bind fun x4=>((aL1 N a0.w.heap x4).bind fun r6=>(bif decide (r6=a2.a) then some (⟨(⟨a0.w.classes,a0.w.heap,a0.w.epoch⟩:Wd),a0.fuel,a0.sends,a0.turns,a0.frames,a0.back,a0.err⟩:l7) else ((F3 a0.w.classes x1.class_).bind fun x9=>((F3 x9.methods x1.method).bind fun x11=>(bif (decide (0≤x11.temps) && decide (x11.temps≤(x1.temps.length:Int))) then some (⟨(⟨a0.w.classes,a0.w.heap,a0.w.epoch⟩:Wd),a0.fuel,a0.sends,a0.turns,((((a0.frames.set a1 (⟨x1.class_,x1.method,false,x1.code,x1.self_,x1.args,x1.temps,x1.stack,x1.at_⟩:p8)).set a1 (⟨x1.class_,x1.method,false,x11.code,x1.self_,x1.args,x1.temps,x1.stack,x1.at_⟩:p8)).set a1 (⟨x1.class_,x1.method,false,x11.code,x1.self_,x1.args,x1.temps,x1.stack,a2.c⟩:p8)).set a1 (⟨x1.class_,x1.method,false,x11.code,x1.self_,x1.args,(x1.temps.take x11.temps.toNat),x1.stack,a2.c⟩:p8)),a0.back,a0.err⟩:l7) else none)))))))

def U3 (N:Nat) (a0:V) (fr:(List p8)) (b0:Nat):Option (List p8) :=
  ((fr[b0]?).bind fun x1=>(bif Nat.ble ((x1.stack.length+[a0].length)*16) 140737488355328 then some (fr.set b0 (⟨x1.class_,x1.method,x1.fast,x1.code,x1.self_,x1.args,x1.temps,(x1.stack++[a0]),x1.at_⟩:p8)) else none))

def aG2 (N:Nat) (a0:V) (fr:(List p8)) (b0:Nat):Option (List p8) :=
  ((fr[b0]?).bind fun x1=>(bif Nat.ble ((x1.stack.length+[a0].length)*16) 140737488355328 then some (fr.set b0 (⟨x1.class_,x1.method,x1.fast,x1.code,x1.self_,x1.args,x1.temps,(x1.stack++[a0]),x1.at_⟩:p8)) else none))

def bC5 (N:Nat) (a0:(List Ob)) (a1:V) (a2:Int):Option V :=
  (((bif (!decide (a1.k=(4:Int))) then some (true) else (bif decide (a1.n < (0:Int)) then some (true) else (bif decide ((a0.length:Int)≤a1.n) then some (true) else (bif decide (a2 < (0:Int)) then some (true) else ((F3 a0 a1.n).bind fun x9=>some (decide ((x9.slots.length:Int)≤a2))))))):Option Bool).bind fun v1=>(bif v1 then some (⟨(0:Int),(0:Int)⟩:V) else ((F3 a0 a1.n).bind fun x13=>((F3 x13.slots a2).bind fun x15=>some x15))))

def aO1 (N:Nat) (a0:V) (sk:(List V)) (fr:(List p8)) (b0:Nat):Option (List V) :=
  ((fr[b0]?).bind fun x1=>(bif Nat.ble ((sk.length+[a0].length)*16) 140737488355328 then some (sk++[a0]) else none))

def aS1 (N:Nat) (fr:(List p8)) (a0:Nat):Option (V×(List p8)) :=
  ((fr[a0]?).bind fun x1=>((F3 x1.stack (wr ((x1.stack.length:Int) - (1:Int)))).bind fun x4=>(bif (decide (0≤(wr ((x1.stack.length:Int) - (1:Int)))) && decide ((wr ((x1.stack.length:Int) - (1:Int)))≤(x1.stack.length:Int))) then some (x4,(fr.set a0 (⟨x1.class_,x1.method,x1.fast,x1.code,x1.self_,x1.args,x1.temps,(x1.stack.take (wr ((x1.stack.length:Int) - (1:Int))).toNat),x1.at_⟩:p8))) else none)))

def aA9 (N:Nat) (a0:l7) (a1:V) (a2:Int) (a3:V):Option l7 :=
  ((((a0.w.heap[a1.n.toNat]?).elim (bif decide (a1.k=(4:Int)) then (bif decide (a1.n < (a0.w.heap.length:Int)) then none else some (false)) else some (false)) (fun x4=>(bif decide (a1.k=(4:Int)) then (bif decide (a1.n < (a0.w.heap.length:Int)) then ((F3 a0.w.heap a1.n).bind fun x12=>some (decide (a2 < (x4.slots.length:Int)))) else some (false)) else some (false)))):Option Bool).bind fun v1=>(((bif v1 then ((a0.w.heap[a1.n.toNat]?).elim none (fun x19=>((F3 a0.w.heap a1.n).bind fun x21=>((F3 x19.slots a2).bind fun x23=>some ((a0.w.heap.set a1.n.toNat (⟨x19.cls,(x19.slots.set a2.toNat a3)⟩:Ob))))))) else some (a0.w.heap)):Option (List Ob)).bind fun v15=>some (⟨(⟨a0.w.classes,v15,a0.w.epoch⟩:Wd),a0.fuel,a0.sends,a0.turns,a0.frames,a0.back,a0.err⟩:l7)))

def Z7 (N:Nat) (a0:l7) (a1:Nat) (a2:Ins):Option l7 :=
  (((((bif decide (a2.op=(1:Int)) then ((a0.frames[a1]?).bind fun x22=>((U3 N x22.self_ a0.frames a1).bind fun r24=>some (.next (a0.w.heap,a0.fuel,a0.sends,a0.turns,r24,a0.back.k,a0.back.n,a0.err)))) else (((bif decide (a2.op=(2:Int)) then ((a0.frames[a1]?).bind fun x37=>((F3 x37.args a2.a).bind fun x39=>((U3 N x39 a0.frames a1).bind fun r41=>some (.next (a0.w.heap,a0.fuel,a0.sends,a0.turns,r41,a0.back.k,a0.back.n,a0.err))))) else (((bif decide (a2.op=(3:Int)) then ((a0.frames[a1]?).bind fun x54=>((F3 x54.temps a2.a).bind fun x56=>((aG2 N x56 a0.frames a1).bind fun r58=>((r58[a1]?).bind fun x60=>some (.next (a0.w.heap,a0.fuel,a0.sends,a0.turns,(r58.set a1 (⟨x60.class_,x60.method,x60.fast,x60.code,x60.self_,x60.args,x54.temps,x60.stack,x60.at_⟩:p8)),a0.back.k,a0.back.n,a0.err)))))) else (((bif decide (a2.op=(4:Int)) then ((a0.frames[a1]?).bind fun x73=>((bC5 N a0.w.heap x73.self_ a2.a).bind fun r75=>((U3 N r75 a0.frames a1).bind fun r77=>some (.next (a0.w.heap,a0.fuel,a0.sends,a0.turns,r77,a0.back.k,a0.back.n,a0.err))))) else (((bif decide (a2.op=(5:Int)) then ((U3 N (⟨(3:Int),a2.a⟩:V) a0.frames a1).bind fun r90=>some (.next (a0.w.heap,a0.fuel,a0.sends,a0.turns,r90,a0.back.k,a0.back.n,a0.err))) else (((bif decide (a2.op=(6:Int)) then ((U3 N (⟨(0:Int),(0:Int)⟩:V) a0.frames a1).bind fun r103=>some (.next (a0.w.heap,a0.fuel,a0.sends,a0.turns,r103,a0.back.k,a0.back.n,a0.err))) else (((bif decide (a2.op=(7:Int)) then some (decide (a2.op=(7:Int))) else some (decide (a2.op=(8:Int)))):Option Bool).bind fun v105=>(((bif v105 then ((a03 N (decide (a2.op=(8:Int)))).bind fun r120=>((U3 N r120 a0.frames a1).bind fun r122=>some (.next (a0.w.heap,a0.fuel,a0.sends,a0.turns,r122,a0.back.k,a0.back.n,a0.err)))) else (((bif decide (a2.op=(9:Int)) then ((aA0 N a0.frames a1).bind fun r135=>some (.next (a0.w.heap,a0.fuel,a0.sends,a0.turns,r135.2,a0.back.k,a0.back.n,a0.err))) else (((bif decide (a2.op=(10:Int)) then ((a0.frames[a1]?).bind fun x148=>((F3 x148.stack (wr ((x148.stack.length:Int) - (1:Int)))).bind fun x151=>((aO1 N x151 x148.stack a0.frames a1).bind fun r153=>some (.next (a0.w.heap,a0.fuel,a0.sends,a0.turns,(a0.frames.set a1 (⟨x148.class_,x148.method,x148.fast,x148.code,x148.self_,x148.args,x148.temps,r153,x148.at_⟩:p8)),a0.back.k,a0.back.n,a0.err))))) else (((bif decide (a2.op=(11:Int)) then ((a0.frames[a1]?).bind fun x166=>((aS1 N a0.frames a1).bind fun r168=>((r168.2[a1]?).bind fun x170=>((F3 x166.temps a2.a).bind fun x172=>some (.next (a0.w.heap,a0.fuel,a0.sends,a0.turns,(r168.2.set a1 (⟨x170.class_,x170.method,x170.fast,x170.code,x170.self_,x170.args,(x166.temps.set a2.a.toNat r168.1),x170.stack,x170.at_⟩:p8)),a0.back.k,a0.back.n,a0.err)))))) else (((bif decide (a2.op=(12:Int)) then ((a0.frames[a1]?).bind fun x185=>((aA0 N a0.frames a1).bind fun r187=>((r187.2[a1]?).bind fun x189=>((aA9 N (⟨(⟨a0.w.classes,a0.w.heap,a0.w.epoch⟩:Wd),a0.fuel,a0.sends,a0.turns,r187.2,a0.back,a0.err⟩:l7) x185.self_ a2.a r187.1).bind fun r191=>some (.next (r191.w.heap,r191.fuel,r191.sends,r191.turns,r187.2,r191.back.k,r191.back.n,r191.err)))))) else (((bif decide (a2.op=(19:Int)) then ((a0.frames[a1]?).bind fun x204=>((F3 x204.temps a2.a).bind fun x206=>((bC5 N a0.w.heap x206 a2.b).bind fun r208=>((aG2 N r208 a0.frames a1).bind fun r210=>((r210[a1]?).bind fun x212=>some (.next (a0.w.heap,a0.fuel,a0.sends,a0.turns,(r210.set a1 (⟨x212.class_,x212.method,x212.fast,x212.code,x212.self_,x212.args,x204.temps,x212.stack,x212.at_⟩:p8)),a0.back.k,a0.back.n,a0.err))))))) else (((bif decide (a2.op=(20:Int)) then ((a0.frames[a1]?).bind fun x225=>((F3 x225.temps a2.a).bind fun x227=>((aS1 N a0.frames a1).bind fun r229=>((r229.2[a1]?).bind fun x231=>((aA9 N (⟨(⟨a0.w.classes,a0.w.heap,a0.w.epoch⟩:Wd),a0.fuel,a0.sends,a0.turns,r229.2,a0.back,a0.err⟩:l7) x227 a2.b r229.1).bind fun r233=>some (.next (r233.w.heap,r233.fuel,r233.sends,r233.turns,(r229.2.set a1 (⟨x231.class_,x231.method,x231.fast,x231.code,x231.self_,x231.args,x225.temps,x231.stack,x231.at_⟩:p8)),r233.back.k,r233.back.n,r233.err))))))) else (((bif decide (a2.op=(13:Int)) then ((aE7 N (⟨a0.w.classes,a0.w.heap,a0.w.epoch⟩:Wd) a2.a).bind fun r240=>((bH6 N a0.w.heap a2.a r240).bind fun r242=>(bif (!decide (r242.2.2=(0:Int))) then ((I4 N (⟨(⟨a0.w.classes,a0.w.heap,a0.w.epoch⟩:Wd),a0.fuel,a0.sends,a0.turns,a0.frames,a0.back,a0.err⟩:l7) r242.2.2).bind fun r245=>some (.ret (⟨(⟨a0.w.classes,a0.w.heap,a0.w.epoch⟩:Wd),r245.fuel,r245.sends,r245.turns,a0.frames,r245.back,r245.err⟩:l7))) else ((U3 N r242.2.1 a0.frames a1).bind fun r247=>some (.next (r242.1,r247)))))) else some (.next (a0.w.heap,a0.frames))):Option (F9 l7 ((List Ob)×(List p8)))).bind fun o=>match o with|.ret r=>some (.ret r)|.next (v235,v236)=>some (.next (v235,a0.fuel,a0.sends,a0.turns,v236,a0.back.k,a0.back.n,a0.err)))):Option (F9 l7 ((List Ob)×Int×Int×Int×(List p8)×Int×Int×Int))).bind fun o=>match o with|.ret r=>some (.ret r)|.next (v214,v215,v216,v217,v218,v219,v220,v221)=>some (.next (v214,v215,v216,v217,v218,v219,v220,v221)))):Option (F9 l7 ((List Ob)×Int×Int×Int×(List p8)×Int×Int×Int))).bind fun o=>match o with|.ret r=>some (.ret r)|.next (v193,v194,v195,v196,v197,v198,v199,v200)=>some (.next (v193,v194,v195,v196,v197,v198,v199,v200)))):Option (F9 l7 ((List Ob)×Int×Int×Int×(List p8)×Int×Int×Int))).bind fun o=>match o with|.ret r=>some (.ret r)|.next (v174,v175,v176,v177,v178,v179,v180,v181)=>some (.next (v174,v175,v176,v177,v178,v179,v180,v181)))):Option (F9 l7 ((List Ob)×Int×Int×Int×(List p8)×Int×Int×Int))).bind fun o=>match o with|.ret r=>some (.ret r)|.next (v155,v156,v157,v158,v159,v160,v161,v162)=>some (.next (v155,v156,v157,v158,v159,v160,v161,v162)))):Option (F9 l7 ((List Ob)×Int×Int×Int×(List p8)×Int×Int×Int))).bind fun o=>match o with|.ret r=>some (.ret r)|.next (v137,v138,v139,v140,v141,v142,v143,v144)=>some (.next (v137,v138,v139,v140,v141,v142,v143,v144)))):Option (F9 l7 ((List Ob)×Int×Int×Int×(List p8)×Int×Int×Int))).bind fun o=>match o with|.ret r=>some (.ret r)|.next (v124,v125,v126,v127,v128,v129,v130,v131)=>some (.next (v124,v125,v126,v127,v128,v129,v130,v131)))):Option (F9 l7 ((List Ob)×Int×Int×Int×(List p8)×Int×Int×Int))).bind fun o=>match o with|.ret r=>some (.ret r)|.next (v109,v110,v111,v112,v113,v114,v115,v116)=>some (.next (v109,v110,v111,v112,v113,v114,v115,v116))))):Option (F9 l7 ((List Ob)×Int×Int×Int×(List p8)×Int×Int×Int))).bind fun o=>match o with|.ret r=>some (.ret r)|.next (v92,v93,v94,v95,v96,v97,v98,v99)=>some (.next (v92,v93,v94,v95,v96,v97,v98,v99)))):Option (F9 l7 ((List Ob)×Int×Int×Int×(List p8)×Int×Int×Int))).bind fun o=>match o with|.ret r=>some (.ret r)|.next (v79,v80,v81,v82,v83,v84,v85,v86)=>some (.next (v79,v80,v81,v82,v83,v84,v85,v86)))):Option (F9 l7 ((List Ob)×Int×Int×Int×(List p8)×Int×Int×Int))).bind fun o=>match o with|.ret r=>some (.ret r)|.next (v62,v63,v64,v65,v66,v67,v68,v69)=>some (.next (v62,v63,v64,v65,v66,v67,v68,v69)))):Option (F9 l7 ((List Ob)×Int×Int×Int×(List p8)×Int×Int×Int))).bind fun o=>match o with|.ret r=>some (.ret r)|.next (v43,v44,v45,v46,v47,v48,v49,v50)=>some (.next (v43,v44,v45,v46,v47,v48,v49,v50)))):Option (F9 l7 ((List Ob)×Int×Int×Int×(List p8)×Int×Int×Int))).bind fun o=>match o with|.ret r=>some (.ret r)|.next (v26,v27,v28,v29,v30,v31,v32,v33)=>some (.next (v26,v27,v28,v29,v30,v31,v32,v33)))):Option (F9 l7 ((List Ob)×Int×Int×Int×(List p8)×Int×Int×Int))).bind fun o=>match o with|.ret r=>some (.ret r)|.next (v11,v12,v13,v14,v15,v16,v17,v18)=>some (.next (v11,v12,v13,v14,v15,v16,v17,v18))):Option (F9 l7 ((List Ob)×Int×Int×Int×(List p8)×Int×Int×Int))).bind fun o=>match o with|.ret r=>some r|.next (v1,v2,v3,v4,v5,v6,v7,v8)=>some (⟨(⟨a0.w.classes,v1,a0.w.epoch⟩:Wd),v2,v3,v4,v5,(⟨v6,v7⟩:V),v8⟩:l7))

def aI4 (N:Nat) (a0:l7) (gl:St→Int→ByteArray→Option (Int×Int)) (gq:Int→Int→Option (Fs×Bool)):Option l7 :=
  ((F3 a0.frames (wr ((a0.frames.length:Int) - (1:Int)))).bind fun x2=>((F3 x2.code x2.at_).bind fun x4=>(((((bif decide (x4.op=(14:Int)) then ((aI9 N (⟨(⟨a0.w.classes,a0.w.heap,a0.w.epoch⟩:Wd),a0.fuel,a0.sends,a0.turns,(a0.frames.set ((wr ((a0.frames.length:Int) - (1:Int))).toNat) (⟨x2.class_,x2.method,x2.fast,x2.code,x2.self_,x2.args,x2.temps,x2.stack,(wr (x2.at_+(1:Int)))⟩:p8)),a0.back,a0.err⟩:l7) gl gq ((wr ((a0.frames.length:Int) - (1:Int))).toNat) x4 x2.at_).bind fun r31=>some ((a0.w.classes,a0.w.heap,a0.w.epoch,r31.fuel,r31.sends,r31.turns,r31.frames,r31.back.k,r31.back.n,r31.err))) else (((bif decide (x4.op=(15:Int)) then ((U5 N (⟨(⟨a0.w.classes,a0.w.heap,a0.w.epoch⟩:Wd),a0.fuel,a0.sends,a0.turns,(a0.frames.set ((wr ((a0.frames.length:Int) - (1:Int))).toNat) (⟨x2.class_,x2.method,x2.fast,x2.code,x2.self_,x2.args,x2.temps,x2.stack,(wr (x2.at_+(1:Int)))⟩:p8)),a0.back,a0.err⟩:l7) ((wr ((a0.frames.length:Int) - (1:Int))).toNat) x4.a).bind fun r46=>some ((a0.w.classes,a0.w.heap,a0.w.epoch,r46.fuel,r46.sends,r46.turns,r46.frames,r46.back.k,r46.back.n,r46.err))) else (((bif decide (x4.op=(16:Int)) then ((aA0 N (a0.frames.set ((wr ((a0.frames.length:Int) - (1:Int))).toNat) (⟨x2.class_,x2.method,x2.fast,x2.code,x2.self_,x2.args,x2.temps,x2.stack,(wr (x2.at_+(1:Int)))⟩:p8)) ((wr ((a0.frames.length:Int) - (1:Int))).toNat)).bind fun r61=>(((((bif decide (r61.1.k=(1:Int)) then ((U5 N (⟨(⟨a0.w.classes,a0.w.heap,a0.w.epoch⟩:Wd),a0.fuel,a0.sends,a0.turns,r61.2,a0.back,a0.err⟩:l7) ((wr ((a0.frames.length:Int) - (1:Int))).toNat) x4.a).bind fun r82=>some ((r82.fuel,r82.sends,r82.turns,r82.frames,r82.back.k,r82.back.n,r82.err))) else (((bif decide (r61.1.k=(2:Int)) then some ((a0.fuel,a0.sends,a0.turns,a0.back.k,a0.back.n,a0.err)) else ((I4 N (⟨(⟨a0.w.classes,a0.w.heap,a0.w.epoch⟩:Wd),a0.fuel,a0.sends,a0.turns,r61.2,a0.back,a0.err⟩:l7) (11:Int)).bind fun r93=>some ((r93.fuel,r93.sends,r93.turns,r93.back.k,r93.back.n,r93.err)))):Option (Int×Int×Int×Int×Int×Int)).bind fun (v84,v85,v86,v87,v88,v89)=>some ((v84,v85,v86,r61.2,v87,v88,v89)))):Option (Int×Int×Int×(List p8)×Int×Int×Int)).bind fun (v72,v73,v74,v75,v76,v77,v78)=>some ((v72,v73,v74,v75,v76,v77,v78))):Option (Int×Int×Int×(List p8)×Int×Int×Int)).bind fun (v63,v64,v65,v66,v67,v68,v69)=>some ((a0.w.classes,a0.w.heap,a0.w.epoch,v63,v64,v65,v66,v67,v68,v69)))) else (((bif decide (x4.op=(17:Int)) then ((aA0 N (a0.frames.set ((wr ((a0.frames.length:Int) - (1:Int))).toNat) (⟨x2.class_,x2.method,x2.fast,x2.code,x2.self_,x2.args,x2.temps,x2.stack,(wr (x2.at_+(1:Int)))⟩:p8)) ((wr ((a0.frames.length:Int) - (1:Int))).toNat)).bind fun r108=>(bif (decide (0≤(wr ((r108.2.length:Int) - (1:Int)))) && decide ((wr ((r108.2.length:Int) - (1:Int)))≤(r108.2.length:Int))) then ((Y1 N (⟨(⟨a0.w.classes,a0.w.heap,a0.w.epoch⟩:Wd),a0.fuel,a0.sends,a0.turns,(r108.2.take (wr ((r108.2.length:Int) - (1:Int))).toNat),a0.back,a0.err⟩:l7) r108.1).bind fun r112=>some ((a0.w.classes,a0.w.heap,a0.w.epoch,r112.fuel,r112.sends,r112.turns,r112.frames,r112.back.k,r112.back.n,r112.err))) else none)) else (((bif decide (x4.op=(18:Int)) then ((Y8 N (⟨(⟨a0.w.classes,a0.w.heap,a0.w.epoch⟩:Wd),a0.fuel,a0.sends,a0.turns,(a0.frames.set ((wr ((a0.frames.length:Int) - (1:Int))).toNat) (⟨x2.class_,x2.method,x2.fast,x2.code,x2.self_,x2.args,x2.temps,x2.stack,(wr (x2.at_+(1:Int)))⟩:p8)),a0.back,a0.err⟩:l7) ((wr ((a0.frames.length:Int) - (1:Int))).toNat) x4).bind fun r127=>some ((a0.w.classes,a0.w.heap,a0.w.epoch,r127.fuel,r127.sends,r127.turns,r127.frames,r127.back.k,r127.back.n,r127.err))) else (((bif decide (x4.op=(21:Int)) then ((T9 N (⟨(⟨a0.w.classes,a0.w.heap,a0.w.epoch⟩:Wd),a0.fuel,a0.sends,a0.turns,(a0.frames.set ((wr ((a0.frames.length:Int) - (1:Int))).toNat) (⟨x2.class_,x2.method,x2.fast,x2.code,x2.self_,x2.args,x2.temps,x2.stack,(wr (x2.at_+(1:Int)))⟩:p8)),a0.back,a0.err⟩:l7) true).bind fun r142=>some ((a0.w.classes,a0.w.heap,a0.w.epoch,r142.2.fuel,r142.2.sends,r142.2.turns,(a0.frames.set ((wr ((a0.frames.length:Int) - (1:Int))).toNat) (⟨x2.class_,x2.method,x2.fast,x2.code,x2.self_,x2.args,x2.temps,x2.stack,(wr (x2.at_+(1:Int)))⟩:p8)),r142.2.back.k,r142.2.back.n,r142.2.err))) else ((Z7 N (⟨(⟨a0.w.classes,a0.w.heap,a0.w.epoch⟩:Wd),a0.fuel,a0.sends,a0.turns,(a0.frames.set ((wr ((a0.frames.length:Int) - (1:Int))).toNat) (⟨x2.class_,x2.method,x2.fast,x2.code,x2.self_,x2.args,x2.temps,x2.stack,(wr (x2.at_+(1:Int)))⟩:p8)),a0.back,a0.err⟩:l7) ((wr ((a0.frames.length:Int) - (1:Int))).toNat) x4).bind fun r144=>some ((r144.w.classes,r144.w.heap,r144.w.epoch,r144.fuel,r144.sends,r144.turns,r144.frames,r144.back.k,r144.back.n,r144.err)))):Option ((List Cl)×(List Ob)×Int×Int×Int×Int×(List p8)×Int×Int×Int)).bind fun (v129,v130,v131,v132,v133,v134,v135,v136,v137,v138)=>some ((v129,v130,v131,v132,v133,v134,v135,v136,v137,v138)))):Option ((List Cl)×(List Ob)×Int×Int×Int×Int×(List p8)×Int×Int×Int)).bind fun (v114,v115,v116,v117,v118,v119,v120,v121,v122,v123)=>some ((v114,v115,v116,v117,v118,v119,v120,v121,v122,v123)))):Option ((List Cl)×(List Ob)×Int×Int×Int×Int×(List p8)×Int×Int×Int)).bind fun (v95,v96,v97,v98,v99,v100,v101,v102,v103,v104)=>some ((v95,v96,v97,v98,v99,v100,v101,v102,v103,v104)))):Option ((List Cl)×(List Ob)×Int×Int×Int×Int×(List p8)×Int×Int×Int)).bind fun (v48,v49,v50,v51,v52,v53,v54,v55,v56,v57)=>some ((v48,v49,v50,v51,v52,v53,v54,v55,v56,v57)))):Option ((List Cl)×(List Ob)×Int×Int×Int×Int×(List p8)×Int×Int×Int)).bind fun (v33,v34,v35,v36,v37,v38,v39,v40,v41,v42)=>some ((v33,v34,v35,v36,v37,v38,v39,v40,v41,v42)))):Option ((List Cl)×(List Ob)×Int×Int×Int×Int×(List p8)×Int×Int×Int)).bind fun (v18,v19,v20,v21,v22,v23,v24,v25,v26,v27)=>some ((v18,v19,v20,v21,v22,v23,v24,v25,v26,v27))):Option ((List Cl)×(List Ob)×Int×Int×Int×Int×(List p8)×Int×Int×Int)).bind fun (v6,v7,v8,v9,v10,v11,v12,v13,v14,v15)=>some (⟨(⟨v6,v7,v8⟩:Wd),v9,v10,v11,v12,(⟨v13,v14⟩:V),v15⟩:l7))))

def aH4 (N:Nat) (g3:(St→Int→ByteArray→Option (Int×Int))) (g4:(Int→Int→Option (Fs×Bool))):Nat→(List Cl)→(List Ob)→Int→Int→Int→Int→(List p8)→Int→Int→Int→Option (((List Cl)×(List Ob)×Int×Int×Int×Int×(List p8)×Int×Int×Int))
  |0,_,_,_,_,_,_,_,_,_,_=>none
  |n61+1,v27,v28,v29,v30,v31,v32,v33,v34,v35,v36=>(((bif decide (v36=(0:Int)) then some (decide ((0:Int) < (v33.length:Int))) else some (false)):Option Bool).bind fun v62=>(bif v62 then ((aI4 N (⟨(⟨v27,v28,v29⟩:Wd),v30,v31,v32,v33,(⟨v34,v35⟩:V),v36⟩:l7) g3 g4).bind fun r68=>aH4 N g3 g4 n61 r68.w.classes r68.w.heap r68.w.epoch r68.fuel r68.sends r68.turns r68.frames r68.back.k r68.back.n r68.err) else some ((v27,v28,v29,v30,v31,v32,v33,v34,v35,v36))))

def aF7 (N:Nat) (a0:Wd) (a1:M6) (a2:Int) (g3:St→Int→ByteArray→Option (Int×Int)) (g4:Int→Int→Option (Fs×Bool)):Option (Wd×aJ6) :=
  ((aY9 N a0 a1 a2).bind fun r1=>(bif (!decide (r1=(0:Int))) then ((aK8 N a0).bind fun r4=>some (r4,(⟨(⟨(0:Int),(0:Int)⟩:V),r1,(0:Int)⟩:aJ6))) else ((aK8 N a0).bind fun r6=>((aL1 N r6.heap a1.self_).bind fun r8=>((aD1 N (⟨r6.classes,r6.heap,r6.epoch⟩:Wd) r8 a1.name).bind fun r10=>(((bif decide (r10.2 < (0:Int)) then ((I4 N (⟨(⟨r6.classes,r6.heap,r6.epoch⟩:Wd),a2,(0:Int),(0:Int),([]:List p8),(⟨(0:Int),(0:Int)⟩:V),(0:Int)⟩:l7) (10:Int)).bind fun r22=>some ((r22.fuel,r22.sends,r22.turns,([]:List p8),r22.back.k,r22.back.n,r22.err))) else ((S9 N (⟨(⟨r6.classes,r6.heap,r6.epoch⟩:Wd),a2,(0:Int),(0:Int),([]:List p8),(⟨(0:Int),(0:Int)⟩:V),(0:Int)⟩:l7) g4 r10.1 r10.2 a1.self_ a1.args).bind fun r24=>some ((r24.fuel,r24.sends,r24.turns,r24.frames,r24.back.k,r24.back.n,r24.err)))):Option (Int×Int×Int×(List p8)×Int×Int×Int)).bind fun (v12,v13,v14,v15,v16,v17,v18)=>((aH4 N g3 g4 N r6.classes r6.heap r6.epoch v12 v13 v14 v15 v16 v17 v18).bind fun (v47,v48,v49,v50,v51,v52,v53,v54,v55,v56)=>(bif (!decide (v56=(0:Int))) then ((aK8 N a0).bind fun r71=>some (r71,(⟨(⟨(0:Int),(0:Int)⟩:V),v56,v51⟩:aJ6))) else some ((⟨v47,v48,v49⟩:Wd),(⟨(⟨v54,v55⟩:V),(0:Int),v51⟩:aJ6))))))))))

def aL3 (N:Nat) (a0:St) (a1:Int) (a2:ByteArray) (b0:Wd):Option (Int×Int) :=
  ((aD1 N b0 a1 a2).bind fun r1=>some (r1.1,r1.2))

def aO6 (N:Nat) (a0:Int) (a1:Int):Option (Fs×Bool) :=
  some ((⟨(0:Int),ByteArray.empty,(0:Int),(0:Int),[]⟩:Fs),false)

def aK9 (N:Nat) (a0:Wd) (a1:M6) (a2:Int):Option (Wd×aJ6) :=
  ((aF7 N a0 a1 a2 (fun x0_ x1_ x2_=>aL3 N x0_ x1_ x2_ a0) (fun x0_ x1_=>aO6 N x0_ x1_)).bind fun r1=>some (r1.1,r1.2))

def aU3 (N:Nat) (a0:l7) (gl:St→Int→ByteArray→I5→Option (Int×Int×I5)) (gq:Int→Int→Option (Fs×Bool)) (sb:I5) (a1:Nat) (a2:Ins) (a3:Int):Option (I5×l7) :=
  ((a0.frames[a1]?).bind fun x1=>(bif (decide (0≤(wr ((x1.stack.length:Int) - a2.a))) && decide ((wr ((x1.stack.length:Int) - a2.a))≤(x1.stack.length:Int))) then ((aM5 N (x1.stack.drop ((wr ((x1.stack.length:Int) - a2.a)).toNat))).bind fun r5=>((F3 x1.stack (wr ((wr ((x1.stack.length:Int) - a2.a)) - (1:Int)))).bind fun x7=>((F3 a0.w.classes x1.class_).bind fun x9=>((F3 x9.methods x1.method).bind fun x11=>(((bif x1.fast then some (a2.c) else some (a3)):Option Int).bind fun v13=>((aL1 N a0.w.heap x7).bind fun r17=>((gl (⟨x1.class_,x11.name,v13⟩:St) r17 a2.name sb).bind fun r19=>(bif decide (r19.2.1 < (0:Int)) then ((I4 N (⟨(⟨a0.w.classes,a0.w.heap,a0.w.epoch⟩:Wd),a0.fuel,a0.sends,a0.turns,a0.frames,a0.back,a0.err⟩:l7) (10:Int)).bind fun r22=>some (r19.2.2,(⟨(⟨a0.w.classes,a0.w.heap,a0.w.epoch⟩:Wd),r22.fuel,r22.sends,r22.turns,a0.frames,r22.back,r22.err⟩:l7))) else (bif (decide (0≤(wr ((wr ((x1.stack.length:Int) - a2.a)) - (1:Int)))) && decide ((wr ((wr ((x1.stack.length:Int) - a2.a)) - (1:Int)))≤(x1.stack.length:Int))) then ((S9 N (⟨(⟨a0.w.classes,a0.w.heap,a0.w.epoch⟩:Wd),a0.fuel,a0.sends,a0.turns,(a0.frames.set a1 (⟨x1.class_,x1.method,x1.fast,x1.code,x1.self_,x1.args,x1.temps,(x1.stack.take (wr ((wr ((x1.stack.length:Int) - a2.a)) - (1:Int))).toNat),x1.at_⟩:p8)),a0.back,a0.err⟩:l7) gq r19.1 r19.2.1 x7 r5).bind fun r25=>some (r19.2.2,(⟨(⟨a0.w.classes,a0.w.heap,a0.w.epoch⟩:Wd),r25.fuel,r25.sends,r25.turns,r25.frames,r25.back,r25.err⟩:l7))) else none))))))))) else none))

def aU2 (N:Nat) (a0:l7) (gl:St→Int→ByteArray→I5→Option (Int×Int×I5)) (gq:Int→Int→Option (Fs×Bool)) (sb:I5):Option (I5×l7) :=
  ((F3 a0.frames (wr ((a0.frames.length:Int) - (1:Int)))).bind fun x2=>((F3 x2.code x2.at_).bind fun x4=>(((((bif decide (x4.op=(14:Int)) then ((aU3 N (⟨(⟨a0.w.classes,a0.w.heap,a0.w.epoch⟩:Wd),a0.fuel,a0.sends,a0.turns,(a0.frames.set ((wr ((a0.frames.length:Int) - (1:Int))).toNat) (⟨x2.class_,x2.method,x2.fast,x2.code,x2.self_,x2.args,x2.temps,x2.stack,(wr (x2.at_+(1:Int)))⟩:p8)),a0.back,a0.err⟩:l7) gl gq sb ((wr ((a0.frames.length:Int) - (1:Int))).toNat) x4 x2.at_).bind fun r33=>some ((a0.w.classes,a0.w.heap,a0.w.epoch,r33.1,r33.2.fuel,r33.2.sends,r33.2.turns,r33.2.frames,r33.2.back.k,r33.2.back.n,r33.2.err))) else (((bif decide (x4.op=(15:Int)) then ((U5 N (⟨(⟨a0.w.classes,a0.w.heap,a0.w.epoch⟩:Wd),a0.fuel,a0.sends,a0.turns,(a0.frames.set ((wr ((a0.frames.length:Int) - (1:Int))).toNat) (⟨x2.class_,x2.method,x2.fast,x2.code,x2.self_,x2.args,x2.temps,x2.stack,(wr (x2.at_+(1:Int)))⟩:p8)),a0.back,a0.err⟩:l7) ((wr ((a0.frames.length:Int) - (1:Int))).toNat) x4.a).bind fun r48=>some ((a0.w.classes,a0.w.heap,a0.w.epoch,r48.fuel,r48.sends,r48.turns,r48.frames,r48.back.k,r48.back.n,r48.err))) else (((bif decide (x4.op=(16:Int)) then ((aA0 N (a0.frames.set ((wr ((a0.frames.length:Int) - (1:Int))).toNat) (⟨x2.class_,x2.method,x2.fast,x2.code,x2.self_,x2.args,x2.temps,x2.stack,(wr (x2.at_+(1:Int)))⟩:p8)) ((wr ((a0.frames.length:Int) - (1:Int))).toNat)).bind fun r63=>(((((bif decide (r63.1.k=(1:Int)) then ((U5 N (⟨(⟨a0.w.classes,a0.w.heap,a0.w.epoch⟩:Wd),a0.fuel,a0.sends,a0.turns,r63.2,a0.back,a0.err⟩:l7) ((wr ((a0.frames.length:Int) - (1:Int))).toNat) x4.a).bind fun r84=>some ((r84.fuel,r84.sends,r84.turns,r84.frames,r84.back.k,r84.back.n,r84.err))) else (((bif decide (r63.1.k=(2:Int)) then some ((a0.fuel,a0.sends,a0.turns,a0.back.k,a0.back.n,a0.err)) else ((I4 N (⟨(⟨a0.w.classes,a0.w.heap,a0.w.epoch⟩:Wd),a0.fuel,a0.sends,a0.turns,r63.2,a0.back,a0.err⟩:l7) (11:Int)).bind fun r95=>some ((r95.fuel,r95.sends,r95.turns,r95.back.k,r95.back.n,r95.err)))):Option (Int×Int×Int×Int×Int×Int)).bind fun (v86,v87,v88,v89,v90,v91)=>some ((v86,v87,v88,r63.2,v89,v90,v91)))):Option (Int×Int×Int×(List p8)×Int×Int×Int)).bind fun (v74,v75,v76,v77,v78,v79,v80)=>some ((v74,v75,v76,v77,v78,v79,v80))):Option (Int×Int×Int×(List p8)×Int×Int×Int)).bind fun (v65,v66,v67,v68,v69,v70,v71)=>some ((a0.w.classes,a0.w.heap,a0.w.epoch,v65,v66,v67,v68,v69,v70,v71)))) else (((bif decide (x4.op=(17:Int)) then ((aA0 N (a0.frames.set ((wr ((a0.frames.length:Int) - (1:Int))).toNat) (⟨x2.class_,x2.method,x2.fast,x2.code,x2.self_,x2.args,x2.temps,x2.stack,(wr (x2.at_+(1:Int)))⟩:p8)) ((wr ((a0.frames.length:Int) - (1:Int))).toNat)).bind fun r110=>(bif (decide (0≤(wr ((r110.2.length:Int) - (1:Int)))) && decide ((wr ((r110.2.length:Int) - (1:Int)))≤(r110.2.length:Int))) then ((Y1 N (⟨(⟨a0.w.classes,a0.w.heap,a0.w.epoch⟩:Wd),a0.fuel,a0.sends,a0.turns,(r110.2.take (wr ((r110.2.length:Int) - (1:Int))).toNat),a0.back,a0.err⟩:l7) r110.1).bind fun r114=>some ((a0.w.classes,a0.w.heap,a0.w.epoch,r114.fuel,r114.sends,r114.turns,r114.frames,r114.back.k,r114.back.n,r114.err))) else none)) else (((bif decide (x4.op=(18:Int)) then ((Y8 N (⟨(⟨a0.w.classes,a0.w.heap,a0.w.epoch⟩:Wd),a0.fuel,a0.sends,a0.turns,(a0.frames.set ((wr ((a0.frames.length:Int) - (1:Int))).toNat) (⟨x2.class_,x2.method,x2.fast,x2.code,x2.self_,x2.args,x2.temps,x2.stack,(wr (x2.at_+(1:Int)))⟩:p8)),a0.back,a0.err⟩:l7) ((wr ((a0.frames.length:Int) - (1:Int))).toNat) x4).bind fun r129=>some ((a0.w.classes,a0.w.heap,a0.w.epoch,r129.fuel,r129.sends,r129.turns,r129.frames,r129.back.k,r129.back.n,r129.err))) else (((bif decide (x4.op=(21:Int)) then ((T9 N (⟨(⟨a0.w.classes,a0.w.heap,a0.w.epoch⟩:Wd),a0.fuel,a0.sends,a0.turns,(a0.frames.set ((wr ((a0.frames.length:Int) - (1:Int))).toNat) (⟨x2.class_,x2.method,x2.fast,x2.code,x2.self_,x2.args,x2.temps,x2.stack,(wr (x2.at_+(1:Int)))⟩:p8)),a0.back,a0.err⟩:l7) true).bind fun r144=>some ((a0.w.classes,a0.w.heap,a0.w.epoch,r144.2.fuel,r144.2.sends,r144.2.turns,(a0.frames.set ((wr ((a0.frames.length:Int) - (1:Int))).toNat) (⟨x2.class_,x2.method,x2.fast,x2.code,x2.self_,x2.args,x2.temps,x2.stack,(wr (x2.at_+(1:Int)))⟩:p8)),r144.2.back.k,r144.2.back.n,r144.2.err))) else ((Z7 N (⟨(⟨a0.w.classes,a0.w.heap,a0.w.epoch⟩:Wd),a0.fuel,a0.sends,a0.turns,(a0.frames.set ((wr ((a0.frames.length:Int) - (1:Int))).toNat) (⟨x2.class_,x2.method,x2.fast,x2.code,x2.self_,x2.args,x2.temps,x2.stack,(wr (x2.at_+(1:Int)))⟩:p8)),a0.back,a0.err⟩:l7) ((wr ((a0.frames.length:Int) - (1:Int))).toNat) x4).bind fun r146=>some ((r146.w.classes,r146.w.heap,r146.w.epoch,r146.fuel,r146.sends,r146.turns,r146.frames,r146.back.k,r146.back.n,r146.err)))):Option ((List Cl)×(List Ob)×Int×Int×Int×Int×(List p8)×Int×Int×Int)).bind fun (v131,v132,v133,v134,v135,v136,v137,v138,v139,v140)=>some ((v131,v132,v133,v134,v135,v136,v137,v138,v139,v140)))):Option ((List Cl)×(List Ob)×Int×Int×Int×Int×(List p8)×Int×Int×Int)).bind fun (v116,v117,v118,v119,v120,v121,v122,v123,v124,v125)=>some ((v116,v117,v118,v119,v120,v121,v122,v123,v124,v125)))):Option ((List Cl)×(List Ob)×Int×Int×Int×Int×(List p8)×Int×Int×Int)).bind fun (v97,v98,v99,v100,v101,v102,v103,v104,v105,v106)=>some ((v97,v98,v99,v100,v101,v102,v103,v104,v105,v106)))):Option ((List Cl)×(List Ob)×Int×Int×Int×Int×(List p8)×Int×Int×Int)).bind fun (v50,v51,v52,v53,v54,v55,v56,v57,v58,v59)=>some ((v50,v51,v52,v53,v54,v55,v56,v57,v58,v59)))):Option ((List Cl)×(List Ob)×Int×Int×Int×Int×(List p8)×Int×Int×Int)).bind fun (v35,v36,v37,v38,v39,v40,v41,v42,v43,v44)=>some ((v35,v36,v37,sb,v38,v39,v40,v41,v42,v43,v44)))):Option ((List Cl)×(List Ob)×Int×I5×Int×Int×Int×(List p8)×Int×Int×Int)).bind fun (v19,v20,v21,v22,v23,v24,v25,v26,v27,v28,v29)=>some ((v19,v20,v21,v22,v23,v24,v25,v26,v27,v28,v29))):Option ((List Cl)×(List Ob)×Int×I5×Int×Int×Int×(List p8)×Int×Int×Int)).bind fun (v6,v7,v8,v9,v10,v11,v12,v13,v14,v15,v16)=>some (v9,(⟨(⟨v6,v7,v8⟩:Wd),v10,v11,v12,v13,(⟨v14,v15⟩:V),v16⟩:l7)))))

def aQ6 (N:Nat) (g3:(St→Int→ByteArray→I5→Option (Int×Int×I5))) (g4:(Int→Int→Option (Fs×Bool))):Nat→I5→(List Cl)→(List Ob)→Int→Int→Int→Int→(List p8)→Int→Int→Int→Option ((I5×(List Cl)×(List Ob)×Int×Int×Int×Int×(List p8)×Int×Int×Int))
  |0,_,_,_,_,_,_,_,_,_,_,_=>none
  |n64+1,v27,v28,v29,v30,v31,v32,v33,v34,v35,v36,v37=>(((bif decide (v37=(0:Int)) then some (decide ((0:Int) < (v34.length:Int))) else some (false)):Option Bool).bind fun v65=>(bif v65 then ((aU2 N (⟨(⟨v28,v29,v30⟩:Wd),v31,v32,v33,v34,(⟨v35,v36⟩:V),v37⟩:l7) g3 g4 v27).bind fun r71=>aQ6 N g3 g4 n64 r71.1 r71.2.w.classes r71.2.w.heap r71.2.w.epoch r71.2.fuel r71.2.sends r71.2.turns r71.2.frames r71.2.back.k r71.2.back.n r71.2.err) else some ((v27,v28,v29,v30,v31,v32,v33,v34,v35,v36,v37))))

def bO1 (N:Nat) (a0:Wd) (a1:M6) (a2:Int) (g3:St→Int→ByteArray→I5→Option (Int×Int×I5)) (sb:I5) (g4:Int→Int→Option (Fs×Bool)):Option (Wd×aJ6×I5) :=
  ((aY9 N a0 a1 a2).bind fun r1=>(bif (!decide (r1=(0:Int))) then ((aK8 N a0).bind fun r4=>some (r4,(⟨(⟨(0:Int),(0:Int)⟩:V),r1,(0:Int)⟩:aJ6),sb)) else ((aK8 N a0).bind fun r6=>((aL1 N r6.heap a1.self_).bind fun r8=>((aD1 N (⟨r6.classes,r6.heap,r6.epoch⟩:Wd) r8 a1.name).bind fun r10=>(((bif decide (r10.2 < (0:Int)) then ((I4 N (⟨(⟨r6.classes,r6.heap,r6.epoch⟩:Wd),a2,(0:Int),(0:Int),([]:List p8),(⟨(0:Int),(0:Int)⟩:V),(0:Int)⟩:l7) (10:Int)).bind fun r22=>some ((r22.fuel,r22.sends,r22.turns,([]:List p8),r22.back.k,r22.back.n,r22.err))) else ((S9 N (⟨(⟨r6.classes,r6.heap,r6.epoch⟩:Wd),a2,(0:Int),(0:Int),([]:List p8),(⟨(0:Int),(0:Int)⟩:V),(0:Int)⟩:l7) g4 r10.1 r10.2 a1.self_ a1.args).bind fun r24=>some ((r24.fuel,r24.sends,r24.turns,r24.frames,r24.back.k,r24.back.n,r24.err)))):Option (Int×Int×Int×(List p8)×Int×Int×Int)).bind fun (v12,v13,v14,v15,v16,v17,v18)=>((aQ6 N g3 g4 N sb r6.classes r6.heap r6.epoch v12 v13 v14 v15 v16 v17 v18).bind fun (v49,v50,v51,v52,v53,v54,v55,v56,v57,v58,v59)=>(bif (!decide (v59=(0:Int))) then ((aK8 N a0).bind fun r74=>some (r74,(⟨(⟨(0:Int),(0:Int)⟩:V),v59,v54⟩:aJ6),v49)) else some ((⟨v50,v51,v52⟩:Wd),(⟨(⟨v57,v58⟩:V),(0:Int),v54⟩:aJ6),v49)))))))))

def H8 (N:Nat) (g1:(Ce→Option Bool)):List Ce→Nat→Option (F9 Int Unit)
  |[],k2=>some (.next ())
  |x8::rest5,k2=>((g1 x8).bind fun r11=>(bif r11 then some (.ret (k2:Int)) else H8 N g1 rest5 (k2+1)))

def U1 (N:Nat) (a0:(List Ce)) (g1:Ce→Option Bool):Option Int :=
  ((H8 N g1 a0 0).bind fun o=>match o with|.ret r=>some r|.next ()=>some (-1:Int))

def aJ8 (N:Nat) (a0:Ce) (b0:St):Option Bool :=
  some (aC6 (eSt a0.site) (eSt b0))

def aX3 (N:Nat) (a0:(List Ce)) (a1:St):Option Int :=
  ((U1 N a0 (fun x0_=>aJ8 N x0_ a1)).bind fun r1=>some r1)

def aT3 (N:Nat) (a3:Int):List Ln→Nat→Option (F9 Int Unit)
  |[],k13=>some (.next ())
  |x19::rest16,k13=>(bif decide (x19.cls=a3) then some (.ret x19.found) else aT3 N a3 rest16 (k13+1))

def bQ6 (N:Nat) (a0:(List Ce)) (a1:St) (a2:Int) (a3:Int):Option Int :=
  ((aX3 N a0 a1).bind fun r1=>(((bif decide (r1 < (0:Int)) then some (true) else ((F3 a0 r1).bind fun x7=>some ((!decide (x7.epoch=a2))))):Option Bool).bind fun v3=>(bif v3 then some (-1:Int) else ((F3 a0 r1).bind fun x10=>((aT3 N a3 x10.lines 0).bind fun o=>match o with|.ret r=>some r|.next ()=>some (-1:Int))))))

def F7 (N:Nat) (g1:(Ln→Option Bool)):List Ln→Nat→Option (F9 Int Unit)
  |[],k2=>some (.next ())
  |x8::rest5,k2=>((g1 x8).bind fun r11=>(bif r11 then some (.ret (k2:Int)) else F7 N g1 rest5 (k2+1)))

def L6 (N:Nat) (a0:(List Ln)) (g1:Ln→Option Bool):Option Int :=
  ((F7 N g1 a0 0).bind fun o=>match o with|.ret r=>some r|.next ()=>some (-1:Int))

def P8 (N:Nat) (a0:(List Ln)) (g1:Ln→Option Bool):Option Bool :=
  ((L6 N a0 g1).bind fun r1=>some (decide ((0:Int)≤r1)))

def aR5 (N:Nat) (a0:Ln) (b0:Int):Option Bool :=
  some (decide (a0.cls=b0))

/-- a cell, once something is put into it -/
def aN7 (e:Int) (x:Ce):Ce:=if x.epoch=e then x else ⟨x.site,e,false,[]⟩
def V5 (c f:Int) (y:Ce):Ce:=if y.many=true∨0≤ixf (fun t:Ln=>decide (t.cls=c)) y.lines then y else if (3:Int)≤(y.lines.length:Int) then ⟨y.site,y.epoch,true,[]⟩ else ⟨y.site,y.epoch,y.many,y.lines++[⟨c,f⟩]⟩
def cT8 (e c f:Int) (x:Ce):Ce:=V5 c f (aN7 e x)
def bT4 (N:Nat) (a0:List Ce) (a1:St) (a2:Int) (a3:Int) (a4:Int):Option (List Ce) :=
  bif (Nat.ble ((a0.length+1)*72) 140737488355328 && a0.all fun t=>Nat.ble ((t.lines.length+1)*16) 140737488355328) then
    some ((ixd (fun t:Ce=>decide (t.site=a1)) ⟨a1,a2,false,[]⟩ a0).1.modify (ixd (fun t:Ce=>decide (t.site=a1)) ⟨a1,a2,false,[]⟩ a0).2 (cT8 a2 a3 a4)) else none

def bM3 (N:Nat) (a0:(List Ce)) (a1:Wd) (a2:St) (a3:Int) (a4:ByteArray):Option ((List Ce)×Int×Int×Bool) :=
  ((bQ6 N a0 a2 a1.epoch a3).bind fun r1=>(((bif decide ((0:Int)≤r1) then some (decide (r1 < (a1.classes.length:Int))) else some (false)):Option Bool).bind fun v3=>(bif v3 then ((aD1 N a1 r1 a4).bind fun r9=>((aZ2 N a0).bind fun r11=>some (r11,r9.1,r9.2,true))) else ((aD1 N a1 a3 a4).bind fun r13=>(bif decide (r13.2 < (0:Int)) then ((aZ2 N a0).bind fun r16=>some (r16,r13.1,r13.2,false)) else ((bT4 N a0 a2 a1.epoch a3 r13.1).bind fun r18=>some (r18,r13.1,r13.2,false)))))))

def G8 (N:Nat) (g1:(Tl→Option Bool)):List Tl→Nat→Option (F9 Int Unit)
  |[],k2=>some (.next ())
  |x8::rest5,k2=>((g1 x8).bind fun r11=>(bif r11 then some (.ret (k2:Int)) else G8 N g1 rest5 (k2+1)))

def Q7 (N:Nat) (a0:(List Tl)) (g1:Tl→Option Bool):Option Int :=
  ((G8 N g1 a0 0).bind fun o=>match o with|.ret r=>some r|.next ()=>some (-1:Int))

def aR2 (N:Nat) (a0:Tl) (b0:St):Option Bool :=
  some (aC6 (eSt a0.site) (eSt b0))

def aR6 (N:Nat) (a0:Ln) (b0:Int):Option Bool :=
  some (decide (a0.cls=b0))

def bB5 (c:Int) (l:List Ln):List Ln:=let q:=ixd (fun x=>decide (x.cls=c)) ⟨c,0⟩ l; q.1.modify q.2 fun x=>⟨x.cls,wr (x.found+1)⟩
def cQ4 (s:St) (c:Int) (l:List Tl):List Tl:=let q:=ixd (fun t=>decide (t.site=s)) ⟨s,[]⟩ l; q.1.modify q.2 fun t=>⟨t.site,bB5 c t.classes⟩
def bT3 (N:Nat) (a0:List Tl) (a1:St) (a2:Int):Option (List Tl) :=
  bif (Nat.ble ((a0.length+1)*56) 140737488355328 && a0.all fun t=>Nat.ble ((t.classes.length+1)*16) 140737488355328) then some (cQ4 a1 a2 a0) else none

def a05 (N:Nat) (a0:St) (a1:Int) (a2:ByteArray) (b0:I5) (b1:Wd):Option (Int×Int×I5) :=
  ((bM3 N b0.cells b1 a0 a1 a2).bind fun r1=>((bT3 N b0.tallies a0 a1).bind fun r3=>(((bif r1.2.2.2 then some (((wr (b0.hits+(1:Int))),b0.not)) else some ((b0.hits,(wr (b0.not+(1:Int)))))):Option (Int×Int)).bind fun (v5,v6)=>some (r1.2.1,r1.2.2.1,(⟨b0.world,b0.ran,r1.1,r3,v5,v6⟩:I5)))))

def bN8 (N:Nat) (a0:Wd) (a1:M6) (a2:Int) (a3:(List Ce)) (a4:(List Tl)):Option I5 :=
  ((aZ2 N a3).bind fun r1=>((bI4 N a4).bind fun r3=>((bO1 N a0 a1 a2 (fun x0_ x1_ x2_ s_=>a05 N x0_ x1_ x2_ s_ a0) (⟨(⟨([]:List Cl),([]:List Ob),(0:Int)⟩:Wd),(⟨(⟨(0:Int),(0:Int)⟩:V),(0:Int),(0:Int)⟩:aJ6),r1,r3,(0:Int),(0:Int)⟩:I5) (fun x0_ x1_=>aO6 N x0_ x1_)).bind fun r5=>some (⟨r5.1,r5.2.1,r5.2.2.cells,r5.2.2.tallies,r5.2.2.hits,r5.2.2.not⟩:I5))))

def aP1 (N:Nat):List Ln→Nat→Int→Int→Option ((Int×Int))
  |[],k23,v24,v25=>some ((v24,v25))
  |x35::rest32,k23,v24,v25=>(((((bif decide (v25 < x35.found) then some (true) else (bif decide (x35.found=v25) then (bif decide ((0:Int) < v25) then some (decide (x35.cls < v24)) else some (false)) else some (false))):Option Bool).bind fun v42=>(((bif v42 then some ((x35.cls,x35.found)) else some ((v24,v25))):Option (Int×Int)).bind fun (v48,v49)=>some ((v48,v49)))):Option (Int×Int)).bind fun (v38,v39)=>aP1 N rest32 (k23+1) v38 v39)

def aQ4 (N:Nat) (a1:St):List Tl→Nat→Int→Int→Option ((Int×Int))
  |[],k2,v3,v4=>some ((v3,v4))
  |x14::rest11,k2,v3,v4=>(((bif (!(aC6 (eSt x14.site) (eSt a1))) then some ((v3,v4)) else ((aP1 N x14.classes 0 v3 v4).bind fun (v28,v29)=>some ((v28,v29)))):Option (Int×Int)).bind fun (v17,v18)=>aQ4 N a1 rest11 (k2+1) v17 v18)

def bM9 (N:Nat) (a0:(List Tl)) (a1:St):Option (Int×Int) :=
  ((aQ4 N a1 a0 0 (-1:Int) (0:Int)).bind fun (v7,v8)=>some (v7,v8))

def aV4 (N:Nat):List Ln→Nat→Int→Option (Int)
  |[],k19,v20=>some (v20)
  |x28::rest25,k19,v20=>aV4 N rest25 (k19+1) (wr (v20+x28.found))

def aU5 (N:Nat) (a1:St):List Tl→Nat→Int→Option (Int)
  |[],k2,v3=>some (v3)
  |x11::rest8,k2,v3=>(((bif (!(aC6 (eSt x11.site) (eSt a1))) then some (v3) else ((aV4 N x11.classes 0 v3).bind fun v22=>some (v22))):Option Int).bind fun v14=>aU5 N a1 rest8 (k2+1) v14)

def bT0 (N:Nat) (a0:(List Tl)) (a1:St):Option Int :=
  ((aU5 N a1 a0 0 (0:Int)).bind fun v5=>some v5)

def N8 (N:Nat) (g1:(Ins→Option Bool)):List Ins→Nat→Option (F9 Int Unit)
  |[],k2=>some (.next ())
  |x8::rest5,k2=>((g1 x8).bind fun r11=>(bif r11 then some (.ret (k2:Int)) else N8 N g1 rest5 (k2+1)))

def Z9 (N:Nat) (a0:(List Ins)) (g1:Ins→Option Bool):Option Int :=
  ((N8 N g1 a0 0).bind fun o=>match o with|.ret r=>some r|.next ()=>some (-1:Int))

def Y4 (N:Nat) (a0:(List Ins)) (g1:Ins→Option Bool):Option Bool :=
  ((Z9 N a0 g1).bind fun r1=>some (decide ((0:Int)≤r1)))

def aX9 (N:Nat) (a0:Ins):Option Bool :=
  (((bif decide (a0.op=(14:Int)) then some (true) else some (decide (a0.op=(13:Int)))):Option Bool).bind fun v1=>some v1)

def a99 (N:Nat) (a0:Me):Option Bool :=
  (((bif decide (a0.prim=(0:Int)) then ((Y4 N a0.code (fun x0_=>aX9 N x0_)).bind fun r5=>some ((!r5))) else some (false)):Option Bool).bind fun v1=>some v1)

def bJ1 (N:Nat) (a0:Wd) (a1:(List Tl)) (a2:St) (a3:ByteArray) (a4:Int):Option Int :=
  ((bM9 N a1 a2).bind fun r1=>((bT0 N a1 a2).bind fun r3=>(((bif decide (r1.1 < (0:Int)) then some (true) else (bif decide (r3 < (2:Int)) then some (true) else some (decide ((wr ((2:Int)*r1.2))≤r3)))):Option Bool).bind fun v5=>(bif v5 then some (-1:Int) else ((aD1 N a0 r1.1 a3).bind fun r11=>(((bif decide (r11.2 < (0:Int)) then some (true) else ((F3 a0.classes r11.1).bind fun x17=>((F3 x17.methods r11.2).bind fun x19=>((a99 N x19).bind fun r21=>(bif (!r21) then some (true) else ((F3 a0.classes r11.1).bind fun x24=>((F3 x24.methods r11.2).bind fun x26=>some ((!decide (x26.args=a4)))))))))):Option Bool).bind fun v13=>(bif v13 then some (-1:Int) else some r1.1)))))))

def aK5 (N:Nat) (a0:Wd) (a1:(List Tl)) (a2:Int) (x14:Me):List Ins→Nat→(List Int)→Option ((List Int))
  |[],k17,v18=>some (v18)
  |x26::rest23,k17,v18=>(((bif decide (x26.op=(14:Int)) then ((bJ1 N a0 a1 (⟨a2,x14.name,(k17:Int)⟩:St) x26.name x26.a).bind fun r33=>some (r33)) else some ((-1:Int))):Option Int).bind fun v29=>(bif Nat.ble ((v18.length+[v29].length)*8) 140737488355328 then aK5 N a0 a1 a2 x14 rest23 (k17+1) (v18++[v29]) else none))

def bD5 (N:Nat) (a0:Wd) (a1:(List Tl)) (a2:Int) (a3:Int):Option (List Int) :=
  (((bif decide (a2 < (0:Int)) then some (true) else (bif decide ((a0.classes.length:Int)≤a2) then some (true) else (bif decide (a3 < (0:Int)) then some (true) else ((F3 a0.classes a2).bind fun x8=>some (decide ((x8.methods.length:Int)≤a3)))))):Option Bool).bind fun v1=>(bif v1 then some ([]:List Int) else ((F3 a0.classes a2).bind fun x12=>((F3 x12.methods a3).bind fun x14=>((aK5 N a0 a1 a2 x14 x14.code 0 ([]:List Int)).bind fun v20=>some v20)))))

def aO9 (N:Nat) (a0:G6) (a1:Int) (a2:ByteArray):Option ((Option Me)×G6) :=
  ((aD1 N a0.w a1 a2).bind fun r1=>(bif decide (r1.2 < (0:Int)) then some (none,(⟨a0.w,a0.m,a0.out,a0.temps,a0.at_,a0.fix⟩:G6)) else ((F3 a0.w.classes r1.1).bind fun x4=>((F3 x4.methods r1.2).bind fun x6=>some ((some x6),(⟨a0.w,a0.m,a0.out,a0.temps,a0.at_,a0.fix⟩:G6))))))

def bJ7 (N:Nat) (a0:Me):Option Int :=
  some (wr ((wr ((wr ((3:Int)+a0.args))+(wr ((2:Int)*a0.temps))))+(a0.code.length:Int)))

def J8 (N:Nat) (a0:G6) (a1:Int) (a2:Int) (a3:Int) (a4:Int):Option G6 :=
  (bif Nat.ble ((a0.out.length+[(⟨a1,a2,a3,a4,ByteArray.empty⟩:Ins)].length)*48) 140737488355328 then some (⟨a0.w,a0.m,(a0.out++[(⟨a1,a2,a3,a4,ByteArray.empty⟩:Ins)]),a0.temps,a0.at_,a0.fix⟩:G6) else none)

def aC5 (N:Nat) (a0:G6):Nat→Wd→Me→(List Ins)→Int→(List Int)→(List Int)→Int→Option ((Wd×Me×(List Ins)×Int×(List Int)×(List Int)))
  |0,_,_,_,_,_,_,_=>none
  |n30+1,v6,v7,v8,v9,v10,v11,v12=>(bif decide ((0:Int)≤v12) then ((J8 N (⟨v6,v7,v8,v9,v10,v11⟩:G6) (11:Int) (wr (a0.temps+v12)) (0:Int) (0:Int)).bind fun r32=>aC5 N a0 n30 r32.w r32.m r32.out r32.temps r32.at_ r32.fix (wr (v12 - (1:Int)))) else some ((v6,v7,v8,v9,v10,v11)))

def aC3 (N:Nat) (a0:G6) (a4:Me):Nat→Nat→Wd→Me→(List Ins)→Int→(List Int)→(List Int)→Option ((Wd×Me×(List Ins)×Int×(List Int)×(List Int)))
  |0,k34,v35,v36,v37,v38,v39,v40=>some ((v35,v36,v37,v38,v39,v40))
  |n57+1,k34,v35,v36,v37,v38,v39,v40=>((J8 N (⟨v35,v36,v37,v38,v39,v40⟩:G6) (6:Int) (0:Int) (0:Int) (0:Int)).bind fun r61=>((J8 N (⟨r61.w,r61.m,r61.out,r61.temps,r61.at_,r61.fix⟩:G6) (11:Int) (wr ((wr ((wr (a0.temps+(1:Int)))+a4.args))+(k34:Int))) (0:Int) (0:Int)).bind fun r63=>aC3 N a0 a4 n57 (k34+1) r63.w r63.m r63.out r63.temps r63.at_ r63.fix))

def aC0 (N:Nat) (a0:G6) (a4:Me) (v49:(List Ins)):List Ins→Nat→Wd→Me→(List Ins)→Int→(List Int)→(List Int)→Option ((Wd×Me×(List Ins)×Int×(List Int)×(List Int)))
  |[],k67,v68,v69,v70,v71,v72,v73=>some ((v68,v69,v70,v71,v72,v73))
  |x91::rest88,k67,v68,v69,v70,v71,v72,v73=>(((((((bif decide (x91.op=(1:Int)) then ((J8 N (⟨v68,v69,v70,v71,v72,v73⟩:G6) (3:Int) a0.temps (0:Int) (0:Int)).bind fun r119=>some ((r119.w,r119.m,r119.out,r119.temps,r119.at_,r119.fix))) else (((bif decide (x91.op=(2:Int)) then ((J8 N (⟨v68,v69,v70,v71,v72,v73⟩:G6) (3:Int) (wr ((wr (a0.temps+(1:Int)))+x91.a)) (0:Int) (0:Int)).bind fun r130=>some ((r130.w,r130.m,r130.out,r130.temps,r130.at_,r130.fix))) else (((bif decide (x91.op=(3:Int)) then some (decide (x91.op=(3:Int))) else some (decide (x91.op=(11:Int)))):Option Bool).bind fun v132=>(((bif v132 then ((J8 N (⟨v68,v69,v70,v71,v72,v73⟩:G6) x91.op (wr ((wr ((wr (a0.temps+(1:Int)))+a4.args))+x91.a)) (0:Int) (0:Int)).bind fun r145=>some ((r145.w,r145.m,r145.out,r145.temps,r145.at_,r145.fix))) else (((bif decide (x91.op=(4:Int)) then ((J8 N (⟨v68,v69,v70,v71,v72,v73⟩:G6) (19:Int) a0.temps x91.a (0:Int)).bind fun r156=>some ((r156.w,r156.m,r156.out,r156.temps,r156.at_,r156.fix))) else (((bif decide (x91.op=(12:Int)) then ((J8 N (⟨v68,v69,v70,v71,v72,v73⟩:G6) (20:Int) a0.temps x91.a (0:Int)).bind fun r167=>some ((r167.w,r167.m,r167.out,r167.temps,r167.at_,r167.fix))) else (((bif decide (x91.op=(15:Int)) then some (decide (x91.op=(15:Int))) else some (decide (x91.op=(16:Int)))):Option Bool).bind fun v169=>(((bif v169 then ((J8 N (⟨v68,v69,v70,v71,v72,v73⟩:G6) x91.op (wr ((v49.length:Int)+x91.a)) (0:Int) (0:Int)).bind fun r182=>some ((r182.w,r182.m,r182.out,r182.temps,r182.at_,r182.fix))) else (((bif decide (x91.op=(17:Int)) then ((J8 N (⟨v68,v69,v70,v71,v72,v73⟩:G6) (15:Int) (wr ((v49.length:Int)+(a4.code.length:Int))) (0:Int) (0:Int)).bind fun r194=>some ((r194.w,r194.m,r194.out,r194.temps,r194.at_,r194.fix))) else ((J8 N (⟨v68,v69,v70,v71,v72,v73⟩:G6) x91.op x91.a (0:Int) (0:Int)).bind fun r196=>some ((r196.w,r196.m,r196.out,r196.temps,r196.at_,r196.fix)))):Option (Wd×Me×(List Ins)×Int×(List Int)×(List Int))).bind fun (v184,v185,v186,v187,v188,v189)=>some ((v184,v185,v186,v187,v188,v189)))):Option (Wd×Me×(List Ins)×Int×(List Int)×(List Int))).bind fun (v173,v174,v175,v176,v177,v178)=>some ((v173,v174,v175,v176,v177,v178))))):Option (Wd×Me×(List Ins)×Int×(List Int)×(List Int))).bind fun (v158,v159,v160,v161,v162,v163)=>some ((v158,v159,v160,v161,v162,v163)))):Option (Wd×Me×(List Ins)×Int×(List Int)×(List Int))).bind fun (v147,v148,v149,v150,v151,v152)=>some ((v147,v148,v149,v150,v151,v152)))):Option (Wd×Me×(List Ins)×Int×(List Int)×(List Int))).bind fun (v136,v137,v138,v139,v140,v141)=>some ((v136,v137,v138,v139,v140,v141))))):Option (Wd×Me×(List Ins)×Int×(List Int)×(List Int))).bind fun (v121,v122,v123,v124,v125,v126)=>some ((v121,v122,v123,v124,v125,v126)))):Option (Wd×Me×(List Ins)×Int×(List Int)×(List Int))).bind fun (v110,v111,v112,v113,v114,v115)=>some ((v110,v111,v112,v113,v114,v115))):Option (Wd×Me×(List Ins)×Int×(List Int)×(List Int))).bind fun (v102,v103,v104,v105,v106,v107)=>some ((v102,v103,v104,v105,v106,v107))):Option (Wd×Me×(List Ins)×Int×(List Int)×(List Int))).bind fun (v94,v95,v96,v97,v98,v99)=>aC0 N a0 a4 v49 rest88 (k67+1) v94 v95 v96 v97 v98 v99)

def aV3 (N:Nat) (a0:G6) (a1:Int) (a2:Int) (a3:Ins) (a4:Me):Option G6 :=
  ((J8 N (⟨a0.w,a0.m,a0.out,(wr (a0.temps+(wr ((wr ((1:Int)+a4.args))+a4.temps)))),a0.at_,a0.fix⟩:G6) (18:Int) a1 a3.a a2).bind fun r1=>((J8 N (⟨r1.w,r1.m,r1.out,r1.temps,r1.at_,r1.fix⟩:G6) (21:Int) (0:Int) (0:Int) (0:Int)).bind fun r3=>((aC5 N a0 N r3.w r3.m r3.out r3.temps r3.at_ r3.fix a4.args).bind fun (v20,v21,v22,v23,v24,v25)=>((aC3 N a0 a4 ((a4.temps - ((0:Nat):Int)).toNat) 0 v20 v21 v22 v23 v24 v25).bind fun (v47,v48,v49,v50,v51,v52)=>((aC0 N a0 a4 v49 a4.code 0 v47 v48 v49 v50 v51 v52).bind fun (v80,v81,v82,v83,v84,v85)=>some (⟨v80,v81,v82,v83,v84,v85⟩:G6))))))

def aH6 (N:Nat) (a3:(List Int)) (x14:Me):List Ins→Nat→Wd→Me→(List Ins)→Int→(List Int)→(List Int)→Bool→Option ((Wd×Me×(List Ins)×Int×(List Int)×(List Int)×Bool))
  |[],k17,v18,v19,v20,v21,v22,v23,v24=>some ((v18,v19,v20,v21,v22,v23,v24))
  |x44::rest41,k17,v18,v19,v20,v21,v22,v23,v24=>(((bif Nat.ble ((v22.length+[(v20.length:Int)].length)*8) 140737488355328 then (((bif decide (x44.op=(14:Int)) then (bif decide ((k17:Int) < (a3.length:Int)) then ((F3 a3 (k17:Int)).bind fun x64=>some (decide ((0:Int)≤x64))) else some (false)) else some (false)):Option Bool).bind fun v58=>(bif v58 then ((F3 a3 (k17:Int)).bind fun x67=>((aO9 N (⟨v18,v19,v20,v21,(v22++[(v20.length:Int)]),v23⟩:G6) x67 x44.name).bind fun r69=>match r69 with|(none,w71)=>(((bif decide (x44.op=(15:Int)) then some (true) else some (decide (x44.op=(16:Int)))):Option Bool).bind fun v73=>(((bif v73 then (bif Nat.ble ((w71.fix.length+[(w71.out.length:Int)].length)*8) 140737488355328 then some ((w71.fix++[(w71.out.length:Int)])) else none) else some (w71.fix)):Option (List Int)).bind fun v77=>(((bif decide (x44.op=(14:Int)) then some ((⟨x44.op,x44.a,x44.b,(k17:Int),x44.name⟩:Ins)) else some (x44)):Option Ins).bind fun v83=>(bif Nat.ble ((w71.out.length+[v83].length)*48) 140737488355328 then some ((w71.w,w71.m,(w71.out++[v83]),w71.temps,w71.at_,v77,v24)) else none))))|(some x72,w71)=>((((a99 N x72).bind fun r91=>(bif r91 then (bif decide (x72.args=x44.a) then ((bJ7 N x72).bind fun r96=>(bif decide ((wr ((wr ((wr ((w71.out.length:Int)+r96))+(x14.code.length:Int))) - (k17:Int)))≤(240:Int)) then some (decide ((wr ((wr ((wr (w71.temps+(1:Int)))+x72.args))+x72.temps))≤(40:Int))) else some (false))) else some (false)) else some (false))):Option Bool).bind fun v88=>(bif v88 then ((F3 a3 (k17:Int)).bind fun x101=>((aV3 N (⟨w71.w,w71.m,w71.out,w71.temps,w71.at_,w71.fix⟩:G6) x101 (k17:Int) x44 x72).bind fun r103=>some ((r103.w,r103.m,r103.out,r103.temps,r103.at_,r103.fix,true)))) else (((bif decide (x44.op=(15:Int)) then some (true) else some (decide (x44.op=(16:Int)))):Option Bool).bind fun v105=>(((bif v105 then (bif Nat.ble ((w71.fix.length+[(w71.out.length:Int)].length)*8) 140737488355328 then some ((w71.fix++[(w71.out.length:Int)])) else none) else some (w71.fix)):Option (List Int)).bind fun v109=>(((bif decide (x44.op=(14:Int)) then some ((⟨x44.op,x44.a,x44.b,(k17:Int),x44.name⟩:Ins)) else some (x44)):Option Ins).bind fun v115=>(bif Nat.ble ((w71.out.length+[v115].length)*48) 140737488355328 then some ((w71.w,w71.m,(w71.out++[v115]),w71.temps,w71.at_,v109,v24)) else none)))))))) else (((bif decide (x44.op=(15:Int)) then some (true) else some (decide (x44.op=(16:Int)))):Option Bool).bind fun v120=>(((bif v120 then (bif Nat.ble ((v23.length+[(v20.length:Int)].length)*8) 140737488355328 then some ((v23++[(v20.length:Int)])) else none) else some (v23)):Option (List Int)).bind fun v124=>(((bif decide (x44.op=(14:Int)) then some ((⟨x44.op,x44.a,x44.b,(k17:Int),x44.name⟩:Ins)) else some (x44)):Option Ins).bind fun v130=>(bif Nat.ble ((v20.length+[v130].length)*48) 140737488355328 then some ((v18,v19,(v20++[v130]),v21,(v22++[(v20.length:Int)]),v124,v24)) else none)))))) else none):Option (Wd×Me×(List Ins)×Int×(List Int)×(List Int)×Bool)).bind fun (v47,v48,v49,v50,v51,v52,v53)=>aH6 N a3 x14 rest41 (k17+1) v47 v48 v49 v50 v51 v52 v53)

def aI1 (N:Nat) (v36:(List Int)) (v37:(List Int)):List Int→Nat→(List Ins)→Option ((List Ins))
  |[],k137,v138=>some (v138)
  |x146::rest143,k137,v138=>((F3 v37 (k137:Int)).bind fun x149=>((F3 v138 x149).bind fun x151=>((F3 v36 x151.a).bind fun x153=>((F3 v138 x149).bind fun x155=>aI1 N v36 v37 rest143 (k137+1) (v138.set x149.toNat (⟨x155.op,x153,x155.b,x155.c,x155.name⟩:Ins))))))

def bB0 (N:Nat) (a0:Wd) (a1:Int) (a2:Int) (a3:(List Int)):Option (Fs×Bool) :=
  (((bif decide (a1 < (0:Int)) then some (true) else (bif decide ((a0.classes.length:Int)≤a1) then some (true) else (bif decide (a2 < (0:Int)) then some (true) else ((F3 a0.classes a1).bind fun x8=>some (decide ((x8.methods.length:Int)≤a2)))))):Option Bool).bind fun v1=>(bif v1 then some ((⟨(0:Int),ByteArray.empty,(0:Int),(0:Int),[]⟩:Fs),false) else ((F3 a0.classes a1).bind fun x12=>((F3 x12.methods a2).bind fun x14=>((aH6 N a3 x14 x14.code 0 a0 x14 ([]:List Ins) x14.temps ([]:List Int) ([]:List Int) false).bind fun (v32,v33,v34,v35,v36,v37,v38)=>(bif (!v38) then some ((⟨(0:Int),ByteArray.empty,(0:Int),(0:Int),[]⟩:Fs),false) else ((aI1 N v36 v37 v37 0 v34).bind fun v140=>some ((⟨a1,x14.name,a0.epoch,v35,v140⟩:Fs),true))))))))

def aX6 (N:Nat) (a0:Wd) (a1:(List Tl)) (k2:Nat):List Me→Nat→(List Fs)→Option ((List Fs))
  |[],k15,v16=>some (v16)
  |x24::rest21,k15,v16=>((((bD5 N a0 a1 (k2:Int) (k15:Int)).bind fun r30=>((bB0 N a0 (k2:Int) (k15:Int) r30).bind fun r32=>(((bif r32.2 then (bif Nat.ble ((v16.length+[r32.1].length)*64) 140737488355328 then some ((v16++[r32.1])) else none) else some (v16)):Option (List Fs)).bind fun v34=>some (v34)))):Option (List Fs)).bind fun v27=>aX6 N a0 a1 k2 rest21 (k15+1) v27)

def aX1 (N:Nat) (a0:Wd) (a1:(List Tl)):List Cl→Nat→(List Fs)→Option ((List Fs))
  |[],k2,v3=>some (v3)
  |x11::rest8,k2,v3=>((aX6 N a0 a1 k2 x11.methods 0 v3).bind fun v18=>aX1 N a0 a1 rest8 (k2+1) v18)

def bW4 (N:Nat) (a0:Wd) (a1:(List Tl)):Option (List Fs) :=
  ((aX1 N a0 a1 a0.classes 0 ([]:List Fs)).bind fun v5=>some v5)

def bC2 (N:Nat) (a0:St) (a1:Int) (a2:ByteArray) (b0:Wd):Option (Int×Int) :=
  ((aD1 N b0 a1 a2).bind fun r1=>some (r1.1,r1.2))

def aP5 (N:Nat) (a0:Int) (a1:Int) (b1:Wd):List Fs→Nat→Option (F9 (Fs×Bool) Unit)
  |[],k2=>some (.next ())
  |x8::rest5,k2=>(((bif decide (x8.cls=a0) then ((F3 b1.classes a0).bind fun x15=>((F3 x15.methods a1).bind fun x17=>(bif decide (x8.name=x17.name) then some (decide (x8.epoch=b1.epoch)) else some (false)))) else some (false)):Option Bool).bind fun v11=>(bif v11 then some (.ret (x8,true)) else aP5 N a0 a1 b1 rest5 (k2+1)))

def bC0 (N:Nat) (a0:Int) (a1:Int) (b0:(List Fs)) (b1:Wd):Option (Fs×Bool) :=
  ((aP5 N a0 a1 b1 b0 0).bind fun o=>match o with|.ret r=>some r|.next ()=>some ((⟨(0:Int),ByteArray.empty,(0:Int),(0:Int),[]⟩:Fs),false))

def bX0 (N:Nat) (a0:Wd) (a1:M6) (a2:Int) (a3:(List Fs)):Option (Wd×aJ6) :=
  ((aF7 N a0 a1 a2 (fun x0_ x1_ x2_=>bC2 N x0_ x1_ x2_ a0) (fun x0_ x1_=>bC0 N x0_ x1_ a3 a0)).bind fun r1=>some (r1.1,r1.2))

def Y5 (N:Nat) (a0:y8) (a1:Int) (a2:M6):Option (N7×y8) :=
  (((((bif decide (a1=(4:Int)) then ((aK9 N a0.world a2 (400:Int)).bind fun r18=>some ((r18.1.classes,r18.1.heap,r18.1.epoch,a0.cells,a0.tallies,r18.2))) else (((bif decide (a1=(5:Int)) then ((bN8 N a0.world a2 (400:Int) a0.cells a0.tallies).bind fun r29=>some ((r29.world.classes,r29.world.heap,r29.world.epoch,r29.cells,r29.tallies,r29.ran))) else ((bW4 N a0.world a0.tallies).bind fun r31=>((bX0 N a0.world a2 (400:Int) r31).bind fun r33=>some ((r33.1.classes,r33.1.heap,r33.1.epoch,a0.cells,a0.tallies,r33.2))))):Option ((List Cl)×(List Ob)×Int×(List Ce)×(List Tl)×aJ6)).bind fun (v20,v21,v22,v23,v24,v25)=>some ((v20,v21,v22,v23,v24,v25)))):Option ((List Cl)×(List Ob)×Int×(List Ce)×(List Tl)×aJ6)).bind fun (v9,v10,v11,v12,v13,v14)=>some ((v9,v10,v11,v12,v13,v14))):Option ((List Cl)×(List Ob)×Int×(List Ce)×(List Tl)×aJ6)).bind fun (v1,v2,v3,v4,v5,v6)=>some ((⟨v6.err,v6.sends,v6.value⟩:N7),(⟨(⟨v1,v2,v3⟩:Wd),v4,v5,a0.saved⟩:y8)))

def aF1 (N:Nat) (a0:(List Int)) (a1:ByteArray):Option (Int×Bool×(List Int)) :=
  (bif Nat.ble (a0.length+a1.size) 140737488355328 then some ((a1.size:Int),true,(a0++aI0 a1)) else none)

def aG4 (N:Nat) (a0:(List Int)) (a1:Int):Option (Bool×(List Int)) :=
  (bif Nat.ble ((a0.length+[a1].length)*1) 140737488355328 then some (true,(a0++[a1])) else none)

def aE5 (N:Nat) (a0:(List Int)) (a1:ByteArray):Option (List Int) :=
  ((aF1 N a0 a1).bind fun r1=>((aG4 N r1.2.2 (32:Int)).bind fun r3=>some r3.2))

def aE2 (N:Nat):List Int→Nat→(List Int)→Option ((List Int))
  |[],k2,v3=>some (v3)
  |x11::rest8,k2,v3=>((strconv_Itoa N x11).bind fun r14=>((aE5 N v3 r14).bind fun r16=>aE2 N rest8 (k2+1) r16))

def Y0 (N:Nat) (a0:(List Int)) (a1:(List Int)):Option (List Int) :=
  ((aE2 N a1 0 a0).bind fun v5=>some v5)

def aC1 (N:Nat):List Ins→Nat→(List Int)→Option ((List Int))
  |[],k7,v8=>some (v8)
  |x16::rest13,k7,v8=>((((Y0 N v8 [x16.op,x16.a]).bind fun r22=>(((bif decide (x16.op=(14:Int)) then ((aE5 N r22 x16.name).bind fun r28=>some (r28)) else some (r22)):Option (List Int)).bind fun v24=>some (v24))):Option (List Int)).bind fun v19=>aC1 N rest13 (k7+1) v19)

def aT8 (N:Nat) (a0:(List Int)) (a1:Me):Option (List Int) :=
  ((aE5 N a0 a1.name).bind fun r1=>((Y0 N r1 [a1.args,a1.temps,a1.prim,(a1.code.length:Int)]).bind fun r4=>((aC1 N a1.code 0 r4).bind fun v10=>some v10)))

def aQ1 (N:Nat):List Me→Nat→(List Int)→Option ((List Int))
  |[],k23,v24=>some (v24)
  |x32::rest29,k23,v24=>((aT8 N v24 x32).bind fun r35=>aQ1 N rest29 (k23+1) r35)

def aQ7 (N:Nat):List Cl→Nat→(List Int)→Option ((List Int))
  |[],k5,v6=>some (v6)
  |x14::rest11,k5,v6=>((aE5 N v6 x14.name).bind fun r17=>((Y0 N r17 [x14.super,x14.slots,(x14.methods.length:Int)]).bind fun r20=>((aQ1 N x14.methods 0 r20).bind fun v26=>aQ7 N rest11 (k5+1) v26)))

def aP4 (N:Nat):List V→Nat→(List Int)→Option ((List Int))
  |[],k57,v58=>some (v58)
  |x66::rest63,k57,v58=>((Y0 N v58 [x66.k,x66.n]).bind fun r69=>aP4 N rest63 (k57+1) r69)

def aQ0 (N:Nat):List Ob→Nat→(List Int)→Option ((List Int))
  |[],k41,v42=>some (v42)
  |x50::rest47,k41,v42=>((Y0 N v42 [x50.cls,(x50.slots.length:Int)]).bind fun r54=>((aP4 N x50.slots 0 r54).bind fun v60=>aQ0 N rest47 (k41+1) v60))

def bN1 (N:Nat) (a0:Wd):Option (List Int) :=
  ((Y0 N ([]:List Int) [a0.epoch,(a0.classes.length:Int)]).bind fun r2=>((aQ7 N a0.classes 0 r2).bind fun v8=>((Y0 N v8 [(a0.heap.length:Int)]).bind fun r38=>((aQ0 N a0.heap 0 r38).bind fun v44=>(bif !(v44.isEmpty) then some (aI0 (strOfNums v44)) else none)))))

def aE6 (N:Nat) (a0:I1):Option (ByteArray×I1) :=
  ((strings_Cut N a0.s (⟨#[32]⟩:ByteArray)).bind fun r1=>(((bif (!r1.2.2) then some (true) else some (decide (r1.1=(⟨#[]⟩:ByteArray)))):Option Bool).bind fun v3=>(bif v3 then some ((⟨#[]⟩:ByteArray),(⟨a0.s,false⟩:I1)) else some (r1.1,(⟨r1.2.1,a0.ok_⟩:I1)))))

def O1 (N:Nat) (a0:I1):Option (Int×I1) :=
  ((aE6 N a0).bind fun r1=>((strconv_Atoi N r1.1).bind fun r3=>(((bif (!r3.2) then some (true) else ((strconv_Itoa N r3.1).bind fun r9=>some ((!decide (r9=r1.1))))):Option Bool).bind fun v5=>(((bif v5 then some ((⟨r1.2.s,false⟩:I1)) else some (r1.2)):Option I1).bind fun v11=>some (r3.1,v11)))))

def aA8 (N:Nat) (a0:I1) (a1:Int):Option (Int×I1) :=
  ((O1 N a0).bind fun r1=>(((bif decide (r1.1 < (0:Int)) then some (true) else some (decide (a1 < r1.1))):Option Bool).bind fun v3=>(bif v3 then some ((0:Int),(⟨r1.2.s,false⟩:I1)) else some (r1.1,r1.2))))

def aB8 (N:Nat):Nat→Nat→I1→(List Ins)→Option ((I1×(List Ins)))
  |0,k11,v12,v13=>some ((v12,v13))
  |n22+1,k11,v12,v13=>((O1 N v12).bind fun r26=>((O1 N r26.2).bind fun r28=>(((bif decide (r26.1=(14:Int)) then ((aE6 N r28.2).bind fun r35=>some ((r35.2,r35.1))) else some ((r28.2,ByteArray.empty))):Option (I1×ByteArray)).bind fun (v30,v31)=>(bif Nat.ble ((v13.length+[(⟨r26.1,r28.1,(0:Int),(0:Int),v31⟩:Ins)].length)*48) 140737488355328 then aB8 N n22 (k11+1) v30 (v13++[(⟨r26.1,r28.1,(0:Int),(0:Int),v31⟩:Ins)]) else none))))

def aS8 (N:Nat) (a0:I1):Option (Me×I1) :=
  ((aE6 N a0).bind fun r1=>((O1 N r1.2).bind fun r3=>((O1 N r3.2).bind fun r5=>((O1 N r5.2).bind fun r7=>((aA8 N r7.2 (60:Int)).bind fun r9=>((aB8 N ((r9.1 - ((0:Nat):Int)).toNat) 0 r9.2 ([]:List Ins)).bind fun (v16,v17)=>some ((⟨r1.1,r3.1,r5.1,r7.1,v17⟩:Me),v16)))))))

def aD4 (N:Nat):Nat→Nat→I1→(List Me)→Option ((I1×(List Me)))
  |0,k28,v29,v30=>some ((v29,v30))
  |n39+1,k28,v29,v30=>((aS8 N v29).bind fun r43=>(bif Nat.ble ((v30.length+[r43.1].length)*64) 140737488355328 then aD4 N n39 (k28+1) r43.2 (v30++[r43.1]) else none))

def aD3 (N:Nat):Nat→Nat→I1→(List Cl)→Option ((I1×(List Cl)))
  |0,k5,v6,v7=>some ((v6,v7))
  |n16+1,k5,v6,v7=>((aE6 N v6).bind fun r20=>((O1 N r20.2).bind fun r22=>((O1 N r22.2).bind fun r24=>((aA8 N r24.2 (8:Int)).bind fun r26=>((aD4 N ((r26.1 - ((0:Nat):Int)).toNat) 0 r26.2 ([]:List Me)).bind fun (v33,v34)=>(bif Nat.ble ((v7.length+[(⟨r20.1,r22.1,r24.1,v34⟩:Cl)].length)*56) 140737488355328 then aD3 N n16 (k5+1) v33 (v7++[(⟨r20.1,r22.1,r24.1,v34⟩:Cl)]) else none))))))

def aD0 (N:Nat):Nat→Nat→I1→(List V)→Option ((I1×(List V)))
  |0,k68,v69,v70=>some ((v69,v70))
  |n79+1,k68,v69,v70=>((O1 N v69).bind fun r83=>((O1 N r83.2).bind fun r85=>(bif Nat.ble ((v70.length+[(⟨r83.1,r85.1⟩:V)].length)*16) 140737488355328 then aD0 N n79 (k68+1) r85.2 (v70++[(⟨r83.1,r85.1⟩:V)]) else none)))

def aC7 (N:Nat):Nat→Nat→I1→(List Ob)→Option ((I1×(List Ob)))
  |0,k49,v50,v51=>some ((v50,v51))
  |n60+1,k49,v50,v51=>((O1 N v50).bind fun r64=>((aA8 N r64.2 (6:Int)).bind fun r66=>((aD0 N ((r66.1 - ((0:Nat):Int)).toNat) 0 r66.2 ([]:List V)).bind fun (v73,v74)=>(bif Nat.ble ((v51.length+[(⟨r64.1,v74⟩:Ob)].length)*32) 140737488355328 then aC7 N n60 (k49+1) v73 (v51++[(⟨r64.1,v74⟩:Ob)]) else none))))

def aW8 (N:Nat) (a0:I1):Option (Wd×I1) :=
  ((O1 N a0).bind fun r1=>((aA8 N r1.2 (12:Int)).bind fun r3=>((aD3 N ((r3.1 - ((0:Nat):Int)).toNat) 0 r3.2 ([]:List Cl)).bind fun (v10,v11)=>((aA8 N v10 (60:Int)).bind fun r47=>((aC7 N ((r47.1 - ((0:Nat):Int)).toNat) 0 r47.2 ([]:List Ob)).bind fun (v54,v55)=>some ((⟨v11,v55,r1.1⟩:Wd),v54))))))

def bQ5 (N:Nat) (a0:Wd) (a1:Me):Option Bool :=
  ((aD1 N a0 (3:Int) a1.name).bind fun r1=>(((bif decide ((0:Int)≤r1.2) then ((F3 a0.classes (3:Int)).bind fun x7=>((F3 x7.methods r1.2).bind fun x9=>(bif decide (a1.prim=x9.prim) then (bif decide (a1.args=(1:Int)) then (bif decide (a1.temps=(0:Int)) then some (decide ((a1.code.length:Int)=(0:Int))) else some (false)) else some (false)) else some (false)))) else some (false)):Option Bool).bind fun v3=>some v3))

def aU8 (N:Nat) (a0:Wd):List V→Nat→Option (F9 Int Unit)
  |[],k26=>some (.next ())
  |x32::rest29,k26=>((aL5 N x32 (a0.heap.length:Int)).bind fun r36=>(bif (!decide (r36=(0:Int))) then some (.ret r36) else aU8 N a0 rest29 (k26+1)))

def aV2 (N:Nat) (a0:Wd):List Ob→Nat→Option (F9 Int Unit)
  |[],k2=>some (.next ())
  |x8::rest5,k2=>(((bif (!decide (x8.cls=(0:Int))) then (bif decide (x8.cls < (4:Int)) then some (true) else (bif decide ((a0.classes.length:Int)≤x8.cls) then some (true) else ((aE7 N a0 x8.cls).bind fun r19=>some ((!decide ((x8.slots.length:Int)=r19)))))) else ((aE7 N a0 x8.cls).bind fun r22=>some ((!decide ((x8.slots.length:Int)=r22))))):Option Bool).bind fun v11=>(bif v11 then some (.ret (8:Int)) else ((aU8 N a0 x8.slots 0).bind fun o=>match o with|.ret r=>some (.ret r)|.next ()=>aV2 N a0 rest5 (k2+1))))

def bT2 (N:Nat) (a0:Wd):Option Int :=
  ((aV2 N a0 a0.heap 0).bind fun o=>match o with|.ret r=>some r|.next ()=>some (0:Int))

def aP3 (N:Nat) (r1:Wd):List Cl→Nat→(List (ByteArray×Bool))→Option (F9 Int Unit)
  |[],k19,v20=>some (.next ())
  |x27::rest24,k19,v20=>((((aG6 N x27.name).bind fun r33=>(bif (!r33) then some (true) else (bif (b57 x27.name v20) then some (true) else (bif decide ((k19:Int) < (r1.classes.length:Int)) then ((F3 r1.classes (k19:Int)).bind fun x39=>some ((!decide (x27.name=x39.name)))) else some (false))))):Option Bool).bind fun v30=>(bif v30 then some (.ret (7:Int)) else (bif Nat.ble (v20.length+1) 140737488355328 then (((bif decide ((k19:Int) < (r1.classes.length:Int)) then ((F3 r1.classes (k19:Int)).bind fun x48=>(bif (!decide (x27.super=x48.super)) then some (true) else (bif (!decide (x27.slots=(0:Int))) then some (true) else (bif decide ((r1.classes.length:Int)≤(k19:Int)) then (bif decide (x27.super < (0:Int)) then some (true) else (bif decide ((k19:Int)≤x27.super) then some (true) else (bif (!decide (x27.super=(0:Int))) then (bif decide (x27.super < (4:Int)) then some (true) else (bif decide (x27.slots < (0:Int)) then some (true) else some (decide ((6:Int) < x27.slots)))) else (bif decide (x27.slots < (0:Int)) then some (true) else some (decide ((6:Int) < x27.slots)))))) else (bif decide (x27.slots < (0:Int)) then some (true) else some (decide ((6:Int) < x27.slots))))))) else (bif decide ((r1.classes.length:Int)≤(k19:Int)) then (bif decide (x27.super < (0:Int)) then some (true) else (bif decide ((k19:Int)≤x27.super) then some (true) else (bif (!decide (x27.super=(0:Int))) then (bif decide (x27.super < (4:Int)) then some (true) else (bif decide (x27.slots < (0:Int)) then some (true) else some (decide ((6:Int) < x27.slots)))) else (bif decide (x27.slots < (0:Int)) then some (true) else some (decide ((6:Int) < x27.slots)))))) else (bif decide (x27.slots < (0:Int)) then some (true) else some (decide ((6:Int) < x27.slots))))):Option Bool).bind fun v43=>(bif v43 then some (.ret (3:Int)) else aP3 N r1 rest24 (k19+1) (bE4 x27.name true v20))) else none)))

def aQ3 (N:Nat) (a0:Wd) (r1:Wd) (k72:Nat) (x78:Cl):List Me→Nat→Option (F9 Int Unit)
  |[],k87=>some (.next ())
  |x93::rest90,k87=>(((((bif decide ((0:Int) < (k87:Int)) then ((F3 x78.methods (wr ((k87:Int) - (1:Int)))).bind fun x102=>some ((!ltS x102.name x93.name))) else some (false)):Option Bool).bind fun v98=>(bif v98 then some (.ret (7:Int)) else (((bif (!decide (x93.prim=(0:Int))) then (bif decide ((k72:Int)=(3:Int)) then ((bQ5 N r1 x93).bind fun r110=>some (r110)) else some (false)) else some (false)):Option Bool).bind fun v105=>(bif v105 then some (.next ()) else ((aK2 N a0 (k72:Int) x93).bind fun r113=>(bif (!decide (r113.err=(0:Int))) then some (.ret r113.err) else some (.next ()))))))):Option (F9 Int Unit)).bind fun o=>match o with|.ret r=>some (.ret r)|.next ()=>aQ3 N a0 r1 k72 x78 rest90 (k87+1))

def aQ5 (N:Nat) (a0:Wd) (r1:Wd):List Cl→Nat→Option (F9 Int Unit)
  |[],k72=>some (.next ())
  |x78::rest75,k72=>((aE7 N a0 (k72:Int)).bind fun r81=>(bif decide ((6:Int) < r81) then some (.ret (3:Int)) else (bif decide ((8:Int) < (x78.methods.length:Int)) then some (.ret (5:Int)) else ((aQ3 N a0 r1 k72 x78 x78.methods 0).bind fun o=>match o with|.ret r=>some (.ret r)|.next ()=>aQ5 N a0 r1 rest75 (k72+1)))))

def bO3 (N:Nat) (a0:Wd):Option Int :=
  ((bR6 N).bind fun r1=>(((bif decide ((a0.classes.length:Int) < (r1.classes.length:Int)) then some (true) else (bif decide ((12:Int) < (a0.classes.length:Int)) then some (true) else some (decide ((60:Int) < (a0.heap.length:Int))))):Option Bool).bind fun v3=>(bif v3 then some (5:Int) else (((bif decide (a0.epoch < (0:Int)) then some (true) else some (decide ((1073741824:Int) < a0.epoch))):Option Bool).bind fun v13=>(bif v13 then some (3:Int) else ((aP3 N r1 a0.classes 0 ([]:(List (ByteArray×Bool)))).bind fun o=>match o with|.ret r=>some r|.next ()=>((aQ5 N a0 r1 a0.classes 0).bind fun o=>match o with|.ret r=>some r|.next ()=>((bT2 N a0).bind fun r116=>some r116))))))))

def bN9 (N:Nat) (a0:(List Int)):Option (Wd×Int) :=
  ((aW8 N (⟨(strOfNums a0),true⟩:I1)).bind fun r1=>(((bif (!r1.2.ok_) then some (true) else some ((!decide (r1.2.s=(⟨#[]⟩:ByteArray))))):Option Bool).bind fun v3=>(bif v3 then some ((⟨[],[],(0:Int)⟩:Wd),(2:Int)) else ((bO3 N r1.1).bind fun r8=>(bif (!decide (r8=(0:Int))) then some ((⟨[],[],(0:Int)⟩:Wd),r8) else some (r1.1,(0:Int)))))))

def bD2 (N:Nat) (a0:y8):Option (N7×y8) :=
  (bif decide ((a0.saved.length:Int)=(0:Int)) then some ((⟨(6:Int),(0:Int),(⟨(0:Int),(0:Int)⟩:V)⟩:N7),a0) else ((bN9 N a0.saved).bind fun r3=>(bif (!decide (r3.2=(0:Int))) then some ((⟨r3.2,(0:Int),(⟨(0:Int),(0:Int)⟩:V)⟩:N7),a0) else some ((⟨(0:Int),(0:Int),(⟨(0:Int),(0:Int)⟩:V)⟩:N7),(⟨(⟨r3.1.classes,r3.1.heap,(wr ((max r3.1.epoch a0.world.epoch)+(1:Int)))⟩:Wd),a0.cells,a0.tallies,a0.saved⟩:y8)))))

def F5 (N:Nat) (a0:y8) (a1:J7):Option (y8×N7) :=
  ((aH2 N a0).bind fun r1=>(bif decide (a1.kind=(1:Int)) then ((bO8 N a0.world a1.name a1.class_ a1.slots).bind fun r4=>(bif (!decide (r4.2.2=(0:Int))) then some (r1,(⟨r4.2.2,(0:Int),(⟨(0:Int),(0:Int)⟩:V)⟩:N7)) else some ((⟨r4.1,r1.cells,r1.tallies,r1.saved⟩:y8),(⟨(0:Int),r4.2.1,(⟨(0:Int),(0:Int)⟩:V)⟩:N7)))) else (bif decide (a1.kind=(2:Int)) then ((aA2 N r1 a1.class_ a1.method).bind fun r8=>some (r8.2,r8.1)) else (bif decide (a1.kind=(3:Int)) then ((bD4 N r1 a1.class_).bind fun r11=>some (r11.2,r11.1)) else (((bif decide (a1.kind=(4:Int)) then some (decide (a1.kind=(4:Int))) else (((bif decide (a1.kind=(5:Int)) then some (decide (a1.kind=(5:Int))) else some (decide (a1.kind=(6:Int)))):Option Bool).bind fun v17=>some (v17))):Option Bool).bind fun v13=>(bif v13 then ((Y5 N r1 a1.kind a1.call).bind fun r22=>some (r22.2,r22.1)) else (bif decide (a1.kind=(7:Int)) then ((bN1 N a0.world).bind fun r25=>some ((⟨r1.world,r1.cells,r1.tallies,r25⟩:y8),(⟨(0:Int),(r25.length:Int),(⟨(0:Int),(0:Int)⟩:V)⟩:N7))) else (bif decide (a1.kind=(8:Int)) then ((bD2 N r1).bind fun r29=>some (r29.2,r29.1)) else some (r1,(⟨(1:Int),(0:Int),(⟨(0:Int),(0:Int)⟩:V)⟩:N7))))))))))

def D7 (N:Nat):List J7→Nat→y8→(List N7)→Option ((y8×(List N7)))
  |[],k6,v7,v8=>some ((v7,v8))
  |x18::rest15,k6,v7,v8=>((F5 N v7 x18).bind fun r21=>(bif Nat.ble ((v8.length+[r21.2].length)*32) 140737488355328 then D7 N rest15 (k6+1) r21.1 (v8++[r21.2]) else none))

def P5 (N:Nat) (a0:(List J7)):Option (y8×(List N7)×Int) :=
  (bif decide ((60:Int) < (a0.length:Int)) then some ((⟨(⟨[],[],(0:Int)⟩:Wd),[],[],[]⟩:y8),([]:List N7),(5:Int)) else ((aX5 N).bind fun r3=>((D7 N a0 0 r3 ([]:List N7)).bind fun (v11,v12)=>some (v11,v12,(0:Int)))))

def aH1 (N:Nat):Option Bool :=
  ((M3 N (1:Int)).bind fun r1=>((M3 N (1:Int)).bind fun r3=>((O5 N (4:Int) r1 (⟨#[43]⟩:ByteArray) [r3]).bind fun r5=>((P5 N [r5]).bind fun r7=>(((bif decide (r7.2.2=(0:Int)) then (bif decide ((r7.2.1.length:Int)=(1:Int)) then ((F3 r7.2.1 (0:Int)).bind fun x15=>((M3 N (2:Int)).bind fun r17=>some ((aC6 (eV x15.value) (eV r17))))) else some (false)) else some (false)):Option Bool).bind fun v9=>some v9)))))

def J9 (N:Nat) (a0:Int) (a1:Int):Option Ins :=
  some (⟨a0,a1,(0:Int),(0:Int),ByteArray.empty⟩:Ins)

def Z6 (N:Nat) (a0:Int) (a1:ByteArray) (a2:Int) (a3:Int) (a4:(List Ins)):Option J7 :=
  some (⟨(2:Int),ByteArray.empty,a0,(0:Int),(⟨a1,a2,a3,(0:Int),a4⟩:Me),(⟨(⟨(0:Int),(0:Int)⟩:V),ByteArray.empty,[]⟩:M6)⟩:J7)

def aO4 (N:Nat) (a0:ByteArray) (a1:Int):Option Ins :=
  some (⟨(14:Int),a1,(0:Int),(0:Int),a0⟩:Ins)

def aT2 (N:Nat):Option (List J7) :=
  ((J9 N (4:Int) (0:Int)).bind fun r1=>((J9 N (17:Int) (0:Int)).bind fun r3=>((Z6 N (4:Int) (⟨#[103,101,116]⟩:ByteArray) (0:Int) (0:Int) [r1,r3]).bind fun r5=>((J9 N (2:Int) (0:Int)).bind fun r7=>((J9 N (12:Int) (0:Int)).bind fun r9=>((J9 N (1:Int) (0:Int)).bind fun r11=>((J9 N (17:Int) (0:Int)).bind fun r13=>((Z6 N (4:Int) (⟨#[115,101,116]⟩:ByteArray) (1:Int) (0:Int) [r7,r9,r11,r13]).bind fun r15=>((J9 N (5:Int) (0:Int)).bind fun r17=>((J9 N (11:Int) (0:Int)).bind fun r19=>((J9 N (5:Int) (0:Int)).bind fun r21=>((J9 N (11:Int) (1:Int)).bind fun r23=>((J9 N (3:Int) (1:Int)).bind fun r25=>((J9 N (2:Int) (0:Int)).bind fun r27=>((aO4 N (⟨#[60]⟩:ByteArray) (1:Int)).bind fun r29=>((J9 N (16:Int) (18:Int)).bind fun r31=>((J9 N (3:Int) (0:Int)).bind fun r33=>((J9 N (1:Int) (0:Int)).bind fun r35=>((aO4 N (⟨#[103,101,116]⟩:ByteArray) (0:Int)).bind fun r37=>((aO4 N (⟨#[43]⟩:ByteArray) (1:Int)).bind fun r39=>((J9 N (11:Int) (0:Int)).bind fun r41=>((J9 N (3:Int) (1:Int)).bind fun r43=>((J9 N (5:Int) (1:Int)).bind fun r45=>((aO4 N (⟨#[43]⟩:ByteArray) (1:Int)).bind fun r47=>((J9 N (11:Int) (1:Int)).bind fun r49=>((J9 N (15:Int) (4:Int)).bind fun r51=>((J9 N (3:Int) (0:Int)).bind fun r53=>((J9 N (17:Int) (0:Int)).bind fun r55=>((Z6 N (4:Int) (⟨#[116,105,109,101,115]⟩:ByteArray) (1:Int) (2:Int) [r17,r19,r21,r23,r25,r27,r29,r31,r33,r35,r37,r39,r41,r43,r45,r47,r49,r51,r53,r55]).bind fun r57=>some [(⟨(1:Int),(⟨#[66,111,120]⟩:ByteArray),(0:Int),(1:Int),(⟨ByteArray.empty,(0:Int),(0:Int),(0:Int),[]⟩:Me),(⟨(⟨(0:Int),(0:Int)⟩:V),ByteArray.empty,[]⟩:M6)⟩:J7),r5,r15,r57,(⟨(3:Int),ByteArray.empty,(4:Int),(0:Int),(⟨ByteArray.empty,(0:Int),(0:Int),(0:Int),[]⟩:Me),(⟨(⟨(0:Int),(0:Int)⟩:V),ByteArray.empty,[]⟩:M6)⟩:J7)])))))))))))))))))))))))))))))

def Q9 (N:Nat) (a0:Int):Option V :=
  some (⟨(4:Int),a0⟩:V)

def a02 (N:Nat) (a0:Int) (a1:Int) (a2:Int):Option Bool :=
  ((aH1 N).bind fun r1=>(bif (!r1) then some false else (((bif decide (a0 < (-1000:Int)) then some (true) else (bif decide ((1000:Int) < a0) then some (true) else (bif decide (a1 < (0:Int)) then some (true) else (bif decide ((60:Int) < a1) then some (true) else (bif decide (a2 < (4:Int)) then some (true) else some (decide ((6:Int) < a2))))))):Option Bool).bind fun v4=>(bif v4 then some true else ((aT2 N).bind fun r13=>((Q9 N (0:Int)).bind fun r15=>((M3 N a0).bind fun r17=>((O5 N (4:Int) r15 (⟨#[115,101,116]⟩:ByteArray) [r17]).bind fun r19=>((Q9 N (0:Int)).bind fun r21=>((M3 N (3:Int)).bind fun r23=>((O5 N (5:Int) r21 (⟨#[116,105,109,101,115]⟩:ByteArray) [r23]).bind fun r25=>((Q9 N (0:Int)).bind fun r27=>((M3 N a1).bind fun r29=>((O5 N a2 r27 (⟨#[116,105,109,101,115]⟩:ByteArray) [r29]).bind fun r31=>(bif Nat.ble ((r13.length+[r19,r25,r31].length)*160) 140737488355328 then ((P5 N (r13++[r19,r25,r31])).bind fun r34=>(((bif decide (r34.2.2=(0:Int)) then (bif decide ((r34.2.1.length:Int)=((r13++[r19,r25,r31]).length:Int)) then ((F3 r34.2.1 (wr (((r13++[r19,r25,r31]).length:Int) - (1:Int)))).bind fun x44=>(bif decide (x44.err=(0:Int)) then ((F3 r34.2.1 (wr (((r13++[r19,r25,r31]).length:Int) - (1:Int)))).bind fun x48=>((M3 N (wr (a0*a1))).bind fun r50=>some ((aC6 (eV x48.value) (eV r50))))) else some (false))) else some (false)) else some (false)):Option Bool).bind fun v36=>some v36)) else none)))))))))))))))

def aO3 (N:Nat) (a0:Int) (a1:Int) (a2:Int):Option Bool :=
  ((aH1 N).bind fun r1=>(bif (!r1) then some false else (((bif decide (a0 < (-1000:Int)) then some (true) else (bif decide ((1000:Int) < a0) then some (true) else (bif decide (a1 < (-1000:Int)) then some (true) else (bif decide ((1000:Int) < a1) then some (true) else (bif decide (a2 < (0:Int)) then some (true) else some (decide ((60:Int) < a2))))))):Option Bool).bind fun v4=>(bif v4 then some true else ((aT2 N).bind fun r13=>((Q9 N (0:Int)).bind fun r15=>((M3 N a0).bind fun r17=>((O5 N (4:Int) r15 (⟨#[115,101,116]⟩:ByteArray) [r17]).bind fun r19=>((Q9 N (0:Int)).bind fun r21=>((M3 N (4:Int)).bind fun r23=>((O5 N (5:Int) r21 (⟨#[116,105,109,101,115]⟩:ByteArray) [r23]).bind fun r25=>((Q9 N (0:Int)).bind fun r27=>((M3 N a2).bind fun r29=>((O5 N (6:Int) r27 (⟨#[116,105,109,101,115]⟩:ByteArray) [r29]).bind fun r31=>((J9 N (5:Int) a1).bind fun r33=>((J9 N (17:Int) (0:Int)).bind fun r35=>((Z6 N (4:Int) (⟨#[103,101,116]⟩:ByteArray) (0:Int) (0:Int) [r33,r35]).bind fun r37=>((Q9 N (0:Int)).bind fun r39=>((M3 N a2).bind fun r41=>((O5 N (6:Int) r39 (⟨#[116,105,109,101,115]⟩:ByteArray) [r41]).bind fun r43=>((Q9 N (0:Int)).bind fun r45=>((M3 N a2).bind fun r47=>((O5 N (5:Int) r45 (⟨#[116,105,109,101,115]⟩:ByteArray) [r47]).bind fun r49=>(bif Nat.ble ((r13.length+[r19,r25,r31,r37,r43,r49].length)*160) 140737488355328 then ((P5 N (r13++[r19,r25,r31,r37,r43,r49])).bind fun r52=>(((bif (!decide (r52.2.2=(0:Int))) then some (true) else some ((!decide ((r52.2.1.length:Int)=((r13++[r19,r25,r31,r37,r43,r49]).length:Int))))):Option Bool).bind fun v54=>(bif v54 then some false else ((((F3 r52.2.1 (wr (((r13++[r19,r25,r31,r37,r43,r49]).length:Int) - (4:Int)))).bind fun x65=>((M3 N (wr (a0*a2))).bind fun r67=>(bif (aC6 (eV x65.value) (eV r67)) then ((F3 r52.2.1 (wr (((r13++[r19,r25,r31,r37,r43,r49]).length:Int) - (2:Int)))).bind fun x70=>((M3 N (wr (a1*a2))).bind fun r72=>(bif (aC6 (eV x70.value) (eV r72)) then ((F3 r52.2.1 (wr (((r13++[r19,r25,r31,r37,r43,r49]).length:Int) - (1:Int)))).bind fun x75=>((M3 N (wr (a1*a2))).bind fun r77=>some ((aC6 (eV x75.value) (eV r77))))) else some (false)))) else some (false)))):Option Bool).bind fun v62=>some v62)))) else none))))))))))))))))))))))))

def aW3 (N:Nat) (a0:Int) (a1:Int) (a2:Int):Option Bool :=
  ((aH1 N).bind fun r1=>(bif (!r1) then some false else (((bif decide (a0 < (-1000:Int)) then some (true) else (bif decide ((1000:Int) < a0) then some (true) else (bif decide (a1 < (-1000:Int)) then some (true) else (bif decide ((1000:Int) < a1) then some (true) else (bif decide (a2 < (0:Int)) then some (true) else some (decide ((60:Int) < a2))))))):Option Bool).bind fun v4=>(bif v4 then some true else ((aT2 N).bind fun r13=>((J9 N (5:Int) a1).bind fun r15=>((J9 N (17:Int) (0:Int)).bind fun r17=>((Z6 N (5:Int) (⟨#[103,101,116]⟩:ByteArray) (0:Int) (0:Int) [r15,r17]).bind fun r19=>((Q9 N (0:Int)).bind fun r21=>((M3 N a0).bind fun r23=>((O5 N (4:Int) r21 (⟨#[115,101,116]⟩:ByteArray) [r23]).bind fun r25=>((Q9 N (1:Int)).bind fun r27=>((M3 N a0).bind fun r29=>((O5 N (4:Int) r27 (⟨#[115,101,116]⟩:ByteArray) [r29]).bind fun r31=>((Q9 N (0:Int)).bind fun r33=>((M3 N (5:Int)).bind fun r35=>((O5 N (5:Int) r33 (⟨#[116,105,109,101,115]⟩:ByteArray) [r35]).bind fun r37=>((Q9 N (1:Int)).bind fun r39=>((M3 N a2).bind fun r41=>((O5 N (6:Int) r39 (⟨#[116,105,109,101,115]⟩:ByteArray) [r41]).bind fun r43=>((Q9 N (0:Int)).bind fun r45=>((M3 N a2).bind fun r47=>((O5 N (6:Int) r45 (⟨#[116,105,109,101,115]⟩:ByteArray) [r47]).bind fun r49=>(bif Nat.ble ((r13.length+[(⟨(1:Int),(⟨#[79,100,100]⟩:ByteArray),(4:Int),(0:Int),(⟨ByteArray.empty,(0:Int),(0:Int),(0:Int),[]⟩:Me),(⟨(⟨(0:Int),(0:Int)⟩:V),ByteArray.empty,[]⟩:M6)⟩:J7),r19,(⟨(3:Int),ByteArray.empty,(5:Int),(0:Int),(⟨ByteArray.empty,(0:Int),(0:Int),(0:Int),[]⟩:Me),(⟨(⟨(0:Int),(0:Int)⟩:V),ByteArray.empty,[]⟩:M6)⟩:J7),r25,r31,r37,r43,r49].length)*160) 140737488355328 then ((P5 N (r13++[(⟨(1:Int),(⟨#[79,100,100]⟩:ByteArray),(4:Int),(0:Int),(⟨ByteArray.empty,(0:Int),(0:Int),(0:Int),[]⟩:Me),(⟨(⟨(0:Int),(0:Int)⟩:V),ByteArray.empty,[]⟩:M6)⟩:J7),r19,(⟨(3:Int),ByteArray.empty,(5:Int),(0:Int),(⟨ByteArray.empty,(0:Int),(0:Int),(0:Int),[]⟩:Me),(⟨(⟨(0:Int),(0:Int)⟩:V),ByteArray.empty,[]⟩:M6)⟩:J7),r25,r31,r37,r43,r49])).bind fun r52=>(((bif (!decide (r52.2.2=(0:Int))) then some (true) else some ((!decide ((r52.2.1.length:Int)=((r13++[(⟨(1:Int),(⟨#[79,100,100]⟩:ByteArray),(4:Int),(0:Int),(⟨ByteArray.empty,(0:Int),(0:Int),(0:Int),[]⟩:Me),(⟨(⟨(0:Int),(0:Int)⟩:V),ByteArray.empty,[]⟩:M6)⟩:J7),r19,(⟨(3:Int),ByteArray.empty,(5:Int),(0:Int),(⟨ByteArray.empty,(0:Int),(0:Int),(0:Int),[]⟩:Me),(⟨(⟨(0:Int),(0:Int)⟩:V),ByteArray.empty,[]⟩:M6)⟩:J7),r25,r31,r37,r43,r49]).length:Int))))):Option Bool).bind fun v54=>(bif v54 then some false else ((((F3 r52.2.1 (wr (((r13++[(⟨(1:Int),(⟨#[79,100,100]⟩:ByteArray),(4:Int),(0:Int),(⟨ByteArray.empty,(0:Int),(0:Int),(0:Int),[]⟩:Me),(⟨(⟨(0:Int),(0:Int)⟩:V),ByteArray.empty,[]⟩:M6)⟩:J7),r19,(⟨(3:Int),ByteArray.empty,(5:Int),(0:Int),(⟨ByteArray.empty,(0:Int),(0:Int),(0:Int),[]⟩:Me),(⟨(⟨(0:Int),(0:Int)⟩:V),ByteArray.empty,[]⟩:M6)⟩:J7),r25,r31,r37,r43,r49]).length:Int) - (2:Int)))).bind fun x65=>((M3 N (wr (a1*a2))).bind fun r67=>(bif (aC6 (eV x65.value) (eV r67)) then ((F3 r52.2.1 (wr (((r13++[(⟨(1:Int),(⟨#[79,100,100]⟩:ByteArray),(4:Int),(0:Int),(⟨ByteArray.empty,(0:Int),(0:Int),(0:Int),[]⟩:Me),(⟨(⟨(0:Int),(0:Int)⟩:V),ByteArray.empty,[]⟩:M6)⟩:J7),r19,(⟨(3:Int),ByteArray.empty,(5:Int),(0:Int),(⟨ByteArray.empty,(0:Int),(0:Int),(0:Int),[]⟩:Me),(⟨(⟨(0:Int),(0:Int)⟩:V),ByteArray.empty,[]⟩:M6)⟩:J7),r25,r31,r37,r43,r49]).length:Int) - (1:Int)))).bind fun x71=>((M3 N (wr (a0*a2))).bind fun r73=>some ((aC6 (eV x71.value) (eV r73))))) else some (false)))):Option Bool).bind fun v61=>some v61)))) else none))))))))))))))))))))))))

def aE8 (N:Nat) (a0:Int) (a1:Bool):Option Bool :=
  ((aH1 N).bind fun r1=>(bif (!r1) then some false else (((bif decide (a0 < (4:Int)) then some (true) else some (decide ((6:Int) < a0))):Option Bool).bind fun v4=>(bif v4 then some true else ((J9 N (1:Int) (0:Int)).bind fun r9=>((aO4 N (⟨#[100,101,101,112]⟩:ByteArray) (0:Int)).bind fun r11=>((J9 N (17:Int) (0:Int)).bind fun r13=>((Z6 N (4:Int) (⟨#[100,101,101,112]⟩:ByteArray) (0:Int) (0:Int) [r9,r11,r13]).bind fun r15=>((J9 N (15:Int) (0:Int)).bind fun r17=>((Z6 N (4:Int) (⟨#[116,117,114,110]⟩:ByteArray) (0:Int) (0:Int) [r17]).bind fun r19=>(((bif a1 then some (((⟨#[116,117,114,110]⟩:ByteArray),(16:Int))) else some (((⟨#[100,101,101,112]⟩:ByteArray),(14:Int)))):Option (ByteArray×Int)).bind fun (v21,v22)=>((Q9 N (0:Int)).bind fun r26=>((O5 N a0 r26 v21 []).bind fun r28=>((Q9 N (0:Int)).bind fun r30=>((O5 N a0 r30 v21 []).bind fun r32=>(bif Nat.ble (([(⟨(1:Int),(⟨#[65]⟩:ByteArray),(0:Int),(0:Int),(⟨ByteArray.empty,(0:Int),(0:Int),(0:Int),[]⟩:Me),(⟨(⟨(0:Int),(0:Int)⟩:V),ByteArray.empty,[]⟩:M6)⟩:J7),r15,r19,(⟨(3:Int),ByteArray.empty,(4:Int),(0:Int),(⟨ByteArray.empty,(0:Int),(0:Int),(0:Int),[]⟩:Me),(⟨(⟨(0:Int),(0:Int)⟩:V),ByteArray.empty,[]⟩:M6)⟩:J7)].length+[r28,r32].length)*160) 140737488355328 then ((P5 N ([(⟨(1:Int),(⟨#[65]⟩:ByteArray),(0:Int),(0:Int),(⟨ByteArray.empty,(0:Int),(0:Int),(0:Int),[]⟩:Me),(⟨(⟨(0:Int),(0:Int)⟩:V),ByteArray.empty,[]⟩:M6)⟩:J7),r15,r19,(⟨(3:Int),ByteArray.empty,(4:Int),(0:Int),(⟨ByteArray.empty,(0:Int),(0:Int),(0:Int),[]⟩:Me),(⟨(⟨(0:Int),(0:Int)⟩:V),ByteArray.empty,[]⟩:M6)⟩:J7)]++[r28,r32])).bind fun r35=>(((bif decide (r35.2.2=(0:Int)) then (bif decide ((r35.2.1.length:Int)=(6:Int)) then ((F3 r35.2.1 (4:Int)).bind fun x43=>(bif decide (x43.err=v22) then ((F3 r35.2.1 (5:Int)).bind fun x46=>((F3 r35.2.1 (4:Int)).bind fun x48=>some ((aC6 (aM9 x46) (aM9 x48))))) else some (false))) else some (false)) else some (false)):Option Bool).bind fun v37=>some v37)) else none))))))))))))))))

theorem aU7 {N:Nat} {fr:List p8} {i:Nat} {r:V×List p8} (h:aA0 N fr i=some r) {x x':p8} (hx:fr[i]?=some x) (hx':r.2[i]?=some x'):x'.self_=x.self_:=by
  unfold aA0 at h
  obtain ⟨y,hy,h⟩:=j4 h
  rw [hx] at hy
  cases hy
  obtain ⟨v,hv,h⟩:=j4 h
  obtain ⟨hg,h⟩:=C8 h
  obtain rfl:=Option.some.inj h
  have hl:=(List.getElem?_eq_some_iff.1 hx).1
  simp only [List.getElem?_set_self hl,Option.some.injEq] at hx'
  rw [←hx']
end Go.Proofs.YtibjcppjfkamhaaGreatDoor
