/- Functions that mirror the program's. Printed by mir.py. -/
import Derived.Test.YtahmeibkdhbngaaHd
namespace Go.Proofs.Ytahmeibkdhbngaa
open Go.RowKit
set_option linter.unusedVariables false

def l7 (N:Nat) (a0:(List Me)) (a1:ByteArray) (g2:(Me→ByteArray→Option Int)):Nat→Int→Int→Option (Int)
  |0,_,_=>none
  |n12+1,v3,v4=>(bif decide (v3 < v4) then (((bif decide (0≤(wr (v3+v4))) then (bif decide (M9 ((wr (v3+v4)) / 2)) then ((H7 a0 ((wr (v3+v4)) / 2)).bind fun x20=>((g2 x20 a1).bind fun r22=>(((bif decide (r22 < (0:Int)) then some (((wr (((wr (v3+v4)) / 2)+(1:Int))),v4)) else some ((v3,((wr (v3+v4)) / 2)))):Option (Int×Int)).bind fun (v24,v25)=>some ((v24,v25))))) else none) else none):Option (Int×Int)).bind fun (v14,v15)=>l7 N a0 a1 g2 n12 v14 v15) else some (v3))

def l9 (N:Nat) (a0:(List Me)) (a1:ByteArray) (g2:Me→ByteArray→Option Int):Option (Int×Bool) :=
  ((l7 N a0 a1 g2 N (0:Int) (a0.length:Int)).bind fun v7=>(((bif decide (v7 < (a0.length:Int)) then ((H7 a0 v7).bind fun x33=>((g2 x33 a1).bind fun r35=>some (decide (r35=(0:Int))))) else some (false)):Option Bool).bind fun v29=>some (v7,v29)))

def cmp_isNaN_string (N:Nat) (a0:ByteArray):Option Bool :=
  some (!decide (a0=a0))

def X8 (N:Nat) (a0:ByteArray) (a1:ByteArray):Option Int :=
  ((cmp_isNaN_string N a0).bind fun r1=>((cmp_isNaN_string N a1).bind fun r3=>(bif r1 then (bif r3 then some (0:Int) else some (-1:Int)) else (bif r3 then some (1:Int) else (bif (I6 a0 a1) then some (-1:Int) else (bif (!(I6 a0 a1 || decide (a0=a1))) then some (1:Int) else some (0:Int)))))))

def J7 (N:Nat) (a0:Me) (a1:ByteArray):Option Int :=
  ((X8 N a0.name a1).bind fun r1=>some r1)

def O1 (N:Nat) (a0:Wd) (a2:ByteArray):Nat→Int→Int→Option (U2 (Int×Int) Unit)
  |0,_,_=>none
  |n10+1,v2,v3=>(((bif decide ((0:Int)≤v2) then (bif decide (v2 < (a0.classes.length:Int)) then some (decide (v3≤(a0.classes.length:Int))) else some (false)) else some (false)):Option Bool).bind fun v11=>(bif v11 then ((H7 a0.classes v2).bind fun x19=>((l9 N x19.methods a2 (fun x0_ x1_=>J7 N x0_ x1_)).bind fun r21=>(bif r21.2 then some (.ret (v2,r21.1)) else ((H7 a0.classes v2).bind fun x24=>O1 N a0 a2 n10 x24.super (wr (v3+(1:Int))))))) else some (.next ())))

def aE9 (N:Nat) (a0:Wd) (a1:Int) (a2:ByteArray):Option (Int×Int) :=
  ((O1 N a0 a2 N a1 (0:Int)).bind fun o=>match o with|.ret r=>some r|.next ()=>some ((-1:Int),(-1:Int)))

def O7 (N:Nat) (a0:ByteArray):Nat→Nat→Option (U2 Bool Unit)
  |0,k2=>some (.next ())
  |n7+1,k2=>((((byO a0 (k2:Int)).bind fun u14=>(bif decide ((u14.toNat:Int) < (33:Int)) then some (true) else ((byO a0 (k2:Int)).bind fun u17=>some (decide ((126:Int) < (u17.toNat:Int)))))):Option Bool).bind fun v11=>(bif v11 then some (.ret false) else O7 N a0 n7 (k2+1)))

def aA4 (N:Nat) (a0:ByteArray):Option Bool :=
  ((O7 N a0 (((a0.size:Int) - ((0:Nat):Int)).toNat) 0).bind fun o=>match o with|.ret r=>some r|.next ()=>(((bif decide ((0:Int) < (a0.size:Int)) then some (decide ((a0.size:Int)≤(12:Int))) else some (false)):Option Bool).bind fun v20=>some v20))

def Q3 (N:Nat) (a0:Wd):Nat→Int→(List Int)→Option ((List Int))
  |0,_,_=>none
  |n11+1,v2,v3=>(((bif decide ((0:Int)≤v2) then (bif decide (v2 < (a0.classes.length:Int)) then some (decide ((v3.length:Int)≤(a0.classes.length:Int))) else some (false)) else some (false)):Option Bool).bind fun v12=>(bif v12 then (bif Nat.ble ((v3.length+[v2].length)*8) 140737488355328 then ((H7 a0.classes v2).bind fun x22=>Q3 N a0 n11 x22.super (v3++[v2])) else none) else some (v3)))

def aC3 (N:Nat) (a0:Wd) (a1:Int):Option (List Int) :=
  ((Q3 N a0 N a1 ([]:List Int)).bind fun v6=>some v6)

def N8 (N:Nat) (a0:Wd) (r1:(List Int)):List Int→Nat→Int→Option (Int)
  |[],k4,v5=>some (v5)
  |x13::rest10,k4,v5=>((H7 r1 (k4:Int)).bind fun x16=>((H7 a0.classes x16).bind fun x18=>N8 N a0 r1 rest10 (k4+1) (wr (v5+x18.slots))))

def Y7 (N:Nat) (a0:Wd) (a1:Int):Option Int :=
  ((aC3 N a0 a1).bind fun r1=>((N8 N a0 r1 r1 0 (0:Int)).bind fun v7=>some v7))

def O6 (N:Nat) (a2:ByteArray) (x13:Int):List Me→Nat→Option (U2 (Int×Int) Unit)
  |[],k18=>some (.next ())
  |x24::rest21,k18=>(bif decide (x24.name=a2) then some (.ret (x13,(k18:Int))) else O6 N a2 x13 rest21 (k18+1))

def O4 (N:Nat) (a0:Wd) (a2:ByteArray) (r1:(List Int)):List Int→Nat→Option (U2 (Int×Int) Unit)
  |[],k4=>some (.next ())
  |x10::rest7,k4=>((H7 r1 (k4:Int)).bind fun x13=>((H7 a0.classes x13).bind fun x15=>((O6 N a2 x13 x15.methods 0).bind fun o=>match o with|.ret r=>some (.ret r)|.next ()=>O4 N a0 a2 r1 rest7 (k4+1))))

def aD0 (N:Nat) (a0:Wd) (a1:Int) (a2:ByteArray):Option (Int×Int) :=
  ((aC3 N a0 a1).bind fun r1=>((O4 N a0 a2 r1 r1 0).bind fun o=>match o with|.ret r=>some r|.next ()=>some ((-1:Int),(-1:Int))))

def Q4 (N:Nat) (a0:ByteArray):Nat→Nat→Option (U2 Bool Unit)
  |0,k9=>some (.next ())
  |n14+1,k9=>((((byO a0 (k9:Int)).bind fun u21=>(bif decide ((u21.toNat:Int)≤(32:Int)) then some (true) else ((byO a0 (k9:Int)).bind fun u24=>some (decide ((126:Int) < (u24.toNat:Int)))))):Option Bool).bind fun v18=>(bif v18 then some (.ret false) else Q4 N a0 n14 (k9+1)))

def aC5 (N:Nat) (a0:ByteArray):Option Bool :=
  (((bif decide ((a0.size:Int) < (1:Int)) then some (true) else some (decide ((12:Int) < (a0.size:Int)))):Option Bool).bind fun v1=>(bif v1 then some false else ((Q4 N a0 (((a0.size:Int) - ((0:Nat):Int)).toNat) 0).bind fun o=>match o with|.ret r=>some r|.next ()=>some true)))

def aC4 (N:Nat) (a0:List V):Option (List V):=bif Nat.ble (a0.length*16) 140737488355328 then some a0 else none

def O9 (N:Nat):List Ob→Nat→(List Ob)→Option ((List Ob))
  |[],k2,v3=>some (v3)
  |x11::rest8,k2,v3=>((aC4 N x11.slots).bind fun r14=>(bif Nat.ble ((v3.length+[(⟨x11.cls,r14⟩:Ob)].length)*32) 140737488355328 then O9 N rest8 (k2+1) (v3++[(⟨x11.cls,r14⟩:Ob)]) else none))

def aB4 (N:Nat) (a0:(List Ob)):Option (List Ob) :=
  ((O9 N a0 0 ([]:List Ob)).bind fun v5=>some v5)

def Z4 (N:Nat) (a0:List Ins):Option (List Ins):=bif Nat.ble (a0.length*48) 140737488355328 then some a0 else none

def M8 (N:Nat) (a0:Me):Option Me :=
  ((Z4 N a0.code).bind fun r1=>some (⟨a0.name,a0.args,a0.temps,a0.prim,r1⟩:Me))

def P5 (N:Nat):List Me→Nat→(List Me)→Option ((List Me))
  |[],k17,v18=>some (v18)
  |x26::rest23,k17,v18=>((M8 N x26).bind fun r29=>(bif Nat.ble ((v18.length+[r29].length)*64) 140737488355328 then P5 N rest23 (k17+1) (v18++[r29]) else none))

def P8 (N:Nat):List Cl→Nat→(List Cl)→Option ((List Cl))
  |[],k4,v5=>some (v5)
  |x13::rest10,k4,v5=>((P5 N x13.methods 0 ([]:List Me)).bind fun v20=>(bif Nat.ble ((v5.length+[(⟨x13.name,x13.super,x13.slots,v20⟩:Cl)].length)*56) 140737488355328 then P8 N rest10 (k4+1) (v5++[(⟨x13.name,x13.super,x13.slots,v20⟩:Cl)]) else none))

def aH6 (N:Nat) (a0:Wd):Option Wd :=
  ((aB4 N a0.heap).bind fun r1=>((P8 N a0.classes 0 ([]:List Cl)).bind fun v7=>some (⟨v7,r1,a0.epoch⟩:Wd)))

def O5 (N:Nat) (a0:Wd):Nat→Int→Int→Int→Option (Int)
  |0,_,_,_=>none
  |n13+1,v2,v3,v4=>(((bif decide ((0:Int)≤v2) then (bif decide (v2 < (a0.classes.length:Int)) then some (decide (v4≤(a0.classes.length:Int))) else some (false)) else some (false)):Option Bool).bind fun v14=>(bif v14 then ((H7 a0.classes v2).bind fun x22=>((H7 a0.classes v2).bind fun x24=>O5 N a0 n13 x24.super (wr (v3+x22.slots)) (wr (v4+(1:Int))))) else some (v3)))

def aA2 (N:Nat) (a0:Wd) (a1:Int):Option Int :=
  ((O5 N a0 N a1 (0:Int) (0:Int)).bind fun v8=>some v8)

def J6 (N:Nat) (a1:(List Ins)):List Ins→Nat→Option (U2 Bool Unit)
  |[],k5=>some (.next ())
  |x11::rest8,k5=>((H7 a1 (k5:Int)).bind fun x14=>(bif (!(aA6 (aI7 x11) (aI7 x14))) then some (.ret false) else J6 N a1 rest8 (k5+1)))

def Q0 (N:Nat) (a0:(List Ins)) (a1:(List Ins)):Option Bool :=
  (bif (!decide ((a0.length:Int)=(a1.length:Int))) then some false else ((J6 N a1 a0 0).bind fun o=>match o with|.ret r=>some r|.next ()=>some true))

def I9 (N:Nat) (x21:Cl):List Me→Nat→Option (U2 Bool Unit)
  |[],k33=>some (.next ())
  |x39::rest36,k33=>((H7 x21.methods (k33:Int)).bind fun x42=>(((bif (!decide (x39.name=x42.name)) then some (true) else (bif (!decide (x39.args=x42.args)) then some (true) else (bif (!decide (x39.temps=x42.temps)) then some (true) else (bif (!decide (x39.prim=x42.prim)) then some (true) else ((Q0 N x39.code x42.code).bind fun r51=>some ((!r51))))))):Option Bool).bind fun v44=>(bif v44 then some (.ret false) else I9 N x21 rest36 (k33+1))))

def J3 (N:Nat) (a1:Wd):List Cl→Nat→Option (U2 Bool Unit)
  |[],k12=>some (.next ())
  |x18::rest15,k12=>((H7 a1.classes (k12:Int)).bind fun x21=>(((bif (!decide (x18.name=x21.name)) then some (true) else (bif (!decide (x18.super=x21.super)) then some (true) else (bif (!decide (x18.slots=x21.slots)) then some (true) else some ((!decide ((x18.methods.length:Int)=(x21.methods.length:Int))))))):Option Bool).bind fun v23=>(bif v23 then some (.ret false) else ((I9 N x21 x18.methods 0).bind fun o=>match o with|.ret r=>some (.ret r)|.next ()=>J3 N a1 rest15 (k12+1)))))

def J2 (N:Nat) (a1:Wd) (k55:Nat):List V→Nat→Option (U2 Bool Unit)
  |[],k76=>some (.next ())
  |x82::rest79,k76=>((H7 a1.heap (k55:Int)).bind fun x85=>((H7 x85.slots (k76:Int)).bind fun x87=>(bif (!(aA6 (eV x82) (eV x87))) then some (.ret false) else J2 N a1 k55 rest79 (k76+1))))

def I8 (N:Nat) (a1:Wd):List Ob→Nat→Option (U2 Bool Unit)
  |[],k55=>some (.next ())
  |x61::rest58,k55=>((((H7 a1.heap (k55:Int)).bind fun x67=>(bif (!decide (x61.cls=x67.cls)) then some (true) else ((H7 a1.heap (k55:Int)).bind fun x71=>some ((!decide ((x61.slots.length:Int)=(x71.slots.length:Int))))))):Option Bool).bind fun v64=>(bif v64 then some (.ret false) else ((J2 N a1 k55 x61.slots 0).bind fun o=>match o with|.ret r=>some (.ret r)|.next ()=>I8 N a1 rest58 (k55+1))))

def H9 (N:Nat) (a0:Wd) (a1:Wd):Option Bool :=
  (((bif (!decide (a0.epoch=a1.epoch)) then some (true) else (bif (!decide ((a0.classes.length:Int)=(a1.classes.length:Int))) then some (true) else some ((!decide ((a0.heap.length:Int)=(a1.heap.length:Int)))))):Option Bool).bind fun v1=>(bif v1 then some false else ((J3 N a1 a0.classes 0).bind fun o=>match o with|.ret r=>some r|.next ()=>((I8 N a1 a0.heap 0).bind fun o=>match o with|.ret r=>some r|.next ()=>some true))))

def K9 (N:Nat) (a1:ByteArray):List Cl→Nat→Option (U2 (Wd×Int×Int) Unit)
  |[],k5=>some (.next ())
  |x11::rest8,k5=>(bif decide (x11.name=a1) then some (.ret ((⟨[],[],(0:Int)⟩:Wd),(0:Int),(7:Int))) else K9 N a1 rest8 (k5+1))

def aD1 (N:Nat) (a0:Wd) (a1:ByteArray) (a2:Int) (a3:Int):Option (Wd×Int×Int) :=
  ((aA4 N a1).bind fun r1=>(bif (!r1) then some ((⟨[],[],(0:Int)⟩:Wd),(0:Int),(7:Int)) else ((K9 N a1 a0.classes 0).bind fun o=>match o with|.ret r=>some r|.next ()=>(((bif decide (a2 < (0:Int)) then some (true) else some (decide ((a0.classes.length:Int)≤a2))):Option Bool).bind fun v15=>(bif v15 then some ((⟨[],[],(0:Int)⟩:Wd),(0:Int),(6:Int)) else (((bif decide (a3 < (0:Int)) then some (true) else (bif decide ((6:Int) < a3) then some (true) else ((Y7 N a0 a2).bind fun r26=>(bif decide ((6:Int) < (wr (a3+r26))) then some (true) else (bif decide ((0:Int) < a2) then some (decide (a2 < (4:Int))) else some (false)))))):Option Bool).bind fun v21=>(bif v21 then some ((⟨[],[],(0:Int)⟩:Wd),(0:Int),(3:Int)) else (bif decide ((12:Int)≤(a0.classes.length:Int)) then some ((⟨[],[],(0:Int)⟩:Wd),(0:Int),(5:Int)) else (bif Nat.ble ((([]:List Cl).length+a0.classes.length)*56) 140737488355328 then (bif Nat.ble (((([]:List Cl)++a0.classes).length+[(⟨a1,a2,a3,[]⟩:Cl)].length)*56) 140737488355328 then some ((⟨((([]:List Cl)++a0.classes)++[(⟨a1,a2,a3,[]⟩:Cl)]),a0.heap,a0.epoch⟩:Wd),(a0.classes.length:Int),(0:Int)) else none) else none)))))))))

def D8 (N:Nat) (a2:Me):List Me→Nat→(List Me)→Bool→Bool→Option (((List Me)×Bool×Bool))
  |[],k10,v11,v12,v13=>some ((v11,v12,v13))
  |x25::rest22,k10,v11,v12,v13=>(((bif decide (x25.name=a2.name) then (bif Nat.ble ((v11.length+[a2].length)*64) 140737488355328 then some (((v11++[a2]),true,true)) else none) else (((bif (!v12) then some ((!(I6 x25.name a2.name || decide (x25.name=a2.name)))) else some (false)):Option Bool).bind fun v35=>(((bif v35 then (bif Nat.ble ((v11.length+[a2].length)*64) 140737488355328 then some (((v11++[a2]),true)) else none) else some ((v11,v12))):Option ((List Me)×Bool)).bind fun (v39,v40)=>(bif Nat.ble ((v39.length+[x25].length)*64) 140737488355328 then some (((v39++[x25]),v40,v13)) else none)))):Option ((List Me)×Bool×Bool)).bind fun (v28,v29,v30)=>D8 N a2 rest22 (k10+1) v28 v29 v30)

def Y5 (N:Nat) (a0:Wd) (a1:Int) (a2:Me):Option (Wd×Int) :=
  (((bif decide (a1 < (0:Int)) then some (true) else some (decide ((a0.classes.length:Int)≤a1))):Option Bool).bind fun v1=>(bif v1 then some ((⟨[],[],(0:Int)⟩:Wd),(6:Int)) else ((H7 a0.classes a1).bind fun x7=>((D8 N a2 x7.methods 0 ([]:List Me) false false).bind fun (v17,v18,v19)=>(((bif (!v18) then (bif Nat.ble ((v17.length+[a2].length)*64) 140737488355328 then some ((v17++[a2])) else none) else some (v17)):Option (List Me)).bind fun v46=>(((bif (!v19) then ((H7 a0.classes a1).bind fun x55=>some (decide ((8:Int)≤(x55.methods.length:Int)))) else some (false)):Option Bool).bind fun v51=>(bif v51 then some ((⟨[],[],(0:Int)⟩:Wd),(5:Int)) else (bif Nat.ble ((([]:List Cl).length+a0.classes.length)*56) 140737488355328 then ((H7 (([]:List Cl)++a0.classes) a1).bind fun x60=>some ((⟨((([]:List Cl)++a0.classes).set a1.toNat (⟨x60.name,x60.super,x60.slots,v46⟩:Cl)),a0.heap,(wr (a0.epoch+(1:Int)))⟩:Wd),(0:Int))) else none))))))))

def M7 (N:Nat) (x8:Cl):List Me→Nat→Option (U2 Bool Unit)
  |[],k12=>some (.next ())
  |x18::rest15,k12=>(((bif decide ((0:Int) < (k12:Int)) then ((H7 x8.methods (wr ((k12:Int) - (1:Int)))).bind fun x25=>some ((!I6 x25.name x18.name))) else some (false)):Option Bool).bind fun v21=>(bif v21 then some (.ret false) else M7 N x8 rest15 (k12+1)))

def M6 (N:Nat):List Cl→Nat→Option (U2 Bool Unit)
  |[],k2=>some (.next ())
  |x8::rest5,k2=>((M7 N x8 x8.methods 0).bind fun o=>match o with|.ret r=>some (.ret r)|.next ()=>M6 N rest5 (k2+1))

def aB6 (N:Nat) (a0:Wd):Option Bool :=
  ((M6 N a0.classes 0).bind fun o=>match o with|.ret r=>some r|.next ()=>some true)

def q9 (N:Nat) (g1:(Cl→Option Bool)):List Cl→Nat→Option (U2 Int Unit)
  |[],k2=>some (.next ())
  |x8::rest5,k2=>((g1 x8).bind fun r11=>(bif r11 then some (.ret (k2:Int)) else q9 N g1 rest5 (k2+1)))

def F7 (N:Nat) (a0:(List Cl)) (g1:Cl→Option Bool):Option Int :=
  ((q9 N g1 a0 0).bind fun o=>match o with|.ret r=>some r|.next ()=>some (-1:Int))

def y9 (N:Nat) (a0:(List Cl)) (g1:Cl→Option Bool):Option Bool :=
  ((F7 N a0 g1).bind fun r1=>some (decide ((0:Int)≤r1)))

def Q9 (N:Nat) (a0:Cl) (b0:ByteArray):Option Bool :=
  some (decide (a0.name=b0))

def M0 (N:Nat):List Me→Nat→(List Me)→Option ((List Me))
  |[],k17,v18=>some (v18)
  |x26::rest23,k17,v18=>((M8 N x26).bind fun r29=>(bif Nat.ble ((v18.length+[r29].length)*64) 140737488355328 then M0 N rest23 (k17+1) (v18++[r29]) else none))

def L9 (N:Nat):List Cl→Nat→(List Cl)→Option ((List Cl))
  |[],k4,v5=>some (v5)
  |x13::rest10,k4,v5=>((M0 N x13.methods 0 ([]:List Me)).bind fun v20=>(bif Nat.ble ((v5.length+[(⟨x13.name,x13.super,x13.slots,v20⟩:Cl)].length)*56) 140737488355328 then L9 N rest10 (k4+1) (v5++[(⟨x13.name,x13.super,x13.slots,v20⟩:Cl)]) else none))

def aC8 (N:Nat) (a0:Wd):Option Wd :=
  ((aB4 N a0.heap).bind fun r1=>((L9 N a0.classes 0 ([]:List Cl)).bind fun v7=>some (⟨v7,r1,a0.epoch⟩:Wd)))

def aE3 (N:Nat) (a0:Wd) (a1:ByteArray) (a2:Int) (a3:Int):Option (Wd×Int×Int) :=
  ((((aC5 N a1).bind fun r4=>(bif (!r4) then some (true) else ((y9 N a0.classes (fun x0_=>Q9 N x0_ a1)).bind fun r7=>some (r7)))):Option Bool).bind fun v1=>(bif v1 then some ((⟨[],[],(0:Int)⟩:Wd),(0:Int),(7:Int)) else (((bif decide (a2 < (0:Int)) then some (true) else some (decide ((a0.classes.length:Int)≤a2))):Option Bool).bind fun v10=>(bif v10 then some ((⟨[],[],(0:Int)⟩:Wd),(0:Int),(6:Int)) else (((bif decide (a3 < (0:Int)) then some (true) else ((aA2 N a0 a2).bind fun r20=>(bif decide ((wr ((6:Int) - r20)) < a3) then some (true) else (bif (!decide (a2=(0:Int))) then some (decide (a2 < (4:Int))) else some (false))))):Option Bool).bind fun v16=>(bif v16 then some ((⟨[],[],(0:Int)⟩:Wd),(0:Int),(3:Int)) else (bif decide ((12:Int)≤(a0.classes.length:Int)) then some ((⟨[],[],(0:Int)⟩:Wd),(0:Int),(5:Int)) else ((aC8 N a0).bind fun r27=>(bif Nat.ble ((r27.classes.length+[(⟨a1,a2,a3,[]⟩:Cl)].length)*56) 140737488355328 then some ((⟨(r27.classes++[(⟨a1,a2,a3,[]⟩:Cl)]),r27.heap,r27.epoch⟩:Wd),(a0.classes.length:Int),(0:Int)) else none)))))))))

def L8 (N:Nat):List Me→Nat→(List Me)→Option ((List Me))
  |[],k17,v18=>some (v18)
  |x26::rest23,k17,v18=>((M8 N x26).bind fun r29=>(bif Nat.ble ((v18.length+[r29].length)*64) 140737488355328 then L8 N rest23 (k17+1) (v18++[r29]) else none))

def L6 (N:Nat):List Cl→Nat→(List Cl)→Option ((List Cl))
  |[],k4,v5=>some (v5)
  |x13::rest10,k4,v5=>((L8 N x13.methods 0 ([]:List Me)).bind fun v20=>(bif Nat.ble ((v5.length+[(⟨x13.name,x13.super,x13.slots,v20⟩:Cl)].length)*56) 140737488355328 then L6 N rest10 (k4+1) (v5++[(⟨x13.name,x13.super,x13.slots,v20⟩:Cl)]) else none))

def aC9 (N:Nat) (a0:Wd):Option Wd :=
  ((aB4 N a0.heap).bind fun r1=>((L6 N a0.classes 0 ([]:List Cl)).bind fun v7=>some (⟨v7,r1,a0.epoch⟩:Wd)))

def Z9 (N:Nat) (a0:Wd) (a1:Int) (a2:Me):Option (Wd×Int) :=
  (((bif decide (a1 < (0:Int)) then some (true) else some (decide ((a0.classes.length:Int)≤a1))):Option Bool).bind fun v1=>(bif v1 then some ((⟨[],[],(0:Int)⟩:Wd),(6:Int)) else ((H7 a0.classes a1).bind fun x7=>((l9 N x7.methods a2.name (fun x0_ x1_=>J7 N x0_ x1_)).bind fun r9=>(((bif (!r9.2) then ((H7 a0.classes a1).bind fun x15=>some (decide ((8:Int)≤(x15.methods.length:Int)))) else some (false)):Option Bool).bind fun v11=>(bif v11 then some ((⟨[],[],(0:Int)⟩:Wd),(5:Int)) else ((aC9 N a0).bind fun r19=>((H7 r19.classes a1).bind fun x21=>(((bif (!r9.2) then ((S9 N x21.methods r9.1 [(⟨ByteArray.empty,(0:Int),(0:Int),(0:Int),[]⟩:Me)]).bind fun r27=>some ((r19.classes.set a1.toNat (⟨x21.name,x21.super,x21.slots,r27⟩:Cl)))) else some (r19.classes)):Option (List Cl)).bind fun v23=>((v23[a1.toNat]?).bind fun x29=>((M8 N a2).bind fun r31=>((H7 x29.methods r9.1).bind fun x33=>some ((⟨(v23.set a1.toNat (⟨x29.name,x29.super,x29.slots,(x29.methods.set r9.1.toNat r31)⟩:Cl)),r19.heap,(wr (r19.epoch+(1:Int)))⟩:Wd),(0:Int))))))))))))))

def H8 (N:Nat):List Cl→Nat→Option (U2 Bool Unit)
  |[],k2=>some (.next ())
  |x8::rest5,k2=>(((bif decide (x8.slots < (0:Int)) then some (true) else some (decide ((6:Int) < x8.slots))):Option Bool).bind fun v11=>(bif v11 then some (.ret true) else H8 N rest5 (k2+1)))

def Y3 (N:Nat) (a0:Wd) (a1:Int) (a2:ByteArray) (a3:Int) (a4:Me):Option Bool :=
  ((H8 N a0.classes 0).bind fun o=>match o with|.ret r=>some r|.next ()=>((aB6 N a0).bind fun r16=>(bif (!r16) then some true else ((((aH7 N).bind fun r22=>((aE1 N).bind fun r24=>((H9 N r22 r24).bind fun r26=>(bif (!r26) then some (true) else ((aH6 N a0).bind fun r29=>((H9 N (⟨r29.classes,r29.heap,r29.epoch⟩:Wd) a0).bind fun r31=>(bif (!r31) then some (true) else ((aC5 N a2).bind fun r34=>((aA4 N a2).bind fun r36=>(bif (!decide (r34=r36)) then some (true) else ((aA2 N a0 a1).bind fun r39=>((Y7 N a0 a1).bind fun r41=>some ((!decide (r39=r41))))))))))))))):Option Bool).bind fun v19=>(bif v19 then some false else ((aE9 N a0 a1 a2).bind fun r44=>((aD0 N a0 a1 a2).bind fun r46=>(((bif (!decide (r44.1=r46.1)) then some (true) else some ((!decide (r44.2=r46.2)))):Option Bool).bind fun v48=>(bif v48 then some false else ((aE3 N a0 a2 a1 a3).bind fun r53=>((aD1 N a0 a2 a1 a3).bind fun r55=>(((bif (!decide (r53.2.2=r55.2.2)) then some (true) else (bif (!decide (r53.2.1=r55.2.1)) then some (true) else ((H9 N r53.1 r55.1).bind fun r62=>some ((!r62))))):Option Bool).bind fun v57=>(bif v57 then some false else ((Z9 N a0 a1 a4).bind fun r65=>((Y5 N a0 a1 a4).bind fun r67=>((M8 N a4).bind fun r69=>(((bif decide (r65.2=r67.2) then ((H9 N r65.1 r67.1).bind fun r75=>(bif r75 then (bif decide (r69.name=a4.name) then (bif decide (r69.args=a4.args) then (bif decide (r69.temps=a4.temps) then (bif decide (r69.prim=a4.prim) then ((Q0 N r69.code a4.code).bind fun r82=>some (r82)) else some (false)) else some (false)) else some (false)) else some (false)) else some (false))) else some (false)):Option Bool).bind fun v71=>some v71)))))))))))))))))
end Go.Proofs.Ytahmeibkdhbngaa
