/- Functions that mirror the program's. Printed by mir.py. -/
import Derived.Test.YtibjcppjfkamhaaGreatDoorHd
namespace Go.Proofs.YtibjcppjfkamhaaGreatDoor
open Go.RowKit
set_option linter.unusedVariables false

def aB9 (N:Nat) (a0:ByteArray):Nat→Nat→Option (C9 Bool Unit)
  |0,k9=>some (.next ())
  |n14+1,k9=>((((byO a0 (k9:Int)).bind fun u21=>(bif decide ((u21.toNat:Int)≤(32:Int)) then some (true) else ((byO a0 (k9:Int)).bind fun u24=>some (decide ((126:Int) < (u24.toNat:Int)))))):Option Bool).bind fun v18=>(bif v18 then some (.ret false) else aB9 N a0 n14 (k9+1)))

def aH6 (N:Nat) (a0:ByteArray):Option Bool :=
  (((bif decide ((a0.size:Int) < (1:Int)) then some (true) else some (decide ((12:Int) < (a0.size:Int)))):Option Bool).bind fun v1=>(bif v1 then some false else ((aB9 N a0 (((a0.size:Int) - ((0:Nat):Int)).toNat) 0).bind fun o=>match o with|.ret r=>some r|.next ()=>some true)))

def aA1 (N:Nat) (a0:Wd):Nat→Int→Int→Int→Option (Int)
  |0,_,_,_=>none
  |n13+1,v2,v3,v4=>(((bif decide ((0:Int)≤v2) then (bif decide (v2 < (a0.classes.length:Int)) then some (decide (v4≤(a0.classes.length:Int))) else some (false)) else some (false)):Option Bool).bind fun v14=>(bif v14 then ((F5 a0.classes v2).bind fun x22=>((F5 a0.classes v2).bind fun x24=>aA1 N a0 n13 x24.super (wr (v3+x22.slots)) (wr (v4+(1:Int))))) else some (v3)))

def aC8 (N:Nat) (a0:Wd) (a1:Int):Option Int :=
  ((aA1 N a0 N a1 (0:Int) (0:Int)).bind fun v8=>some v8)

def S9 (N:Nat) (a0:Int) (a1:Int):Option Bool :=
  (((bif decide ((0:Int)≤a0) then some (decide (a0 < a1)) else some (false)):Option Bool).bind fun v1=>some v1)

def aK0 (N:Nat) (a0:Wd) (a1:Int) (a2:Me) (a3:Ins):Option Int :=
  (((((bif decide (a3.op=(1:Int)) then some (decide (a3.op=(1:Int))) else (((bif decide (a3.op=(6:Int)) then some (decide (a3.op=(6:Int))) else (((bif decide (a3.op=(7:Int)) then some (decide (a3.op=(7:Int))) else (((bif decide (a3.op=(8:Int)) then some (decide (a3.op=(8:Int))) else (((bif decide (a3.op=(9:Int)) then some (decide (a3.op=(9:Int))) else (((bif decide (a3.op=(10:Int)) then some (decide (a3.op=(10:Int))) else some (decide (a3.op=(17:Int)))):Option Bool).bind fun v25=>some (v25))):Option Bool).bind fun v21=>some (v21))):Option Bool).bind fun v17=>some (v17))):Option Bool).bind fun v13=>some (v13))):Option Bool).bind fun v9=>some (v9))):Option Bool).bind fun v5=>(((bif v5 then some (.next (decide (a3.a=(0:Int)),false)) else (((bif decide (a3.op=(2:Int)) then ((S9 N a3.a a2.args).bind fun r39=>some (.next (r39,false))) else (((bif decide (a3.op=(3:Int)) then some (decide (a3.op=(3:Int))) else some (decide (a3.op=(11:Int)))):Option Bool).bind fun v41=>(((bif v41 then ((S9 N a3.a a2.temps).bind fun r50=>some (.next (r50,false))) else (((bif decide (a3.op=(4:Int)) then some (decide (a3.op=(4:Int))) else some (decide (a3.op=(12:Int)))):Option Bool).bind fun v52=>(((bif v52 then ((aC8 N a0 a1).bind fun r61=>((S9 N a3.a r61).bind fun r63=>some (.next (r63,false)))) else (((bif decide (a3.op=(5:Int)) then (((bif decide ((-1073741824:Int)≤a3.a) then some (decide (a3.a≤(1073741824:Int))) else some (false)):Option Bool).bind fun v70=>some (.next (v70,false))) else (((bif decide (a3.op=(13:Int)) then (((bif decide (a3.a=(0:Int)) then some (true) else (bif decide ((4:Int)≤a3.a) then some (decide (a3.a < (a0.classes.length:Int))) else some (false))):Option Bool).bind fun v79=>some (.next (v79,false))) else (((bif decide (a3.op=(14:Int)) then ((S9 N a3.a (5:Int)).bind fun r90=>some (.next (r90,true))) else (((bif decide (a3.op=(15:Int)) then some (decide (a3.op=(15:Int))) else some (decide (a3.op=(16:Int)))):Option Bool).bind fun v92=>(bif v92 then ((S9 N a3.a (a2.code.length:Int)).bind fun r98=>some (.next (r98,false))) else some (.ret (1:Int))))):Option (C9 Int (Bool×Bool))).bind fun o=>match o with|.ret r=>some (.ret r)|.next (v85,v86)=>some (.next (v85,v86)))):Option (C9 Int (Bool×Bool))).bind fun o=>match o with|.ret r=>some (.ret r)|.next (v74,v75)=>some (.next (v74,v75)))):Option (C9 Int (Bool×Bool))).bind fun o=>match o with|.ret r=>some (.ret r)|.next (v65,v66)=>some (.next (v65,v66)))):Option (C9 Int (Bool×Bool))).bind fun o=>match o with|.ret r=>some (.ret r)|.next (v56,v57)=>some (.next (v56,v57))))):Option (C9 Int (Bool×Bool))).bind fun o=>match o with|.ret r=>some (.ret r)|.next (v45,v46)=>some (.next (v45,v46))))):Option (C9 Int (Bool×Bool))).bind fun o=>match o with|.ret r=>some (.ret r)|.next (v34,v35)=>some (.next (v34,v35)))):Option (C9 Int (Bool×Bool))).bind fun o=>match o with|.ret r=>some (.ret r)|.next (v29,v30)=>some (.next (v29,v30)))):Option (C9 Int (Bool×Bool))).bind fun o=>match o with|.ret r=>some r|.next (v1,v2)=>(bif (!v1) then some (3:Int) else (((bif v2 then ((aH6 N a3.name).bind fun r105=>(bif (!r105) then some (true) else (bif (!v2) then (bif (!decide (a3.name=(⟨#[]⟩:ByteArray))) then some (true) else (bif (!decide (a3.b=(0:Int))) then some (true) else some ((!decide (a3.c=(0:Int)))))) else (bif (!decide (a3.b=(0:Int))) then some (true) else some ((!decide (a3.c=(0:Int)))))))) else (bif (!v2) then (bif (!decide (a3.name=(⟨#[]⟩:ByteArray))) then some (true) else (bif (!decide (a3.b=(0:Int))) then some (true) else some ((!decide (a3.c=(0:Int)))))) else (bif (!decide (a3.b=(0:Int))) then some (true) else some ((!decide (a3.c=(0:Int))))))):Option Bool).bind fun v101=>(bif v101 then some (2:Int) else some (0:Int)))))

def aL7 (N:Nat) (a0:Ins):Option (Int×Int) :=
  (((bif decide (a0.op=(9:Int)) then some (decide (a0.op=(9:Int))) else (((bif decide (a0.op=(11:Int)) then some (decide (a0.op=(11:Int))) else (((bif decide (a0.op=(12:Int)) then some (decide (a0.op=(12:Int))) else (((bif decide (a0.op=(16:Int)) then some (decide (a0.op=(16:Int))) else some (decide (a0.op=(17:Int)))):Option Bool).bind fun v13=>some (v13))):Option Bool).bind fun v9=>some (v9))):Option Bool).bind fun v5=>some (v5))):Option Bool).bind fun v1=>(bif v1 then some ((1:Int),(0:Int)) else (bif decide (a0.op=(10:Int)) then some ((1:Int),(2:Int)) else (bif decide (a0.op=(14:Int)) then some ((wr (a0.a+(1:Int))),(1:Int)) else (bif decide (a0.op=(15:Int)) then some ((0:Int),(0:Int)) else some ((0:Int),(1:Int)))))))

def U3 (N:Nat):Nat→Nat→(List Int)→Option ((List Int))
  |0,k4,v5=>some (v5)
  |n12+1,k4,v5=>((F5 v5 (k4:Int)).bind fun x16=>U3 N n12 (k4+1) (v5.set ((k4:Int).toNat) (-1:Int)))

def U4 (N:Nat) (a0:Me):Nat→(List Int)→(List J3)→Option (C9 ((List Int)×D8) (List Int))
  |0,_,_=>none
  |n28+1,v19,v20=>(bif decide ((0:Int) < (v20.length:Int)) then ((((F5 v20 (0:Int)).bind fun x35=>((F5 v20 (0:Int)).bind fun x37=>(bif (decide (0≤(1:Int)) && decide ((1:Int)≤(v20.length:Int))) then (((bif decide (x35.f0 < (0:Int)) then some (true) else some (decide ((a0.code.length:Int)≤x35.f0))):Option Bool).bind fun v40=>(bif v40 then some (.ret (([]:List Int),(⟨(9:Int),(a0.code.length:Int)⟩:D8))) else ((F5 v19 x35.f0).bind fun x47=>(bif decide ((0:Int)≤x47) then ((F5 v19 x35.f0).bind fun x50=>(bif (!decide (x50=x37.f1)) then some (.ret (([]:List Int),(⟨(8:Int),x35.f0⟩:D8))) else some (.next (v19,(v20.drop (1:Int).toNat))))) else ((F5 v19 x35.f0).bind fun x53=>((F5 a0.code x35.f0).bind fun x55=>((aL7 N x55).bind fun r57=>(((bif decide (x37.f1 < r57.1) then some (true) else (bif decide (x55.op=(17:Int)) then some ((!decide (x37.f1=(1:Int)))) else some (false))):Option Bool).bind fun v59=>(bif v59 then some (.ret (([]:List Int),(⟨(8:Int),x35.f0⟩:D8))) else (bif decide ((12:Int) < (wr (x37.f1+(wr (r57.2 - r57.1))))) then some (.ret (([]:List Int),(⟨(4:Int),x35.f0⟩:D8))) else (((bif (!decide (x55.op=(15:Int))) then some ((!decide (x55.op=(17:Int)))) else some (false)):Option Bool).bind fun v66=>(((bif v66 then (bif Nat.ble (((v20.drop (1:Int).toNat).length+[(⟨(wr (x35.f0+(1:Int))),(wr (x37.f1+(wr (r57.2 - r57.1))))⟩:J3)].length)*16) 140737488355328 then some (((v20.drop (1:Int).toNat)++[(⟨(wr (x35.f0+(1:Int))),(wr (x37.f1+(wr (r57.2 - r57.1))))⟩:J3)])) else none) else some ((v20.drop (1:Int).toNat))):Option (List J3)).bind fun v70=>(((bif decide (x55.op=(15:Int)) then some (true) else some (decide (x55.op=(16:Int)))):Option Bool).bind fun v75=>(((bif v75 then (bif Nat.ble ((v70.length+[(⟨x55.a,(wr (x37.f1+(wr (r57.2 - r57.1))))⟩:J3)].length)*16) 140737488355328 then some ((v70++[(⟨x55.a,(wr (x37.f1+(wr (r57.2 - r57.1))))⟩:J3)])) else none) else some (v70)):Option (List J3)).bind fun v79=>some (.next ((v19.set x35.f0.toNat x37.f1),v79)))))))))))))))) else none))):Option (C9 ((List Int)×D8) ((List Int)×(List J3)))).bind fun o=>match o with|.ret r=>some (.ret r)|.next (v31,v32)=>U4 N a0 n28 v31 v32) else some (.next v19))

def aK2 (N:Nat) (a0:Me):Option ((List Int)×D8) :=
  (bif (decide (0≤(a0.code.length:Int)) && decide ((a0.code.length:Int)≤140737488355328) && decide ((a0.code.length:Int)*8≤140737488355328)) then ((U3 N ((((List.replicate (a0.code.length:Int).toNat (0:Int)).length:Int) - ((0:Nat):Int)).toNat) 0 (List.replicate (a0.code.length:Int).toNat (0:Int))).bind fun v7=>((U4 N a0 N v7 [(⟨(0:Int),(0:Int)⟩:J3)]).bind fun o=>match o with|.ret r=>some r|.next v23=>some (v23,(⟨(0:Int),(0:Int)⟩:D8)))) else none)

def aC3 (N:Nat) (a0:Wd) (a1:Int) (a2:Me):List Ins→Nat→Option (C9 D8 Unit)
  |[],k26=>some (.next ())
  |x32::rest29,k26=>((aK0 N a0 a1 a2 x32).bind fun r35=>(bif (!decide (r35=(0:Int))) then some (.ret (⟨r35,(k26:Int)⟩:D8)) else aC3 N a0 a1 a2 rest29 (k26+1)))

def aN6 (N:Nat) (a0:Wd) (a1:Int) (a2:Me):Option D8 :=
  (((bif decide (a1 < (0:Int)) then some (true) else some (decide ((a0.classes.length:Int)≤a1))):Option Bool).bind fun v1=>(bif v1 then some (⟨(6:Int),(0:Int)⟩:D8) else ((aH6 N a2.name).bind fun r7=>(bif (!r7) then some (⟨(7:Int),(0:Int)⟩:D8) else (((bif decide (a2.args < (0:Int)) then some (true) else (bif decide ((4:Int) < a2.args) then some (true) else (bif decide (a2.temps < (0:Int)) then some (true) else some (decide ((6:Int) < a2.temps))))):Option Bool).bind fun v10=>(bif v10 then some (⟨(3:Int),(0:Int)⟩:D8) else (bif (!decide (a2.prim=(0:Int))) then some (⟨(1:Int),(0:Int)⟩:D8) else (((bif decide ((a2.code.length:Int) < (1:Int)) then some (true) else some (decide ((60:Int) < (a2.code.length:Int)))):Option Bool).bind fun v18=>(bif v18 then some (⟨(5:Int),(0:Int)⟩:D8) else ((aC3 N a0 a1 a2 a2.code 0).bind fun o=>match o with|.ret r=>some r|.next ()=>((aK2 N a2).bind fun r38=>some r38.2)))))))))))

def q9 (N:Nat) (a0:(List Me)) (a1:ByteArray) (g2:(Me→ByteArray→Option Int)):Nat→Int→Int→Option (Int)
  |0,_,_=>none
  |n12+1,v3,v4=>(bif decide (v3 < v4) then (((bif decide (0≤(wr (v3+v4))) then (bif decide (D6 ((wr (v3+v4)) / 2)) then ((F5 a0 ((wr (v3+v4)) / 2)).bind fun x20=>((g2 x20 a1).bind fun r22=>(((bif decide (r22 < (0:Int)) then some (((wr (((wr (v3+v4)) / 2)+(1:Int))),v4)) else some ((v3,((wr (v3+v4)) / 2)))):Option (Int×Int)).bind fun (v24,v25)=>some ((v24,v25))))) else none) else none):Option (Int×Int)).bind fun (v14,v15)=>q9 N a0 a1 g2 n12 v14 v15) else some (v3))

def y9 (N:Nat) (a0:(List Me)) (a1:ByteArray) (g2:Me→ByteArray→Option Int):Option (Int×Bool) :=
  ((q9 N a0 a1 g2 N (0:Int) (a0.length:Int)).bind fun v7=>(((bif decide (v7 < (a0.length:Int)) then ((F5 a0 v7).bind fun x33=>((g2 x33 a1).bind fun r35=>some (decide (r35=(0:Int))))) else some (false)):Option Bool).bind fun v29=>some (v7,v29)))

def cmp_isNaN_string (N:Nat) (a0:ByteArray):Option Bool :=
  some (!decide (a0=a0))

def aF4 (N:Nat) (a0:ByteArray) (a1:ByteArray):Option Int :=
  ((cmp_isNaN_string N a0).bind fun r1=>((cmp_isNaN_string N a1).bind fun r3=>(bif r1 then (bif r3 then some (0:Int) else some (-1:Int)) else (bif r3 then some (1:Int) else (bif (ltS a0 a1) then some (-1:Int) else (bif (!(ltS a0 a1 || decide (a0=a1))) then some (1:Int) else some (0:Int)))))))

def V8 (N:Nat) (a0:Me) (a1:ByteArray):Option Int :=
  ((aF4 N a0.name a1).bind fun r1=>some r1)

def aM2 (N:Nat) (a0:V) (a1:Int):Option Int :=
  (((((bif decide (a0.k=(0:Int)) then some (decide (a0.k=(0:Int))) else (((bif decide (a0.k=(1:Int)) then some (decide (a0.k=(1:Int))) else some (decide (a0.k=(2:Int)))):Option Bool).bind fun v7=>some (v7))):Option Bool).bind fun v3=>(((bif v3 then (bif (!decide (a0.n=(0:Int))) then some (.ret (2:Int)) else some (.next ())) else (((bif decide (a0.k=(3:Int)) then (((bif decide (a0.n < (-1073741824:Int)) then some (true) else some (decide ((1073741824:Int) < a0.n))):Option Bool).bind fun v18=>(bif v18 then some (.ret (3:Int)) else some (.next ()))) else (bif decide (a0.k=(4:Int)) then (((bif decide (a0.n < (0:Int)) then some (true) else some (decide (a1≤a0.n))):Option Bool).bind fun v24=>(bif v24 then some (.ret (6:Int)) else some (.next ()))) else some (.ret (1:Int)))):Option (C9 Int Unit)).bind fun o=>match o with|.ret r=>some (.ret r)|.next ()=>some (.next ()))):Option (C9 Int Unit)).bind fun o=>match o with|.ret r=>some (.ret r)|.next ()=>some (.next ()))):Option (C9 Int Unit)).bind fun o=>match o with|.ret r=>some r|.next ()=>some (0:Int))

def Z7 (N:Nat) (a0:Wd) (a2:ByteArray):Nat→Int→Int→Option (C9 (Int×Int) Unit)
  |0,_,_=>none
  |n10+1,v2,v3=>(((bif decide ((0:Int)≤v2) then (bif decide (v2 < (a0.classes.length:Int)) then some (decide (v3≤(a0.classes.length:Int))) else some (false)) else some (false)):Option Bool).bind fun v11=>(bif v11 then ((F5 a0.classes v2).bind fun x19=>((y9 N x19.methods a2 (fun x0_ x1_=>V8 N x0_ x1_)).bind fun r21=>(bif r21.2 then some (.ret (v2,r21.1)) else ((F5 a0.classes v2).bind fun x24=>Z7 N a0 a2 n10 x24.super (wr (v3+(1:Int))))))) else some (.next ())))

def aN9 (N:Nat) (a0:Wd) (a1:Int) (a2:ByteArray):Option (Int×Int) :=
  ((Z7 N a0 a2 N a1 (0:Int)).bind fun o=>match o with|.ret r=>some r|.next ()=>some ((-1:Int),(-1:Int)))

def U2 (N:Nat) (a0:(List Int)) (a1:ByteArray):Option (Int×Bool×(List Int)) :=
  (bif Nat.ble (a0.length+a1.size) 140737488355328 then some ((a1.size:Int),true,(a0++aA0 a1)) else none)

def V6 (N:Nat) (a0:(List Int)) (a1:Int):Option (Bool×(List Int)) :=
  (bif Nat.ble ((a0.length+[a1].length)*1) 140737488355328 then some (true,(a0++[a1])) else none)

def Q3 (N:Nat) (a0:(List Int)) (a1:ByteArray):Option (List Int) :=
  ((U2 N a0 a1).bind fun r1=>((V6 N r1.2.2 (32:Int)).bind fun r3=>some r3.2))

def M8 (N:Nat):List Int→Nat→(List Int)→Option ((List Int))
  |[],k2,v3=>some (v3)
  |x11::rest8,k2,v3=>((strconv_Itoa N x11).bind fun r14=>((Q3 N v3 r14).bind fun r16=>M8 N rest8 (k2+1) r16))

def J5 (N:Nat) (a0:(List Int)) (a1:(List Int)):Option (List Int) :=
  ((M8 N a1 0 a0).bind fun v5=>some v5)

def J8 (N:Nat):List Ins→Nat→(List Int)→Option ((List Int))
  |[],k7,v8=>some (v8)
  |x16::rest13,k7,v8=>((((J5 N v8 [x16.op,x16.a]).bind fun r22=>(((bif decide (x16.op=(14:Int)) then ((Q3 N r22 x16.name).bind fun r28=>some (r28)) else some (r22)):Option (List Int)).bind fun v24=>some (v24))):Option (List Int)).bind fun v19=>J8 N rest13 (k7+1) v19)

def aB0 (N:Nat) (a0:(List Int)) (a1:Me):Option (List Int) :=
  ((Q3 N a0 a1.name).bind fun r1=>((J5 N r1 [a1.args,a1.temps,a1.prim,(a1.code.length:Int)]).bind fun r4=>((J8 N a1.code 0 r4).bind fun v10=>some v10)))

def Z9 (N:Nat):List Me→Nat→(List Int)→Option ((List Int))
  |[],k23,v24=>some (v24)
  |x32::rest29,k23,v24=>((aB0 N v24 x32).bind fun r35=>Z9 N rest29 (k23+1) r35)

def Z8 (N:Nat):List Cl→Nat→(List Int)→Option ((List Int))
  |[],k5,v6=>some (v6)
  |x14::rest11,k5,v6=>((Q3 N v6 x14.name).bind fun r17=>((J5 N r17 [x14.super,x14.slots,(x14.methods.length:Int)]).bind fun r20=>((Z9 N x14.methods 0 r20).bind fun v26=>Z8 N rest11 (k5+1) v26)))

def Z0 (N:Nat):List V→Nat→(List Int)→Option ((List Int))
  |[],k57,v58=>some (v58)
  |x66::rest63,k57,v58=>((J5 N v58 [x66.k,x66.n]).bind fun r69=>Z0 N rest63 (k57+1) r69)

def Z5 (N:Nat):List Ob→Nat→(List Int)→Option ((List Int))
  |[],k41,v42=>some (v42)
  |x50::rest47,k41,v42=>((J5 N v42 [x50.cls,(x50.slots.length:Int)]).bind fun r54=>((Z0 N x50.slots 0 r54).bind fun v60=>Z5 N rest47 (k41+1) v60))

def aO6 (N:Nat) (a0:Wd):Option (List Int) :=
  ((J5 N ([]:List Int) [a0.epoch,(a0.classes.length:Int)]).bind fun r2=>((Z8 N a0.classes 0 r2).bind fun v8=>((J5 N v8 [(a0.heap.length:Int)]).bind fun r38=>((Z5 N a0.heap 0 r38).bind fun v44=>(bif !(v44.isEmpty) then some (aA0 (strOfNums v44)) else none)))))

def I7 (N:Nat) (a0:p8):Option (ByteArray×p8) :=
  ((strings_Cut N a0.s (⟨#[32]⟩:ByteArray)).bind fun r1=>(((bif (!r1.2.2) then some (true) else some (decide (r1.1=(⟨#[]⟩:ByteArray)))):Option Bool).bind fun v3=>(bif v3 then some ((⟨#[]⟩:ByteArray),(⟨a0.s,false⟩:p8)) else some (r1.1,(⟨r1.2.1,a0.ok_⟩:p8)))))

def u6 (N:Nat) (a0:p8):Option (Int×p8) :=
  ((I7 N a0).bind fun r1=>((strconv_Atoi N r1.1).bind fun r3=>(((bif (!r3.2) then some (true) else ((strconv_Itoa N r3.1).bind fun r9=>some ((!decide (r9=r1.1))))):Option Bool).bind fun v5=>(((bif v5 then some ((⟨r1.2.s,false⟩:p8)) else some (r1.2)):Option p8).bind fun v11=>some (r3.1,v11)))))

def G7 (N:Nat) (a0:p8) (a1:Int):Option (Int×p8) :=
  ((u6 N a0).bind fun r1=>(((bif decide (r1.1 < (0:Int)) then some (true) else some (decide (a1 < r1.1))):Option Bool).bind fun v3=>(bif v3 then some ((0:Int),(⟨r1.2.s,false⟩:p8)) else some (r1.1,r1.2))))

def I5 (N:Nat):Nat→Nat→p8→(List Ins)→Option ((p8×(List Ins)))
  |0,k11,v12,v13=>some ((v12,v13))
  |n22+1,k11,v12,v13=>((u6 N v12).bind fun r26=>((u6 N r26.2).bind fun r28=>(((bif decide (r26.1=(14:Int)) then ((I7 N r28.2).bind fun r35=>some ((r35.2,r35.1))) else some ((r28.2,ByteArray.empty))):Option (p8×ByteArray)).bind fun (v30,v31)=>(bif Nat.ble ((v13.length+[(⟨r26.1,r28.1,(0:Int),(0:Int),v31⟩:Ins)].length)*48) 140737488355328 then I5 N n22 (k11+1) v30 (v13++[(⟨r26.1,r28.1,(0:Int),(0:Int),v31⟩:Ins)]) else none))))

def Q7 (N:Nat) (a0:p8):Option (Me×p8) :=
  ((I7 N a0).bind fun r1=>((u6 N r1.2).bind fun r3=>((u6 N r3.2).bind fun r5=>((u6 N r5.2).bind fun r7=>((G7 N r7.2 (60:Int)).bind fun r9=>((I5 N ((r9.1 - ((0:Nat):Int)).toNat) 0 r9.2 ([]:List Ins)).bind fun (v16,v17)=>some ((⟨r1.1,r3.1,r5.1,r7.1,v17⟩:Me),v16)))))))

def G5 (N:Nat):Nat→Nat→p8→(List Me)→Option ((p8×(List Me)))
  |0,k28,v29,v30=>some ((v29,v30))
  |n39+1,k28,v29,v30=>((Q7 N v29).bind fun r43=>(bif Nat.ble ((v30.length+[r43.1].length)*64) 140737488355328 then G5 N n39 (k28+1) r43.2 (v30++[r43.1]) else none))

def I8 (N:Nat):Nat→Nat→p8→(List Cl)→Option ((p8×(List Cl)))
  |0,k5,v6,v7=>some ((v6,v7))
  |n16+1,k5,v6,v7=>((I7 N v6).bind fun r20=>((u6 N r20.2).bind fun r22=>((u6 N r22.2).bind fun r24=>((G7 N r24.2 (8:Int)).bind fun r26=>((G5 N ((r26.1 - ((0:Nat):Int)).toNat) 0 r26.2 ([]:List Me)).bind fun (v33,v34)=>(bif Nat.ble ((v7.length+[(⟨r20.1,r22.1,r24.1,v34⟩:Cl)].length)*56) 140737488355328 then I8 N n16 (k5+1) v33 (v7++[(⟨r20.1,r22.1,r24.1,v34⟩:Cl)]) else none))))))

def F9 (N:Nat):Nat→Nat→p8→(List V)→Option ((p8×(List V)))
  |0,k68,v69,v70=>some ((v69,v70))
  |n79+1,k68,v69,v70=>((u6 N v69).bind fun r83=>((u6 N r83.2).bind fun r85=>(bif Nat.ble ((v70.length+[(⟨r83.1,r85.1⟩:V)].length)*16) 140737488355328 then F9 N n79 (k68+1) r85.2 (v70++[(⟨r83.1,r85.1⟩:V)]) else none)))

def I9 (N:Nat):Nat→Nat→p8→(List Ob)→Option ((p8×(List Ob)))
  |0,k49,v50,v51=>some ((v50,v51))
  |n60+1,k49,v50,v51=>((u6 N v50).bind fun r64=>((G7 N r64.2 (6:Int)).bind fun r66=>((F9 N ((r66.1 - ((0:Nat):Int)).toNat) 0 r66.2 ([]:List V)).bind fun (v73,v74)=>(bif Nat.ble ((v51.length+[(⟨r64.1,v74⟩:Ob)].length)*32) 140737488355328 then I9 N n60 (k49+1) v73 (v51++[(⟨r64.1,v74⟩:Ob)]) else none))))

def aC6 (N:Nat) (a0:p8):Option (Wd×p8) :=
  ((u6 N a0).bind fun r1=>((G7 N r1.2 (12:Int)).bind fun r3=>((I8 N ((r3.1 - ((0:Nat):Int)).toNat) 0 r3.2 ([]:List Cl)).bind fun (v10,v11)=>((G7 N v10 (60:Int)).bind fun r47=>((I9 N ((r47.1 - ((0:Nat):Int)).toNat) 0 r47.2 ([]:List Ob)).bind fun (v54,v55)=>some ((⟨v11,v55,r1.1⟩:Wd),v54))))))

def aN0 (N:Nat) (a0:Wd) (a1:Me):Option Bool :=
  ((aN9 N a0 (3:Int) a1.name).bind fun r1=>(((bif decide ((0:Int)≤r1.2) then ((F5 a0.classes (3:Int)).bind fun x7=>((F5 x7.methods r1.2).bind fun x9=>(bif decide (a1.prim=x9.prim) then (bif decide (a1.args=(1:Int)) then (bif decide (a1.temps=(0:Int)) then some (decide ((a1.code.length:Int)=(0:Int))) else some (false)) else some (false)) else some (false)))) else some (false)):Option Bool).bind fun v3=>some v3))

def aD5 (N:Nat) (a0:Wd):List V→Nat→Option (C9 Int Unit)
  |[],k26=>some (.next ())
  |x32::rest29,k26=>((aM2 N x32 (a0.heap.length:Int)).bind fun r36=>(bif (!decide (r36=(0:Int))) then some (.ret r36) else aD5 N a0 rest29 (k26+1)))

def aD6 (N:Nat) (a0:Wd):List Ob→Nat→Option (C9 Int Unit)
  |[],k2=>some (.next ())
  |x8::rest5,k2=>(((bif (!decide (x8.cls=(0:Int))) then (bif decide (x8.cls < (4:Int)) then some (true) else (bif decide ((a0.classes.length:Int)≤x8.cls) then some (true) else ((aC8 N a0 x8.cls).bind fun r19=>some ((!decide ((x8.slots.length:Int)=r19)))))) else ((aC8 N a0 x8.cls).bind fun r22=>some ((!decide ((x8.slots.length:Int)=r22))))):Option Bool).bind fun v11=>(bif v11 then some (.ret (8:Int)) else ((aD5 N a0 x8.slots 0).bind fun o=>match o with|.ret r=>some (.ret r)|.next ()=>aD6 N a0 rest5 (k2+1))))

def aY9 (N:Nat) (a0:Wd):Option Int :=
  ((aD6 N a0 a0.heap 0).bind fun o=>match o with|.ret r=>some r|.next ()=>some (0:Int))

def aC0 (N:Nat) (r1:Wd):List Cl→Nat→(List (ByteArray×Bool))→Option (C9 Int Unit)
  |[],k19,v20=>some (.next ())
  |x27::rest24,k19,v20=>((((aH6 N x27.name).bind fun r33=>(bif (!r33) then some (true) else (bif (aM6 x27.name v20) then some (true) else (bif decide ((k19:Int) < (r1.classes.length:Int)) then ((F5 r1.classes (k19:Int)).bind fun x39=>some ((!decide (x27.name=x39.name)))) else some (false))))):Option Bool).bind fun v30=>(bif v30 then some (.ret (7:Int)) else (bif Nat.ble (v20.length+1) 140737488355328 then (((bif decide ((k19:Int) < (r1.classes.length:Int)) then ((F5 r1.classes (k19:Int)).bind fun x48=>(bif (!decide (x27.super=x48.super)) then some (true) else (bif (!decide (x27.slots=(0:Int))) then some (true) else (bif decide ((r1.classes.length:Int)≤(k19:Int)) then (bif decide (x27.super < (0:Int)) then some (true) else (bif decide ((k19:Int)≤x27.super) then some (true) else (bif (!decide (x27.super=(0:Int))) then (bif decide (x27.super < (4:Int)) then some (true) else (bif decide (x27.slots < (0:Int)) then some (true) else some (decide ((6:Int) < x27.slots)))) else (bif decide (x27.slots < (0:Int)) then some (true) else some (decide ((6:Int) < x27.slots)))))) else (bif decide (x27.slots < (0:Int)) then some (true) else some (decide ((6:Int) < x27.slots))))))) else (bif decide ((r1.classes.length:Int)≤(k19:Int)) then (bif decide (x27.super < (0:Int)) then some (true) else (bif decide ((k19:Int)≤x27.super) then some (true) else (bif (!decide (x27.super=(0:Int))) then (bif decide (x27.super < (4:Int)) then some (true) else (bif decide (x27.slots < (0:Int)) then some (true) else some (decide ((6:Int) < x27.slots)))) else (bif decide (x27.slots < (0:Int)) then some (true) else some (decide ((6:Int) < x27.slots)))))) else (bif decide (x27.slots < (0:Int)) then some (true) else some (decide ((6:Int) < x27.slots))))):Option Bool).bind fun v43=>(bif v43 then some (.ret (3:Int)) else aC0 N r1 rest24 (k19+1) (aH1 x27.name true v20))) else none)))

def aC4 (N:Nat) (a0:Wd) (r1:Wd) (k72:Nat) (x78:Cl):List Me→Nat→Option (C9 Int Unit)
  |[],k87=>some (.next ())
  |x93::rest90,k87=>(((((bif decide ((0:Int) < (k87:Int)) then ((F5 x78.methods (wr ((k87:Int) - (1:Int)))).bind fun x102=>some ((!ltS x102.name x93.name))) else some (false)):Option Bool).bind fun v98=>(bif v98 then some (.ret (7:Int)) else (((bif (!decide (x93.prim=(0:Int))) then (bif decide ((k72:Int)=(3:Int)) then ((aN0 N r1 x93).bind fun r110=>some (r110)) else some (false)) else some (false)):Option Bool).bind fun v105=>(bif v105 then some (.next ()) else ((aN6 N a0 (k72:Int) x93).bind fun r113=>(bif (!decide (r113.err=(0:Int))) then some (.ret r113.err) else some (.next ()))))))):Option (C9 Int Unit)).bind fun o=>match o with|.ret r=>some (.ret r)|.next ()=>aC4 N a0 r1 k72 x78 rest90 (k87+1))

def aC2 (N:Nat) (a0:Wd) (r1:Wd):List Cl→Nat→Option (C9 Int Unit)
  |[],k72=>some (.next ())
  |x78::rest75,k72=>((aC8 N a0 (k72:Int)).bind fun r81=>(bif decide ((6:Int) < r81) then some (.ret (3:Int)) else (bif decide ((8:Int) < (x78.methods.length:Int)) then some (.ret (5:Int)) else ((aC4 N a0 r1 k72 x78 x78.methods 0).bind fun o=>match o with|.ret r=>some (.ret r)|.next ()=>aC2 N a0 r1 rest75 (k72+1)))))

def aH5 (N:Nat) (a0:Wd):Option Int :=
  ((bG2 N).bind fun r1=>(((bif decide ((a0.classes.length:Int) < (r1.classes.length:Int)) then some (true) else (bif decide ((12:Int) < (a0.classes.length:Int)) then some (true) else some (decide ((60:Int) < (a0.heap.length:Int))))):Option Bool).bind fun v3=>(bif v3 then some (5:Int) else (((bif decide (a0.epoch < (0:Int)) then some (true) else some (decide ((1073741824:Int) < a0.epoch))):Option Bool).bind fun v13=>(bif v13 then some (3:Int) else ((aC0 N r1 a0.classes 0 ([]:(List (ByteArray×Bool)))).bind fun o=>match o with|.ret r=>some r|.next ()=>((aC2 N a0 r1 a0.classes 0).bind fun o=>match o with|.ret r=>some r|.next ()=>((aY9 N a0).bind fun r116=>some r116))))))))

def aN8 (N:Nat) (a0:(List Int)):Option (Wd×Int) :=
  ((aC6 N (⟨(strOfNums a0),true⟩:p8)).bind fun r1=>(((bif (!r1.2.ok_) then some (true) else some ((!decide (r1.2.s=(⟨#[]⟩:ByteArray))))):Option Bool).bind fun v3=>(bif v3 then some ((⟨[],[],(0:Int)⟩:Wd),(2:Int)) else ((aH5 N r1.1).bind fun r8=>(bif (!decide (r8=(0:Int))) then some ((⟨[],[],(0:Int)⟩:Wd),r8) else some (r1.1,(0:Int)))))))

def aA2 (N:Nat) (a0:ByteArray):Nat→Nat→Option (C9 Bool Unit)
  |0,k2=>some (.next ())
  |n7+1,k2=>((((byO a0 (k2:Int)).bind fun u14=>(bif decide ((u14.toNat:Int) < (33:Int)) then some (true) else ((byO a0 (k2:Int)).bind fun u17=>some (decide ((126:Int) < (u17.toNat:Int)))))):Option Bool).bind fun v11=>(bif v11 then some (.ret false) else aA2 N a0 n7 (k2+1)))

def aF6 (N:Nat) (a0:ByteArray):Option Bool :=
  ((aA2 N a0 (((a0.size:Int) - ((0:Nat):Int)).toNat) 0).bind fun o=>match o with|.ret r=>some r|.next ()=>(((bif decide ((0:Int) < (a0.size:Int)) then some (decide ((a0.size:Int)≤(12:Int))) else some (false)):Option Bool).bind fun v20=>some v20))

def aC1 (N:Nat) (a0:Wd):Nat→Int→(List Int)→Option ((List Int))
  |0,_,_=>none
  |n11+1,v2,v3=>(((bif decide ((0:Int)≤v2) then (bif decide (v2 < (a0.classes.length:Int)) then some (decide ((v3.length:Int)≤(a0.classes.length:Int))) else some (false)) else some (false)):Option Bool).bind fun v12=>(bif v12 then (bif Nat.ble ((v3.length+[v2].length)*8) 140737488355328 then ((F5 a0.classes v2).bind fun x22=>aC1 N a0 n11 x22.super (v3++[v2])) else none) else some (v3)))

def aP0 (N:Nat) (a0:Wd) (a1:Int):Option (List Int) :=
  ((aC1 N a0 N a1 ([]:List Int)).bind fun v6=>some v6)

def X8 (N:Nat) (a0:Wd) (r1:(List Int)):List Int→Nat→Int→Option (Int)
  |[],k4,v5=>some (v5)
  |x13::rest10,k4,v5=>((F5 r1 (k4:Int)).bind fun x16=>((F5 a0.classes x16).bind fun x18=>X8 N a0 r1 rest10 (k4+1) (wr (v5+x18.slots))))

def aB5 (N:Nat) (a0:Wd) (a1:Int):Option Int :=
  ((aP0 N a0 a1).bind fun r1=>((X8 N a0 r1 r1 0 (0:Int)).bind fun v7=>some v7))

def aA3 (N:Nat) (a0:Wd) (a1:Int) (a2:Me) (a3:Ins):Option Int :=
  (((((bif decide (a3.op=(1:Int)) then some (decide (a3.op=(1:Int))) else (((bif decide (a3.op=(6:Int)) then some (decide (a3.op=(6:Int))) else (((bif decide (a3.op=(7:Int)) then some (decide (a3.op=(7:Int))) else (((bif decide (a3.op=(8:Int)) then some (decide (a3.op=(8:Int))) else (((bif decide (a3.op=(9:Int)) then some (decide (a3.op=(9:Int))) else (((bif decide (a3.op=(10:Int)) then some (decide (a3.op=(10:Int))) else some (decide (a3.op=(17:Int)))):Option Bool).bind fun v25=>some (v25))):Option Bool).bind fun v21=>some (v21))):Option Bool).bind fun v17=>some (v17))):Option Bool).bind fun v13=>some (v13))):Option Bool).bind fun v9=>some (v9))):Option Bool).bind fun v5=>(((bif v5 then some (.next ((0:Int),(0:Int))) else (((bif decide (a3.op=(2:Int)) then some (.next ((0:Int),(wr (a2.args - (1:Int))))) else (((bif decide (a3.op=(3:Int)) then some (decide (a3.op=(3:Int))) else some (decide (a3.op=(11:Int)))):Option Bool).bind fun v39=>(((bif v39 then some (.next ((0:Int),(wr (a2.temps - (1:Int))))) else (((bif decide (a3.op=(4:Int)) then some (decide (a3.op=(4:Int))) else some (decide (a3.op=(12:Int)))):Option Bool).bind fun v48=>(((bif v48 then ((aB5 N a0 a1).bind fun r57=>some (.next ((0:Int),(wr (r57 - (1:Int)))))) else (((bif decide (a3.op=(5:Int)) then some (.next ((-1073741824:Int),(1073741824:Int))) else (((bif decide (a3.op=(13:Int)) then (((bif decide ((0:Int) < a3.a) then some (decide (a3.a < (4:Int))) else some (false)):Option Bool).bind fun v69=>(bif v69 then some (.ret (3:Int)) else some (.next (wr ((a0.classes.length:Int) - (1:Int)))))) else (((bif decide (a3.op=(14:Int)) then some (.next (4:Int)) else (((bif decide (a3.op=(15:Int)) then some (decide (a3.op=(15:Int))) else some (decide (a3.op=(16:Int)))):Option Bool).bind fun v78=>(bif v78 then some (.next (wr ((a2.code.length:Int) - (1:Int)))) else some (.ret (1:Int))))):Option (C9 Int Int)).bind fun o=>match o with|.ret r=>some (.ret r)|.next v74=>some (.next v74))):Option (C9 Int Int)).bind fun o=>match o with|.ret r=>some (.ret r)|.next v64=>some (.next ((0:Int),v64)))):Option (C9 Int (Int×Int))).bind fun o=>match o with|.ret r=>some (.ret r)|.next (v59,v60)=>some (.next (v59,v60)))):Option (C9 Int (Int×Int))).bind fun o=>match o with|.ret r=>some (.ret r)|.next (v52,v53)=>some (.next (v52,v53))))):Option (C9 Int (Int×Int))).bind fun o=>match o with|.ret r=>some (.ret r)|.next (v43,v44)=>some (.next (v43,v44))))):Option (C9 Int (Int×Int))).bind fun o=>match o with|.ret r=>some (.ret r)|.next (v34,v35)=>some (.next (v34,v35)))):Option (C9 Int (Int×Int))).bind fun o=>match o with|.ret r=>some (.ret r)|.next (v29,v30)=>some (.next (v29,v30)))):Option (C9 Int (Int×Int))).bind fun o=>match o with|.ret r=>some r|.next (v1,v2)=>(((bif decide (a3.a < v1) then some (true) else some (decide (v2 < a3.a))):Option Bool).bind fun v84=>(bif v84 then some (3:Int) else (((bif decide (a3.op=(14:Int)) then ((aF6 N a3.name).bind fun r93=>(bif (!r93) then some (true) else (bif (!decide (a3.op=(14:Int))) then (bif (!decide (a3.name=(⟨#[]⟩:ByteArray))) then some (true) else (bif (!decide (a3.b=(0:Int))) then some (true) else some ((!decide (a3.c=(0:Int)))))) else (bif (!decide (a3.b=(0:Int))) then some (true) else some ((!decide (a3.c=(0:Int)))))))) else (bif (!decide (a3.op=(14:Int))) then (bif (!decide (a3.name=(⟨#[]⟩:ByteArray))) then some (true) else (bif (!decide (a3.b=(0:Int))) then some (true) else some ((!decide (a3.c=(0:Int)))))) else (bif (!decide (a3.b=(0:Int))) then some (true) else some ((!decide (a3.c=(0:Int))))))):Option Bool).bind fun v89=>(bif v89 then some (2:Int) else some (0:Int))))))

def aL5 (N:Nat) (a0:Ins) (a1:Int):Option (Int×Int×(List Int)) :=
  (((bif decide (a0.op=(9:Int)) then some (decide (a0.op=(9:Int))) else (((bif decide (a0.op=(11:Int)) then some (decide (a0.op=(11:Int))) else some (decide (a0.op=(12:Int)))):Option Bool).bind fun v5=>some (v5))):Option Bool).bind fun v1=>(bif v1 then some ((1:Int),(-1:Int),[(wr (a1+(1:Int)))]) else (bif decide (a0.op=(10:Int)) then some ((1:Int),(1:Int),[(wr (a1+(1:Int)))]) else (bif decide (a0.op=(14:Int)) then (bif decide (D6 (-a0.a)) then some ((wr (a0.a+(1:Int))),(-a0.a),[(wr (a1+(1:Int)))]) else none) else (bif decide (a0.op=(15:Int)) then some ((0:Int),(0:Int),[a0.a]) else (bif decide (a0.op=(16:Int)) then some ((1:Int),(-1:Int),[(wr (a1+(1:Int))),a0.a]) else (bif decide (a0.op=(17:Int)) then some ((1:Int),(-1:Int),([]:List Int)) else some ((0:Int),(1:Int),[(wr (a1+(1:Int)))]))))))))

def O7 (N:Nat):Nat→Nat→(List Int)→Option ((List Int))
  |0,k4,v5=>some (v5)
  |n12+1,k4,v5=>((F5 v5 (k4:Int)).bind fun x16=>O7 N n12 (k4+1) (v5.set ((k4:Int).toNat) (-1:Int)))

def O6 (N:Nat) (x42:Int) (r61:(Int×Int×(List Int))):List Int→Nat→(List Int)→(List Int)→Option (((List Int)×(List Int)))
  |[],k73,v74,v75=>some ((v74,v75))
  |x85::rest82,k73,v74,v75=>((F5 r61.2.2 (k73:Int)).bind fun x88=>(bif Nat.ble ((v74.length+[x88].length)*8) 140737488355328 then (bif Nat.ble ((v75.length+[(wr (x42+r61.2.1))].length)*8) 140737488355328 then O6 N x42 r61 rest82 (k73+1) (v74++[x88]) (v75++[(wr (x42+r61.2.1))]) else none) else none))

def O5 (N:Nat) (a0:Me):Nat→(List Int)→(List Int)→(List Int)→Int→Option (C9 ((List Int)×D8) (List Int))
  |0,_,_,_,_=>none
  |n32+1,v19,v20,v21,v22=>(bif decide (v22 < (v20.length:Int)) then ((((F5 v20 v22).bind fun x40=>((F5 v21 v22).bind fun x42=>(((bif decide ((a0.code.length:Int)≤x40) then some (true) else some (decide (x40 < (0:Int)))):Option Bool).bind fun v44=>(bif v44 then some (.ret (([]:List Int),(⟨(9:Int),(a0.code.length:Int)⟩:D8))) else ((F5 v19 x40).bind fun x51=>(bif decide ((0:Int)≤x51) then ((F5 v19 x40).bind fun x54=>(bif (!decide (x54=x42)) then some (.ret (([]:List Int),(⟨(8:Int),x40⟩:D8))) else some (.next (v19,v20,v21)))) else ((F5 v19 x40).bind fun x57=>((F5 a0.code x40).bind fun x59=>((aL5 N x59 x40).bind fun r61=>(((bif decide (x42 < r61.1) then some (true) else ((F5 a0.code x40).bind fun x67=>(bif decide (x67.op=(17:Int)) then some ((!decide (x42=(1:Int)))) else some (false)))):Option Bool).bind fun v63=>(bif v63 then some (.ret (([]:List Int),(⟨(8:Int),x40⟩:D8))) else (bif decide ((12:Int) < (wr (x42+r61.2.1))) then some (.ret (([]:List Int),(⟨(4:Int),x40⟩:D8))) else ((O6 N x42 r61 r61.2.2 0 v20 v21).bind fun (v78,v79)=>some (.next ((v19.set x40.toNat x42),v78,v79))))))))))))))):Option (C9 ((List Int)×D8) ((List Int)×(List Int)×(List Int)))).bind fun o=>match o with|.ret r=>some (.ret r)|.next (v35,v36,v37)=>O5 N a0 n32 v35 v36 v37 (wr (v22+(1:Int)))) else some (.next v19))

def aG7 (N:Nat) (a0:Me):Option ((List Int)×D8) :=
  (bif (decide (0≤(a0.code.length:Int)) && decide ((a0.code.length:Int)≤140737488355328) && decide ((a0.code.length:Int)*8≤140737488355328)) then ((O7 N ((((List.replicate (a0.code.length:Int).toNat (0:Int)).length:Int) - ((0:Nat):Int)).toNat) 0 (List.replicate (a0.code.length:Int).toNat (0:Int))).bind fun v7=>((O5 N a0 N v7 [(0:Int)] [(0:Int)] (0:Int)).bind fun o=>match o with|.ret r=>some r|.next v27=>some (v27,(⟨(0:Int),(0:Int)⟩:D8)))) else none)

def Y4 (N:Nat) (a0:Wd) (a1:Int) (a2:Me):List Ins→Nat→Option (C9 D8 Unit)
  |[],k26=>some (.next ())
  |x32::rest29,k26=>((aA3 N a0 a1 a2 x32).bind fun r35=>(bif (!decide (r35=(0:Int))) then some (.ret (⟨r35,(k26:Int)⟩:D8)) else Y4 N a0 a1 a2 rest29 (k26+1)))

def aK1 (N:Nat) (a0:Wd) (a1:Int) (a2:Me):Option D8 :=
  (((bif decide (a1 < (0:Int)) then some (true) else some (decide ((a0.classes.length:Int)≤a1))):Option Bool).bind fun v1=>(bif v1 then some (⟨(6:Int),(0:Int)⟩:D8) else ((aF6 N a2.name).bind fun r7=>(bif (!r7) then some (⟨(7:Int),(0:Int)⟩:D8) else (((bif decide (a2.args < (0:Int)) then some (true) else (bif decide ((4:Int) < a2.args) then some (true) else (bif decide (a2.temps < (0:Int)) then some (true) else some (decide ((6:Int) < a2.temps))))):Option Bool).bind fun v10=>(bif v10 then some (⟨(3:Int),(0:Int)⟩:D8) else (bif (!decide (a2.prim=(0:Int))) then some (⟨(1:Int),(0:Int)⟩:D8) else (((bif decide ((a2.code.length:Int)=(0:Int)) then some (true) else some (decide ((60:Int) < (a2.code.length:Int)))):Option Bool).bind fun v18=>(bif v18 then some (⟨(5:Int),(0:Int)⟩:D8) else ((Y4 N a0 a1 a2 a2.code 0).bind fun o=>match o with|.ret r=>some r|.next ()=>((aG7 N a2).bind fun r38=>some r38.2)))))))))))

def aJ2 (N:Nat) (a0:V) (a1:Int):Option Int :=
  (((bif decide (a0.k < (0:Int)) then some (true) else some (decide ((4:Int) < a0.k))):Option Bool).bind fun v1=>(bif v1 then some (1:Int) else (((bif decide (a0.k < (3:Int)) then some ((!decide (a0.n=(0:Int)))) else some (false)):Option Bool).bind fun v6=>(bif v6 then some (2:Int) else (((bif decide (a0.k=(3:Int)) then (bif decide (a0.n < (-1073741824:Int)) then some (true) else some (decide ((1073741824:Int) < a0.n))) else some (false)):Option Bool).bind fun v11=>(bif v11 then some (3:Int) else (((bif decide (a0.k=(4:Int)) then (bif decide (a0.n < (0:Int)) then some (true) else some (decide (a1≤a0.n))) else some (false)):Option Bool).bind fun v17=>(bif v17 then some (6:Int) else some (0:Int)))))))))

def Y2 (N:Nat) (x24:Cl):List Cl→Nat→Option (C9 Int Unit)
  |[],k39=>some (.next ())
  |x45::rest42,k39=>(bif decide (x45.name=x24.name) then some (.ret (7:Int)) else Y2 N x24 rest42 (k39+1))

def X0 (N:Nat) (a0:Wd) (r1:Wd):List Cl→Nat→Option (C9 Int Unit)
  |[],k18=>some (.next ())
  |x24::rest21,k18=>((((aF6 N x24.name).bind fun r30=>(bif (!r30) then some (true) else (bif decide ((k18:Int) < (4:Int)) then ((F5 r1.classes (k18:Int)).bind fun x34=>some ((!decide (x24.name=x34.name)))) else some (false)))):Option Bool).bind fun v27=>(bif v27 then some (.ret (7:Int)) else (bif (decide (0≤(k18:Int)) && decide ((k18:Int)≤(a0.classes.length:Int))) then ((Y2 N x24 (a0.classes.take (k18:Int).toNat) 0).bind fun o=>match o with|.ret r=>some (.ret r)|.next ()=>(((bif decide ((k18:Int) < (4:Int)) then ((F5 r1.classes (k18:Int)).bind fun x53=>(bif (!decide (x24.super=x53.super)) then some (.ret (3:Int)) else some (.next (0:Int)))) else (((bif decide (x24.super < (0:Int)) then some (true) else (bif decide ((k18:Int)≤x24.super) then some (true) else (bif decide ((0:Int) < x24.super) then some (decide (x24.super < (4:Int))) else some (false)))):Option Bool).bind fun v56=>(bif v56 then some (.ret (3:Int)) else some (.next (6:Int))))):Option (C9 Int Int)).bind fun o=>match o with|.ret r=>some (.ret r)|.next v49=>(((bif decide (x24.slots < (0:Int)) then some (true) else some (decide (v49 < x24.slots))):Option Bool).bind fun v63=>(bif v63 then some (.ret (3:Int)) else X0 N a0 r1 rest21 (k18+1))))) else none)))

def P9 (N:Nat) (k69:Nat) (x90:Me):List Me→Nat→Bool→Option (Bool)
  |[],k103,v104=>some (v104)
  |x112::rest109,k103,v104=>(((((bif v104 then some (true) else (bif decide ((k69:Int)=(3:Int)) then (bif decide (x112.name=x90.name) then (bif decide (x112.prim=x90.prim) then (bif decide (x90.args=(1:Int)) then (bif decide (x90.temps=(0:Int)) then some (decide ((x90.code.length:Int)=(0:Int))) else some (false)) else some (false)) else some (false)) else some (false)) else some (false))):Option Bool).bind fun v118=>some (v118)):Option Bool).bind fun v115=>P9 N k69 x90 rest109 (k103+1) v115)

def Y5 (N:Nat) (a0:Wd) (r1:Wd) (k69:Nat) (x75:Cl):List Me→Nat→Option (C9 Int Unit)
  |[],k84=>some (.next ())
  |x90::rest87,k84=>(((bif decide ((0:Int) < (k84:Int)) then ((F5 x75.methods (wr ((k84:Int) - (1:Int)))).bind fun x97=>some ((!ltS x97.name x90.name))) else some (false)):Option Bool).bind fun v93=>(bif v93 then some (.ret (7:Int)) else ((F5 r1.classes (3:Int)).bind fun x100=>((P9 N k69 x90 x100.methods 0 false).bind fun v106=>((aK1 N a0 (k69:Int) x90).bind fun r128=>(((bif (!v106) then some ((!decide (r128.err=(0:Int)))) else some (false)):Option Bool).bind fun v130=>(bif v130 then some (.ret r128.err) else Y5 N a0 r1 k69 x75 rest87 (k84+1))))))))

def V9 (N:Nat) (a0:Wd) (r1:Wd):List Cl→Nat→Option (C9 Int Unit)
  |[],k69=>some (.next ())
  |x75::rest72,k69=>((aB5 N a0 (k69:Int)).bind fun r78=>(bif decide ((6:Int) < r78) then some (.ret (3:Int)) else (bif decide ((8:Int) < (x75.methods.length:Int)) then some (.ret (5:Int)) else ((Y5 N a0 r1 k69 x75 x75.methods 0).bind fun o=>match o with|.ret r=>some (.ret r)|.next ()=>V9 N a0 r1 rest72 (k69+1)))))

def Y7 (N:Nat) (a0:Wd):List V→Nat→Option (C9 Int Unit)
  |[],k163=>some (.next ())
  |x169::rest166,k163=>((aJ2 N x169 (a0.heap.length:Int)).bind fun r173=>(bif (!decide (r173=(0:Int))) then some (.ret r173) else Y7 N a0 rest166 (k163+1)))

def Y0 (N:Nat) (a0:Wd):List Ob→Nat→Option (C9 Int Unit)
  |[],k136=>some (.next ())
  |x142::rest139,k136=>(((bif decide (x142.cls < (0:Int)) then some (true) else (bif decide ((0:Int) < x142.cls) then (bif decide (x142.cls < (4:Int)) then some (true) else (bif decide ((a0.classes.length:Int)≤x142.cls) then some (true) else ((aB5 N a0 x142.cls).bind fun r154=>some ((!decide ((x142.slots.length:Int)=r154)))))) else (bif decide ((a0.classes.length:Int)≤x142.cls) then some (true) else ((aB5 N a0 x142.cls).bind fun r159=>some ((!decide ((x142.slots.length:Int)=r159))))))):Option Bool).bind fun v145=>(bif v145 then some (.ret (8:Int)) else ((Y7 N a0 x142.slots 0).bind fun o=>match o with|.ret r=>some (.ret r)|.next ()=>Y0 N a0 rest139 (k136+1))))

def aA9 (N:Nat) (a0:Wd):Option Int :=
  ((bB1 N).bind fun r1=>(((bif decide ((a0.classes.length:Int) < (4:Int)) then some (true) else (bif decide ((12:Int) < (a0.classes.length:Int)) then some (true) else some (decide ((60:Int) < (a0.heap.length:Int))))):Option Bool).bind fun v3=>(bif v3 then some (5:Int) else (((bif decide (a0.epoch < (0:Int)) then some (true) else some (decide ((1073741824:Int) < a0.epoch))):Option Bool).bind fun v12=>(bif v12 then some (3:Int) else ((X0 N a0 r1 a0.classes 0).bind fun o=>match o with|.ret r=>some r|.next ()=>((V9 N a0 r1 a0.classes 0).bind fun o=>match o with|.ret r=>some r|.next ()=>((Y0 N a0 a0.heap 0).bind fun o=>match o with|.ret r=>some r|.next ()=>some (0:Int)))))))))

def N9 (N:Nat):List Int→Nat→ByteArray→Option (ByteArray)
  |[],k2,v3=>some (v3)
  |x11::rest8,k2,v3=>((strconv_Itoa N x11).bind fun r14=>(bif decide (v3.size+r14.size≤4611686018427387904) then (bif decide ((v3++r14).size+(⟨#[32]⟩:ByteArray).size≤4611686018427387904) then N9 N rest8 (k2+1) ((v3++r14)++(⟨#[32]⟩:ByteArray)) else none) else none))

def K7 (N:Nat) (a0:(List Int)) (b0:ByteArray):Option ByteArray :=
  ((N9 N a0 0 b0).bind fun v5=>some v5)

def Q9 (N:Nat):List Ins→Nat→ByteArray→Option (ByteArray)
  |[],k41,v42=>some (v42)
  |x50::rest47,k41,v42=>((((K7 N [x50.op,x50.a] v42).bind fun r56=>(((bif decide (x50.op=(14:Int)) then (bif decide (r56.size+x50.name.size≤4611686018427387904) then (bif decide ((r56++x50.name).size+(⟨#[32]⟩:ByteArray).size≤4611686018427387904) then some (((r56++x50.name)++(⟨#[32]⟩:ByteArray))) else none) else none) else some (r56)):Option ByteArray).bind fun v58=>some (v58))):Option ByteArray).bind fun v53=>Q9 N rest47 (k41+1) v53)

def O4 (N:Nat):List Me→Nat→ByteArray→Option (ByteArray)
  |[],k23,v24=>some (v24)
  |x32::rest29,k23,v24=>(bif decide (v24.size+x32.name.size≤4611686018427387904) then (bif decide ((v24++x32.name).size+(⟨#[32]⟩:ByteArray).size≤4611686018427387904) then ((K7 N [x32.args,x32.temps,x32.prim,(x32.code.length:Int)] ((v24++x32.name)++(⟨#[32]⟩:ByteArray))).bind fun r38=>((Q9 N x32.code 0 r38).bind fun v44=>O4 N rest29 (k23+1) v44)) else none) else none)

def Q8 (N:Nat):List Cl→Nat→ByteArray→Option (ByteArray)
  |[],k5,v6=>some (v6)
  |x14::rest11,k5,v6=>(bif decide (v6.size+x14.name.size≤4611686018427387904) then (bif decide ((v6++x14.name).size+(⟨#[32]⟩:ByteArray).size≤4611686018427387904) then ((K7 N [x14.super,x14.slots,(x14.methods.length:Int)] ((v6++x14.name)++(⟨#[32]⟩:ByteArray))).bind fun r20=>((O4 N x14.methods 0 r20).bind fun v26=>Q8 N rest11 (k5+1) v26)) else none) else none)

def V5 (N:Nat):List V→Nat→ByteArray→Option (ByteArray)
  |[],k84,v85=>some (v85)
  |x93::rest90,k84,v85=>((K7 N [x93.k,x93.n] v85).bind fun r96=>V5 N rest90 (k84+1) r96)

def V4 (N:Nat):List Ob→Nat→ByteArray→Option (ByteArray)
  |[],k68,v69=>some (v69)
  |x77::rest74,k68,v69=>((K7 N [x77.cls,(x77.slots.length:Int)] v69).bind fun r81=>((V5 N x77.slots 0 r81).bind fun v87=>V4 N rest74 (k68+1) v87))

def aM3 (N:Nat) (a0:Wd):Option ByteArray :=
  ((K7 N [a0.epoch,(a0.classes.length:Int)] (⟨#[]⟩:ByteArray)).bind fun r2=>((Q8 N a0.classes 0 r2).bind fun v8=>((K7 N [(a0.heap.length:Int)] v8).bind fun r65=>((V4 N a0.heap 0 r65).bind fun v71=>some v71))))

def L8 (N:Nat) (a0:ByteArray):Nat→Nat→(List ByteArray)→ByteArray→Option (C9 ((List ByteArray)×Bool) ((List ByteArray)×ByteArray))
  |0,k2,v3,v4=>some (.next (v3,v4))
  |n13+1,k2,v3,v4=>((((byO a0 (k2:Int)).bind fun u21=>(bif (!decide ((u21.toNat:Int)=(32:Int))) then (bif (decide (0≤(k2:Int)) && (decide ((k2:Int)≤((k2:Int)+1)) && decide (((k2:Int)+1)≤(a0.size:Int)))) then (bif decide (v4.size+(a0.extract (k2:Int).toNat ((k2:Int)+1).toNat).size≤4611686018427387904) then some (.next (v3,(v4++(a0.extract (k2:Int).toNat ((k2:Int)+1).toNat)))) else none) else none) else (bif decide (v4=(⟨#[]⟩:ByteArray)) then some (.ret (([]:List ByteArray),false)) else (bif Nat.ble ((v3.length+[v4].length)*16) 140737488355328 then some (.next ((v3++[v4]),(⟨#[]⟩:ByteArray))) else none)))):Option (C9 ((List ByteArray)×Bool) ((List ByteArray)×ByteArray))).bind fun o=>match o with|.ret r=>some (.ret r)|.next (v17,v18)=>L8 N a0 n13 (k2+1) v17 v18)

def aD9 (N:Nat) (a0:ByteArray):Option ((List ByteArray)×Bool) :=
  ((L8 N a0 (((a0.size:Int) - ((0:Nat):Int)).toNat) 0 ([]:List ByteArray) (⟨#[]⟩:ByteArray)).bind fun o=>match o with|.ret r=>some r|.next (v7,v8)=>some (v7,decide (v8=(⟨#[]⟩:ByteArray))))

def N8 (N:Nat) (a0:H9):Option (ByteArray×H9) :=
  (bif decide ((a0.l.length:Int)=(0:Int)) then some ((⟨#[]⟩:ByteArray),(⟨a0.l,false⟩:H9)) else ((F5 a0.l (0:Int)).bind fun x3=>(bif (decide (0≤(1:Int)) && decide ((1:Int)≤(a0.l.length:Int))) then some (x3,(⟨(a0.l.drop (1:Int).toNat),a0.ok_⟩:H9)) else none)))

def w9 (N:Nat) (a0:H9):Option (Int×H9) :=
  ((N8 N a0).bind fun r1=>((strconv_Atoi N r1.1).bind fun r3=>(((bif (!r3.2) then some (true) else ((strconv_Itoa N r3.1).bind fun r9=>some ((!decide (r9=r1.1))))):Option Bool).bind fun v5=>(((bif v5 then some ((⟨r1.2.l,false⟩:H9)) else some (r1.2)):Option H9).bind fun v11=>some (r3.1,v11)))))

def I1 (N:Nat) (a0:H9) (a1:Int):Option (Int×H9) :=
  ((w9 N a0).bind fun r1=>(((bif decide (r1.1 < (0:Int)) then some (true) else (bif decide (a1 < r1.1) then some (true) else some ((!r1.2.ok_)))):Option Bool).bind fun v3=>(bif v3 then some ((0:Int),(⟨r1.2.l,false⟩:H9)) else some (r1.1,r1.2))))

def K9 (N:Nat):Nat→Nat→H9→(List Ins)→Option ((H9×(List Ins)))
  |0,k56,v57,v58=>some ((v57,v58))
  |n67+1,k56,v57,v58=>((w9 N v57).bind fun r71=>((w9 N r71.2).bind fun r73=>(((bif decide (r71.1=(14:Int)) then ((N8 N r73.2).bind fun r80=>some ((r80.2,r80.1))) else some ((r73.2,ByteArray.empty))):Option (H9×ByteArray)).bind fun (v75,v76)=>(bif Nat.ble ((v58.length+[(⟨r71.1,r73.1,(0:Int),(0:Int),v76⟩:Ins)].length)*48) 140737488355328 then K9 N n67 (k56+1) v75 (v58++[(⟨r71.1,r73.1,(0:Int),(0:Int),v76⟩:Ins)]) else none))))

def M5 (N:Nat):Nat→Nat→H9→(List Me)→Option ((H9×(List Me)))
  |0,k31,v32,v33=>some ((v32,v33))
  |n42+1,k31,v32,v33=>((N8 N v32).bind fun r46=>((w9 N r46.2).bind fun r48=>((w9 N r48.2).bind fun r50=>((w9 N r50.2).bind fun r52=>((I1 N r52.2 (60:Int)).bind fun r54=>((K9 N ((r54.1 - ((0:Nat):Int)).toNat) 0 r54.2 ([]:List Ins)).bind fun (v61,v62)=>(bif Nat.ble ((v33.length+[(⟨r46.1,r48.1,r50.1,r52.1,v62⟩:Me)].length)*64) 140737488355328 then M5 N n42 (k31+1) v61 (v33++[(⟨r46.1,r48.1,r50.1,r52.1,v62⟩:Me)]) else none)))))))

def L9 (N:Nat):Nat→Nat→H9→(List Cl)→Option ((H9×(List Cl)))
  |0,k8,v9,v10=>some ((v9,v10))
  |n19+1,k8,v9,v10=>((N8 N v9).bind fun r23=>((w9 N r23.2).bind fun r25=>((w9 N r25.2).bind fun r27=>((I1 N r27.2 (8:Int)).bind fun r29=>((M5 N ((r29.1 - ((0:Nat):Int)).toNat) 0 r29.2 ([]:List Me)).bind fun (v36,v37)=>(bif Nat.ble ((v10.length+[(⟨r23.1,r25.1,r27.1,v37⟩:Cl)].length)*56) 140737488355328 then L9 N n19 (k8+1) v36 (v10++[(⟨r23.1,r25.1,r27.1,v37⟩:Cl)]) else none))))))

def M0 (N:Nat):Nat→Nat→H9→(List V)→Option ((H9×(List V)))
  |0,k106,v107,v108=>some ((v107,v108))
  |n117+1,k106,v107,v108=>((w9 N v107).bind fun r121=>((w9 N r121.2).bind fun r123=>(bif Nat.ble ((v108.length+[(⟨r121.1,r123.1⟩:V)].length)*16) 140737488355328 then M0 N n117 (k106+1) r123.2 (v108++[(⟨r121.1,r123.1⟩:V)]) else none)))

def M3 (N:Nat):Nat→Nat→H9→(List Ob)→Option ((H9×(List Ob)))
  |0,k87,v88,v89=>some ((v88,v89))
  |n98+1,k87,v88,v89=>((w9 N v88).bind fun r102=>((I1 N r102.2 (6:Int)).bind fun r104=>((M0 N ((r104.1 - ((0:Nat):Int)).toNat) 0 r104.2 ([]:List V)).bind fun (v111,v112)=>(bif Nat.ble ((v89.length+[(⟨r102.1,v112⟩:Ob)].length)*32) 140737488355328 then M3 N n98 (k87+1) v111 (v89++[(⟨r102.1,v112⟩:Ob)]) else none))))

def aI9 (N:Nat) (a0:(List Int)):Option (Wd×Int) :=
  ((aD9 N (strOfNums a0)).bind fun r1=>(bif (!r1.2) then some ((⟨[],[],(0:Int)⟩:Wd),(2:Int)) else ((w9 N (⟨r1.1,true⟩:H9)).bind fun r4=>((I1 N r4.2 (12:Int)).bind fun r6=>((L9 N ((r6.1 - ((0:Nat):Int)).toNat) 0 r6.2 ([]:List Cl)).bind fun (v13,v14)=>((I1 N v13 (60:Int)).bind fun r85=>((M3 N ((r85.1 - ((0:Nat):Int)).toNat) 0 r85.2 ([]:List Ob)).bind fun (v92,v93)=>(((bif (!v92.ok_) then some (true) else some (decide ((0:Int) < (v92.l.length:Int)))):Option Bool).bind fun v127=>(bif v127 then some ((⟨[],[],(0:Int)⟩:Wd),(2:Int)) else ((aA9 N (⟨v14,v93,r4.1⟩:Wd)).bind fun r133=>(bif (!decide (r133=(0:Int))) then some ((⟨[],[],(0:Int)⟩:Wd),r133) else some ((⟨v14,v93,r4.1⟩:Wd),(0:Int)))))))))))))

def Q5 (N:Nat) (a1:(List Ins)):List Ins→Nat→Option (C9 Bool Unit)
  |[],k5=>some (.next ())
  |x11::rest8,k5=>((F5 a1 (k5:Int)).bind fun x14=>(bif (!(aI1 (aG9 x11) (aG9 x14))) then some (.ret false) else Q5 N a1 rest8 (k5+1)))

def aF3 (N:Nat) (a0:(List Ins)) (a1:(List Ins)):Option Bool :=
  (bif (!decide ((a0.length:Int)=(a1.length:Int))) then some false else ((Q5 N a1 a0 0).bind fun o=>match o with|.ret r=>some r|.next ()=>some true))

def O9 (N:Nat) (x21:Cl):List Me→Nat→Option (C9 Bool Unit)
  |[],k33=>some (.next ())
  |x39::rest36,k33=>((F5 x21.methods (k33:Int)).bind fun x42=>(((bif (!decide (x39.name=x42.name)) then some (true) else (bif (!decide (x39.args=x42.args)) then some (true) else (bif (!decide (x39.temps=x42.temps)) then some (true) else (bif (!decide (x39.prim=x42.prim)) then some (true) else ((aF3 N x39.code x42.code).bind fun r51=>some ((!r51))))))):Option Bool).bind fun v44=>(bif v44 then some (.ret false) else O9 N x21 rest36 (k33+1))))

def P7 (N:Nat) (a1:Wd):List Cl→Nat→Option (C9 Bool Unit)
  |[],k12=>some (.next ())
  |x18::rest15,k12=>((F5 a1.classes (k12:Int)).bind fun x21=>(((bif (!decide (x18.name=x21.name)) then some (true) else (bif (!decide (x18.super=x21.super)) then some (true) else (bif (!decide (x18.slots=x21.slots)) then some (true) else some ((!decide ((x18.methods.length:Int)=(x21.methods.length:Int))))))):Option Bool).bind fun v23=>(bif v23 then some (.ret false) else ((O9 N x21 x18.methods 0).bind fun o=>match o with|.ret r=>some (.ret r)|.next ()=>P7 N a1 rest15 (k12+1)))))

def P5 (N:Nat) (a1:Wd) (k55:Nat):List V→Nat→Option (C9 Bool Unit)
  |[],k76=>some (.next ())
  |x82::rest79,k76=>((F5 a1.heap (k55:Int)).bind fun x85=>((F5 x85.slots (k76:Int)).bind fun x87=>(bif (!(aI1 (eV x82) (eV x87))) then some (.ret false) else P5 N a1 k55 rest79 (k76+1))))

def P6 (N:Nat) (a1:Wd):List Ob→Nat→Option (C9 Bool Unit)
  |[],k55=>some (.next ())
  |x61::rest58,k55=>((((F5 a1.heap (k55:Int)).bind fun x67=>(bif (!decide (x61.cls=x67.cls)) then some (true) else ((F5 a1.heap (k55:Int)).bind fun x71=>some ((!decide ((x61.slots.length:Int)=(x71.slots.length:Int))))))):Option Bool).bind fun v64=>(bif v64 then some (.ret false) else ((P5 N a1 k55 x61.slots 0).bind fun o=>match o with|.ret r=>some (.ret r)|.next ()=>P6 N a1 rest58 (k55+1))))

def aE3 (N:Nat) (a0:Wd) (a1:Wd):Option Bool :=
  (((bif (!decide (a0.epoch=a1.epoch)) then some (true) else (bif (!decide ((a0.classes.length:Int)=(a1.classes.length:Int))) then some (true) else some ((!decide ((a0.heap.length:Int)=(a1.heap.length:Int)))))):Option Bool).bind fun v1=>(bif v1 then some false else ((P7 N a1 a0.classes 0).bind fun o=>match o with|.ret r=>some r|.next ()=>((P6 N a1 a0.heap 0).bind fun o=>match o with|.ret r=>some r|.next ()=>some true))))

def aH0 (N:Nat) (a0:Wd) (a1:(List Int)):Option Bool :=
  ((aH5 N a0).bind fun r1=>((aA9 N a0).bind fun r3=>(bif (!decide (r1=r3)) then some false else ((((aA9 N a0).bind fun r9=>(bif decide (r9=(0:Int)) then ((aO6 N a0).bind fun r12=>((aM3 N a0).bind fun r14=>some ((!decide ((strOfNums r12)=r14))))) else some (false))):Option Bool).bind fun v6=>(bif v6 then some false else ((aN8 N a1).bind fun r17=>((aI9 N a1).bind fun r19=>(((bif decide (r17.2=r19.2) then ((aE3 N r17.1 r19.1).bind fun r25=>some (r25)) else some (false)):Option Bool).bind fun v21=>some v21))))))))
end Go.Proofs.YtibjcppjfkamhaaGreatDoor
