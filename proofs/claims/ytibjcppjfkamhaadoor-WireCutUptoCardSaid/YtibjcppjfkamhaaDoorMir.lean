/- Functions that mirror the program's. Printed by mir.py. -/
import Derived.Test.YtibjcppjfkamhaaDoorHd
namespace Go.Proofs.YtibjcppjfkamhaaDoor
open Go.RowKit
set_option linter.unusedVariables false

def M8 (N:Nat) (a0:(List Int)) (a1:ByteArray):Option (Int×Bool×(List Int)) :=
  (bif Nat.ble (a0.length+a1.size) 140737488355328 then some ((a1.size:Int),true,(a0++S9 a1)) else none)

def O8 (N:Nat) (a0:(List Int)) (a1:Int):Option (Bool×(List Int)) :=
  (bif Nat.ble ((a0.length+[a1].length)*1) 140737488355328 then some (true,(a0++[a1])) else none)

def L9 (N:Nat) (a0:(List Int)) (a1:ByteArray):Option (List Int) :=
  ((M8 N a0 a1).bind fun r1=>((O8 N r1.2.2 (32:Int)).bind fun r3=>some r3.2))

def J4 (N:Nat):List Int→Nat→(List Int)→Option ((List Int))
  |[],k2,v3=>some (v3)
  |x11::rest8,k2,v3=>((strconv_Itoa N x11).bind fun r14=>((L9 N v3 r14).bind fun r16=>J4 N rest8 (k2+1) r16))

def G8 (N:Nat) (a0:(List Int)) (a1:(List Int)):Option (List Int) :=
  ((J4 N a1 0 a0).bind fun v5=>some v5)

def H6 (N:Nat):List Ins→Nat→(List Int)→Option ((List Int))
  |[],k7,v8=>some (v8)
  |x16::rest13,k7,v8=>((((G8 N v8 [x16.op,x16.a]).bind fun r22=>(((bif decide (x16.op=(14:Int)) then ((L9 N r22 x16.name).bind fun r28=>some (r28)) else some (r22)):Option (List Int)).bind fun v24=>some (v24))):Option (List Int)).bind fun v19=>H6 N rest13 (k7+1) v19)

def U2 (N:Nat) (a0:(List Int)) (a1:Me):Option (List Int) :=
  ((L9 N a0 a1.name).bind fun r1=>((G8 N r1 [a1.args,a1.temps,a1.prim,(a1.code.length:Int)]).bind fun r4=>((H6 N a1.code 0 r4).bind fun v10=>some v10)))

def Q6 (N:Nat):List Me→Nat→(List Int)→Option ((List Int))
  |[],k23,v24=>some (v24)
  |x32::rest29,k23,v24=>((U2 N v24 x32).bind fun r35=>Q6 N rest29 (k23+1) r35)

def Q4 (N:Nat):List Cl→Nat→(List Int)→Option ((List Int))
  |[],k5,v6=>some (v6)
  |x14::rest11,k5,v6=>((L9 N v6 x14.name).bind fun r17=>((G8 N r17 [x14.super,x14.slots,(x14.methods.length:Int)]).bind fun r20=>((Q6 N x14.methods 0 r20).bind fun v26=>Q4 N rest11 (k5+1) v26)))

def Q5 (N:Nat):List V→Nat→(List Int)→Option ((List Int))
  |[],k57,v58=>some (v58)
  |x66::rest63,k57,v58=>((G8 N v58 [x66.k,x66.n]).bind fun r69=>Q5 N rest63 (k57+1) r69)

def Q8 (N:Nat):List Ob→Nat→(List Int)→Option ((List Int))
  |[],k41,v42=>some (v42)
  |x50::rest47,k41,v42=>((G8 N v42 [x50.cls,(x50.slots.length:Int)]).bind fun r54=>((Q5 N x50.slots 0 r54).bind fun v60=>Q8 N rest47 (k41+1) v60))

def aE7 (N:Nat) (a0:Wd):Option (List Int) :=
  ((G8 N ([]:List Int) [a0.epoch,(a0.classes.length:Int)]).bind fun r2=>((Q4 N a0.classes 0 r2).bind fun v8=>((G8 N v8 [(a0.heap.length:Int)]).bind fun r38=>((Q8 N a0.heap 0 r38).bind fun v44=>(bif !(v44.isEmpty) then some (S9 (strOfNums v44)) else none)))))

def F7 (N:Nat) (a0:l8):Option (ByteArray×l8) :=
  ((strings_Cut N a0.s (⟨#[32]⟩:ByteArray)).bind fun r1=>(((bif (!r1.2.2) then some (true) else some (decide (r1.1=(⟨#[]⟩:ByteArray)))):Option Bool).bind fun v3=>(bif v3 then some ((⟨#[]⟩:ByteArray),(⟨a0.s,false⟩:l8)) else some (r1.1,(⟨r1.2.1,a0.ok_⟩:l8)))))

def p9 (N:Nat) (a0:l8):Option (Int×l8) :=
  ((F7 N a0).bind fun r1=>((strconv_Atoi N r1.1).bind fun r3=>(((bif (!r3.2) then some (true) else ((strconv_Itoa N r3.1).bind fun r9=>some ((!decide (r9=r1.1))))):Option Bool).bind fun v5=>(((bif v5 then some ((⟨r1.2.s,false⟩:l8)) else some (r1.2)):Option l8).bind fun v11=>some (r3.1,v11)))))

def D7 (N:Nat) (a0:l8) (a1:Int):Option (Int×l8) :=
  ((p9 N a0).bind fun r1=>(((bif decide (r1.1 < (0:Int)) then some (true) else some (decide (a1 < r1.1))):Option Bool).bind fun v3=>(bif v3 then some ((0:Int),(⟨r1.2.s,false⟩:l8)) else some (r1.1,r1.2))))

def F6 (N:Nat):Nat→Nat→l8→(List Ins)→Option ((l8×(List Ins)))
  |0,k11,v12,v13=>some ((v12,v13))
  |n22+1,k11,v12,v13=>((p9 N v12).bind fun r26=>((p9 N r26.2).bind fun r28=>(((bif decide (r26.1=(14:Int)) then ((F7 N r28.2).bind fun r35=>some ((r35.2,r35.1))) else some ((r28.2,ByteArray.empty))):Option (l8×ByteArray)).bind fun (v30,v31)=>(bif Nat.ble ((v13.length+[(⟨r26.1,r28.1,(0:Int),(0:Int),v31⟩:Ins)].length)*48) 140737488355328 then F6 N n22 (k11+1) v30 (v13++[(⟨r26.1,r28.1,(0:Int),(0:Int),v31⟩:Ins)]) else none))))

def K8 (N:Nat) (a0:l8):Option (Me×l8) :=
  ((F7 N a0).bind fun r1=>((p9 N r1.2).bind fun r3=>((p9 N r3.2).bind fun r5=>((p9 N r5.2).bind fun r7=>((D7 N r7.2 (60:Int)).bind fun r9=>((F6 N ((r9.1 - ((0:Nat):Int)).toNat) 0 r9.2 ([]:List Ins)).bind fun (v16,v17)=>some ((⟨r1.1,r3.1,r5.1,r7.1,v17⟩:Me),v16)))))))

def D5 (N:Nat):Nat→Nat→l8→(List Me)→Option ((l8×(List Me)))
  |0,k28,v29,v30=>some ((v29,v30))
  |n39+1,k28,v29,v30=>((K8 N v29).bind fun r43=>(bif Nat.ble ((v30.length+[r43.1].length)*64) 140737488355328 then D5 N n39 (k28+1) r43.2 (v30++[r43.1]) else none))

def G5 (N:Nat):Nat→Nat→l8→(List Cl)→Option ((l8×(List Cl)))
  |0,k5,v6,v7=>some ((v6,v7))
  |n16+1,k5,v6,v7=>((F7 N v6).bind fun r20=>((p9 N r20.2).bind fun r22=>((p9 N r22.2).bind fun r24=>((D7 N r24.2 (8:Int)).bind fun r26=>((D5 N ((r26.1 - ((0:Nat):Int)).toNat) 0 r26.2 ([]:List Me)).bind fun (v33,v34)=>(bif Nat.ble ((v7.length+[(⟨r20.1,r22.1,r24.1,v34⟩:Cl)].length)*56) 140737488355328 then G5 N n16 (k5+1) v33 (v7++[(⟨r20.1,r22.1,r24.1,v34⟩:Cl)]) else none))))))

def D6 (N:Nat):Nat→Nat→l8→(List V)→Option ((l8×(List V)))
  |0,k68,v69,v70=>some ((v69,v70))
  |n79+1,k68,v69,v70=>((p9 N v69).bind fun r83=>((p9 N r83.2).bind fun r85=>(bif Nat.ble ((v70.length+[(⟨r83.1,r85.1⟩:V)].length)*16) 140737488355328 then D6 N n79 (k68+1) r85.2 (v70++[(⟨r83.1,r85.1⟩:V)]) else none)))

def F9 (N:Nat):Nat→Nat→l8→(List Ob)→Option ((l8×(List Ob)))
  |0,k49,v50,v51=>some ((v50,v51))
  |n60+1,k49,v50,v51=>((p9 N v50).bind fun r64=>((D7 N r64.2 (6:Int)).bind fun r66=>((D6 N ((r66.1 - ((0:Nat):Int)).toNat) 0 r66.2 ([]:List V)).bind fun (v73,v74)=>(bif Nat.ble ((v51.length+[(⟨r64.1,v74⟩:Ob)].length)*32) 140737488355328 then F9 N n60 (k49+1) v73 (v51++[(⟨r64.1,v74⟩:Ob)]) else none))))

def W9 (N:Nat) (a0:l8):Option (Wd×l8) :=
  ((p9 N a0).bind fun r1=>((D7 N r1.2 (12:Int)).bind fun r3=>((G5 N ((r3.1 - ((0:Nat):Int)).toNat) 0 r3.2 ([]:List Cl)).bind fun (v10,v11)=>((D7 N v10 (60:Int)).bind fun r47=>((F9 N ((r47.1 - ((0:Nat):Int)).toNat) 0 r47.2 ([]:List Ob)).bind fun (v54,v55)=>some ((⟨v11,v55,r1.1⟩:Wd),v54))))))

def V4 (N:Nat) (a0:ByteArray):Nat→Nat→Option (J2 Bool Unit)
  |0,k9=>some (.next ())
  |n14+1,k9=>((((byO a0 (k9:Int)).bind fun u21=>(bif decide ((u21.toNat:Int)≤(32:Int)) then some (true) else ((byO a0 (k9:Int)).bind fun u24=>some (decide ((126:Int) < (u24.toNat:Int)))))):Option Bool).bind fun v18=>(bif v18 then some (.ret false) else V4 N a0 n14 (k9+1)))

def aC0 (N:Nat) (a0:ByteArray):Option Bool :=
  (((bif decide ((a0.size:Int) < (1:Int)) then some (true) else some (decide ((12:Int) < (a0.size:Int)))):Option Bool).bind fun v1=>(bif v1 then some false else ((V4 N a0 (((a0.size:Int) - ((0:Nat):Int)).toNat) 0).bind fun o=>match o with|.ret r=>some r|.next ()=>some true)))

def T9 (N:Nat) (a0:Wd):Nat→Int→Int→Int→Option (Int)
  |0,_,_,_=>none
  |n13+1,v2,v3,v4=>(((bif decide ((0:Int)≤v2) then (bif decide (v2 < (a0.classes.length:Int)) then some (decide (v4≤(a0.classes.length:Int))) else some (false)) else some (false)):Option Bool).bind fun v14=>(bif v14 then ((M7 a0.classes v2).bind fun x22=>((M7 a0.classes v2).bind fun x24=>T9 N a0 n13 x24.super (wr (v3+x22.slots)) (wr (v4+(1:Int))))) else some (v3)))

def Y0 (N:Nat) (a0:Wd) (a1:Int):Option Int :=
  ((T9 N a0 N a1 (0:Int) (0:Int)).bind fun v8=>some v8)

def p8 (N:Nat) (a0:(List Me)) (a1:ByteArray) (g2:(Me→ByteArray→Option Int)):Nat→Int→Int→Option (Int)
  |0,_,_=>none
  |n12+1,v3,v4=>(bif decide (v3 < v4) then (((bif decide (0≤(wr (v3+v4))) then (bif decide (z8 ((wr (v3+v4)) / 2)) then ((M7 a0 ((wr (v3+v4)) / 2)).bind fun x20=>((g2 x20 a1).bind fun r22=>(((bif decide (r22 < (0:Int)) then some (((wr (((wr (v3+v4)) / 2)+(1:Int))),v4)) else some ((v3,((wr (v3+v4)) / 2)))):Option (Int×Int)).bind fun (v24,v25)=>some ((v24,v25))))) else none) else none):Option (Int×Int)).bind fun (v14,v15)=>p8 N a0 a1 g2 n12 v14 v15) else some (v3))

def u6 (N:Nat) (a0:(List Me)) (a1:ByteArray) (g2:Me→ByteArray→Option Int):Option (Int×Bool) :=
  ((p8 N a0 a1 g2 N (0:Int) (a0.length:Int)).bind fun v7=>(((bif decide (v7 < (a0.length:Int)) then ((M7 a0 v7).bind fun x33=>((g2 x33 a1).bind fun r35=>some (decide (r35=(0:Int))))) else some (false)):Option Bool).bind fun v29=>some (v7,v29)))

def cmp_isNaN_string (N:Nat) (a0:ByteArray):Option Bool :=
  some (!decide (a0=a0))

def aA3 (N:Nat) (a0:ByteArray) (a1:ByteArray):Option Int :=
  ((cmp_isNaN_string N a0).bind fun r1=>((cmp_isNaN_string N a1).bind fun r3=>(bif r1 then (bif r3 then some (0:Int) else some (-1:Int)) else (bif r3 then some (1:Int) else (bif (U9 a0 a1) then some (-1:Int) else (bif (!(U9 a0 a1 || decide (a0=a1))) then some (1:Int) else some (0:Int)))))))

def P5 (N:Nat) (a0:Me) (a1:ByteArray):Option Int :=
  ((aA3 N a0.name a1).bind fun r1=>some r1)

def Q7 (N:Nat) (a0:Wd) (a2:ByteArray):Nat→Int→Int→Option (J2 (Int×Int) Unit)
  |0,_,_=>none
  |n10+1,v2,v3=>(((bif decide ((0:Int)≤v2) then (bif decide (v2 < (a0.classes.length:Int)) then some (decide (v3≤(a0.classes.length:Int))) else some (false)) else some (false)):Option Bool).bind fun v11=>(bif v11 then ((M7 a0.classes v2).bind fun x19=>((u6 N x19.methods a2 (fun x0_ x1_=>P5 N x0_ x1_)).bind fun r21=>(bif r21.2 then some (.ret (v2,r21.1)) else ((M7 a0.classes v2).bind fun x24=>Q7 N a0 a2 n10 x24.super (wr (v3+(1:Int))))))) else some (.next ())))

def aH2 (N:Nat) (a0:Wd) (a1:Int) (a2:ByteArray):Option (Int×Int) :=
  ((Q7 N a0 a2 N a1 (0:Int)).bind fun o=>match o with|.ret r=>some r|.next ()=>some ((-1:Int),(-1:Int)))

def aG4 (N:Nat) (a0:Wd) (a1:Me):Option Bool :=
  ((aH2 N a0 (3:Int) a1.name).bind fun r1=>(((bif decide ((0:Int)≤r1.2) then ((M7 a0.classes (3:Int)).bind fun x7=>((M7 x7.methods r1.2).bind fun x9=>(bif decide (a1.prim=x9.prim) then (bif decide (a1.args=(1:Int)) then (bif decide (a1.temps=(0:Int)) then some (decide ((a1.code.length:Int)=(0:Int))) else some (false)) else some (false)) else some (false)))) else some (false)):Option Bool).bind fun v3=>some v3))

def M0 (N:Nat) (a0:Int) (a1:Int):Option Bool :=
  (((bif decide ((0:Int)≤a0) then some (decide (a0 < a1)) else some (false)):Option Bool).bind fun v1=>some v1)

def aD5 (N:Nat) (a0:Wd) (a1:Int) (a2:Me) (a3:Ins):Option Int :=
  (((((bif decide (a3.op=(1:Int)) then some (decide (a3.op=(1:Int))) else (((bif decide (a3.op=(6:Int)) then some (decide (a3.op=(6:Int))) else (((bif decide (a3.op=(7:Int)) then some (decide (a3.op=(7:Int))) else (((bif decide (a3.op=(8:Int)) then some (decide (a3.op=(8:Int))) else (((bif decide (a3.op=(9:Int)) then some (decide (a3.op=(9:Int))) else (((bif decide (a3.op=(10:Int)) then some (decide (a3.op=(10:Int))) else some (decide (a3.op=(17:Int)))):Option Bool).bind fun v25=>some (v25))):Option Bool).bind fun v21=>some (v21))):Option Bool).bind fun v17=>some (v17))):Option Bool).bind fun v13=>some (v13))):Option Bool).bind fun v9=>some (v9))):Option Bool).bind fun v5=>(((bif v5 then some (.next (decide (a3.a=(0:Int)),false)) else (((bif decide (a3.op=(2:Int)) then ((M0 N a3.a a2.args).bind fun r39=>some (.next (r39,false))) else (((bif decide (a3.op=(3:Int)) then some (decide (a3.op=(3:Int))) else some (decide (a3.op=(11:Int)))):Option Bool).bind fun v41=>(((bif v41 then ((M0 N a3.a a2.temps).bind fun r50=>some (.next (r50,false))) else (((bif decide (a3.op=(4:Int)) then some (decide (a3.op=(4:Int))) else some (decide (a3.op=(12:Int)))):Option Bool).bind fun v52=>(((bif v52 then ((Y0 N a0 a1).bind fun r61=>((M0 N a3.a r61).bind fun r63=>some (.next (r63,false)))) else (((bif decide (a3.op=(5:Int)) then (((bif decide ((-1073741824:Int)≤a3.a) then some (decide (a3.a≤(1073741824:Int))) else some (false)):Option Bool).bind fun v70=>some (.next (v70,false))) else (((bif decide (a3.op=(13:Int)) then (((bif decide (a3.a=(0:Int)) then some (true) else (bif decide ((4:Int)≤a3.a) then some (decide (a3.a < (a0.classes.length:Int))) else some (false))):Option Bool).bind fun v79=>some (.next (v79,false))) else (((bif decide (a3.op=(14:Int)) then ((M0 N a3.a (5:Int)).bind fun r90=>some (.next (r90,true))) else (((bif decide (a3.op=(15:Int)) then some (decide (a3.op=(15:Int))) else some (decide (a3.op=(16:Int)))):Option Bool).bind fun v92=>(bif v92 then ((M0 N a3.a (a2.code.length:Int)).bind fun r98=>some (.next (r98,false))) else some (.ret (1:Int))))):Option (J2 Int (Bool×Bool))).bind fun o=>match o with|.ret r=>some (.ret r)|.next (v85,v86)=>some (.next (v85,v86)))):Option (J2 Int (Bool×Bool))).bind fun o=>match o with|.ret r=>some (.ret r)|.next (v74,v75)=>some (.next (v74,v75)))):Option (J2 Int (Bool×Bool))).bind fun o=>match o with|.ret r=>some (.ret r)|.next (v65,v66)=>some (.next (v65,v66)))):Option (J2 Int (Bool×Bool))).bind fun o=>match o with|.ret r=>some (.ret r)|.next (v56,v57)=>some (.next (v56,v57))))):Option (J2 Int (Bool×Bool))).bind fun o=>match o with|.ret r=>some (.ret r)|.next (v45,v46)=>some (.next (v45,v46))))):Option (J2 Int (Bool×Bool))).bind fun o=>match o with|.ret r=>some (.ret r)|.next (v34,v35)=>some (.next (v34,v35)))):Option (J2 Int (Bool×Bool))).bind fun o=>match o with|.ret r=>some (.ret r)|.next (v29,v30)=>some (.next (v29,v30)))):Option (J2 Int (Bool×Bool))).bind fun o=>match o with|.ret r=>some r|.next (v1,v2)=>(bif (!v1) then some (3:Int) else (((bif v2 then ((aC0 N a3.name).bind fun r105=>(bif (!r105) then some (true) else (bif (!v2) then (bif (!decide (a3.name=(⟨#[]⟩:ByteArray))) then some (true) else (bif (!decide (a3.b=(0:Int))) then some (true) else some ((!decide (a3.c=(0:Int)))))) else (bif (!decide (a3.b=(0:Int))) then some (true) else some ((!decide (a3.c=(0:Int)))))))) else (bif (!v2) then (bif (!decide (a3.name=(⟨#[]⟩:ByteArray))) then some (true) else (bif (!decide (a3.b=(0:Int))) then some (true) else some ((!decide (a3.c=(0:Int)))))) else (bif (!decide (a3.b=(0:Int))) then some (true) else some ((!decide (a3.c=(0:Int))))))):Option Bool).bind fun v101=>(bif v101 then some (2:Int) else some (0:Int)))))

def aF6 (N:Nat) (a0:Ins):Option (Int×Int) :=
  (((bif decide (a0.op=(9:Int)) then some (decide (a0.op=(9:Int))) else (((bif decide (a0.op=(11:Int)) then some (decide (a0.op=(11:Int))) else (((bif decide (a0.op=(12:Int)) then some (decide (a0.op=(12:Int))) else (((bif decide (a0.op=(16:Int)) then some (decide (a0.op=(16:Int))) else some (decide (a0.op=(17:Int)))):Option Bool).bind fun v13=>some (v13))):Option Bool).bind fun v9=>some (v9))):Option Bool).bind fun v5=>some (v5))):Option Bool).bind fun v1=>(bif v1 then some ((1:Int),(0:Int)) else (bif decide (a0.op=(10:Int)) then some ((1:Int),(2:Int)) else (bif decide (a0.op=(14:Int)) then some ((wr (a0.a+(1:Int))),(1:Int)) else (bif decide (a0.op=(15:Int)) then some ((0:Int),(0:Int)) else some ((0:Int),(1:Int)))))))

def N7 (N:Nat):Nat→Nat→(List Int)→Option ((List Int))
  |0,k4,v5=>some (v5)
  |n12+1,k4,v5=>((M7 v5 (k4:Int)).bind fun x16=>N7 N n12 (k4+1) (v5.set ((k4:Int).toNat) (-1:Int)))

def M9 (N:Nat) (a0:Me):Nat→(List Int)→(List G6)→Option (J2 ((List Int)×J6) (List Int))
  |0,_,_=>none
  |n28+1,v19,v20=>(bif decide ((0:Int) < (v20.length:Int)) then ((((M7 v20 (0:Int)).bind fun x35=>((M7 v20 (0:Int)).bind fun x37=>(bif (decide (0≤(1:Int)) && decide ((1:Int)≤(v20.length:Int))) then (((bif decide (x35.f0 < (0:Int)) then some (true) else some (decide ((a0.code.length:Int)≤x35.f0))):Option Bool).bind fun v40=>(bif v40 then some (.ret (([]:List Int),(⟨(9:Int),(a0.code.length:Int)⟩:J6))) else ((M7 v19 x35.f0).bind fun x47=>(bif decide ((0:Int)≤x47) then ((M7 v19 x35.f0).bind fun x50=>(bif (!decide (x50=x37.f1)) then some (.ret (([]:List Int),(⟨(8:Int),x35.f0⟩:J6))) else some (.next (v19,(v20.drop (1:Int).toNat))))) else ((M7 v19 x35.f0).bind fun x53=>((M7 a0.code x35.f0).bind fun x55=>((aF6 N x55).bind fun r57=>(((bif decide (x37.f1 < r57.1) then some (true) else (bif decide (x55.op=(17:Int)) then some ((!decide (x37.f1=(1:Int)))) else some (false))):Option Bool).bind fun v59=>(bif v59 then some (.ret (([]:List Int),(⟨(8:Int),x35.f0⟩:J6))) else (bif decide ((12:Int) < (wr (x37.f1+(wr (r57.2 - r57.1))))) then some (.ret (([]:List Int),(⟨(4:Int),x35.f0⟩:J6))) else (((bif (!decide (x55.op=(15:Int))) then some ((!decide (x55.op=(17:Int)))) else some (false)):Option Bool).bind fun v66=>(((bif v66 then (bif Nat.ble (((v20.drop (1:Int).toNat).length+[(⟨(wr (x35.f0+(1:Int))),(wr (x37.f1+(wr (r57.2 - r57.1))))⟩:G6)].length)*16) 140737488355328 then some (((v20.drop (1:Int).toNat)++[(⟨(wr (x35.f0+(1:Int))),(wr (x37.f1+(wr (r57.2 - r57.1))))⟩:G6)])) else none) else some ((v20.drop (1:Int).toNat))):Option (List G6)).bind fun v70=>(((bif decide (x55.op=(15:Int)) then some (true) else some (decide (x55.op=(16:Int)))):Option Bool).bind fun v75=>(((bif v75 then (bif Nat.ble ((v70.length+[(⟨x55.a,(wr (x37.f1+(wr (r57.2 - r57.1))))⟩:G6)].length)*16) 140737488355328 then some ((v70++[(⟨x55.a,(wr (x37.f1+(wr (r57.2 - r57.1))))⟩:G6)])) else none) else some (v70)):Option (List G6)).bind fun v79=>some (.next ((v19.set x35.f0.toNat x37.f1),v79)))))))))))))))) else none))):Option (J2 ((List Int)×J6) ((List Int)×(List G6)))).bind fun o=>match o with|.ret r=>some (.ret r)|.next (v31,v32)=>M9 N a0 n28 v31 v32) else some (.next v19))

def aD9 (N:Nat) (a0:Me):Option ((List Int)×J6) :=
  (bif (decide (0≤(a0.code.length:Int)) && decide ((a0.code.length:Int)≤140737488355328) && decide ((a0.code.length:Int)*8≤140737488355328)) then ((N7 N ((((List.replicate (a0.code.length:Int).toNat (0:Int)).length:Int) - ((0:Nat):Int)).toNat) 0 (List.replicate (a0.code.length:Int).toNat (0:Int))).bind fun v7=>((M9 N a0 N v7 [(⟨(0:Int),(0:Int)⟩:G6)]).bind fun o=>match o with|.ret r=>some r|.next v23=>some (v23,(⟨(0:Int),(0:Int)⟩:J6)))) else none)

def V7 (N:Nat) (a0:Wd) (a1:Int) (a2:Me):List Ins→Nat→Option (J2 J6 Unit)
  |[],k26=>some (.next ())
  |x32::rest29,k26=>((aD5 N a0 a1 a2 x32).bind fun r35=>(bif (!decide (r35=(0:Int))) then some (.ret (⟨r35,(k26:Int)⟩:J6)) else V7 N a0 a1 a2 rest29 (k26+1)))

def aG8 (N:Nat) (a0:Wd) (a1:Int) (a2:Me):Option J6 :=
  (((bif decide (a1 < (0:Int)) then some (true) else some (decide ((a0.classes.length:Int)≤a1))):Option Bool).bind fun v1=>(bif v1 then some (⟨(6:Int),(0:Int)⟩:J6) else ((aC0 N a2.name).bind fun r7=>(bif (!r7) then some (⟨(7:Int),(0:Int)⟩:J6) else (((bif decide (a2.args < (0:Int)) then some (true) else (bif decide ((4:Int) < a2.args) then some (true) else (bif decide (a2.temps < (0:Int)) then some (true) else some (decide ((6:Int) < a2.temps))))):Option Bool).bind fun v10=>(bif v10 then some (⟨(3:Int),(0:Int)⟩:J6) else (bif (!decide (a2.prim=(0:Int))) then some (⟨(1:Int),(0:Int)⟩:J6) else (((bif decide ((a2.code.length:Int) < (1:Int)) then some (true) else some (decide ((60:Int) < (a2.code.length:Int)))):Option Bool).bind fun v18=>(bif v18 then some (⟨(5:Int),(0:Int)⟩:J6) else ((V7 N a0 a1 a2 a2.code 0).bind fun o=>match o with|.ret r=>some r|.next ()=>((aD9 N a2).bind fun r38=>some r38.2)))))))))))

def aF1 (N:Nat) (a0:V) (a1:Int):Option Int :=
  (((((bif decide (a0.k=(0:Int)) then some (decide (a0.k=(0:Int))) else (((bif decide (a0.k=(1:Int)) then some (decide (a0.k=(1:Int))) else some (decide (a0.k=(2:Int)))):Option Bool).bind fun v7=>some (v7))):Option Bool).bind fun v3=>(((bif v3 then (bif (!decide (a0.n=(0:Int))) then some (.ret (2:Int)) else some (.next ())) else (((bif decide (a0.k=(3:Int)) then (((bif decide (a0.n < (-1073741824:Int)) then some (true) else some (decide ((1073741824:Int) < a0.n))):Option Bool).bind fun v18=>(bif v18 then some (.ret (3:Int)) else some (.next ()))) else (bif decide (a0.k=(4:Int)) then (((bif decide (a0.n < (0:Int)) then some (true) else some (decide (a1≤a0.n))):Option Bool).bind fun v24=>(bif v24 then some (.ret (6:Int)) else some (.next ()))) else some (.ret (1:Int)))):Option (J2 Int Unit)).bind fun o=>match o with|.ret r=>some (.ret r)|.next ()=>some (.next ()))):Option (J2 Int Unit)).bind fun o=>match o with|.ret r=>some (.ret r)|.next ()=>some (.next ()))):Option (J2 Int Unit)).bind fun o=>match o with|.ret r=>some r|.next ()=>some (0:Int))

def Y7 (N:Nat) (a0:Wd):List V→Nat→Option (J2 Int Unit)
  |[],k26=>some (.next ())
  |x32::rest29,k26=>((aF1 N x32 (a0.heap.length:Int)).bind fun r36=>(bif (!decide (r36=(0:Int))) then some (.ret r36) else Y7 N a0 rest29 (k26+1)))

def Y4 (N:Nat) (a0:Wd):List Ob→Nat→Option (J2 Int Unit)
  |[],k2=>some (.next ())
  |x8::rest5,k2=>(((bif (!decide (x8.cls=(0:Int))) then (bif decide (x8.cls < (4:Int)) then some (true) else (bif decide ((a0.classes.length:Int)≤x8.cls) then some (true) else ((Y0 N a0 x8.cls).bind fun r19=>some ((!decide ((x8.slots.length:Int)=r19)))))) else ((Y0 N a0 x8.cls).bind fun r22=>some ((!decide ((x8.slots.length:Int)=r22))))):Option Bool).bind fun v11=>(bif v11 then some (.ret (8:Int)) else ((Y7 N a0 x8.slots 0).bind fun o=>match o with|.ret r=>some (.ret r)|.next ()=>Y4 N a0 rest5 (k2+1))))

def aQ8 (N:Nat) (a0:Wd):Option Int :=
  ((Y4 N a0 a0.heap 0).bind fun o=>match o with|.ret r=>some r|.next ()=>some (0:Int))

def V5 (N:Nat) (r1:Wd):List Cl→Nat→(List (ByteArray×Bool))→Option (J2 Int Unit)
  |[],k19,v20=>some (.next ())
  |x27::rest24,k19,v20=>((((aC0 N x27.name).bind fun r33=>(bif (!r33) then some (true) else (bif (aG0 x27.name v20) then some (true) else (bif decide ((k19:Int) < (r1.classes.length:Int)) then ((M7 r1.classes (k19:Int)).bind fun x39=>some ((!decide (x27.name=x39.name)))) else some (false))))):Option Bool).bind fun v30=>(bif v30 then some (.ret (7:Int)) else (bif Nat.ble (v20.length+1) 140737488355328 then (((bif decide ((k19:Int) < (r1.classes.length:Int)) then ((M7 r1.classes (k19:Int)).bind fun x48=>(bif (!decide (x27.super=x48.super)) then some (true) else (bif (!decide (x27.slots=(0:Int))) then some (true) else (bif decide ((r1.classes.length:Int)≤(k19:Int)) then (bif decide (x27.super < (0:Int)) then some (true) else (bif decide ((k19:Int)≤x27.super) then some (true) else (bif (!decide (x27.super=(0:Int))) then (bif decide (x27.super < (4:Int)) then some (true) else (bif decide (x27.slots < (0:Int)) then some (true) else some (decide ((6:Int) < x27.slots)))) else (bif decide (x27.slots < (0:Int)) then some (true) else some (decide ((6:Int) < x27.slots)))))) else (bif decide (x27.slots < (0:Int)) then some (true) else some (decide ((6:Int) < x27.slots))))))) else (bif decide ((r1.classes.length:Int)≤(k19:Int)) then (bif decide (x27.super < (0:Int)) then some (true) else (bif decide ((k19:Int)≤x27.super) then some (true) else (bif (!decide (x27.super=(0:Int))) then (bif decide (x27.super < (4:Int)) then some (true) else (bif decide (x27.slots < (0:Int)) then some (true) else some (decide ((6:Int) < x27.slots)))) else (bif decide (x27.slots < (0:Int)) then some (true) else some (decide ((6:Int) < x27.slots)))))) else (bif decide (x27.slots < (0:Int)) then some (true) else some (decide ((6:Int) < x27.slots))))):Option Bool).bind fun v43=>(bif v43 then some (.ret (3:Int)) else V5 N r1 rest24 (k19+1) (aB8 x27.name true v20))) else none)))

def V8 (N:Nat) (a0:Wd) (r1:Wd) (k72:Nat) (x78:Cl):List Me→Nat→Option (J2 Int Unit)
  |[],k87=>some (.next ())
  |x93::rest90,k87=>(((((bif decide ((0:Int) < (k87:Int)) then ((M7 x78.methods (wr ((k87:Int) - (1:Int)))).bind fun x102=>some ((!U9 x102.name x93.name))) else some (false)):Option Bool).bind fun v98=>(bif v98 then some (.ret (7:Int)) else (((bif (!decide (x93.prim=(0:Int))) then (bif decide ((k72:Int)=(3:Int)) then ((aG4 N r1 x93).bind fun r110=>some (r110)) else some (false)) else some (false)):Option Bool).bind fun v105=>(bif v105 then some (.next ()) else ((aG8 N a0 (k72:Int) x93).bind fun r113=>(bif (!decide (r113.err=(0:Int))) then some (.ret r113.err) else some (.next ()))))))):Option (J2 Int Unit)).bind fun o=>match o with|.ret r=>some (.ret r)|.next ()=>V8 N a0 r1 k72 x78 rest90 (k87+1))

def V6 (N:Nat) (a0:Wd) (r1:Wd):List Cl→Nat→Option (J2 Int Unit)
  |[],k72=>some (.next ())
  |x78::rest75,k72=>((Y0 N a0 (k72:Int)).bind fun r81=>(bif decide ((6:Int) < r81) then some (.ret (3:Int)) else (bif decide ((8:Int) < (x78.methods.length:Int)) then some (.ret (5:Int)) else ((V8 N a0 r1 k72 x78 x78.methods 0).bind fun o=>match o with|.ret r=>some (.ret r)|.next ()=>V6 N a0 r1 rest75 (k72+1)))))

def P8 (N:Nat) (a0:Wd):Option Int :=
  ((aZ1 N).bind fun r1=>(((bif decide ((a0.classes.length:Int) < (r1.classes.length:Int)) then some (true) else (bif decide ((12:Int) < (a0.classes.length:Int)) then some (true) else some (decide ((60:Int) < (a0.heap.length:Int))))):Option Bool).bind fun v3=>(bif v3 then some (5:Int) else (((bif decide (a0.epoch < (0:Int)) then some (true) else some (decide ((1073741824:Int) < a0.epoch))):Option Bool).bind fun v13=>(bif v13 then some (3:Int) else ((V5 N r1 a0.classes 0 ([]:(List (ByteArray×Bool)))).bind fun o=>match o with|.ret r=>some r|.next ()=>((V6 N a0 r1 a0.classes 0).bind fun o=>match o with|.ret r=>some r|.next ()=>((aQ8 N a0).bind fun r116=>some r116))))))))

def aB9 (N:Nat) (a0:(List Int)):Option (Wd×Int) :=
  ((W9 N (⟨(strOfNums a0),true⟩:l8)).bind fun r1=>(((bif (!r1.2.ok_) then some (true) else some ((!decide (r1.2.s=(⟨#[]⟩:ByteArray))))):Option Bool).bind fun v3=>(bif v3 then some ((⟨[],[],(0:Int)⟩:Wd),(2:Int)) else ((P8 N r1.1).bind fun r8=>(bif (!decide (r8=(0:Int))) then some ((⟨[],[],(0:Int)⟩:Wd),r8) else some (r1.1,(0:Int)))))))

def J8 (N:Nat):List Int→Nat→ByteArray→Option (ByteArray)
  |[],k2,v3=>some (v3)
  |x11::rest8,k2,v3=>((strconv_Itoa N x11).bind fun r14=>(bif decide (v3.size+r14.size≤4611686018427387904) then (bif decide ((v3++r14).size+(⟨#[32]⟩:ByteArray).size≤4611686018427387904) then J8 N rest8 (k2+1) ((v3++r14)++(⟨#[32]⟩:ByteArray)) else none) else none))

def I5 (N:Nat) (a0:(List Int)) (b0:ByteArray):Option ByteArray :=
  ((J8 N a0 0 b0).bind fun v5=>some v5)

def M3 (N:Nat):List Ins→Nat→ByteArray→Option (ByteArray)
  |[],k41,v42=>some (v42)
  |x50::rest47,k41,v42=>((((I5 N [x50.op,x50.a] v42).bind fun r56=>(((bif decide (x50.op=(14:Int)) then (bif decide (r56.size+x50.name.size≤4611686018427387904) then (bif decide ((r56++x50.name).size+(⟨#[32]⟩:ByteArray).size≤4611686018427387904) then some (((r56++x50.name)++(⟨#[32]⟩:ByteArray))) else none) else none) else some (r56)):Option ByteArray).bind fun v58=>some (v58))):Option ByteArray).bind fun v53=>M3 N rest47 (k41+1) v53)

def K4 (N:Nat):List Me→Nat→ByteArray→Option (ByteArray)
  |[],k23,v24=>some (v24)
  |x32::rest29,k23,v24=>(bif decide (v24.size+x32.name.size≤4611686018427387904) then (bif decide ((v24++x32.name).size+(⟨#[32]⟩:ByteArray).size≤4611686018427387904) then ((I5 N [x32.args,x32.temps,x32.prim,(x32.code.length:Int)] ((v24++x32.name)++(⟨#[32]⟩:ByteArray))).bind fun r38=>((M3 N x32.code 0 r38).bind fun v44=>K4 N rest29 (k23+1) v44)) else none) else none)

def M4 (N:Nat):List Cl→Nat→ByteArray→Option (ByteArray)
  |[],k5,v6=>some (v6)
  |x14::rest11,k5,v6=>(bif decide (v6.size+x14.name.size≤4611686018427387904) then (bif decide ((v6++x14.name).size+(⟨#[32]⟩:ByteArray).size≤4611686018427387904) then ((I5 N [x14.super,x14.slots,(x14.methods.length:Int)] ((v6++x14.name)++(⟨#[32]⟩:ByteArray))).bind fun r20=>((K4 N x14.methods 0 r20).bind fun v26=>M4 N rest11 (k5+1) v26)) else none) else none)

def O7 (N:Nat):List V→Nat→ByteArray→Option (ByteArray)
  |[],k84,v85=>some (v85)
  |x93::rest90,k84,v85=>((I5 N [x93.k,x93.n] v85).bind fun r96=>O7 N rest90 (k84+1) r96)

def O5 (N:Nat):List Ob→Nat→ByteArray→Option (ByteArray)
  |[],k68,v69=>some (v69)
  |x77::rest74,k68,v69=>((I5 N [x77.cls,(x77.slots.length:Int)] v69).bind fun r81=>((O7 N x77.slots 0 r81).bind fun v87=>O5 N rest74 (k68+1) v87))

def aF2 (N:Nat) (a0:Wd):Option ByteArray :=
  ((I5 N [a0.epoch,(a0.classes.length:Int)] (⟨#[]⟩:ByteArray)).bind fun r2=>((M4 N a0.classes 0 r2).bind fun v8=>((I5 N [(a0.heap.length:Int)] v8).bind fun r65=>((O5 N a0.heap 0 r65).bind fun v71=>some v71))))

def aD4 (N:Nat):Option Bool :=
  ((aM3 N).bind fun r1=>((aE7 N r1).bind fun r3=>((aB9 N r3).bind fun r5=>(((bif decide (r5.2=(0:Int)) then (bif decide ((r5.1.classes.length:Int)=(4:Int)) then ((aM3 N).bind fun r13=>((aF2 N r13).bind fun r15=>(bif decide ((strOfNums r3)=r15) then ((P8 N r5.1).bind fun r18=>(bif decide (r18=(0:Int)) then ((P8 N (⟨[],[],(0:Int)⟩:Wd)).bind fun r21=>some (decide (r21=(5:Int)))) else some (false))) else some (false)))) else some (false)) else some (false)):Option Bool).bind fun v7=>some v7))))

def aE4 (N:Nat) (a0:Wd) (a1:Int):Option Bool :=
  ((aD4 N).bind fun r1=>(bif (!r1) then some false else ((P8 N a0).bind fun r4=>(bif (!decide (r4=(0:Int))) then some true else ((aE7 N a0).bind fun r7=>(((bif decide (a1 < (0:Int)) then some (true) else some (decide ((r7.length:Int)≤a1))):Option Bool).bind fun v9=>(bif v9 then some true else (bif (decide (0≤a1) && decide (a1≤(r7.length:Int))) then ((aB9 N (r7.take a1.toNat)).bind fun r16=>some (decide (r16.2=(2:Int)))) else none))))))))
end Go.Proofs.YtibjcppjfkamhaaDoor
