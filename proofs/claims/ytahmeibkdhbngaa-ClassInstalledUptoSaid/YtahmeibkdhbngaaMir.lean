/- Functions that mirror the program's. Printed by mir.py. -/
import Derived.Test.YtahmeibkdhbngaaHd
namespace Go.Proofs.Ytahmeibkdhbngaa
open Go.RowKit
set_option linter.unusedVariables false

def l8 (N:Nat) (a0:(List Me)) (a1:ByteArray) (g2:(Me→ByteArray→Option Int)):Nat→Int→Int→Option (Int)
  |0,_,_=>none
  |n12+1,v3,v4=>(bif decide (v3 < v4) then (((bif decide (0≤(wr (v3+v4))) then (bif decide (J6 ((wr (v3+v4)) / 2)) then ((C9 a0 ((wr (v3+v4)) / 2)).bind fun x20=>((g2 x20 a1).bind fun r22=>(((bif decide (r22 < (0:Int)) then some (((wr (((wr (v3+v4)) / 2)+(1:Int))),v4)) else some ((v3,((wr (v3+v4)) / 2)))):Option (Int×Int)).bind fun (v24,v25)=>some ((v24,v25))))) else none) else none):Option (Int×Int)).bind fun (v14,v15)=>l8 N a0 a1 g2 n12 v14 v15) else some (v3))

def p8 (N:Nat) (a0:(List Me)) (a1:ByteArray) (g2:Me→ByteArray→Option Int):Option (Int×Bool) :=
  ((l8 N a0 a1 g2 N (0:Int) (a0.length:Int)).bind fun v7=>(((bif decide (v7 < (a0.length:Int)) then ((C9 a0 v7).bind fun x33=>((g2 x33 a1).bind fun r35=>some (decide (r35=(0:Int))))) else some (false)):Option Bool).bind fun v29=>some (v7,v29)))

def cmp_isNaN_string (N:Nat) (a0:ByteArray):Option Bool :=
  some (!decide (a0=a0))

def V4 (N:Nat) (a0:ByteArray) (a1:ByteArray):Option Int :=
  ((cmp_isNaN_string N a0).bind fun r1=>((cmp_isNaN_string N a1).bind fun r3=>(bif r1 then (bif r3 then some (0:Int) else some (-1:Int)) else (bif r3 then some (1:Int) else (bif (G6 a0 a1) then some (-1:Int) else (bif (!(G6 a0 a1 || decide (a0=a1))) then some (1:Int) else some (0:Int)))))))

def J5 (N:Nat) (a0:Me) (a1:ByteArray):Option Int :=
  ((V4 N a0.name a1).bind fun r1=>some r1)

def O4 (N:Nat) (a0:Wd) (a2:ByteArray):Nat→Int→Int→Option (G8 (Int×Int) Unit)
  |0,_,_=>none
  |n10+1,v2,v3=>(((bif decide ((0:Int)≤v2) then (bif decide (v2 < (a0.classes.length:Int)) then some (decide (v3≤(a0.classes.length:Int))) else some (false)) else some (false)):Option Bool).bind fun v11=>(bif v11 then ((C9 a0.classes v2).bind fun x19=>((p8 N x19.methods a2 (fun x0_ x1_=>J5 N x0_ x1_)).bind fun r21=>(bif r21.2 then some (.ret (v2,r21.1)) else ((C9 a0.classes v2).bind fun x24=>O4 N a0 a2 n10 x24.super (wr (v3+(1:Int))))))) else some (.next ())))

def V3 (N:Nat) (a0:Wd) (a1:Int) (a2:ByteArray):Option (Int×Int) :=
  ((O4 N a0 a2 N a1 (0:Int)).bind fun o=>match o with|.ret r=>some r|.next ()=>some ((-1:Int),(-1:Int)))

def O6 (N:Nat) (a0:ByteArray):Nat→Nat→Option (G8 Bool Unit)
  |0,k2=>some (.next ())
  |n7+1,k2=>((((byO a0 (k2:Int)).bind fun u14=>(bif decide ((u14.toNat:Int) < (33:Int)) then some (true) else ((byO a0 (k2:Int)).bind fun u17=>some (decide ((126:Int) < (u17.toNat:Int)))))):Option Bool).bind fun v11=>(bif v11 then some (.ret false) else O6 N a0 n7 (k2+1)))

def V8 (N:Nat) (a0:ByteArray):Option Bool :=
  ((O6 N a0 (((a0.size:Int) - ((0:Nat):Int)).toNat) 0).bind fun o=>match o with|.ret r=>some r|.next ()=>(((bif decide ((0:Int) < (a0.size:Int)) then some (decide ((a0.size:Int)≤(12:Int))) else some (false)):Option Bool).bind fun v20=>some v20))

def P9 (N:Nat) (a0:Wd):Nat→Int→(List Int)→Option ((List Int))
  |0,_,_=>none
  |n11+1,v2,v3=>(((bif decide ((0:Int)≤v2) then (bif decide (v2 < (a0.classes.length:Int)) then some (decide ((v3.length:Int)≤(a0.classes.length:Int))) else some (false)) else some (false)):Option Bool).bind fun v12=>(bif v12 then (bif Nat.ble ((v3.length+[v2].length)*8) 140737488355328 then ((C9 a0.classes v2).bind fun x22=>P9 N a0 n11 x22.super (v3++[v2])) else none) else some (v3)))

def aE7 (N:Nat) (a0:Wd) (a1:Int):Option (List Int) :=
  ((P9 N a0 N a1 ([]:List Int)).bind fun v6=>some v6)

def M9 (N:Nat) (a0:Wd) (r1:(List Int)):List Int→Nat→Int→Option (Int)
  |[],k4,v5=>some (v5)
  |x13::rest10,k4,v5=>((C9 r1 (k4:Int)).bind fun x16=>((C9 a0.classes x16).bind fun x18=>M9 N a0 r1 rest10 (k4+1) (wr (v5+x18.slots))))

def P5 (N:Nat) (a0:Wd) (a1:Int):Option Int :=
  ((aE7 N a0 a1).bind fun r1=>((M9 N a0 r1 r1 0 (0:Int)).bind fun v7=>some v7))

def M0 (N:Nat) (a0:Wd) (a1:Int) (a2:Me) (a3:Ins):Option Int :=
  (((((bif decide (a3.op=(1:Int)) then some (decide (a3.op=(1:Int))) else (((bif decide (a3.op=(6:Int)) then some (decide (a3.op=(6:Int))) else (((bif decide (a3.op=(7:Int)) then some (decide (a3.op=(7:Int))) else (((bif decide (a3.op=(8:Int)) then some (decide (a3.op=(8:Int))) else (((bif decide (a3.op=(9:Int)) then some (decide (a3.op=(9:Int))) else (((bif decide (a3.op=(10:Int)) then some (decide (a3.op=(10:Int))) else some (decide (a3.op=(17:Int)))):Option Bool).bind fun v25=>some (v25))):Option Bool).bind fun v21=>some (v21))):Option Bool).bind fun v17=>some (v17))):Option Bool).bind fun v13=>some (v13))):Option Bool).bind fun v9=>some (v9))):Option Bool).bind fun v5=>(((bif v5 then some (.next ((0:Int),(0:Int))) else (((bif decide (a3.op=(2:Int)) then some (.next ((0:Int),(wr (a2.args - (1:Int))))) else (((bif decide (a3.op=(3:Int)) then some (decide (a3.op=(3:Int))) else some (decide (a3.op=(11:Int)))):Option Bool).bind fun v39=>(((bif v39 then some (.next ((0:Int),(wr (a2.temps - (1:Int))))) else (((bif decide (a3.op=(4:Int)) then some (decide (a3.op=(4:Int))) else some (decide (a3.op=(12:Int)))):Option Bool).bind fun v48=>(((bif v48 then ((P5 N a0 a1).bind fun r57=>some (.next ((0:Int),(wr (r57 - (1:Int)))))) else (((bif decide (a3.op=(5:Int)) then some (.next ((-1073741824:Int),(1073741824:Int))) else (((bif decide (a3.op=(13:Int)) then (((bif decide ((0:Int) < a3.a) then some (decide (a3.a < (4:Int))) else some (false)):Option Bool).bind fun v69=>(bif v69 then some (.ret (3:Int)) else some (.next (wr ((a0.classes.length:Int) - (1:Int)))))) else (((bif decide (a3.op=(14:Int)) then some (.next (4:Int)) else (((bif decide (a3.op=(15:Int)) then some (decide (a3.op=(15:Int))) else some (decide (a3.op=(16:Int)))):Option Bool).bind fun v78=>(bif v78 then some (.next (wr ((a2.code.length:Int) - (1:Int)))) else some (.ret (1:Int))))):Option (G8 Int Int)).bind fun o=>match o with|.ret r=>some (.ret r)|.next v74=>some (.next v74))):Option (G8 Int Int)).bind fun o=>match o with|.ret r=>some (.ret r)|.next v64=>some (.next ((0:Int),v64)))):Option (G8 Int (Int×Int))).bind fun o=>match o with|.ret r=>some (.ret r)|.next (v59,v60)=>some (.next (v59,v60)))):Option (G8 Int (Int×Int))).bind fun o=>match o with|.ret r=>some (.ret r)|.next (v52,v53)=>some (.next (v52,v53))))):Option (G8 Int (Int×Int))).bind fun o=>match o with|.ret r=>some (.ret r)|.next (v43,v44)=>some (.next (v43,v44))))):Option (G8 Int (Int×Int))).bind fun o=>match o with|.ret r=>some (.ret r)|.next (v34,v35)=>some (.next (v34,v35)))):Option (G8 Int (Int×Int))).bind fun o=>match o with|.ret r=>some (.ret r)|.next (v29,v30)=>some (.next (v29,v30)))):Option (G8 Int (Int×Int))).bind fun o=>match o with|.ret r=>some r|.next (v1,v2)=>(((bif decide (a3.a < v1) then some (true) else some (decide (v2 < a3.a))):Option Bool).bind fun v84=>(bif v84 then some (3:Int) else (((bif decide (a3.op=(14:Int)) then ((V8 N a3.name).bind fun r93=>(bif (!r93) then some (true) else (bif (!decide (a3.op=(14:Int))) then (bif (!decide (a3.name=(⟨#[]⟩:ByteArray))) then some (true) else (bif (!decide (a3.b=(0:Int))) then some (true) else some ((!decide (a3.c=(0:Int)))))) else (bif (!decide (a3.b=(0:Int))) then some (true) else some ((!decide (a3.c=(0:Int)))))))) else (bif (!decide (a3.op=(14:Int))) then (bif (!decide (a3.name=(⟨#[]⟩:ByteArray))) then some (true) else (bif (!decide (a3.b=(0:Int))) then some (true) else some ((!decide (a3.c=(0:Int)))))) else (bif (!decide (a3.b=(0:Int))) then some (true) else some ((!decide (a3.c=(0:Int))))))):Option Bool).bind fun v89=>(bif v89 then some (2:Int) else some (0:Int))))))

def aC8 (N:Nat) (a0:Ins) (a1:Int):Option (Int×Int×(List Int)) :=
  (((bif decide (a0.op=(9:Int)) then some (decide (a0.op=(9:Int))) else (((bif decide (a0.op=(11:Int)) then some (decide (a0.op=(11:Int))) else some (decide (a0.op=(12:Int)))):Option Bool).bind fun v5=>some (v5))):Option Bool).bind fun v1=>(bif v1 then some ((1:Int),(-1:Int),[(wr (a1+(1:Int)))]) else (bif decide (a0.op=(10:Int)) then some ((1:Int),(1:Int),[(wr (a1+(1:Int)))]) else (bif decide (a0.op=(14:Int)) then (bif decide (J6 (-a0.a)) then some ((wr (a0.a+(1:Int))),(-a0.a),[(wr (a1+(1:Int)))]) else none) else (bif decide (a0.op=(15:Int)) then some ((0:Int),(0:Int),[a0.a]) else (bif decide (a0.op=(16:Int)) then some ((1:Int),(-1:Int),[(wr (a1+(1:Int))),a0.a]) else (bif decide (a0.op=(17:Int)) then some ((1:Int),(-1:Int),([]:List Int)) else some ((0:Int),(1:Int),[(wr (a1+(1:Int)))]))))))))

def I5 (N:Nat):Nat→Nat→(List Int)→Option ((List Int))
  |0,k4,v5=>some (v5)
  |n12+1,k4,v5=>((C9 v5 (k4:Int)).bind fun x16=>I5 N n12 (k4+1) (v5.set ((k4:Int).toNat) (-1:Int)))

def I6 (N:Nat) (x42:Int) (r61:(Int×Int×(List Int))):List Int→Nat→(List Int)→(List Int)→Option (((List Int)×(List Int)))
  |[],k73,v74,v75=>some ((v74,v75))
  |x85::rest82,k73,v74,v75=>((C9 r61.2.2 (k73:Int)).bind fun x88=>(bif Nat.ble ((v74.length+[x88].length)*8) 140737488355328 then (bif Nat.ble ((v75.length+[(wr (x42+r61.2.1))].length)*8) 140737488355328 then I6 N x42 r61 rest82 (k73+1) (v74++[x88]) (v75++[(wr (x42+r61.2.1))]) else none) else none))

def I4 (N:Nat) (a0:Me):Nat→(List Int)→(List Int)→(List Int)→Int→Option (G8 ((List Int)×K3) (List Int))
  |0,_,_,_,_=>none
  |n32+1,v19,v20,v21,v22=>(bif decide (v22 < (v20.length:Int)) then ((((C9 v20 v22).bind fun x40=>((C9 v21 v22).bind fun x42=>(((bif decide ((a0.code.length:Int)≤x40) then some (true) else some (decide (x40 < (0:Int)))):Option Bool).bind fun v44=>(bif v44 then some (.ret (([]:List Int),(⟨(9:Int),(a0.code.length:Int)⟩:K3))) else ((C9 v19 x40).bind fun x51=>(bif decide ((0:Int)≤x51) then ((C9 v19 x40).bind fun x54=>(bif (!decide (x54=x42)) then some (.ret (([]:List Int),(⟨(8:Int),x40⟩:K3))) else some (.next (v19,v20,v21)))) else ((C9 v19 x40).bind fun x57=>((C9 a0.code x40).bind fun x59=>((aC8 N x59 x40).bind fun r61=>(((bif decide (x42 < r61.1) then some (true) else ((C9 a0.code x40).bind fun x67=>(bif decide (x67.op=(17:Int)) then some ((!decide (x42=(1:Int)))) else some (false)))):Option Bool).bind fun v63=>(bif v63 then some (.ret (([]:List Int),(⟨(8:Int),x40⟩:K3))) else (bif decide ((12:Int) < (wr (x42+r61.2.1))) then some (.ret (([]:List Int),(⟨(4:Int),x40⟩:K3))) else ((I6 N x42 r61 r61.2.2 0 v20 v21).bind fun (v78,v79)=>some (.next ((v19.set x40.toNat x42),v78,v79))))))))))))))):Option (G8 ((List Int)×K3) ((List Int)×(List Int)×(List Int)))).bind fun o=>match o with|.ret r=>some (.ret r)|.next (v35,v36,v37)=>I4 N a0 n32 v35 v36 v37 (wr (v22+(1:Int)))) else some (.next v19))

def Q7 (N:Nat) (a0:Me):Option ((List Int)×K3) :=
  (bif (decide (0≤(a0.code.length:Int)) && decide ((a0.code.length:Int)≤140737488355328) && decide ((a0.code.length:Int)*8≤140737488355328)) then ((I5 N ((((List.replicate (a0.code.length:Int).toNat (0:Int)).length:Int) - ((0:Nat):Int)).toNat) 0 (List.replicate (a0.code.length:Int).toNat (0:Int))).bind fun v7=>((I4 N a0 N v7 [(0:Int)] [(0:Int)] (0:Int)).bind fun o=>match o with|.ret r=>some r|.next v27=>some (v27,(⟨(0:Int),(0:Int)⟩:K3)))) else none)

def N9 (N:Nat) (a0:Wd) (a1:Int) (a2:Me):List Ins→Nat→Option (G8 K3 Unit)
  |[],k26=>some (.next ())
  |x32::rest29,k26=>((M0 N a0 a1 a2 x32).bind fun r35=>(bif (!decide (r35=(0:Int))) then some (.ret (⟨r35,(k26:Int)⟩:K3)) else N9 N a0 a1 a2 rest29 (k26+1)))

def Q8 (N:Nat) (a0:Wd) (a1:Int) (a2:Me):Option K3 :=
  (((bif decide (a1 < (0:Int)) then some (true) else some (decide ((a0.classes.length:Int)≤a1))):Option Bool).bind fun v1=>(bif v1 then some (⟨(6:Int),(0:Int)⟩:K3) else ((V8 N a2.name).bind fun r7=>(bif (!r7) then some (⟨(7:Int),(0:Int)⟩:K3) else (((bif decide (a2.args < (0:Int)) then some (true) else (bif decide ((4:Int) < a2.args) then some (true) else (bif decide (a2.temps < (0:Int)) then some (true) else some (decide ((6:Int) < a2.temps))))):Option Bool).bind fun v10=>(bif v10 then some (⟨(3:Int),(0:Int)⟩:K3) else (bif (!decide (a2.prim=(0:Int))) then some (⟨(1:Int),(0:Int)⟩:K3) else (((bif decide ((a2.code.length:Int)=(0:Int)) then some (true) else some (decide ((60:Int) < (a2.code.length:Int)))):Option Bool).bind fun v18=>(bif v18 then some (⟨(5:Int),(0:Int)⟩:K3) else ((N9 N a0 a1 a2 a2.code 0).bind fun o=>match o with|.ret r=>some r|.next ()=>((Q7 N a2).bind fun r38=>some r38.2)))))))))))

def aA8 (N:Nat) (a0:V) (a1:Int):Option Int :=
  (((bif decide (a0.k < (0:Int)) then some (true) else some (decide ((4:Int) < a0.k))):Option Bool).bind fun v1=>(bif v1 then some (1:Int) else (((bif decide (a0.k < (3:Int)) then some ((!decide (a0.n=(0:Int)))) else some (false)):Option Bool).bind fun v6=>(bif v6 then some (2:Int) else (((bif decide (a0.k=(3:Int)) then (bif decide (a0.n < (-1073741824:Int)) then some (true) else some (decide ((1073741824:Int) < a0.n))) else some (false)):Option Bool).bind fun v11=>(bif v11 then some (3:Int) else (((bif decide (a0.k=(4:Int)) then (bif decide (a0.n < (0:Int)) then some (true) else some (decide (a1≤a0.n))) else some (false)):Option Bool).bind fun v17=>(bif v17 then some (6:Int) else some (0:Int)))))))))

def K5 (N:Nat) (x24:Cl):List Cl→Nat→Option (G8 Int Unit)
  |[],k39=>some (.next ())
  |x45::rest42,k39=>(bif decide (x45.name=x24.name) then some (.ret (7:Int)) else K5 N x24 rest42 (k39+1))

def I9 (N:Nat) (a0:Wd) (r1:Wd):List Cl→Nat→Option (G8 Int Unit)
  |[],k18=>some (.next ())
  |x24::rest21,k18=>((((V8 N x24.name).bind fun r30=>(bif (!r30) then some (true) else (bif decide ((k18:Int) < (4:Int)) then ((C9 r1.classes (k18:Int)).bind fun x34=>some ((!decide (x24.name=x34.name)))) else some (false)))):Option Bool).bind fun v27=>(bif v27 then some (.ret (7:Int)) else (bif (decide (0≤(k18:Int)) && decide ((k18:Int)≤(a0.classes.length:Int))) then ((K5 N x24 (a0.classes.take (k18:Int).toNat) 0).bind fun o=>match o with|.ret r=>some (.ret r)|.next ()=>(((bif decide ((k18:Int) < (4:Int)) then ((C9 r1.classes (k18:Int)).bind fun x53=>(bif (!decide (x24.super=x53.super)) then some (.ret (3:Int)) else some (.next (0:Int)))) else (((bif decide (x24.super < (0:Int)) then some (true) else (bif decide ((k18:Int)≤x24.super) then some (true) else (bif decide ((0:Int) < x24.super) then some (decide (x24.super < (4:Int))) else some (false)))):Option Bool).bind fun v56=>(bif v56 then some (.ret (3:Int)) else some (.next (6:Int))))):Option (G8 Int Int)).bind fun o=>match o with|.ret r=>some (.ret r)|.next v49=>(((bif decide (x24.slots < (0:Int)) then some (true) else some (decide (v49 < x24.slots))):Option Bool).bind fun v63=>(bif v63 then some (.ret (3:Int)) else I9 N a0 r1 rest21 (k18+1))))) else none)))

def K7 (N:Nat) (k69:Nat) (x90:Me):List Me→Nat→Bool→Option (Bool)
  |[],k103,v104=>some (v104)
  |x112::rest109,k103,v104=>(((((bif v104 then some (true) else (bif decide ((k69:Int)=(3:Int)) then (bif decide (x112.name=x90.name) then (bif decide (x112.prim=x90.prim) then (bif decide (x90.args=(1:Int)) then (bif decide (x90.temps=(0:Int)) then some (decide ((x90.code.length:Int)=(0:Int))) else some (false)) else some (false)) else some (false)) else some (false)) else some (false))):Option Bool).bind fun v118=>some (v118)):Option Bool).bind fun v115=>K7 N k69 x90 rest109 (k103+1) v115)

def I8 (N:Nat) (a0:Wd) (r1:Wd) (k69:Nat) (x75:Cl):List Me→Nat→Option (G8 Int Unit)
  |[],k84=>some (.next ())
  |x90::rest87,k84=>(((bif decide ((0:Int) < (k84:Int)) then ((C9 x75.methods (wr ((k84:Int) - (1:Int)))).bind fun x97=>some ((!G6 x97.name x90.name))) else some (false)):Option Bool).bind fun v93=>(bif v93 then some (.ret (7:Int)) else ((C9 r1.classes (3:Int)).bind fun x100=>((K7 N k69 x90 x100.methods 0 false).bind fun v106=>((Q8 N a0 (k69:Int) x90).bind fun r128=>(((bif (!v106) then some ((!decide (r128.err=(0:Int)))) else some (false)):Option Bool).bind fun v130=>(bif v130 then some (.ret r128.err) else I8 N a0 r1 k69 x75 rest87 (k84+1))))))))

def M8 (N:Nat) (a0:Wd) (r1:Wd):List Cl→Nat→Option (G8 Int Unit)
  |[],k69=>some (.next ())
  |x75::rest72,k69=>((P5 N a0 (k69:Int)).bind fun r78=>(bif decide ((6:Int) < r78) then some (.ret (3:Int)) else (bif decide ((8:Int) < (x75.methods.length:Int)) then some (.ret (5:Int)) else ((I8 N a0 r1 k69 x75 x75.methods 0).bind fun o=>match o with|.ret r=>some (.ret r)|.next ()=>M8 N a0 r1 rest72 (k69+1)))))

def K8 (N:Nat) (a0:Wd):List V→Nat→Option (G8 Int Unit)
  |[],k163=>some (.next ())
  |x169::rest166,k163=>((aA8 N x169 (a0.heap.length:Int)).bind fun r173=>(bif (!decide (r173=(0:Int))) then some (.ret r173) else K8 N a0 rest166 (k163+1)))

def K6 (N:Nat) (a0:Wd):List Ob→Nat→Option (G8 Int Unit)
  |[],k136=>some (.next ())
  |x142::rest139,k136=>(((bif decide (x142.cls < (0:Int)) then some (true) else (bif decide ((0:Int) < x142.cls) then (bif decide (x142.cls < (4:Int)) then some (true) else (bif decide ((a0.classes.length:Int)≤x142.cls) then some (true) else ((P5 N a0 x142.cls).bind fun r154=>some ((!decide ((x142.slots.length:Int)=r154)))))) else (bif decide ((a0.classes.length:Int)≤x142.cls) then some (true) else ((P5 N a0 x142.cls).bind fun r159=>some ((!decide ((x142.slots.length:Int)=r159))))))):Option Bool).bind fun v145=>(bif v145 then some (.ret (8:Int)) else ((K8 N a0 x142.slots 0).bind fun o=>match o with|.ret r=>some (.ret r)|.next ()=>K6 N a0 rest139 (k136+1))))

def aB9 (N:Nat) (a0:Wd):Option Int :=
  ((aS5 N).bind fun r1=>(((bif decide ((a0.classes.length:Int) < (4:Int)) then some (true) else (bif decide ((12:Int) < (a0.classes.length:Int)) then some (true) else some (decide ((60:Int) < (a0.heap.length:Int))))):Option Bool).bind fun v3=>(bif v3 then some (5:Int) else (((bif decide (a0.epoch < (0:Int)) then some (true) else some (decide ((1073741824:Int) < a0.epoch))):Option Bool).bind fun v12=>(bif v12 then some (3:Int) else ((I9 N a0 r1 a0.classes 0).bind fun o=>match o with|.ret r=>some r|.next ()=>((M8 N a0 r1 a0.classes 0).bind fun o=>match o with|.ret r=>some r|.next ()=>((K6 N a0 a0.heap 0).bind fun o=>match o with|.ret r=>some r|.next ()=>some (0:Int)))))))))

def aA0 (N:Nat) (a0:ByteArray):Nat→Nat→Option (G8 Bool Unit)
  |0,k9=>some (.next ())
  |n14+1,k9=>((((byO a0 (k9:Int)).bind fun u21=>(bif decide ((u21.toNat:Int)≤(32:Int)) then some (true) else ((byO a0 (k9:Int)).bind fun u24=>some (decide ((126:Int) < (u24.toNat:Int)))))):Option Bool).bind fun v18=>(bif v18 then some (.ret false) else aA0 N a0 n14 (k9+1)))

def aK1 (N:Nat) (a0:ByteArray):Option Bool :=
  (((bif decide ((a0.size:Int) < (1:Int)) then some (true) else some (decide ((12:Int) < (a0.size:Int)))):Option Bool).bind fun v1=>(bif v1 then some false else ((aA0 N a0 (((a0.size:Int) - ((0:Nat):Int)).toNat) 0).bind fun o=>match o with|.ret r=>some r|.next ()=>some true)))

def aC5 (N:Nat) (a0:List V):Option (List V):=bif Nat.ble (a0.length*16) 140737488355328 then some a0 else none

def O9 (N:Nat):List Ob→Nat→(List Ob)→Option ((List Ob))
  |[],k2,v3=>some (v3)
  |x11::rest8,k2,v3=>((aC5 N x11.slots).bind fun r14=>(bif Nat.ble ((v3.length+[(⟨x11.cls,r14⟩:Ob)].length)*32) 140737488355328 then O9 N rest8 (k2+1) (v3++[(⟨x11.cls,r14⟩:Ob)]) else none))

def aB7 (N:Nat) (a0:(List Ob)):Option (List Ob) :=
  ((O9 N a0 0 ([]:List Ob)).bind fun v5=>some v5)

def Z6 (N:Nat) (a0:List Ins):Option (List Ins):=bif Nat.ble (a0.length*48) 140737488355328 then some a0 else none

def N8 (N:Nat) (a0:Me):Option Me :=
  ((Z6 N a0.code).bind fun r1=>some (⟨a0.name,a0.args,a0.temps,a0.prim,r1⟩:Me))

def aB3 (N:Nat):List Me→Nat→(List Me)→Option ((List Me))
  |[],k17,v18=>some (v18)
  |x26::rest23,k17,v18=>((N8 N x26).bind fun r29=>(bif Nat.ble ((v18.length+[r29].length)*64) 140737488355328 then aB3 N rest23 (k17+1) (v18++[r29]) else none))

def aB1 (N:Nat):List Cl→Nat→(List Cl)→Option ((List Cl))
  |[],k4,v5=>some (v5)
  |x13::rest10,k4,v5=>((aB3 N x13.methods 0 ([]:List Me)).bind fun v20=>(bif Nat.ble ((v5.length+[(⟨x13.name,x13.super,x13.slots,v20⟩:Cl)].length)*56) 140737488355328 then aB1 N rest10 (k4+1) (v5++[(⟨x13.name,x13.super,x13.slots,v20⟩:Cl)]) else none))

def aV1 (N:Nat) (a0:Wd):Option Wd :=
  ((aB7 N a0.heap).bind fun r1=>((aB1 N a0.classes 0 ([]:List Cl)).bind fun v7=>some (⟨v7,r1,a0.epoch⟩:Wd)))

def Y3 (N:Nat) (a0:Wd):Nat→Int→Int→Int→Option (Int)
  |0,_,_,_=>none
  |n13+1,v2,v3,v4=>(((bif decide ((0:Int)≤v2) then (bif decide (v2 < (a0.classes.length:Int)) then some (decide (v4≤(a0.classes.length:Int))) else some (false)) else some (false)):Option Bool).bind fun v14=>(bif v14 then ((C9 a0.classes v2).bind fun x22=>((C9 a0.classes v2).bind fun x24=>Y3 N a0 n13 x24.super (wr (v3+x22.slots)) (wr (v4+(1:Int))))) else some (v3)))

def aI3 (N:Nat) (a0:Wd) (a1:Int):Option Int :=
  ((Y3 N a0 N a1 (0:Int) (0:Int)).bind fun v8=>some v8)

def J4 (N:Nat) (a1:(List Ins)):List Ins→Nat→Option (G8 Bool Unit)
  |[],k5=>some (.next ())
  |x11::rest8,k5=>((C9 a1 (k5:Int)).bind fun x14=>(bif (!(aB0 (aE9 x11) (aE9 x14))) then some (.ret false) else J4 N a1 rest8 (k5+1)))

def U9 (N:Nat) (a0:(List Ins)) (a1:(List Ins)):Option Bool :=
  (bif (!decide ((a0.length:Int)=(a1.length:Int))) then some false else ((J4 N a1 a0 0).bind fun o=>match o with|.ret r=>some r|.next ()=>some true))

def x9 (N:Nat) (g1:(Cl→Option Bool)):List Cl→Nat→Option (G8 Int Unit)
  |[],k2=>some (.next ())
  |x8::rest5,k2=>((g1 x8).bind fun r11=>(bif r11 then some (.ret (k2:Int)) else x9 N g1 rest5 (k2+1)))

def H9 (N:Nat) (a0:(List Cl)) (g1:Cl→Option Bool):Option Int :=
  ((x9 N g1 a0 0).bind fun o=>match o with|.ret r=>some r|.next ()=>some (-1:Int))

def G5 (N:Nat) (a0:(List Cl)) (g1:Cl→Option Bool):Option Bool :=
  ((H9 N a0 g1).bind fun r1=>some (decide ((0:Int)≤r1)))

def aE3 (N:Nat) (a0:Cl) (b0:ByteArray):Option Bool :=
  some (decide (a0.name=b0))

def Y6 (N:Nat):List Me→Nat→(List Me)→Option ((List Me))
  |[],k17,v18=>some (v18)
  |x26::rest23,k17,v18=>((N8 N x26).bind fun r29=>(bif Nat.ble ((v18.length+[r29].length)*64) 140737488355328 then Y6 N rest23 (k17+1) (v18++[r29]) else none))

def Y2 (N:Nat):List Cl→Nat→(List Cl)→Option ((List Cl))
  |[],k4,v5=>some (v5)
  |x13::rest10,k4,v5=>((Y6 N x13.methods 0 ([]:List Me)).bind fun v20=>(bif Nat.ble ((v5.length+[(⟨x13.name,x13.super,x13.slots,v20⟩:Cl)].length)*56) 140737488355328 then Y2 N rest10 (k4+1) (v5++[(⟨x13.name,x13.super,x13.slots,v20⟩:Cl)]) else none))

def aO4 (N:Nat) (a0:Wd):Option Wd :=
  ((aB7 N a0.heap).bind fun r1=>((Y2 N a0.classes 0 ([]:List Cl)).bind fun v7=>some (⟨v7,r1,a0.epoch⟩:Wd)))

def aK6 (N:Nat) (a0:Wd) (a1:ByteArray) (a2:Int) (a3:Int):Option (Wd×Int×Int) :=
  ((((aK1 N a1).bind fun r4=>(bif (!r4) then some (true) else ((G5 N a0.classes (fun x0_=>aE3 N x0_ a1)).bind fun r7=>some (r7)))):Option Bool).bind fun v1=>(bif v1 then some ((⟨[],[],(0:Int)⟩:Wd),(0:Int),(7:Int)) else (((bif decide (a2 < (0:Int)) then some (true) else some (decide ((a0.classes.length:Int)≤a2))):Option Bool).bind fun v10=>(bif v10 then some ((⟨[],[],(0:Int)⟩:Wd),(0:Int),(6:Int)) else (((bif decide (a3 < (0:Int)) then some (true) else ((aI3 N a0 a2).bind fun r20=>(bif decide ((wr ((6:Int) - r20)) < a3) then some (true) else (bif (!decide (a2=(0:Int))) then some (decide (a2 < (4:Int))) else some (false))))):Option Bool).bind fun v16=>(bif v16 then some ((⟨[],[],(0:Int)⟩:Wd),(0:Int),(3:Int)) else (bif decide ((12:Int)≤(a0.classes.length:Int)) then some ((⟨[],[],(0:Int)⟩:Wd),(0:Int),(5:Int)) else ((aO4 N a0).bind fun r27=>(bif Nat.ble ((r27.classes.length+[(⟨a1,a2,a3,[]⟩:Cl)].length)*56) 140737488355328 then some ((⟨(r27.classes++[(⟨a1,a2,a3,[]⟩:Cl)]),r27.heap,r27.epoch⟩:Wd),(a0.classes.length:Int),(0:Int)) else none)))))))))

def M5 (N:Nat):List Me→Nat→(List Me)→Option ((List Me))
  |[],k17,v18=>some (v18)
  |x26::rest23,k17,v18=>((N8 N x26).bind fun r29=>(bif Nat.ble ((v18.length+[r29].length)*64) 140737488355328 then M5 N rest23 (k17+1) (v18++[r29]) else none))

def M4 (N:Nat):List Cl→Nat→(List Cl)→Option ((List Cl))
  |[],k4,v5=>some (v5)
  |x13::rest10,k4,v5=>((M5 N x13.methods 0 ([]:List Me)).bind fun v20=>(bif Nat.ble ((v5.length+[(⟨x13.name,x13.super,x13.slots,v20⟩:Cl)].length)*56) 140737488355328 then M4 N rest10 (k4+1) (v5++[(⟨x13.name,x13.super,x13.slots,v20⟩:Cl)]) else none))

def aD0 (N:Nat) (a0:Wd):Option Wd :=
  ((aB7 N a0.heap).bind fun r1=>((M4 N a0.classes 0 ([]:List Cl)).bind fun v7=>some (⟨v7,r1,a0.epoch⟩:Wd)))

def U6 (N:Nat) (a0:Wd) (a1:Int) (a2:Me):Option (Wd×Int) :=
  (((bif decide (a1 < (0:Int)) then some (true) else some (decide ((a0.classes.length:Int)≤a1))):Option Bool).bind fun v1=>(bif v1 then some ((⟨[],[],(0:Int)⟩:Wd),(6:Int)) else ((C9 a0.classes a1).bind fun x7=>((p8 N x7.methods a2.name (fun x0_ x1_=>J5 N x0_ x1_)).bind fun r9=>(((bif (!r9.2) then ((C9 a0.classes a1).bind fun x15=>some (decide ((8:Int)≤(x15.methods.length:Int)))) else some (false)):Option Bool).bind fun v11=>(bif v11 then some ((⟨[],[],(0:Int)⟩:Wd),(5:Int)) else ((aD0 N a0).bind fun r19=>((C9 r19.classes a1).bind fun x21=>(((bif (!r9.2) then ((T9 N x21.methods r9.1 [(⟨ByteArray.empty,(0:Int),(0:Int),(0:Int),[]⟩:Me)]).bind fun r27=>some ((r19.classes.set a1.toNat (⟨x21.name,x21.super,x21.slots,r27⟩:Cl)))) else some (r19.classes)):Option (List Cl)).bind fun v23=>((v23[a1.toNat]?).bind fun x29=>((N8 N a2).bind fun r31=>((C9 x29.methods r9.1).bind fun x33=>some ((⟨(v23.set a1.toNat (⟨x29.name,x29.super,x29.slots,(x29.methods.set r9.1.toNat r31)⟩:Cl)),r19.heap,(wr (r19.epoch+(1:Int)))⟩:Wd),(0:Int))))))))))))))

def aA9 (N:Nat):Option Bool :=
  ((bF7 N).bind fun r1=>((aK6 N r1 (⟨#[65]⟩:ByteArray) (0:Int) (2:Int)).bind fun r3=>((aK6 N r3.1 (⟨#[66]⟩:ByteArray) r3.2.1 (1:Int)).bind fun r5=>((U6 N r5.1 r3.2.1 (⟨(⟨#[109]⟩:ByteArray),(1:Int),(0:Int),(0:Int),[]⟩:Me)).bind fun r7=>((V3 N r7.1 r5.2.1 (⟨#[109]⟩:ByteArray)).bind fun r9=>(((bif decide (r3.2.2=(0:Int)) then (bif decide (r5.2.2=(0:Int)) then (bif decide (r7.2=(0:Int)) then (bif decide (r3.2.1=(4:Int)) then (bif decide (r5.2.1=(5:Int)) then (bif decide (r9.1=(4:Int)) then (bif decide (r9.2=(0:Int)) then ((aI3 N r7.1 r5.2.1).bind fun r21=>(bif decide (r21=(3:Int)) then (bif decide (r7.1.epoch=(1:Int)) then ((aK1 N (⟨#[43]⟩:ByteArray)).bind fun r25=>(bif r25 then ((aV1 N r7.1).bind fun r28=>(bif decide ((r28.classes.length:Int)=(6:Int)) then ((N8 N (⟨ByteArray.empty,(3:Int),(0:Int),(0:Int),[]⟩:Me)).bind fun r32=>some (decide (r32.args=(3:Int)))) else some (false))) else some (false))) else some (false)) else some (false))) else some (false)) else some (false)) else some (false)) else some (false)) else some (false)) else some (false)) else some (false)):Option Bool).bind fun v11=>some v11))))))

def P6 (N:Nat) (a0:Wd) (a1:Int) (a2:Me) (a3:Int) (a4:ByteArray):Option Bool :=
  ((aA9 N).bind fun r1=>(bif (!r1) then some false else ((aB9 N a0).bind fun r4=>(bif (!decide (r4=(0:Int))) then some true else ((U6 N a0 a1 a2).bind fun r7=>(bif (!decide (r7.2=(0:Int))) then some (decide ((r7.1.classes.length:Int)=(0:Int))) else ((V3 N r7.1 a1 a2.name).bind fun r11=>(((bif (!decide (r11.1=a1)) then some (true) else (bif decide (r11.2 < (0:Int)) then some (true) else ((C9 r7.1.classes a1).bind fun x18=>(bif decide ((x18.methods.length:Int)≤r11.2) then some (true) else ((C9 r7.1.classes a1).bind fun x22=>((C9 x22.methods r11.2).bind fun x24=>((U9 N x24.code a2.code).bind fun r26=>some ((!r26))))))))):Option Bool).bind fun v13=>(bif v13 then some false else ((V3 N a0 a3 a4).bind fun r29=>((V3 N r7.1 a3 a4).bind fun r31=>(((bif decide (a4=a2.name) then some (true) else some (decide (r29.2 < (0:Int)))):Option Bool).bind fun v33=>(bif v33 then (((bif decide (a4=a2.name) then some (true) else some (decide (r31.2 < (0:Int)))):Option Bool).bind fun v38=>some v38) else (((bif decide (r29.1=r31.1) then (bif decide ((0:Int)≤r31.2) then ((C9 r7.1.classes r31.1).bind fun x47=>(bif decide (r31.2 < (x47.methods.length:Int)) then ((C9 r7.1.classes r31.1).bind fun x51=>((C9 x51.methods r31.2).bind fun x53=>some (decide (x53.name=a4)))) else some (false))) else some (false)) else some (false)):Option Bool).bind fun v42=>some v42))))))))))))))
end Go.Proofs.Ytahmeibkdhbngaa
