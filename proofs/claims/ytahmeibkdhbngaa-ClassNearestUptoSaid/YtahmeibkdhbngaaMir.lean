/- Functions that mirror the program's. Printed by mir.py. -/
import Derived.Test.YtahmeibkdhbngaaHd
namespace Go.Proofs.Ytahmeibkdhbngaa
open Go.RowKit
set_option linter.unusedVariables false

def l8 (N:Nat) (a0:(List Me)) (a1:ByteArray) (g2:(Me→ByteArray→Option Int)):Nat→Int→Int→Option (Int)
  |0,_,_=>none
  |n12+1,v3,v4=>(bif decide (v3 < v4) then (((bif decide (0≤(wr (v3+v4))) then (bif decide (J5 ((wr (v3+v4)) / 2)) then ((F9 a0 ((wr (v3+v4)) / 2)).bind fun x20=>((g2 x20 a1).bind fun r22=>(((bif decide (r22 < (0:Int)) then some (((wr (((wr (v3+v4)) / 2)+(1:Int))),v4)) else some ((v3,((wr (v3+v4)) / 2)))):Option (Int×Int)).bind fun (v24,v25)=>some ((v24,v25))))) else none) else none):Option (Int×Int)).bind fun (v14,v15)=>l8 N a0 a1 g2 n12 v14 v15) else some (v3))

def p8 (N:Nat) (a0:(List Me)) (a1:ByteArray) (g2:Me→ByteArray→Option Int):Option (Int×Bool) :=
  ((l8 N a0 a1 g2 N (0:Int) (a0.length:Int)).bind fun v7=>(((bif decide (v7 < (a0.length:Int)) then ((F9 a0 v7).bind fun x33=>((g2 x33 a1).bind fun r35=>some (decide (r35=(0:Int))))) else some (false)):Option Bool).bind fun v29=>some (v7,v29)))

def cmp_isNaN_string (N:Nat) (a0:ByteArray):Option Bool :=
  some (!decide (a0=a0))

def U2 (N:Nat) (a0:ByteArray) (a1:ByteArray):Option Int :=
  ((cmp_isNaN_string N a0).bind fun r1=>((cmp_isNaN_string N a1).bind fun r3=>(bif r1 then (bif r3 then some (0:Int) else some (-1:Int)) else (bif r3 then some (1:Int) else (bif (M0 a0 a1) then some (-1:Int) else (bif (!(M0 a0 a1 || decide (a0=a1))) then some (1:Int) else some (0:Int)))))))

def J4 (N:Nat) (a0:Me) (a1:ByteArray):Option Int :=
  ((U2 N a0.name a1).bind fun r1=>some r1)

def N7 (N:Nat) (a0:Wd) (a2:ByteArray):Nat→Int→Int→Option (G6 (Int×Int) Unit)
  |0,_,_=>none
  |n10+1,v2,v3=>(((bif decide ((0:Int)≤v2) then (bif decide (v2 < (a0.classes.length:Int)) then some (decide (v3≤(a0.classes.length:Int))) else some (false)) else some (false)):Option Bool).bind fun v11=>(bif v11 then ((F9 a0.classes v2).bind fun x19=>((p8 N x19.methods a2 (fun x0_ x1_=>J4 N x0_ x1_)).bind fun r21=>(bif r21.2 then some (.ret (v2,r21.1)) else ((F9 a0.classes v2).bind fun x24=>N7 N a0 a2 n10 x24.super (wr (v3+(1:Int))))))) else some (.next ())))

def aB3 (N:Nat) (a0:Wd) (a1:Int) (a2:ByteArray):Option (Int×Int) :=
  ((N7 N a0 a2 N a1 (0:Int)).bind fun o=>match o with|.ret r=>some r|.next ()=>some ((-1:Int),(-1:Int)))

def N9 (N:Nat) (a0:ByteArray):Nat→Nat→Option (G6 Bool Unit)
  |0,k2=>some (.next ())
  |n7+1,k2=>((((byO a0 (k2:Int)).bind fun u14=>(bif decide ((u14.toNat:Int) < (33:Int)) then some (true) else ((byO a0 (k2:Int)).bind fun u17=>some (decide ((126:Int) < (u17.toNat:Int)))))):Option Bool).bind fun v11=>(bif v11 then some (.ret false) else N9 N a0 n7 (k2+1)))

def U7 (N:Nat) (a0:ByteArray):Option Bool :=
  ((N9 N a0 (((a0.size:Int) - ((0:Nat):Int)).toNat) 0).bind fun o=>match o with|.ret r=>some r|.next ()=>(((bif decide ((0:Int) < (a0.size:Int)) then some (decide ((a0.size:Int)≤(12:Int))) else some (false)):Option Bool).bind fun v20=>some v20))

def O6 (N:Nat) (a0:Wd):Nat→Int→(List Int)→Option ((List Int))
  |0,_,_=>none
  |n11+1,v2,v3=>(((bif decide ((0:Int)≤v2) then (bif decide (v2 < (a0.classes.length:Int)) then some (decide ((v3.length:Int)≤(a0.classes.length:Int))) else some (false)) else some (false)):Option Bool).bind fun v12=>(bif v12 then (bif Nat.ble ((v3.length+[v2].length)*8) 140737488355328 then ((F9 a0.classes v2).bind fun x22=>O6 N a0 n11 x22.super (v3++[v2])) else none) else some (v3)))

def aE1 (N:Nat) (a0:Wd) (a1:Int):Option (List Int) :=
  ((O6 N a0 N a1 ([]:List Int)).bind fun v6=>some v6)

def M7 (N:Nat) (a0:Wd) (r1:(List Int)):List Int→Nat→Int→Option (Int)
  |[],k4,v5=>some (v5)
  |x13::rest10,k4,v5=>((F9 r1 (k4:Int)).bind fun x16=>((F9 a0.classes x16).bind fun x18=>M7 N a0 r1 rest10 (k4+1) (wr (v5+x18.slots))))

def O4 (N:Nat) (a0:Wd) (a1:Int):Option Int :=
  ((aE1 N a0 a1).bind fun r1=>((M7 N a0 r1 r1 0 (0:Int)).bind fun v7=>some v7))

def L8 (N:Nat) (a0:Wd) (a1:Int) (a2:Me) (a3:Ins):Option Int :=
  (((((bif decide (a3.op=(1:Int)) then some (decide (a3.op=(1:Int))) else (((bif decide (a3.op=(6:Int)) then some (decide (a3.op=(6:Int))) else (((bif decide (a3.op=(7:Int)) then some (decide (a3.op=(7:Int))) else (((bif decide (a3.op=(8:Int)) then some (decide (a3.op=(8:Int))) else (((bif decide (a3.op=(9:Int)) then some (decide (a3.op=(9:Int))) else (((bif decide (a3.op=(10:Int)) then some (decide (a3.op=(10:Int))) else some (decide (a3.op=(17:Int)))):Option Bool).bind fun v25=>some (v25))):Option Bool).bind fun v21=>some (v21))):Option Bool).bind fun v17=>some (v17))):Option Bool).bind fun v13=>some (v13))):Option Bool).bind fun v9=>some (v9))):Option Bool).bind fun v5=>(((bif v5 then some (.next ((0:Int),(0:Int))) else (((bif decide (a3.op=(2:Int)) then some (.next ((0:Int),(wr (a2.args - (1:Int))))) else (((bif decide (a3.op=(3:Int)) then some (decide (a3.op=(3:Int))) else some (decide (a3.op=(11:Int)))):Option Bool).bind fun v39=>(((bif v39 then some (.next ((0:Int),(wr (a2.temps - (1:Int))))) else (((bif decide (a3.op=(4:Int)) then some (decide (a3.op=(4:Int))) else some (decide (a3.op=(12:Int)))):Option Bool).bind fun v48=>(((bif v48 then ((O4 N a0 a1).bind fun r57=>some (.next ((0:Int),(wr (r57 - (1:Int)))))) else (((bif decide (a3.op=(5:Int)) then some (.next ((-1073741824:Int),(1073741824:Int))) else (((bif decide (a3.op=(13:Int)) then (((bif decide ((0:Int) < a3.a) then some (decide (a3.a < (4:Int))) else some (false)):Option Bool).bind fun v69=>(bif v69 then some (.ret (3:Int)) else some (.next (wr ((a0.classes.length:Int) - (1:Int)))))) else (((bif decide (a3.op=(14:Int)) then some (.next (4:Int)) else (((bif decide (a3.op=(15:Int)) then some (decide (a3.op=(15:Int))) else some (decide (a3.op=(16:Int)))):Option Bool).bind fun v78=>(bif v78 then some (.next (wr ((a2.code.length:Int) - (1:Int)))) else some (.ret (1:Int))))):Option (G6 Int Int)).bind fun o=>match o with|.ret r=>some (.ret r)|.next v74=>some (.next v74))):Option (G6 Int Int)).bind fun o=>match o with|.ret r=>some (.ret r)|.next v64=>some (.next ((0:Int),v64)))):Option (G6 Int (Int×Int))).bind fun o=>match o with|.ret r=>some (.ret r)|.next (v59,v60)=>some (.next (v59,v60)))):Option (G6 Int (Int×Int))).bind fun o=>match o with|.ret r=>some (.ret r)|.next (v52,v53)=>some (.next (v52,v53))))):Option (G6 Int (Int×Int))).bind fun o=>match o with|.ret r=>some (.ret r)|.next (v43,v44)=>some (.next (v43,v44))))):Option (G6 Int (Int×Int))).bind fun o=>match o with|.ret r=>some (.ret r)|.next (v34,v35)=>some (.next (v34,v35)))):Option (G6 Int (Int×Int))).bind fun o=>match o with|.ret r=>some (.ret r)|.next (v29,v30)=>some (.next (v29,v30)))):Option (G6 Int (Int×Int))).bind fun o=>match o with|.ret r=>some r|.next (v1,v2)=>(((bif decide (a3.a < v1) then some (true) else some (decide (v2 < a3.a))):Option Bool).bind fun v84=>(bif v84 then some (3:Int) else (((bif decide (a3.op=(14:Int)) then ((U7 N a3.name).bind fun r93=>(bif (!r93) then some (true) else (bif (!decide (a3.op=(14:Int))) then (bif (!decide (a3.name=(⟨#[]⟩:ByteArray))) then some (true) else (bif (!decide (a3.b=(0:Int))) then some (true) else some ((!decide (a3.c=(0:Int)))))) else (bif (!decide (a3.b=(0:Int))) then some (true) else some ((!decide (a3.c=(0:Int)))))))) else (bif (!decide (a3.op=(14:Int))) then (bif (!decide (a3.name=(⟨#[]⟩:ByteArray))) then some (true) else (bif (!decide (a3.b=(0:Int))) then some (true) else some ((!decide (a3.c=(0:Int)))))) else (bif (!decide (a3.b=(0:Int))) then some (true) else some ((!decide (a3.c=(0:Int))))))):Option Bool).bind fun v89=>(bif v89 then some (2:Int) else some (0:Int))))))

def aC1 (N:Nat) (a0:Ins) (a1:Int):Option (Int×Int×(List Int)) :=
  (((bif decide (a0.op=(9:Int)) then some (decide (a0.op=(9:Int))) else (((bif decide (a0.op=(11:Int)) then some (decide (a0.op=(11:Int))) else some (decide (a0.op=(12:Int)))):Option Bool).bind fun v5=>some (v5))):Option Bool).bind fun v1=>(bif v1 then some ((1:Int),(-1:Int),[(wr (a1+(1:Int)))]) else (bif decide (a0.op=(10:Int)) then some ((1:Int),(1:Int),[(wr (a1+(1:Int)))]) else (bif decide (a0.op=(14:Int)) then (bif decide (J5 (-a0.a)) then some ((wr (a0.a+(1:Int))),(-a0.a),[(wr (a1+(1:Int)))]) else none) else (bif decide (a0.op=(15:Int)) then some ((0:Int),(0:Int),[a0.a]) else (bif decide (a0.op=(16:Int)) then some ((1:Int),(-1:Int),[(wr (a1+(1:Int))),a0.a]) else (bif decide (a0.op=(17:Int)) then some ((1:Int),(-1:Int),([]:List Int)) else some ((0:Int),(1:Int),[(wr (a1+(1:Int)))]))))))))

def I5 (N:Nat):Nat→Nat→(List Int)→Option ((List Int))
  |0,k4,v5=>some (v5)
  |n12+1,k4,v5=>((F9 v5 (k4:Int)).bind fun x16=>I5 N n12 (k4+1) (v5.set ((k4:Int).toNat) (-1:Int)))

def I7 (N:Nat) (x42:Int) (r61:(Int×Int×(List Int))):List Int→Nat→(List Int)→(List Int)→Option (((List Int)×(List Int)))
  |[],k73,v74,v75=>some ((v74,v75))
  |x85::rest82,k73,v74,v75=>((F9 r61.2.2 (k73:Int)).bind fun x88=>(bif Nat.ble ((v74.length+[x88].length)*8) 140737488355328 then (bif Nat.ble ((v75.length+[(wr (x42+r61.2.1))].length)*8) 140737488355328 then I7 N x42 r61 rest82 (k73+1) (v74++[x88]) (v75++[(wr (x42+r61.2.1))]) else none) else none))

def I6 (N:Nat) (a0:Me):Nat→(List Int)→(List Int)→(List Int)→Int→Option (G6 ((List Int)×J9) (List Int))
  |0,_,_,_,_=>none
  |n32+1,v19,v20,v21,v22=>(bif decide (v22 < (v20.length:Int)) then ((((F9 v20 v22).bind fun x40=>((F9 v21 v22).bind fun x42=>(((bif decide ((a0.code.length:Int)≤x40) then some (true) else some (decide (x40 < (0:Int)))):Option Bool).bind fun v44=>(bif v44 then some (.ret (([]:List Int),(⟨(9:Int),(a0.code.length:Int)⟩:J9))) else ((F9 v19 x40).bind fun x51=>(bif decide ((0:Int)≤x51) then ((F9 v19 x40).bind fun x54=>(bif (!decide (x54=x42)) then some (.ret (([]:List Int),(⟨(8:Int),x40⟩:J9))) else some (.next (v19,v20,v21)))) else ((F9 v19 x40).bind fun x57=>((F9 a0.code x40).bind fun x59=>((aC1 N x59 x40).bind fun r61=>(((bif decide (x42 < r61.1) then some (true) else ((F9 a0.code x40).bind fun x67=>(bif decide (x67.op=(17:Int)) then some ((!decide (x42=(1:Int)))) else some (false)))):Option Bool).bind fun v63=>(bif v63 then some (.ret (([]:List Int),(⟨(8:Int),x40⟩:J9))) else (bif decide ((12:Int) < (wr (x42+r61.2.1))) then some (.ret (([]:List Int),(⟨(4:Int),x40⟩:J9))) else ((I7 N x42 r61 r61.2.2 0 v20 v21).bind fun (v78,v79)=>some (.next ((v19.set x40.toNat x42),v78,v79))))))))))))))):Option (G6 ((List Int)×J9) ((List Int)×(List Int)×(List Int)))).bind fun o=>match o with|.ret r=>some (.ret r)|.next (v35,v36,v37)=>I6 N a0 n32 v35 v36 v37 (wr (v22+(1:Int)))) else some (.next v19))

def P5 (N:Nat) (a0:Me):Option ((List Int)×J9) :=
  (bif (decide (0≤(a0.code.length:Int)) && decide ((a0.code.length:Int)≤140737488355328) && decide ((a0.code.length:Int)*8≤140737488355328)) then ((I5 N ((((List.replicate (a0.code.length:Int).toNat (0:Int)).length:Int) - ((0:Nat):Int)).toNat) 0 (List.replicate (a0.code.length:Int).toNat (0:Int))).bind fun v7=>((I6 N a0 N v7 [(0:Int)] [(0:Int)] (0:Int)).bind fun o=>match o with|.ret r=>some r|.next v27=>some (v27,(⟨(0:Int),(0:Int)⟩:J9)))) else none)

def M4 (N:Nat) (a0:Wd) (a1:Int) (a2:Me):List Ins→Nat→Option (G6 J9 Unit)
  |[],k26=>some (.next ())
  |x32::rest29,k26=>((L8 N a0 a1 a2 x32).bind fun r35=>(bif (!decide (r35=(0:Int))) then some (.ret (⟨r35,(k26:Int)⟩:J9)) else M4 N a0 a1 a2 rest29 (k26+1)))

def P9 (N:Nat) (a0:Wd) (a1:Int) (a2:Me):Option J9 :=
  (((bif decide (a1 < (0:Int)) then some (true) else some (decide ((a0.classes.length:Int)≤a1))):Option Bool).bind fun v1=>(bif v1 then some (⟨(6:Int),(0:Int)⟩:J9) else ((U7 N a2.name).bind fun r7=>(bif (!r7) then some (⟨(7:Int),(0:Int)⟩:J9) else (((bif decide (a2.args < (0:Int)) then some (true) else (bif decide ((4:Int) < a2.args) then some (true) else (bif decide (a2.temps < (0:Int)) then some (true) else some (decide ((6:Int) < a2.temps))))):Option Bool).bind fun v10=>(bif v10 then some (⟨(3:Int),(0:Int)⟩:J9) else (bif (!decide (a2.prim=(0:Int))) then some (⟨(1:Int),(0:Int)⟩:J9) else (((bif decide ((a2.code.length:Int)=(0:Int)) then some (true) else some (decide ((60:Int) < (a2.code.length:Int)))):Option Bool).bind fun v18=>(bif v18 then some (⟨(5:Int),(0:Int)⟩:J9) else ((M4 N a0 a1 a2 a2.code 0).bind fun o=>match o with|.ret r=>some r|.next ()=>((P5 N a2).bind fun r38=>some r38.2)))))))))))

def aA5 (N:Nat) (a0:V) (a1:Int):Option Int :=
  (((bif decide (a0.k < (0:Int)) then some (true) else some (decide ((4:Int) < a0.k))):Option Bool).bind fun v1=>(bif v1 then some (1:Int) else (((bif decide (a0.k < (3:Int)) then some ((!decide (a0.n=(0:Int)))) else some (false)):Option Bool).bind fun v6=>(bif v6 then some (2:Int) else (((bif decide (a0.k=(3:Int)) then (bif decide (a0.n < (-1073741824:Int)) then some (true) else some (decide ((1073741824:Int) < a0.n))) else some (false)):Option Bool).bind fun v11=>(bif v11 then some (3:Int) else (((bif decide (a0.k=(4:Int)) then (bif decide (a0.n < (0:Int)) then some (true) else some (decide (a1≤a0.n))) else some (false)):Option Bool).bind fun v17=>(bif v17 then some (6:Int) else some (0:Int)))))))))

def K4 (N:Nat) (x24:Cl):List Cl→Nat→Option (G6 Int Unit)
  |[],k39=>some (.next ())
  |x45::rest42,k39=>(bif decide (x45.name=x24.name) then some (.ret (7:Int)) else K4 N x24 rest42 (k39+1))

def I9 (N:Nat) (a0:Wd) (r1:Wd):List Cl→Nat→Option (G6 Int Unit)
  |[],k18=>some (.next ())
  |x24::rest21,k18=>((((U7 N x24.name).bind fun r30=>(bif (!r30) then some (true) else (bif decide ((k18:Int) < (4:Int)) then ((F9 r1.classes (k18:Int)).bind fun x34=>some ((!decide (x24.name=x34.name)))) else some (false)))):Option Bool).bind fun v27=>(bif v27 then some (.ret (7:Int)) else (bif (decide (0≤(k18:Int)) && decide ((k18:Int)≤(a0.classes.length:Int))) then ((K4 N x24 (a0.classes.take (k18:Int).toNat) 0).bind fun o=>match o with|.ret r=>some (.ret r)|.next ()=>(((bif decide ((k18:Int) < (4:Int)) then ((F9 r1.classes (k18:Int)).bind fun x53=>(bif (!decide (x24.super=x53.super)) then some (.ret (3:Int)) else some (.next (0:Int)))) else (((bif decide (x24.super < (0:Int)) then some (true) else (bif decide ((k18:Int)≤x24.super) then some (true) else (bif decide ((0:Int) < x24.super) then some (decide (x24.super < (4:Int))) else some (false)))):Option Bool).bind fun v56=>(bif v56 then some (.ret (3:Int)) else some (.next (6:Int))))):Option (G6 Int Int)).bind fun o=>match o with|.ret r=>some (.ret r)|.next v49=>(((bif decide (x24.slots < (0:Int)) then some (true) else some (decide (v49 < x24.slots))):Option Bool).bind fun v63=>(bif v63 then some (.ret (3:Int)) else I9 N a0 r1 rest21 (k18+1))))) else none)))

def K5 (N:Nat) (k69:Nat) (x90:Me):List Me→Nat→Bool→Option (Bool)
  |[],k103,v104=>some (v104)
  |x112::rest109,k103,v104=>(((((bif v104 then some (true) else (bif decide ((k69:Int)=(3:Int)) then (bif decide (x112.name=x90.name) then (bif decide (x112.prim=x90.prim) then (bif decide (x90.args=(1:Int)) then (bif decide (x90.temps=(0:Int)) then some (decide ((x90.code.length:Int)=(0:Int))) else some (false)) else some (false)) else some (false)) else some (false)) else some (false))):Option Bool).bind fun v118=>some (v118)):Option Bool).bind fun v115=>K5 N k69 x90 rest109 (k103+1) v115)

def I8 (N:Nat) (a0:Wd) (r1:Wd) (k69:Nat) (x75:Cl):List Me→Nat→Option (G6 Int Unit)
  |[],k84=>some (.next ())
  |x90::rest87,k84=>(((bif decide ((0:Int) < (k84:Int)) then ((F9 x75.methods (wr ((k84:Int) - (1:Int)))).bind fun x97=>some ((!M0 x97.name x90.name))) else some (false)):Option Bool).bind fun v93=>(bif v93 then some (.ret (7:Int)) else ((F9 r1.classes (3:Int)).bind fun x100=>((K5 N k69 x90 x100.methods 0 false).bind fun v106=>((P9 N a0 (k69:Int) x90).bind fun r128=>(((bif (!v106) then some ((!decide (r128.err=(0:Int)))) else some (false)):Option Bool).bind fun v130=>(bif v130 then some (.ret r128.err) else I8 N a0 r1 k69 x75 rest87 (k84+1))))))))

def L9 (N:Nat) (a0:Wd) (r1:Wd):List Cl→Nat→Option (G6 Int Unit)
  |[],k69=>some (.next ())
  |x75::rest72,k69=>((O4 N a0 (k69:Int)).bind fun r78=>(bif decide ((6:Int) < r78) then some (.ret (3:Int)) else (bif decide ((8:Int) < (x75.methods.length:Int)) then some (.ret (5:Int)) else ((I8 N a0 r1 k69 x75 x75.methods 0).bind fun o=>match o with|.ret r=>some (.ret r)|.next ()=>L9 N a0 r1 rest72 (k69+1)))))

def K3 (N:Nat) (a0:Wd):List V→Nat→Option (G6 Int Unit)
  |[],k163=>some (.next ())
  |x169::rest166,k163=>((aA5 N x169 (a0.heap.length:Int)).bind fun r173=>(bif (!decide (r173=(0:Int))) then some (.ret r173) else K3 N a0 rest166 (k163+1)))

def K6 (N:Nat) (a0:Wd):List Ob→Nat→Option (G6 Int Unit)
  |[],k136=>some (.next ())
  |x142::rest139,k136=>(((bif decide (x142.cls < (0:Int)) then some (true) else (bif decide ((0:Int) < x142.cls) then (bif decide (x142.cls < (4:Int)) then some (true) else (bif decide ((a0.classes.length:Int)≤x142.cls) then some (true) else ((O4 N a0 x142.cls).bind fun r154=>some ((!decide ((x142.slots.length:Int)=r154)))))) else (bif decide ((a0.classes.length:Int)≤x142.cls) then some (true) else ((O4 N a0 x142.cls).bind fun r159=>some ((!decide ((x142.slots.length:Int)=r159))))))):Option Bool).bind fun v145=>(bif v145 then some (.ret (8:Int)) else ((K3 N a0 x142.slots 0).bind fun o=>match o with|.ret r=>some (.ret r)|.next ()=>K6 N a0 rest139 (k136+1))))

def aB0 (N:Nat) (a0:Wd):Option Int :=
  ((aQ3 N).bind fun r1=>(((bif decide ((a0.classes.length:Int) < (4:Int)) then some (true) else (bif decide ((12:Int) < (a0.classes.length:Int)) then some (true) else some (decide ((60:Int) < (a0.heap.length:Int))))):Option Bool).bind fun v3=>(bif v3 then some (5:Int) else (((bif decide (a0.epoch < (0:Int)) then some (true) else some (decide ((1073741824:Int) < a0.epoch))):Option Bool).bind fun v12=>(bif v12 then some (3:Int) else ((I9 N a0 r1 a0.classes 0).bind fun o=>match o with|.ret r=>some r|.next ()=>((L9 N a0 r1 a0.classes 0).bind fun o=>match o with|.ret r=>some r|.next ()=>((K6 N a0 a0.heap 0).bind fun o=>match o with|.ret r=>some r|.next ()=>some (0:Int)))))))))

def Y8 (N:Nat) (a0:ByteArray):Nat→Nat→Option (G6 Bool Unit)
  |0,k9=>some (.next ())
  |n14+1,k9=>((((byO a0 (k9:Int)).bind fun u21=>(bif decide ((u21.toNat:Int)≤(32:Int)) then some (true) else ((byO a0 (k9:Int)).bind fun u24=>some (decide ((126:Int) < (u24.toNat:Int)))))):Option Bool).bind fun v18=>(bif v18 then some (.ret false) else Y8 N a0 n14 (k9+1)))

def aI9 (N:Nat) (a0:ByteArray):Option Bool :=
  (((bif decide ((a0.size:Int) < (1:Int)) then some (true) else some (decide ((12:Int) < (a0.size:Int)))):Option Bool).bind fun v1=>(bif v1 then some false else ((Y8 N a0 (((a0.size:Int) - ((0:Nat):Int)).toNat) 0).bind fun o=>match o with|.ret r=>some r|.next ()=>some true)))

def aO3 (N:Nat) (a0:List V):Option (List V):=bif Nat.ble (a0.length*16) 140737488355328 then some a0 else none

def aA1 (N:Nat):List Ob→Nat→(List Ob)→Option ((List Ob))
  |[],k2,v3=>some (v3)
  |x11::rest8,k2,v3=>((aO3 N x11.slots).bind fun r14=>(bif Nat.ble ((v3.length+[(⟨x11.cls,r14⟩:Ob)].length)*32) 140737488355328 then aA1 N rest8 (k2+1) (v3++[(⟨x11.cls,r14⟩:Ob)]) else none))

def aH2 (N:Nat) (a0:(List Ob)):Option (List Ob) :=
  ((aA1 N a0 0 ([]:List Ob)).bind fun v5=>some v5)

def aL2 (N:Nat) (a0:List Ins):Option (List Ins):=bif Nat.ble (a0.length*48) 140737488355328 then some a0 else none

def Q3 (N:Nat) (a0:Me):Option Me :=
  ((aL2 N a0.code).bind fun r1=>some (⟨a0.name,a0.args,a0.temps,a0.prim,r1⟩:Me))

def aA3 (N:Nat):List Me→Nat→(List Me)→Option ((List Me))
  |[],k17,v18=>some (v18)
  |x26::rest23,k17,v18=>((Q3 N x26).bind fun r29=>(bif Nat.ble ((v18.length+[r29].length)*64) 140737488355328 then aA3 N rest23 (k17+1) (v18++[r29]) else none))

def aA9 (N:Nat):List Cl→Nat→(List Cl)→Option ((List Cl))
  |[],k4,v5=>some (v5)
  |x13::rest10,k4,v5=>((aA3 N x13.methods 0 ([]:List Me)).bind fun v20=>(bif Nat.ble ((v5.length+[(⟨x13.name,x13.super,x13.slots,v20⟩:Cl)].length)*56) 140737488355328 then aA9 N rest10 (k4+1) (v5++[(⟨x13.name,x13.super,x13.slots,v20⟩:Cl)]) else none))

def aV5 (N:Nat) (a0:Wd):Option Wd :=
  ((aH2 N a0.heap).bind fun r1=>((aA9 N a0.classes 0 ([]:List Cl)).bind fun v7=>some (⟨v7,r1,a0.epoch⟩:Wd)))

def W9 (N:Nat) (a0:Wd):Nat→Int→Int→Int→Option (Int)
  |0,_,_,_=>none
  |n13+1,v2,v3,v4=>(((bif decide ((0:Int)≤v2) then (bif decide (v2 < (a0.classes.length:Int)) then some (decide (v4≤(a0.classes.length:Int))) else some (false)) else some (false)):Option Bool).bind fun v14=>(bif v14 then ((F9 a0.classes v2).bind fun x22=>((F9 a0.classes v2).bind fun x24=>W9 N a0 n13 x24.super (wr (v3+x22.slots)) (wr (v4+(1:Int))))) else some (v3)))

def aG5 (N:Nat) (a0:Wd) (a1:Int):Option Int :=
  ((W9 N a0 N a1 (0:Int) (0:Int)).bind fun v8=>some v8)

def y7 (N:Nat) (g1:(Cl→Option Bool)):List Cl→Nat→Option (G6 Int Unit)
  |[],k2=>some (.next ())
  |x8::rest5,k2=>((g1 x8).bind fun r11=>(bif r11 then some (.ret (k2:Int)) else y7 N g1 rest5 (k2+1)))

def I1 (N:Nat) (a0:(List Cl)) (g1:Cl→Option Bool):Option Int :=
  ((y7 N g1 a0 0).bind fun o=>match o with|.ret r=>some r|.next ()=>some (-1:Int))

def G9 (N:Nat) (a0:(List Cl)) (g1:Cl→Option Bool):Option Bool :=
  ((I1 N a0 g1).bind fun r1=>some (decide ((0:Int)≤r1)))

def aD9 (N:Nat) (a0:Cl) (b0:ByteArray):Option Bool :=
  some (decide (a0.name=b0))

def V9 (N:Nat):List Me→Nat→(List Me)→Option ((List Me))
  |[],k17,v18=>some (v18)
  |x26::rest23,k17,v18=>((Q3 N x26).bind fun r29=>(bif Nat.ble ((v18.length+[r29].length)*64) 140737488355328 then V9 N rest23 (k17+1) (v18++[r29]) else none))

def X8 (N:Nat):List Cl→Nat→(List Cl)→Option ((List Cl))
  |[],k4,v5=>some (v5)
  |x13::rest10,k4,v5=>((V9 N x13.methods 0 ([]:List Me)).bind fun v20=>(bif Nat.ble ((v5.length+[(⟨x13.name,x13.super,x13.slots,v20⟩:Cl)].length)*56) 140737488355328 then X8 N rest10 (k4+1) (v5++[(⟨x13.name,x13.super,x13.slots,v20⟩:Cl)]) else none))

def aM7 (N:Nat) (a0:Wd):Option Wd :=
  ((aH2 N a0.heap).bind fun r1=>((X8 N a0.classes 0 ([]:List Cl)).bind fun v7=>some (⟨v7,r1,a0.epoch⟩:Wd)))

def aI6 (N:Nat) (a0:Wd) (a1:ByteArray) (a2:Int) (a3:Int):Option (Wd×Int×Int) :=
  ((((aI9 N a1).bind fun r4=>(bif (!r4) then some (true) else ((G9 N a0.classes (fun x0_=>aD9 N x0_ a1)).bind fun r7=>some (r7)))):Option Bool).bind fun v1=>(bif v1 then some ((⟨[],[],(0:Int)⟩:Wd),(0:Int),(7:Int)) else (((bif decide (a2 < (0:Int)) then some (true) else some (decide ((a0.classes.length:Int)≤a2))):Option Bool).bind fun v10=>(bif v10 then some ((⟨[],[],(0:Int)⟩:Wd),(0:Int),(6:Int)) else (((bif decide (a3 < (0:Int)) then some (true) else ((aG5 N a0 a2).bind fun r20=>(bif decide ((wr ((6:Int) - r20)) < a3) then some (true) else (bif (!decide (a2=(0:Int))) then some (decide (a2 < (4:Int))) else some (false))))):Option Bool).bind fun v16=>(bif v16 then some ((⟨[],[],(0:Int)⟩:Wd),(0:Int),(3:Int)) else (bif decide ((12:Int)≤(a0.classes.length:Int)) then some ((⟨[],[],(0:Int)⟩:Wd),(0:Int),(5:Int)) else ((aM7 N a0).bind fun r27=>(bif Nat.ble ((r27.classes.length+[(⟨a1,a2,a3,[]⟩:Cl)].length)*56) 140737488355328 then some ((⟨(r27.classes++[(⟨a1,a2,a3,[]⟩:Cl)]),r27.heap,r27.epoch⟩:Wd),(a0.classes.length:Int),(0:Int)) else none)))))))))

def V5 (N:Nat):List Me→Nat→(List Me)→Option ((List Me))
  |[],k17,v18=>some (v18)
  |x26::rest23,k17,v18=>((Q3 N x26).bind fun r29=>(bif Nat.ble ((v18.length+[r29].length)*64) 140737488355328 then V5 N rest23 (k17+1) (v18++[r29]) else none))

def V6 (N:Nat):List Cl→Nat→(List Cl)→Option ((List Cl))
  |[],k4,v5=>some (v5)
  |x13::rest10,k4,v5=>((V5 N x13.methods 0 ([]:List Me)).bind fun v20=>(bif Nat.ble ((v5.length+[(⟨x13.name,x13.super,x13.slots,v20⟩:Cl)].length)*56) 140737488355328 then V6 N rest10 (k4+1) (v5++[(⟨x13.name,x13.super,x13.slots,v20⟩:Cl)]) else none))

def aN2 (N:Nat) (a0:Wd):Option Wd :=
  ((aH2 N a0.heap).bind fun r1=>((V6 N a0.classes 0 ([]:List Cl)).bind fun v7=>some (⟨v7,r1,a0.epoch⟩:Wd)))

def aH9 (N:Nat) (a0:Wd) (a1:Int) (a2:Me):Option (Wd×Int) :=
  (((bif decide (a1 < (0:Int)) then some (true) else some (decide ((a0.classes.length:Int)≤a1))):Option Bool).bind fun v1=>(bif v1 then some ((⟨[],[],(0:Int)⟩:Wd),(6:Int)) else ((F9 a0.classes a1).bind fun x7=>((p8 N x7.methods a2.name (fun x0_ x1_=>J4 N x0_ x1_)).bind fun r9=>(((bif (!r9.2) then ((F9 a0.classes a1).bind fun x15=>some (decide ((8:Int)≤(x15.methods.length:Int)))) else some (false)):Option Bool).bind fun v11=>(bif v11 then some ((⟨[],[],(0:Int)⟩:Wd),(5:Int)) else ((aN2 N a0).bind fun r19=>((F9 r19.classes a1).bind fun x21=>(((bif (!r9.2) then ((aC5 N x21.methods r9.1 [(⟨ByteArray.empty,(0:Int),(0:Int),(0:Int),[]⟩:Me)]).bind fun r27=>some ((r19.classes.set a1.toNat (⟨x21.name,x21.super,x21.slots,r27⟩:Cl)))) else some (r19.classes)):Option (List Cl)).bind fun v23=>((v23[a1.toNat]?).bind fun x29=>((Q3 N a2).bind fun r31=>((F9 x29.methods r9.1).bind fun x33=>some ((⟨(v23.set a1.toNat (⟨x29.name,x29.super,x29.slots,(x29.methods.set r9.1.toNat r31)⟩:Cl)),r19.heap,(wr (r19.epoch+(1:Int)))⟩:Wd),(0:Int))))))))))))))

def aA4 (N:Nat):Option Bool :=
  ((bD1 N).bind fun r1=>((aI6 N r1 (⟨#[65]⟩:ByteArray) (0:Int) (2:Int)).bind fun r3=>((aI6 N r3.1 (⟨#[66]⟩:ByteArray) r3.2.1 (1:Int)).bind fun r5=>((aH9 N r5.1 r3.2.1 (⟨(⟨#[109]⟩:ByteArray),(1:Int),(0:Int),(0:Int),[]⟩:Me)).bind fun r7=>((aB3 N r7.1 r5.2.1 (⟨#[109]⟩:ByteArray)).bind fun r9=>(((bif decide (r3.2.2=(0:Int)) then (bif decide (r5.2.2=(0:Int)) then (bif decide (r7.2=(0:Int)) then (bif decide (r3.2.1=(4:Int)) then (bif decide (r5.2.1=(5:Int)) then (bif decide (r9.1=(4:Int)) then (bif decide (r9.2=(0:Int)) then ((aG5 N r7.1 r5.2.1).bind fun r21=>(bif decide (r21=(3:Int)) then (bif decide (r7.1.epoch=(1:Int)) then ((aI9 N (⟨#[43]⟩:ByteArray)).bind fun r25=>(bif r25 then ((aV5 N r7.1).bind fun r28=>(bif decide ((r28.classes.length:Int)=(6:Int)) then ((Q3 N (⟨ByteArray.empty,(3:Int),(0:Int),(0:Int),[]⟩:Me)).bind fun r32=>some (decide (r32.args=(3:Int)))) else some (false))) else some (false))) else some (false)) else some (false))) else some (false)) else some (false)) else some (false)) else some (false)) else some (false)) else some (false)) else some (false)):Option Bool).bind fun v11=>some v11))))))

def D7 (N:Nat) (a2:ByteArray) (r7:(Int×Int)) (v10:Int):List Me→Nat→Bool→Option (G6 Bool Bool)
  |[],k26,v27=>some (.next v27)
  |x35::rest32,k26,v27=>(((bif v27 then some (true) else some (decide (x35.name=a2))):Option Bool).bind fun v38=>(((bif decide (x35.name=a2) then (bif (!decide (r7.1=v10)) then some (true) else some ((!decide (r7.2=(k26:Int))))) else some (false)):Option Bool).bind fun v42=>(bif v42 then some (.ret false) else D7 N a2 r7 v10 rest32 (k26+1) v38)))

def y8 (N:Nat) (a0:Wd) (a2:ByteArray) (r7:(Int×Int)):Nat→Int→Option (G6 Bool Unit)
  |0,_=>none
  |n16+1,v10=>(((bif decide ((0:Int)≤v10) then some (decide (v10 < (a0.classes.length:Int))) else some (false)):Option Bool).bind fun v17=>(bif v17 then ((F9 a0.classes v10).bind fun x23=>((D7 N a2 r7 v10 x23.methods 0 false).bind fun o=>match o with|.ret r=>some (.ret r)|.next v29=>(bif v29 then some (.ret true) else ((F9 a0.classes v10).bind fun x49=>y8 N a0 a2 r7 n16 x49.super)))) else some (.next ())))

def Q7 (N:Nat) (a0:Wd) (a1:Int) (a2:ByteArray):Option Bool :=
  ((aA4 N).bind fun r1=>(bif (!r1) then some false else ((aB0 N a0).bind fun r4=>(bif (!decide (r4=(0:Int))) then some true else ((aB3 N a0 a1 a2).bind fun r7=>((y8 N a0 a2 r7 N a1).bind fun o=>match o with|.ret r=>some r|.next ()=>(((bif decide (r7.1=(-1:Int)) then some (decide (r7.2=(-1:Int))) else some (false)):Option Bool).bind fun v51=>some v51)))))))
end Go.Proofs.Ytahmeibkdhbngaa
